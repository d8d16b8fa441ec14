/- Texts on the way to this: QueryLimits answers true for whatever it is handed: with a limit the answer is the beginning of the one without; two pieces of the rows have the answers of both. (part 9) -/
import Derived.Shelf.Strconv.AtoiAll
import Derived.Shelf.Strings.Builder1
import Derived.Lib.ItoaLen
import Derived.Lib.ParseIntBCases
import Derived.Lib.SliceRun
import Derived.Test.YtfngkblpcigciaaGreatDoorQueryLimitsCardSaidPart8
set_option linter.all false
namespace Go.SX.Nb
open Go Go.SX Go.Proofs Go.RowKit
variable [ErrAt]
set_option maxRecDepth 4000
theorem c75 (s : Str) (hs : s.length ≤ 1048576) (Hp : List AObj) : AFun Tryz.prog 75 [A8 s] Hp (.tup [A4 (L7 s), .any]) := by
 refine AFun.libAny (xs := [sv s]) (n := .int .i64 (L7 s)) (fun w hg => ?_)
 have hz : (⟨s.toArray⟩ : ByteArray).size ≤ 1048576 := by simpa [ByteArray.size] using hs
 unfold L7
 rcases h : Lib.atoiAll s with v | _ | _
 ·refine (Any.strconv_Atoi_ok Tryz.lays172 ⟨s.toArray⟩ (by omega) v h w).mono ?_
  rintro e w' ⟨rfl, hb⟩
  refine ⟨_, rfl, ?_⟩
  rcases hb with rfl | ⟨t, rfl⟩
  ·exact Below.refl _ _
  exact Lib.bytesWorld_below _ _ _
 ·refine (Any.strconv_Atoi_syntax Tryz.lays172 ⟨s.toArray⟩ (by omega) h _ w (Qu hg) (.inr ⟨_, _, rfl⟩)).mono ?_
  rintro e w' ⟨N, rfl, _, _, hb⟩
  exact ⟨_, rfl, hb⟩
 refine (Any.strconv_Atoi_range Tryz.lays172 ⟨s.toArray⟩ (by omega) h _ w (H8 hg) (.inr ⟨_, _, rfl⟩)).mono ?_
 rintro e w' ⟨N, rfl, _, _, hb⟩
 exact ⟨_, rfl, hb⟩
theorem c45 (n : Int) (h0 : -9223372036854775808 ≤ n) (h1 : n ≤ 9223372036854775807) (Hp : List AObj) : AFun Tryz.prog 45 [A4 n] Hp (A8 (Lib.itoa n)) := by
 refine AFun.lib (xs := [.int .i64 n]) (v := sv (Lib.itoa n)) (fun G w => .v _ _) (fun w hg => ?_)
 refine (Any.strconv_Itoa Tryz.lays171 n h0 h1 w (S9 hg)).mono ?_
 rintro e w' ⟨rfl, k, os, rfl⟩
 exact ⟨rfl, Mo _ _ _⟩
end Go.SX.Nb
namespace Go.SX.Nb
open Go Go.SX Go.Proofs
variable [ErrAt]
set_option maxRecDepth 4000
theorem nv {l : List Tok} {s : Str} {S : QS} (h : isQ l s S = true) : (A9 l S.i).kind ≠ 0 := by
 unfold isQ at h
 simp only [Bool.and_eq_true, Bool.or_eq_true, beq_iff_eq] at h
 rcases h.1.2 with e | e <;> rw [e] <;> decide
theorem F3 {l : List Tok} (hl : TokEnd l) {s : Str} {S : QS} (hi : S.i < l.length) (h : isQ l s S = true) : (C8 S).i < l.length := hl.step hi (nv h)
theorem Jx (l : List Tok) (e : Int) (S : QS) : (E6 l e S).i = S.i := by unfold E6; split <;> rfl
theorem Tk {l : List Tok} (hl : TokEnd l) {s : Str} {S : QS} (hi : S.i < l.length) : (Ju l s S).i < l.length := by
 unfold Ju
 split
 ·rename_i h; exact F3 hl hi h
 rw [Jx]; exact hi
theorem Gk {l : List Tok} (hl : TokEnd l) {q : Qry} {S : QS} (hi : S.i < l.length) (hc : q.cols.length ≤ 12) : S.i ≤ (Df l (q, S)).2.i ∧ (Df l (q, S)).2.i < l.length ∧ (Df l (q, S)).1.cols.length ≤ 12 := by
 unfold Df
 split
 ·exact ⟨Nat.le_refl _, hi, hc⟩
 split
 ·exact qi
 split
 ·exact qi
 rename_i h1 h2 h3
 have hk : (A9 l S.i).kind ≠ 0 := by
  have : (A9 l S.i).kind = 1 := by simpa using h2
  rw [this]; decide
 refine ⟨Nat.le_succ _, hl.step hi hk, ?_⟩
 simp only [beq_iff_eq] at h3
 rw [List.length_append, List.length_singleton]
 simp only at h3 ⊢
 omega
/-- Where the loop of names stands. -/
structure QNames (l : List Tok) (r0 r : Qry × QS) : Prop where
 lt : r.2.i < l.length
 cols : r.1.cols.length ≤ 12
 fuel : ∃ n, Fg l l.length r0 = Fg l n r ∧ l.length - r.2.i ≤ n
theorem QNames.start {l : List Tok} {r : Qry × QS} (h1 : r.2.i < l.length) (h2 : r.1.cols.length ≤ 12) : QNames l r r := ⟨h1, h2, l.length, rfl, by omega⟩
theorem QNames.on {l : List Tok} (hl : TokEnd l) {r0 r : Qry × QS} (h : QNames l r0 r) (hq : isQ l [44] r.2 = true) : QNames l r0 (Df l (r.1, C8 r.2)) ∧ r.2.i + 1 ≤ (Df l (r.1, C8 r.2)).2.i := by
 obtain ⟨n, e, hn⟩ := h.fuel
 have hlt := F3 hl h.lt hq
 obtain ⟨f1, f2, f3⟩ := Gk hl (q := r.1) hlt h.cols
 have h1 := h.lt
 refine ⟨⟨f2, f3, n - 1, ?_, ?_⟩, f1⟩
 ·rw [e]
  obtain ⟨m, rfl⟩ : ∃ m, n = m + 1 := ⟨n - 1, by omega⟩
  rw [Fg, if_pos hq]
  rfl
 have : r.2.i + 1 ≤ (Df l (r.1, C8 r.2)).2.i := f1
 omega
theorem QNames.out {l : List Tok} {r0 r : Qry × QS} (h : QNames l r0 r) (hq : isQ l [44] r.2 = false) : Fg l l.length r0 = r := by
 obtain ⟨n, e, _⟩ := h.fuel
 rw [e]
 cases n with
 | zero => rfl
 | succ n => rw [Fg, if_neg (by rw [hq]; simp)]
theorem qA {Hp : List AObj} {o ox : Nat} {A B : AObj} (hl : o < Hp.length) (hne : ox ≠ o) : ((Hp.set o A).set ox B)[o]? = some A := by rw [List.getElem?_set_ne hne]; simp [hl]
theorem qB {Hp : List AObj} {o ox : Nat} {A B : AObj} (hl : ox < Hp.length) : ((Hp.set o A).set ox B)[ox]? = some B := by simp [hl]
theorem ee {Hp : List AObj} {o ox : Nat} {A A' B : AObj} (hne : ox ≠ o) : ((Hp.set o A).set ox B).set o A' = (Hp.set o A').set ox B := by rw [List.set_comm _ _ hne, List.set_set]
theorem uk {Hp : List AObj} {o ox m : Nat} {A A' B B' : AObj} (hl : o < Hp.length) (hlx : ox < Hp.length) (hne : ox ≠ o) (hA : ObjLow m A') (hB : ObjLow m B') (h : ∀ x ∈ (Hp.set o A).set ox B, ObjLow m x) : ∀ x ∈ (Hp.set o A').set ox B', ObjLow m x := by
 intro x hx
 obtain ⟨i, hi⟩ := List.getElem?_of_mem hx
 by_cases h1 : i = ox
 ·subst h1
  rw [qB hlx] at hi
  injection hi with hi
  subst hi
  exact hB
 by_cases h2 : i = o
 ·subst h2
  rw [qA hl hne] at hi
  injection hi with hi
  subst hi
  exact hA
 refine h x (List.mem_of_getElem? (i := i) ?_)
 rw [List.getElem?_set_ne (Ne.symm h1), List.getElem?_set_ne (Ne.symm h2)] at hi ⊢
 exact hi
/-- A call that turns the parser and the query. -/
theorem X0 {d : Nat} {ops : Array Oper} {rest : List Oper} {sz s : Nat} {fr : Nat → AV} {Hp : List AObj} {rnd : Option Nat} {Q : St → Prop} {ty : TypeId} {pos : String} {aft : Array Edge} {g : FuncId} {xs : List Operand} {ats : Array TypeId} {args : List AV} {l : List Tok} {S S' : QS} {q q' : Qry} {o oq : Nat}
  (hcall : ∀ args w, (callFunc g args).run Tryz.prog w = .ok (.enter g args) w) (hl : o < Hp.length) (hlq : oq < Hp.length) (hne : oq ≠ o)
  (h : ACall Tryz.prog g args ((Hp.set o (prq l S)).set oq (qo true q) ++ []) (fun r H' => r = L8 ∧ H' = (((Hp.set o (prq l S)).set oq (qo true q) ++ []).set o (prq l S')).set oq (qo true q')))
  (hr : ARun Tryz.prog d ops rest ⟨sz, A5 s L8 fr, (Hp.set o (prq l S')).set oq (qo true q'), [], [], rnd⟩ Q)
  (ha : xs.map (A7 fr) = args := by simp only [go_sem, ↓reduceIte, Nat.reduceEqDiff, Nat.reduceAdd] <;> rfl) (hs : Nat.blt s sz = true := by rfl) :
  ARun Tryz.prog d ops (⟨some s, .call ⟨.value (.func g), xs.toArray, ats⟩, ty, pos, aft, none⟩ :: rest) ⟨sz, fr, (Hp.set o (prq l S)).set oq (qo true q), [], [], rnd⟩ Q := by
 refine R.callX (up' := (Hp.set o (prq l S')).set oq (qo true q')) (own' := []) hcall (h.mono fun r H' e => ⟨e.1, e.2.trans ?_⟩) (by simp) (fun hlow => ?_) hr (by simp) ha hs
 ·rw [List.append_nil, List.append_nil, ee hne, List.set_set]
 exact uk hl hlq hne E0 ec hlow
theorem nw (b : Bool) (q : Qry) : AObj.cells 29 [Al b, .slice true 1 (q.cols.map A8), A4 q.whr.op, A8 q.whr.text, A4 q.whr.val.kind, A4 q.whr.val.n, A8 q.whr.val.s, .slice false 6 (q.whr.kids.map Ab), A4 q.lim] = qo true (Fu b q) := rfl
theorem rt {l : List Tok} {q : Qry} {S : QS} (h : isQ l [42] S = true) : Gj l (q, S) = (Fu true q, C8 S) := if_pos h
theorem ru {l : List Tok} {q : Qry} {S : QS} (h : isQ l [42] S = false) : Gj l (q, S) = Fg l l.length (Df l (Fu false q, S)) := if_neg (by show ¬ (isQ l [42] S = true); rw [h]; simp)
theorem c39 (l : List Tok) (S : QS) (q : Qry) (o oq : Nat) (Hp : List AObj) (hne : oq ≠ o) (ho : Hp[o]? = some (prq l S)) (hoq : Hp[oq]? = some (qo true q)) (hi : S.i < l.length) (hl : TokEnd l) (hll : l.length ≤ 500000) (hc12 : q.cols.length ≤ 12) : ACall Tryz.prog 39 [.ptr o 0, .ptr oq 0] Hp (fun r H' => r = L8 ∧ H' = (Hp.set o (prq l (Gj l (q, S)).2)).set oq (qo true (Gj l (q, S)).1)) := by
 have hlo := (List.getElem?_eq_some_iff.1 ho).1
 have hlq := (List.getElem?_eq_some_iff.1 hoq).1
 refine ACall.body [] [0, 1] Tryz.func39 Tryz.ntmps39 (fun d => ?_)
 refine Mg ?_;refine R.callUp Tryz.call72 ho (by simp) E0 (c72 l S [42] o _ (Ac ho) hi (by omega)) ?_;refine R.nilPtr ?_;refine R.fieldAddrPtr (fo := 0) jU Tryz.sizeOf4 ?_
 refine R.storeUp jS (by rw [List.getElem?_set_ne (Ne.symm hne)]; exact hoq) ?_ ?_
 ·simp
 refine R.fin [0, 1] ?_;refine Z0 ?_;refine R.nilPtr ?_;refine R.fieldAddrPtr (fo := 0) jU Tryz.sizeOf4 ?_;refine R.loadUp jA (qB hlq) ?_;refine R.fin [0, 1, 12] ?_
 refine W.cond (fun ht12 => ?_) (fun ht12 => ?_)
 ·have hq : isQ l [42] S = true := ht12
  have e := rt (q := q) hq
  rw [Ny hq, hq]
  refine Z11 ?_;exact K.fin .nores (hp := ⟨rfl, by rw [e]; rfl⟩)
 have hq : isQ l [42] S = false := ht12
 have e := ru (q := q) hq
 rw [Nz hq, hq]
 rw [nw]
 refine Lk ?_
 have f0 := Gk hl (q := Fu false q) hi hc12
 refine Z76 ?_
 refine X0 Tryz.call73 hlo hlq hne (c73 l S (Fu false q) o oq _ hne (Ac (qA hlo hne)) (Ac (qB hlq)) hi (by omega) (by show q.cols.length ≤ _; omega)) ?_
 refine R.fin [0, 1] ?_
 refine AW.loopC (α := Qry × QS) (fun r => ⟨21, A5 0 (.ptr o 0) (A5 1 (.ptr oq 0) (fun _ => .any)), (Hp.set o (prq l r.2)).set oq (qo true r.1), [], [], none⟩) (fun r => QNames l (Df l (Fu false q, S)) r) (fun r => l.length - r.2.i) (Df l (Fu false q, S)) (.start f0.2.1 f0.2.2) (StLe.refl _) rfl (fun r hr => ?_)
 refine Z9 ?_;refine R.callUp Tryz.call72 (qA hlo hne) (by simp) E0 (c72 l r.2 [44] o _ (Ac (qA hlo hne)) hr.lt (by omega)) ?_;refine R.fin [0, 1, 17] ?_
 refine W.cond (fun ht17 => ?_) (fun ht17 => ?_)
 ·have hq1 : isQ l [44] r.2 = true := ht17
  have hlt1 := F3 hl hr.lt hq1
  have hon := hr.on hl hq1
  rw [Ny hq1, ee hne]
  refine Z5 ?_;refine Es ?_;refine Z26 ?_;refine Au ?_
  refine X0 Tryz.call73 hlo hlq hne (c73 l (C8 r.2) r.1 o oq _ hne (Ac (qA hlo hne)) (Ac (qB hlq)) hlt1 (by omega) (by have := hr.cols; omega)) ?_
  refine R.fin [0, 1] ?_;refine K.blN ?_
  refine K.lpN (Df l (r.1, C8 r.2)) hon.1 (by have := hr.lt; have := hon.2; omega) (StCut.of_eq rfl)
 have hq1 : isQ l [44] r.2 = false := ht17
 have hout := hr.out hq1
 rw [Nz hq1, ee hne]
 refine b7 ?_;refine K.lpE ?_;exact K.finN .nores (hp := ⟨rfl, by rw [e, hout]⟩)

theorem jv {l : List Tok} {q : Qry} {S : QS} (h : isQ l Fv S = false) : Ew l (q, S) = (q, S) := if_neg (by show ¬ (isQ l Fv S = true); rw [h]; simp)
theorem jx {l : List Tok} {q : Qry} {S : QS} (h : isQ l Fv S = true) (h2 : ((atM l (S.i + 1)).2.2.1 != 0) = true) : Ew l (q, S) = (q, ⟨S.i + 1, (atM l (S.i + 1)).2.2.1, (atM l (S.i + 1)).2.2.2⟩) := by
 unfold Ew
 rw [if_pos (by exact h), if_pos (by exact h2)]
theorem jy {l : List Tok} {q : Qry} {S : QS} {k : Nat} (h : isQ l Fv S = true) (h2 : ((atM l (S.i + 1)).2.2.1 != 0) = false) (hk : (atM l (S.i + 1)).2.1 = (k : Int)) : Ew l (q, S) = (⟨q.all, q.cols, (atM l (S.i + 1)).1, q.lim⟩, ⟨k, S.code, S.at_⟩) := by
 unfold Ew
 rw [if_pos (by exact h), if_neg (by show ¬ _ = true; rw [h2]; simp), hk]
 rfl
theorem jz {l : List Tok} {q : Qry} {S : QS} (h : isQ l Fh S = false) : Dz l (q, S) = (q, S) := if_neg (by show ¬ (isQ l Fh S = true); rw [h]; simp)
theorem k7 {l : List Tok} {q : Qry} {S : QS} (h : isQ l Fh S = true) (h2 : ((A9 l (S.i + 1)).kind != 3) = true) : Dz l (q, S) = (q, E6 l 8 (C8 S)) := by
 unfold Dz
 rw [if_pos (by exact h), if_pos (by exact h2)]
theorem k8 {l : List Tok} {q : Qry} {S : QS} (h : isQ l Fh S = true) (h2 : ((A9 l (S.i + 1)).kind != 3) = false) (h3 : decide ((100000 : Int) < L7 (A9 l (S.i + 1)).text) = true) : Dz l (q, S) = (q, E6 l 3 (C8 S)) := by
 unfold Dz
 rw [if_pos (by exact h), if_neg (by show ¬ _ = true; rw [h2]; simp), if_pos (by exact h3)]
theorem k9 {l : List Tok} {q : Qry} {S : QS} (h : isQ l Fh S = true) (h2 : ((A9 l (S.i + 1)).kind != 3) = false) (h3 : decide ((100000 : Int) < L7 (A9 l (S.i + 1)).text) = false) : Dz l (q, S) = (⟨q.all, q.cols, q.whr, L7 (A9 l (S.i + 1)).text⟩, C8 (C8 S)) := by
 unfold Dz
 rw [if_pos (by exact h), if_neg (by show ¬ _ = true; rw [h2]; simp), if_neg (by show ¬ _ = true; rw [h3]; simp)]
theorem F4 {Hp : List AObj} {o : Nat} {A : AObj} (hl : o < Hp.length) : (Hp.set o A)[o]? = some A := by simp [hl]
theorem Zm {Hp : List AObj} {o oq : Nat} {A B : AObj} (hne : oq ≠ o) (hoq : Hp[oq]? = some B) : (Hp.set o A)[oq]? = some B := by rw [List.getElem?_set_ne (Ne.symm hne)]; exact hoq
theorem c40 (l : List Tok) (S : QS) (q : Qry) (o oq : Nat) (Hp : List AObj) (hne : oq ≠ o) (ho : Hp[o]? = some (prq l S)) (hoq : Hp[oq]? = some (qo true q)) (hi : S.i < l.length) (hl : TokEnd l) (hll : l.length ≤ 500000) (hc12 : q.cols.length ≤ 12) : ACall Tryz.prog 40 [.ptr o 0, .ptr oq 0] Hp (fun r H' => r = L8 ∧ H' = (Hp.set o (prq l (Ew l (q, S)).2)).set oq (qo true (Ew l (q, S)).1)) := by
 have hlo := (List.getElem?_eq_some_iff.1 ho).1
 have hlq := (List.getElem?_eq_some_iff.1 hoq).1
 refine ACall.body [] [0, 1] Tryz.func40 Tryz.ntmps40 (fun d => ?_)
 refine Z9 ?_;refine R.callUp Tryz.call72 ho (by simp) E0 (c72 l S Fv o _ (Ac ho) hi (by omega)) ?_;refine R.not ?_;refine R.fin [0, 1, 9] ?_
 refine W.cond (fun ht9 => ?_) (fun ht9 => ?_)
 ·have hq : isQ l Fv S = false := by simpa using ht9
  have e := jv (q := q) hq
  rw [Nz hq, B5 ho]
  exact Z34
 have hq : isQ l Fv S = true := by simpa using ht9
 have hi1 : S.i + 1 < l.length := F3 hl hi hq
 rw [Ny hq]
 refine Z5 ?_;refine W.drawY [0, 1, 3, 7, 0, 16, 48, 112, 255, 511, 1023, 1023, 1023, 0, 0, 26623, 61439, 131071] [] [.q 13 [] [], .s [4] none [] [], .s [6] none [] [], .s [4] none [] [], .q 1 [] [], .s [6] none [] []] (fun _ => Hp.set o (prq l (C8 S))) (fun _ => []) Ae (by kernel_rfl) rfl rfl (fun _ => rfl) ?_
 apply Y.q
 case h1 =>
  intro B hT hF
  refine Z87 ?_;refine D.loadUp jA (F4 hlo) ?_;refine Z72 ?_;refine D.loadUp jA (F4 hlo) ?_;refine D.call Tryz.call74 (c74 l (S.i + 1) hi1 hl hll (fun n Dv h1 h2 => Zh hl (by omega) n Dv h1 h2) _) ?_;refine bi ?_;refine D.extract ?_;exact Jc
 case hTF => decide
 refine Y.allocP Tryz.zeroValue27 ?_;refine Y.allocP Tryz.zeroValue50 ?_;refine Y.storeP Tryz.sizeOf27 ?_
 apply Y.q
 case h1 =>
  intro B hT hF
  exact mf
 case hTF => decide
 refine Y.storeP Tryz.sizeOf50 ?_;refine Y.tail (tn := [])  ?_;refine R.fin [0, 1, 4, 5, 6] ?_;refine Z23 ?_;refine R.fieldAddrRo (off := 0) jU Tryz.sizeOf36 ?_;refine Cp ?_;refine R.neq ?_;refine R.fin [0, 1, 4, 5, 6, 25] ?_
 refine W.cond (fun ht25 => ?_) (fun ht25 => ?_)
 ·have e := jx (q := q) hq ht25
  refine Z0 ?_;refine Dq ?_;refine R.nilPtr ?_;refine R.fieldAddrPtr (fo := 2) jU Tryz.sizeOf50 ?_
  refine R.storeUp jS (F4 hlo) ?_ ?_
  ·simp
  refine R.fin [] ?_;exact Z34
 obtain ⟨k, hk, hkl⟩ := Wu hl (by omega) hi1 (by simpa using ht25)
 have e := jy (q := q) hq ht25 hk
 rw [hk]
 refine c8 ?_;refine Dq ?_;refine Au ?_;refine R.nilPtr ?_;refine R.fieldAddrPtr (fo := 2) jU Tryz.sizeOf27 ?_
 refine R.storeUp jS (Zm hne hoq) ?_ ?_
 ·intro z hz
  simp only [List.mem_cons, List.not_mem_nil, or_false] at hz
  rcases hz with rfl | rfl | rfl | rfl | rfl | rfl
  all_goals first | exact Cc | simp
 refine Z42 ?_
 refine R.storeUp jS (qA hlo hne) ?_ ?_
 ·simp
 exact Z70

theorem c41 (l : List Tok) (S : QS) (q : Qry) (o oq : Nat) (Hp : List AObj) (hne : oq ≠ o) (ho : Hp[o]? = some (prq l S)) (hoq : Hp[oq]? = some (qo true q)) (hi : S.i < l.length) (hl : TokEnd l) (hll : l.length ≤ 500000) (hc12 : q.cols.length ≤ 12) : ACall Tryz.prog 41 [.ptr o 0, .ptr oq 0] Hp (fun r H' => r = L8 ∧ H' = (Hp.set o (prq l (Dz l (q, S)).2)).set oq (qo true (Dz l (q, S)).1)) := by
 have hlo := (List.getElem?_eq_some_iff.1 ho).1
 have hlq := (List.getElem?_eq_some_iff.1 hoq).1
 refine ACall.body [] [0, 1] Tryz.func41 Tryz.ntmps41 (fun d => ?_)
 refine Z9 ?_;refine R.callUp Tryz.call72 ho (by simp) E0 (c72 l S Fh o _ (Ac ho) hi (by omega)) ?_;refine R.not ?_;refine R.fin [0, 1, 9] ?_
 refine W.cond (fun ht9 => ?_) (fun ht9 => ?_)
 ·have hq : isQ l Fh S = false := by simpa using ht9
  have e := jz (q := q) hq
  rw [Nz hq, B5 ho]
  exact Z34
 have hq : isQ l Fh S = true := by simpa using ht9
 have hi1 : S.i + 1 < l.length := F3 hl hi hq
 rw [Ny hq]
 refine Z5 ?_;refine W.drawY [0, 1, 3, 7, 0, 16, 48, 112, 255, 511, 0, 2047] [] [.q 10 [] [], .s [4] none [] [], .s [4] none [] []] (fun _ => Hp.set o (prq l (C8 S))) (fun _ => []) Ae (by kernel_rfl) rfl rfl (fun _ => rfl) ?_
 apply Y.q
 case h1 =>
  intro B hT hF
  refine Z87 ?_;refine D.loadUp jA (F4 hlo) ?_;refine Z72 ?_;refine D.loadUp jA (F4 hlo) ?_;refine D.indexAddr ((S.i + 1)) (Et (A9 l (S.i + 1))) jU jS (Is hi1) ?_;exact mc
 case hTF => decide
 refine mb ?_;refine Y.tail (tn := [])  ?_;refine R.fin [0, 1, 4] ?_;refine S4 ?_;refine R.call Tryz.call75 (c75 (A9 l (S.i + 1)).text (hl.text _) _) ?_;refine Jb ?_;refine R.fin [0, 1, 4, 5] ?_;refine Z27 ?_;refine Mf ?_;refine Ry ?_;refine R.fin [0, 1, 5, 26] ?_
 refine W.cond (fun ht26 => ?_) (fun ht26 => ?_)
 ·have e := k7 (q := q) hq ht26
  refine Z0 ?_;refine R.callUp Tryz.call42 (F4 hlo) (by simp) E0 (c42 l (C8 S) 8 o _ (Ac (F4 hlo)) hi1) ?_;refine R.fin [] ?_;exact Z71
 refine Z0 ?_;refine Y0 ?_;refine R.fin [0, 1, 5, 32] ?_
 refine W.cond (fun ht32 => ?_) (fun ht32 => ?_)
 ·have e := k8 (q := q) hq ht26 ht32
  refine Z0 ?_;refine R.callUp Tryz.call42 (F4 hlo) (by simp) E0 (c42 l (C8 S) 3 o _ (Ac (F4 hlo)) hi1) ?_;refine R.fin [] ?_;exact Z71
 have e := k9 (q := q) hq ht26 ht32
 refine Z17 ?_;refine Z29 ?_;refine R.nilPtr ?_;refine R.fieldAddrPtr (fo := 8) jU Tryz.sizeOf3 ?_
 refine R.storeUp jS (Zm hne hoq) ?_ ?_
 ·simp
 refine R.fin [0] ?_;refine Z26 ?_;refine Z42 ?_;refine R.loadUp jA (qA hlo hne) ?_
 refine R.add64 (h2 := by rw [show (C8 S).i = S.i + 1 from rfl]; omega) ?_
 refine Z42 ?_
 refine R.storeUp jS (qA hlo hne) ?_ ?_
 ·simp
 exact Z70

theorem L9 {l : List Tok} (hl : TokEnd l) : ∀ (n : Nat) (r : Qry × QS), r.2.i < l.length → r.1.cols.length ≤ 12 → (Fg l n r).2.i < l.length ∧ (Fg l n r).1.cols.length ≤ 12
 | 0, r, h1, h2 => ⟨h1, h2⟩
 | n + 1, r, h1, h2 => by
  rw [Fg]
  split
  ·rename_i hq
   obtain ⟨_, f2, f3⟩ := Gk hl (q := r.1) (F3 hl h1 hq) h2
   exact L9 hl n _ f2 f3
  exact ⟨h1, h2⟩
theorem Tl {l : List Tok} (hl : TokEnd l) {r : Qry × QS} (h1 : r.2.i < l.length) (h2 : r.1.cols.length ≤ 12) : (Gj l r).2.i < l.length ∧ (Gj l r).1.cols.length ≤ 12 := by
 unfold Gj
 split
 ·rename_i hq; exact ⟨F3 hl h1 hq, h2⟩
 obtain ⟨_, f2, f3⟩ := Gk hl (q := Fu false r.1) h1 h2
 exact L9 hl _ _ f2 f3
theorem Tm {l : List Tok} (hl : TokEnd l) (hll : l.length ≤ 500000) {r : Qry × QS} (h1 : r.2.i < l.length) (h2 : r.1.cols.length ≤ 12) : (Ew l r).2.i < l.length ∧ (Ew l r).1.cols.length ≤ 12 := by
 unfold Ew
 split
 ·rename_i hq
  have hi1 : r.2.i + 1 < l.length := F3 hl h1 hq
  split
  ·exact ⟨hi1, h2⟩
  rename_i h
  obtain ⟨k, hk, hkl⟩ := Wu hl (by omega) hi1 (by simpa using h)
  refine ⟨?_, h2⟩
  show (atM l (r.2.i + 1)).2.1.toNat < _
  rw [hk, Int.toNat_natCast]
  exact hkl
 exact ⟨h1, h2⟩
theorem Tn {l : List Tok} (hl : TokEnd l) {r : Qry × QS} (h1 : r.2.i < l.length) (h2 : r.1.cols.length ≤ 12) : (Dz l r).2.i < l.length ∧ (Dz l r).1.cols.length ≤ 12 := by
 unfold Dz
 split
 ·rename_i hq
  have hi1 : (C8 r.2).i < l.length := F3 hl h1 hq
  split
  ·exact ⟨by rw [Jx]; exact hi1, h2⟩
  split
  ·exact ⟨by rw [Jx]; exact hi1, h2⟩
  rename_i h _
  have hk : (A9 l (C8 r.2).i).kind ≠ 0 := by
   have : (A9 l (r.2.i + 1)).kind = 3 := by simpa using h
   show (A9 l (r.2.i + 1)).kind ≠ 0
   rw [this]; decide
  exact ⟨hl.step hi1 hk, h2⟩
 exact ⟨h1, h2⟩
def q0Q : Qry := ⟨false, [], Ah, -1⟩
def s1Q (l : List Tok) : QS := Ju l Jv ⟨0, 0, 0⟩
def r1Q (l : List Tok) : Qry × QS := Gj l (q0Q, s1Q l)
def r2Q (l : List Tok) : Qry × QS := Ew l (r1Q l)
def r3Q (l : List Tok) : Qry × QS := Dz l (r2Q l)
def s4Q (l : List Tok) : QS := Ju l [59] (r3Q l).2
def s5Q (l : List Tok) : QS := rr l (s4Q l)
theorem rx : Le (.agg [Al false, .nil, A4 0, A8 [], A4 0, A4 0, A8 [], .nil, A4 (-1)]) (.agg [Al false, .nil, A4 0, A8 [], A4 0, A4 0, A8 [], .slice false 6 [], A4 (-1)]) := by
 refine .agg _ _ rfl (by simp [AV.one, Value.oneCell', sv]) fun i y y' h1 h2 => ?_
 match i with
 | 0 => simp at h1 h2; subst h1; subst h2; exact .inl rfl
 | 1 => simp at h1 h2; subst h1; subst h2; exact .inl rfl
 | 2 => simp at h1 h2; subst h1; subst h2; exact .inl rfl
 | 3 => simp at h1 h2; subst h1; subst h2; exact .inl rfl
 | 4 => simp at h1 h2; subst h1; subst h2; exact .inl rfl
 | 5 => simp at h1 h2; subst h1; subst h2; exact .inl rfl
 | 6 => simp at h1 h2; subst h1; subst h2; exact .inl rfl
 | 7 => simp at h1 h2; subst h1; subst h2; exact .inr ⟨rfl, 6, rfl⟩
 | 8 => simp at h1 h2; subst h1; subst h2; exact .inl rfl
 | i + 9 => simp at h1
abbrev J4 (q : Qry) : AV := .agg (qoC false q)
theorem ka {n : Nat} {q : Qry} : Low n (J4 q) := by
 have h : ∀ z ∈ qoC false q, Low n z := ec (n := n) (own := false) (q := q)
 simpa using h
theorem O0 {n : Nat} : oid n 4 ≠ oid n 3 := by unfold oid; omega
theorem c6 (s : Str) (hs : s.length ≤ 1048576) (Hp : List AObj) : AFun Tryz.prog 15 [A8 s] Hp (.tup [J4 (Fw s).1, .agg [A4 (Fw s).2.1, A4 (Fw s).2.2]]) := by
 refine ACall.body [.cell 2 29, .cell 3 50] [0] Tryz.func15 Tryz.ntmps15 (fun d => ?_)
 refine Z31 ?_;refine R.alloc jZ ?_;refine bn ?_;refine R.call Tryz.call37 (c37 s hs _) ?_;refine Z62 ?_;refine bm ?_;refine R.fin [2, 3, 4, 5] ?_;refine Z23 ?_;refine iq ?_;refine il ?_;refine R.fin [2, 3, 4, 5, 15] ?_
 refine W.cond (fun ht15 => ?_) (fun ht15 => ?_)
 ·have e : Fw s = (Tj, (Ar s).2.1, ((Ar s).2.2 : Int)) := if_pos ht15
  refine W.drawY [0, 0, 1, 7] [2] [.q 2 [] [], .s [] (some 0) [] []] (fun _ => Hp) (fun _ => [.cells 29 [Al false, .nil, A4 0, A8 [], A4 0, A4 0, A8 [], .nil, A4 0], .cells 50 [A4 0, A4 0], .cells 50 [A4 (Ar s).2.1, A4 ((Ar s).2.2 : Nat)]]) Ae (by kernel_rfl) rfl rfl (fun _ => rfl) ?_
  apply Y.q
  case h1 =>
   intro B hT hF
   refine D.build (places := #[(0, 1), (1, 1), (2, 6), (8, 1)]) jU (fun w => by simp) jZ ?_;exact lx
  case hTF => decide
  refine qj ?_;refine Y.tail (tn := [2])  ?_;refine mi ?_;refine Rw ?_;exact lq
 have e0 : ¬ ((Ar s).2.1 != 0) = true := by rw [ht15]; simp
 have hz : (Ar s).2.1 = 0 := by simpa using ht15
 have hle := jc hz
 have hlen := jo hz
 have hpos : 0 < (Ar s).1.length := hle.pos
 have hl5 : (Ar s).1.length ≤ 500000 := by omega
 have f1 : (s1Q (Ar s).1).i < (Ar s).1.length := Tk hle hpos
 have f2 : (r1Q (Ar s).1).2.i < (Ar s).1.length ∧ (r1Q (Ar s).1).1.cols.length ≤ 12 := Tl hle (r := (q0Q, s1Q (Ar s).1)) f1 (show ([] : List Str).length ≤ 12 by decide)
 have f3 : (r2Q (Ar s).1).2.i < (Ar s).1.length ∧ (r2Q (Ar s).1).1.cols.length ≤ 12 := Tm hle hl5 f2.1 f2.2
 have f4 : (r3Q (Ar s).1).2.i < (Ar s).1.length ∧ (r3Q (Ar s).1).1.cols.length ≤ 12 := Tn hle f3.1 f3.2
 have f5 : (s4Q (Ar s).1).i < (Ar s).1.length := Tk hle f4.1
 have hp : Fw s = Wx (Ar s).1 := if_neg e0
 refine I7 ?_;refine R.build (places := #[(0, 1), (1, 1), (2, 2)]) jU (fun w => by simp) jZ ?_;refine bt ?_;refine R.fin [2, 3, 6] ?_;refine B9 ?_;refine R.build (places := #[(0, 1), (1, 1), (2, 6), (8, 1)]) jU (fun w => by simp) jZ ?_;refine R.wk 21 _ rx ?_;refine Z16 ?_;refine R.fin [2, 3, 6, 7] ?_;refine B9 ?_;refine R.nilCell 4 1 1 ?_;refine Au ?_
 refine R.callOwn (n := 3) (x := prq (Ar s).1 (s1Q (Ar s).1)) Tryz.call38 (c38 (Ar s).1 ⟨0, 0, 0⟩ Jv (oid Hp.length 3) _ (by rw [An]; rfl) hpos (by omega)) ?_
 refine ig ?_
 refine R.callX (up' := Hp) (own' := [.cells 29 [Al false, .nil, A4 0, A8 [], A4 0, A4 0, A8 [], .nil, A4 0], .cells 50 [A4 0, A4 0], .cells 50 [A4 (Ar s).2.1, A4 ((Ar s).2.2 : Nat)], prq (Ar s).1 (r1Q (Ar s).1).2, qo true (r1Q (Ar s).1).1]) Tryz.call39 ((c39 (Ar s).1 (s1Q (Ar s).1) q0Q (oid Hp.length 3) (oid Hp.length 4) _ O0 (by rw [An]; rfl) (by rw [An]; rfl) f1 hle hl5 (by decide)).mono fun r H' e => ⟨e.1, e.2.trans (by rw [Cj, Cj]; rfl)⟩) rfl (fun h => h) ?_
 refine ig ?_
 refine R.callX (up' := Hp) (own' := [.cells 29 [Al false, .nil, A4 0, A8 [], A4 0, A4 0, A8 [], .nil, A4 0], .cells 50 [A4 0, A4 0], .cells 50 [A4 (Ar s).2.1, A4 ((Ar s).2.2 : Nat)], prq (Ar s).1 (r2Q (Ar s).1).2, qo true (r2Q (Ar s).1).1]) Tryz.call40 ((c40 (Ar s).1 (r1Q (Ar s).1).2 (r1Q (Ar s).1).1 (oid Hp.length 3) (oid Hp.length 4) _ O0 (by rw [An]; rfl) (by rw [An]; rfl) f2.1 hle hl5 f2.2).mono fun r H' e => ⟨e.1, e.2.trans (by rw [Cj, Cj]; rfl)⟩) rfl (fun h => h) ?_
 refine ig ?_
 refine R.callX (up' := Hp) (own' := [.cells 29 [Al false, .nil, A4 0, A8 [], A4 0, A4 0, A8 [], .nil, A4 0], .cells 50 [A4 0, A4 0], .cells 50 [A4 (Ar s).2.1, A4 ((Ar s).2.2 : Nat)], prq (Ar s).1 (r3Q (Ar s).1).2, qo true (r3Q (Ar s).1).1]) Tryz.call41 ((c41 (Ar s).1 (r2Q (Ar s).1).2 (r2Q (Ar s).1).1 (oid Hp.length 3) (oid Hp.length 4) _ O0 (by rw [An]; rfl) (by rw [An]; rfl) f3.1 hle hl5 f3.2).mono fun r H' e => ⟨e.1, e.2.trans (by rw [Cj, Cj]; rfl)⟩) rfl (fun h => h) ?_
 refine ig ?_
 refine R.callOwn (n := 3) (x := prq (Ar s).1 (s4Q (Ar s).1)) Tryz.call38 (c38 (Ar s).1 (r3Q (Ar s).1).2 [59] (oid Hp.length 3) _ (by rw [An]; rfl) f4.1 (by omega)) ?_
 refine R.fin [2, 3, 6, 7] ?_;refine W.seq ?_;refine W.draw [0, 1, 3, 7, 0, 16, 48, 112, 255, 511, 1023, 2047] 8 Ae (by kernel_rfl) ?_;refine Z87 ?_;refine D.loadOwn jA ?_;refine Z72 ?_;refine D.loadOwn jA ?_;refine D.tail ?_;refine R.indexAddr ((s4Q (Ar s).1).i) (Et (A9 (Ar s).1 (s4Q (Ar s).1).i)) jU jS (Is f5) ?_;refine Z15 ?_;refine R.neq ?_;refine R.fin [2, 3, 6, 7, 43] ?_
 refine W.cond (fun ht43 => ?_) (fun ht43 => ?_)
 ·have e5 : s5Q (Ar s).1 = E6 (Ar s).1 8 (s4Q (Ar s).1) := if_pos ht43
  refine Z26 ?_
  refine R.callOwn (n := 3) (x := prq (Ar s).1 (E6 (Ar s).1 8 (s4Q (Ar s).1))) Tryz.call42 (c42 (Ar s).1 (s4Q (Ar s).1) 8 (oid Hp.length 3) _ (by rw [An]; rfl) f5) ?_
  refine R.fin [2, 3, 6, 7] ?_;refine K.thN ?_;refine Z9 ?_;refine ca ?_;refine il ?_;refine R.fin [2, 3, 6, 7, 51] ?_
  refine W.cond (fun ht51 => ?_) (fun ht51 => ?_)
  ·rw [← e5] at ht51 ⊢
   have e : Fw s = (Tj, (s5Q (Ar s).1).code, (s5Q (Ar s).1).at_) := by rw [hp]; exact if_pos ht51
   refine ql ?_
   apply Y.q
   case h1 =>
    intro B hT hF
    refine pt ?_;exact pv
   case hTF => decide
   refine Z95 ?_;refine mi ?_;refine Rw ?_;exact lq
  rw [← e5] at ht51
  have e : Fw s = ((r3Q (Ar s).1).1, 0, 0) := by rw [hp]; exact if_neg (by show ¬ (((s5Q (Ar s).1).code != 0) = true); rw [ht51]; simp)
  refine Uq ?_;refine lv ?_;refine Rw ?_;exact o9
 have e5 : s5Q (Ar s).1 = s4Q (Ar s).1 := if_neg (by rw [ht43]; simp)
 refine Z5 ?_;refine Z9 ?_;refine ca ?_;refine il ?_;refine R.fin [2, 3, 6, 7, 51] ?_
 refine W.cond (fun ht51 => ?_) (fun ht51 => ?_)
 ·rw [← e5] at ht51 ⊢
  have e : Fw s = (Tj, (s5Q (Ar s).1).code, (s5Q (Ar s).1).at_) := by rw [hp]; exact if_pos ht51
  refine ql ?_
  apply Y.q
  case h1 =>
   intro B hT hF
   refine pt ?_;exact pv
  case hTF => decide
  refine Z95 ?_;refine mi ?_;refine Rw ?_;exact lq
 rw [← e5] at ht51
 have e : Fw s = ((r3Q (Ar s).1).1, 0, 0) := by rw [hp]; exact if_neg (by show ¬ (((s5Q (Ar s).1).code != 0) = true); rw [ht51]; simp)
 refine Uq ?_;refine lv ?_;refine Rw ?_;exact o9

theorem Jy {k : List Expr} {i : Nat} (h : i < k.length) : (k.map Ab)[i]? = some (Ab (k.getD i Ah)) ∧ k.getD i Ah ∈ k ∧ ∀ (f : Expr → Rs) (d : Rs), (k.map f).getD i d = f (k.getD i Ah) := by
 have e : k.getD i Ah = k[i] := by rw [List.getD_eq_getElem?_getD, List.getElem?_eq_getElem h]; rfl
 rw [e]
 refine ⟨by simp [h], List.getElem_mem h, fun f d => ?_⟩
 rw [List.getD_eq_getElem?_getD, List.getElem?_map, List.getElem?_eq_getElem h]
 rfl
theorem ef {e : Expr} (h : C9 e = true) : (e.op = 5 → e.kids.length = 2) ∧ (e.op = 3 ∨ e.op = 4 → e.kids.length = 1) ∧ (e.op = 6 → Aw e.text = (e.kids.length : Int)) ∧ (e.op = 1 ∨ e.op = 2 ∨ e.op = 3 ∨ e.op = 4 ∨ e.op = 5 ∨ e.op = 6) := by
 cases Fd h with
 | val v hp h0 => simp [Fs, Expr.op]
 | name t ht => simp [D8, Expr.op]
 | neg a => simp [Dk, Expr.op, Expr.kids]
 | no a => simp [Dk, Expr.op, Expr.kids]
 | bin t a b ht => simp [Eu, Expr.op, Expr.kids]
 | call t k ht => simpa [Expr.op, Expr.kids, Expr.text] using ht
def J5 (s : Str) : Int := if s == [111, 114] then 0 else if s == [97, 110, 100] then 1 else if (((((s == [61]) || (s == [33, 61])) || (s == [60])) || (s == [60, 61])) || (s == [62])) || (s == [62, 61]) then 3 else if ((s == [43]) || (s == [45])) || (s == [38]) then 4 else if ((s == [42]) || (s == [47])) || (s == [37]) then 5 else 7
theorem Zn (s : Str) : J5 s = if 0 ≤ At s then At s else 7 := by
 by_cases hf : s ∈ levels.flatten
 ·have h3 : (levels.flatten.all fun s => decide (J5 s = if 0 ≤ At s then At s else 7)) = true := by kernel_rfl
  exact of_decide_eq_true (List.all_eq_true.1 h3 s hf)
 have hn := hf
 have h : At s = -1 := by
  rcases Hj s with h | ⟨h, _⟩
  ·exact absurd h hf
  exact h
 rw [h]
 simp only [levels, List.flatten_cons, List.flatten_nil, List.append_nil, List.cons_append, List.nil_append, List.mem_cons, List.not_mem_nil, or_false, not_or] at hn
 obtain ⟨a1, a2, a3, a4, a5, a6, a7, a8, a9, b1, b2, b3, b4, b5⟩ := hn
 simp [J5, *]
/-- The level of a node. -/
def Vr (e : Expr) : Int := if e.op == 4 then 2 else if e.op == 3 then 6 else if e.op == 5 then J5 e.text else 7
theorem X1 {e : Expr} (h : C9 e = true) : Vr e = (levE e : Int) := by
 unfold Vr levE
 split
 ·rfl
 split
 ·rfl
 split
 ·rename_i h5
  have hb : 0 ≤ At e.text := by
   have h5' : e.op = 5 := by simpa using h5
   rw [Ss] at h
   unfold Jm at h
   simp [h5'] at h
   exact h.2.1
  rw [Zn, if_pos hb]
  omega
 rfl
theorem ul (s : Str) (Hp : List AObj) : AFun Tryz.prog 150 [A8 s] Hp (A4 (J5 s)) := by
 refine ACall.body [.tmp 2] [0] Tryz.func150 Tryz.ntmps150 (fun d => ?_)
 refine Z88 ?_;refine Z9 ?_;refine R.fin [3] ?_;refine Es ?_;refine Z19 ?_;refine R.fin [3, 4] ?_
 refine W.cond (fun ht4 => ?_) (fun ht4 => ?_)
 ·exact br
 refine Z19 ?_;refine R.fin [3, 6] ?_
 refine W.cond (fun ht6 => ?_) (fun ht6 => ?_)
 ·exact br
 refine W.join ⟨23, A5 3 (A8 s) (A5 8 (Al ((((((s == [61]) || (s == [33, 61])) || (s == [60])) || (s == [60, 61])) || (s == [62])) || (s == [62, 61]))) (fun _ => .any)), Hp, [], [], none⟩ ?_ ?_
 ·refine bp ?_
  refine W.cond (fun ht8 => ?_) (fun ht8 => ?_)
  ·exact bh
  refine bp ?_
  refine W.cond (fun ht8 => ?_) (fun ht8 => ?_)
  ·exact bh
  refine bp ?_
  refine W.cond (fun ht8 => ?_) (fun ht8 => ?_)
  ·exact bh
  refine bp ?_
  refine W.cond (fun ht8 => ?_) (fun ht8 => ?_)
  ·exact bh
  refine bp ?_
  refine W.cond (fun ht8 => ?_) (fun ht8 => ?_)
  ·exact bh
  refine Qp ?_;refine R.fin [3, 8] ?_;exact Z53
 refine W.cond (fun ht8 => ?_) (fun ht8 => ?_)
 ·exact br
 refine W.join ⟨23, A5 3 (A8 s) (A5 15 (Al (((s == [43]) || (s == [45])) || (s == [38]))) (fun _ => .any)), Hp, [], [], none⟩ ?_ ?_
 ·refine Z19 ?_;refine R.fin [3, 15] ?_
  refine W.cond (fun ht15 => ?_) (fun ht15 => ?_)
  ·refine W.keep [3, 15] ?_;exact be
  refine Z19 ?_;refine R.fin [3, 15] ?_
  refine W.cond (fun ht15 => ?_) (fun ht15 => ?_)
  ·refine W.keep [3, 15] ?_;exact be
  refine Qp ?_;refine R.fin [3, 15] ?_;exact Z53
 refine W.cond (fun ht15 => ?_) (fun ht15 => ?_)
 ·exact br
 refine W.join ⟨23, A5 19 (Al (((s == [42]) || (s == [47])) || (s == [37]))) (fun _ => .any), Hp, [], [], none⟩ ?_ ?_
 ·refine Z19 ?_;refine R.fin [3, 19] ?_
  refine W.cond (fun ht19 => ?_) (fun ht19 => ?_)
  ·refine W.keep [19] ?_;exact be
  refine Z19 ?_;refine R.fin [3, 19] ?_
  refine W.cond (fun ht19 => ?_) (fun ht19 => ?_)
  ·refine W.keep [19] ?_;exact be
  refine Qp ?_;refine R.fin [19] ?_;exact Z53
 refine W.cond (fun ht19 => ?_) (fun ht19 => ?_)
 ·exact br
 refine Z17 ?_;refine Z56 ?_;exact K.fin (V.one V.tmp) ⟨by simp_all [J5], rfl⟩

theorem ry (e : Expr) (Hp : List AObj) : AFun Tryz.prog 116 [Ab e] Hp (A4 (Vr e)) := by
 refine ACall.body [.tmp 2] [0] Tryz.func116 Tryz.ntmps116 (fun d => ?_)
 refine Of ?_;refine Z23 ?_;refine Z15 ?_;refine R.fin [1, 4] ?_;refine S1 ?_;refine R.fin [1, 4, 5] ?_
 refine W.cond (fun ht5 => ?_) (fun ht5 => ?_)
 ·refine Z56 ?_;exact ly
 refine Z49 ?_;refine R.fin [1, 4, 7] ?_
 refine W.cond (fun ht7 => ?_) (fun ht7 => ?_)
 ·refine Z56 ?_;exact ly
 refine Z49 ?_;refine R.fin [1, 9] ?_
 refine W.cond (fun ht9 => ?_) (fun ht9 => ?_)
 ·refine S4 ?_;refine R.call Tryz.call150 (ul e.text _) ?_;refine Z82 ?_;exact ly
 refine Z17 ?_;refine Z56 ?_;exact K.fin (V.one V.tmp) ⟨by simp_all [Vr], rfl⟩

end Go.SX.Nb
namespace Go.Proofs
open Go.Shelf Go.RowKit

section
variable {P : Program} (w : World)

/-- Bytes behind a builder's bytes: what is handed back lies where it lay, or in the next block, or nowhere still. -/
theorem Zo {t u ty e : TypeId} {i : TypeInfo} (ht : P.underlying t = some (.slice e)) (hu : P.underlying u = some .string) (hi : P.info? e = some i) (hz : i.zero = some (.int .u8 0)) (hsize : i.size = 1) (hby : i.bytes = 1)
  (v : Value) (n : Nat) (xs : List Value) (hown : w.ownsRow 0 e 1 v n xs) (s : ByteArray) (hb : n + s.size ≤ 140737488355328) :
  ∃ v' w', (Builtin.append_ #[t, u] ty #[v, .string s]).run P w = .ok v' w' ∧ w'.ownsRow 0 e 1 v' (n + s.size) (xs ++ Lib.strCells s) ∧ w.grownBy w' v'.ownBlock ∧
   ((v = .slice none 0 0 ∧ v' = v ∧ s.size = 0) ∨ (∃ g cap, v = .slice (some ⟨g, 0, none⟩) n cap ∧ v' = .slice (some ⟨g, 0, none⟩) (n + s.size) cap) ∨ ∃ cap, v' = .slice (some ⟨w.heap.size, 0, none⟩) (n + s.size) cap ∧ 0 < n + s.size) := by
 have h63 : n + s.size ≤ maxLen := by unfold maxLen; omega
 obtain ⟨v', w', hr, h1, h2, h3⟩ := Lib.run_append_own_string (P := P) w 0 t u ty e i ht hu hi hz hsize hby v n xs hown s h63 hb (Nat.zero_le _)
 have hxl : xs.length = n := by simpa using hown.1
 refine ⟨v', w', hr, h1, ?_⟩
 rcases hown.2 with ⟨rfl, rfl⟩ | ⟨g, cap, cur, rfl, hbg, hg, hnc, hcm, hcs, htake⟩
 ·by_cases hm : s.size = 0
  ·have e1 := h3.2 ⟨rfl, hm⟩
   exact ⟨by rw [e1]; exact h2, .inl ⟨rfl, e1, hm⟩⟩
  have hr2 := run_append_nil_string (P := P) w t u ty e i (.int .u8 0) ht hu hi hz s (by omega) (by omega) (by rw [hby]; omega)
  rw [hr] at hr2
  injection hr2 with e1 e2
  refine ⟨?_, .inr (.inr ⟨_, by rw [e1, Nat.zero_add], by omega⟩)⟩
  rw [e2]
  exact ⟨rfl, rfl, rfl, by simp, fun k hk _ => Lib.alloc_old w.drew _ k hk⟩
 by_cases hroom : n + s.size ≤ cap
 ·have hcs' : cur.size = cap := by simpa using hcs
  have hr2 := Lib.run_append_room_string (P := P) w t u ty e i ht hu hi hsize g n cap cur hg s hroom (by omega)
  rw [hr] at hr2
  injection hr2 with e1 e2
  exact ⟨by rw [e1]; exact h2, .inr (.inl ⟨g, cap, rfl, e1⟩)⟩
 have holds : ∀ j u, xs[j]? = some u → w.cell? ((⟨g, 0, none⟩ : Addr).add j) = some u := hown.cells (g := g) rfl
 have hr2 := Lib.run_append_grow_string (P := P) w t u ty e i (.int .u8 0) ht hu hi hz ⟨g, 0, none⟩ n cap xs (by rw [hsize]; simpa using hxl) holds s (by omega) (by omega) (by rw [hby]; exact growslice_fits (by omega) (by omega))
 rw [hr] at hr2
 injection hr2 with e1 e2
 refine ⟨?_, .inr (.inr ⟨_, e1, by omega⟩)⟩
 rw [e2]
 exact ⟨rfl, rfl, rfl, by simp, fun k hk _ => Lib.alloc_old w.drew _ k hk⟩
end

theorem Kq {P : Program} {w w' : World} {ops : Array Oper} {rest : List Oper} {o : Oper} {a : Act} {Q : Exit → Act → World → Prop} {v v' : Value} {s : ByteArray} (hgd : o.guard = none) (sl x : Operand) (t u ty : TypeId)
  (ho : o.op = .call { callee := .builtin .append, args := #[sl, x], argTypes := #[t, u] }) (hty : o.type = ty) (hs : a.eval sl = v) (hx : a.eval x = .string s) (hrun : (Builtin.append_ #[t, u] ty #[v, .string s]).run P w = .ok v' w')
  (h : wpList P ops Q rest (a.put o.dst v') w') : wpList P ops Q (o :: rest) a w := by
 refine wpList_plain hgd fun K hK => ?_
 subst hty
 unfold Oper.wp execOp
 simp only [ho, resolve, invoke, builtin, Sem.run_bind, Sem.run_pure, Result.andThen_ok, List.map_toArray, List.map_cons, List.map_nil, hs, hx, hrun]
 exact hK _ _ h

section
variable {P : Program} {ρ : Ren}

set_option maxHeartbeats 1000000 in
set_option maxRecDepth 100000 in
/-- The check of an unused builder within a block of type T. -/
theorem Zp (L : Lays.n240 P ρ) (X : Builder.X72 P ρ) {T : TypeId} (hl : liesAt P P.depth T (2 / P.cellsOf T) 0 (ρ.t 72) 1 = true) (b : Nat) (w : World) (h0 : w.cell? ⟨b, 0, none⟩ = some (.pointer none)) (hsh : w.shape? b = some (T, 2)) (hfz : w.frozen? ⟨b, 0, none⟩ = false) :
  Calls P (ρ.f 240) #[.pointer (some ⟨b, 0, none⟩)] w fun e w' => e = .returned (.tuple #[]) ∧ w' = w.setCell ⟨b, 0, none⟩ (.pointer (some ⟨b, 0, none⟩)) := by
 obtain ⟨j, hj, hjs⟩ := Option.map_eq_some_iff.1 X.sizeBuilder
 have mixed := L.mixed
 have t72 := L.t72; have a72 := L.a72; have z72 := L.z72; have v72 := L.v72; have u72 := run_underlying L.t72
 have t70 := L.t70; have a70 := L.a70; have z70 := L.z70; have v70 := L.v70; have u70 := run_underlying L.t70
 have t9 := L.t9; have a9 := L.a9; have z9 := L.z9; have v9 := L.v9; have u9 := run_underlying L.t9
 have t4 := L.t4; have a4 := L.a4; have z4 := L.z4; have v4 := L.v4; have u4 := run_underlying L.t4
 have t164 := L.t164; have a164 := L.a164; have z164 := L.z164; have v164 := L.v164; have u164 := run_underlying L.t164
 go_enter L.f240, Body.n240_ntmps ρ
 go_wp2
 rw [Lib.run_to_unsafe w ⟨b, 0, none⟩ L.t70 L.t164 hj (by rw [hjs]; decide) hsh (Nat.zero_lt_succ 1)]
 simp only [Result.andThen]
 rw [Oper.upon_value]
 go_wp2
 rw [run_callFunc_extern L.f276 (by kernel_rfl) (by kernel_rfl) (by kernel_rfl) (e := Extern.AbiNoEscape.same) (by kernel_rfl)]
 rw [Lib.run_noEscape]
 simp only [Result.andThen]
 rw [Oper.upon_value]
 go_wp2
 rw [Lib.run_from_unsafe w ⟨b, 0, none⟩ L.t164 L.t70 hj hsh hl]
 simp only [Result.andThen]
 rw [Oper.upon_value]
 go_wp2
 go_end0
 exact ⟨rfl, rfl⟩

/-- The check: behind it the first cell holds the builder's own address; nothing else turns. -/
theorem eg (L : Lays.n240 P ρ) (X : Builder.X72 P ρ) {T e : TypeId} (hl : liesAt P P.depth T (2 / P.cellsOf T) 0 (ρ.t 72) 1 = true) (b : Nat) (p v : Value) (n : Nat) (bs : List Value) (w : World) (h : H7 T e b p v n bs w) :
  Calls P (ρ.f 240) #[.pointer (some ⟨b, 0, none⟩)] w fun e' w' => e' = .returned (.tuple #[]) ∧ H7 T e b (.pointer (some ⟨b, 0, none⟩)) v n bs w' ∧ w.grownBy w' (some b) ∧ w'.heap.size = w.heap.size := by
 obtain ⟨h1, hp, h3, h4⟩ := h
 rcases hp with rfl | rfl
 ·refine (Zp L X hl b w (by rw [Lib.cell_of_heap h1]; rfl) (by simp [World.shape?, h1]) (Lib.frozen_of_heap h1 0)).mono ?_
  rintro e' w' ⟨rfl, rfl⟩
  have hgr : w.grownBy (w.setCell ⟨b, 0, none⟩ (.pointer (some ⟨b, 0, none⟩))) (some b) := ⟨rfl, rfl, rfl, by simp [World.setCell], fun k _ hk => Below.heap_setCell _ _ _ _ (fun e => hk (by simp [e]))⟩
  exact ⟨rfl, ⟨by simp [World.setCell, Array.getElem?_modify, h1], .inr rfl, h3.kept hgr (.inr h4), h4⟩, hgr, by simp [World.setCell]⟩
 refine (Any.Builder_copyCheck_used L X b w (by rw [Lib.cell_of_heap h1]; rfl)).mono ?_
 rintro e' w' ⟨rfl, rfl⟩
 exact ⟨rfl, ⟨h1, .inr rfl, h3, h4⟩, ⟨rfl, rfl, rfl, Nat.le_refl _, fun _ _ _ => rfl⟩, rfl⟩

set_option maxHeartbeats 1000000 in
set_option maxRecDepth 100000 in
/-- How many bytes there are. -/
theorem bldLen (L : Lays.n170 P ρ) {T e : TypeId} (b : Nat) (p v : Value) (n : Nat) (bs : List Value) (w : World) (h : H7 T e b p v n bs w) :
  Calls P (ρ.f 170) #[.pointer (some ⟨b, 0, none⟩)] w fun e' w' => e' = .returned (.int .i64 n) ∧ w' = w := by
 obtain ⟨h1, _, h3, _⟩ := h
 obtain ⟨ao, cap, rfl⟩ : ∃ ao cap, v = .slice ao n cap := by
  rcases h3.2 with ⟨hv, h0⟩ | ⟨g, cap, cur, hv, _⟩
  ·exact ⟨none, 0, by rw [hv, h0]⟩
  exact ⟨_, _, hv⟩
 have c1 : w.cell? ⟨b, 1, none⟩ = some (.slice ao n cap) := by rw [Lib.cell_of_heap h1]; rfl
 have mixed := L.mixed
 have t72 := L.t72; have a72 := L.a72; have z72 := L.z72; have v72 := L.v72; have u72 := run_underlying L.t72
 have t70 := L.t70; have a70 := L.a70; have z70 := L.z70; have v70 := L.v70; have u70 := run_underlying L.t70
 have t37 := L.t37; have a37 := L.a37; have z37 := L.z37; have v37 := L.v37; have u37 := run_underlying L.t37
 have t3 := L.t3; have a3 := L.a3; have z3 := L.z3; have v3 := L.v3; have u3 := run_underlying L.t3
 go_enter L.f170, Body.n170_ntmps ρ
 go_wp2
 go_ret
 exact ⟨rfl, rfl⟩

set_option maxHeartbeats 2000000 in
set_option maxRecDepth 100000 in
/-- A text is written behind it. -/
theorem bldWrite (L : Lays.n166 P ρ) (X : Builder.Extra P ρ) {T : TypeId} (hl : liesAt P P.depth T (2 / P.cellsOf T) 0 (ρ.t 72) 1 = true) (hTe : T ≠ ρ.t 5) (b : Nat) (p v : Value) (n : Nat) (bs : List Value) (s : ByteArray) (w : World) (h : H7 T (ρ.t 5) b p v n bs w)
  (hlen : n + s.size ≤ 140737488355328) :
  Calls P (ρ.f 166) #[.pointer (some ⟨b, 0, none⟩), .string s] w fun e w' => e = .returned (.tuple #[.int .i64 s.size, .nilIface]) ∧ ∃ v', H7 T (ρ.t 5) b (.pointer (some ⟨b, 0, none⟩)) v' (n + s.size) (bs ++ Lib.strCells s) w' ∧
   (w'.os = w.os ∧ w'.tape = w.tape ∧ w'.output = w.output ∧ w.heap.size ≤ w'.heap.size) ∧ (∀ k, k < w.heap.size → k ≠ b → v'.ownBlock ≠ some k → w'.heap[k]? = w.heap[k]?) ∧
   ((v = .slice none 0 0 ∧ v' = v ∧ s.size = 0) ∨ (∃ g cap, v = .slice (some ⟨g, 0, none⟩) n cap ∧ v' = .slice (some ⟨g, 0, none⟩) (n + s.size) cap) ∨ ∃ cap, v' = .slice (some ⟨w.heap.size, 0, none⟩) (n + s.size) cap ∧ 0 < n + s.size) := by
 obtain ⟨i0, hi, hz0, hz1, hz2⟩ := info_parts X.infoByte
 have mixed := L.mixed
 have t72 := L.t72; have a72 := L.a72; have z72 := L.z72; have v72 := L.v72; have u72 := run_underlying L.t72
 have t70 := L.t70; have a70 := L.a70; have z70 := L.z70; have v70 := L.v70; have u70 := run_underlying L.t70
 have t37 := L.t37; have a37 := L.a37; have z37 := L.z37; have v37 := L.v37; have u37 := run_underlying L.t37
 have t3 := L.t3; have a3 := L.a3; have z3 := L.z3; have v3 := L.v3; have u3 := run_underlying L.t3
 have t9 := L.t9; have a9 := L.a9; have z9 := L.z9; have v9 := L.v9; have u9 := run_underlying L.t9
 have t4 := L.t4; have a4 := L.a4; have z4 := L.z4; have v4 := L.v4; have u4 := run_underlying L.t4
 have t164 := L.t164; have a164 := L.a164; have z164 := L.z164; have v164 := L.v164; have u164 := run_underlying L.t164
 have t5 := X.t5; have a5 := X.a5; have z5 := X.z5; have v5 := X.v5; have u5 := run_underlying X.t5
 have e240 : ∀ args w, (callFunc (ρ.f 240) args).run P w = .ok (.enter (ρ.f 240) args) w := enters_of L.f240 (by kernel_rfl) rfl
 go_enter L.f166, Body.n166_ntmps ρ
 go_wp2_with (go_at_fn (ρ.f 240); refine (eg { L with } X.toX72 hl b p v n bs _ h).mono ?_)
 rintro e w1 ⟨rfl, ⟨hbk, _, hown, hne⟩, hg1, hs1⟩
 have c0 : w1.cell? ⟨b, 0, none⟩ = some (.pointer (some ⟨b, 0, none⟩)) := by rw [Lib.cell_of_heap hbk]; rfl
 have c1 : w1.cell? ⟨b, 1, none⟩ = some v := by rw [Lib.cell_of_heap hbk]; rfl
 obtain ⟨v', w2, hrun, hown', hgrow, hcase⟩ := Zo (P := P) w1 (ty := ρ.t 37) L.t37 L.t9 hi hz0 hz1 hz2 v n bs hown s hlen
 have hlt : b < w1.heap.size := (Array.getElem?_eq_some_iff.1 hbk).1
 have hne' : v'.ownBlock ≠ some b := by
  rcases hcase with ⟨_, e1, _⟩ | ⟨g, cap, e1, e2⟩ | ⟨cap, e1, _⟩
  ·rw [e1]; exact hne
  ·rw [e2]; rw [e1] at hne; exact hne
  rw [e1]; simp [Value.ownBlock]; omega
 have hb2 : w2.heap[b]? = some (.cells #[.pointer (some ⟨b, 0, none⟩), v] T (0, 0)) := by
  rw [hgrow.block b hlt (fun e => hne' e.symm)]
  exact hbk
 have d0 : w2.cell? ⟨b, 0, none⟩ = some (.pointer (some ⟨b, 0, none⟩)) := by rw [Lib.cell_of_heap hb2]; rfl
 have d1 : w2.cell? ⟨b, 1, none⟩ = some v := by rw [Lib.cell_of_heap hb2]; rfl
 have f1 : w2.frozen? ⟨b, 1, none⟩ = false := Lib.frozen_of_heap hb2 1
 obtain ⟨ao, n', cap, rfl⟩ : ∃ ao n' cap, v' = .slice ao n' cap := by
  rcases hown'.2 with ⟨hv, _⟩ | ⟨g, cap, cur, hv, _⟩
  ·exact ⟨_, _, _, hv⟩
  exact ⟨_, _, _, hv⟩
 go_wp2_with (at_builtin; refine Kq rfl _ _ (ρ.t 37) (ρ.t 9) (ρ.t 37) rfl rfl rfl rfl hrun ?_)
 go_ret2
 refine ⟨rfl, _, ⟨by simp [World.setCell, Array.getElem?_modify, hb2], .inr rfl, hown'.kept (row := some b) ⟨rfl, rfl, rfl, by simp [World.setCell], fun k _ hk => Below.heap_setCell _ _ _ _ (fun e => hk (by simp [e]))⟩ (.inr hne'), hne'⟩, ⟨?_, ?_, ?_, ?_⟩, fun k hk hkb hkr => ?_, ?_⟩
 ·exact hgrow.os.trans hg1.os
 ·exact hgrow.tape.trans hg1.tape
 ·exact hgrow.output.trans hg1.output
 ·have := hgrow.size
  simp [World.setCell]; omega
 ·rw [Below.heap_setCell _ _ _ _ hkb, hgrow.block k (by omega) (fun e => hkr e.symm), hg1.block k hk (by simpa using hkb)]
 rw [hs1] at hcase; exact hcase

set_option maxHeartbeats 2000000 in
set_option maxRecDepth 100000 in
/-- Its text: some of its row is frozen; nothing else turns. -/
theorem bldString (L : Lays.n169 P ρ) (X : Builder.Extra P ρ) {T : TypeId} (b : Nat) (p v : Value) (l : List UInt8) (w : World) (h : H7 T (ρ.t 5) b p v l.length (Lib.byteCells l) w) (hcap : ∀ g, v ≠ .slice (some ⟨g, 0, none⟩) 0 0) :
  Calls P (ρ.f 169) #[.pointer (some ⟨b, 0, none⟩)] w fun e w' => e = .returned (.string ⟨l.toArray⟩) ∧ (w'.os = w.os ∧ w'.tape = w.tape ∧ w'.output = w.output ∧ w.heap.size ≤ w'.heap.size) ∧ ∀ k, v.ownBlock ≠ some k → w'.heap[k]? = w.heap[k]? := by
 obtain ⟨hbk, _, hown, hne⟩ := h
 have mixed := L.mixed
 have t72 := L.t72; have a72 := L.a72; have z72 := L.z72; have v72 := L.v72; have u72 := run_underlying L.t72
 have t70 := L.t70; have a70 := L.a70; have z70 := L.z70; have v70 := L.v70; have u70 := run_underlying L.t70
 have t37 := L.t37; have a37 := L.a37; have z37 := L.z37; have v37 := L.v37; have u37 := run_underlying L.t37
 have t127 := L.t127; have a127 := L.a127; have z127 := L.z127; have v127 := L.v127; have u127 := run_underlying L.t127
 have t3 := L.t3; have a3 := L.a3; have z3 := L.z3; have v3 := L.v3; have u3 := run_underlying L.t3
 have t9 := L.t9; have a9 := L.a9; have z9 := L.z9; have v9 := L.v9; have u9 := run_underlying L.t9
 have t5 := X.t5; have a5 := X.a5; have z5 := X.z5; have v5 := X.v5; have u5 := run_underlying X.t5
 rcases hown.2 with ⟨rfl, h0⟩ | ⟨g, cap, cur, rfl, hbg, hg, hnc, hcm, hcs, htake⟩
 ·have hl : l = [] := List.eq_nil_of_length_eq_zero h0
  subst hl
  have hUS := Any.unsafeString_none L X
  have c1 : w.drew.cell? ⟨b, 1, none⟩ = some (.slice none 0 0) := by
   have : w.drew.heap[b]? = some (.cells #[p, .slice none 0 0] T (0, 0)) := hbk
   rw [Lib.cell_of_heap this]; rfl
  have hSD : (Builtin.unsafeSliceData_ #[(ρ.t 37)] (ρ.t 127) #[.slice none 0 0]).run P w.drew = .ok (.pointer none) w.drew := rfl
  go_enter L.f169, Body.n169_ntmps ρ
  go_wp2
  go_region_o
  all_goals (go_wp2; go_ret; exact ⟨rfl, ⟨rfl, rfl, rfl, Nat.le_refl _⟩, fun _ _ => rfl⟩)
 have hc0 : cap ≠ 0 := by
  rintro rfl
  exact hcap g (by rw [show l.length = 0 by omega])
 have c1 : w.drew.cell? ⟨b, 1, none⟩ = some (.slice (some ⟨g, 0, none⟩) l.length cap) := by
  have : w.drew.heap[b]? = some (.cells #[p, .slice (some ⟨g, 0, none⟩) l.length cap] T (0, 0)) := hbk
  rw [Lib.cell_of_heap this]; rfl
 have hSD : (Builtin.unsafeSliceData_ #[(ρ.t 37)] (ρ.t 127) #[.slice (some ⟨g, 0, none⟩) l.length cap]).run P w.drew = .ok (.pointer (some ⟨g, 0, none⟩)) w.drew :=
  Lib.run_unsafeSliceData_row _ _ _ _ _ _ hc0
 by_cases hl : l = []
 ·subst hl
  have hUS := Any.unsafeString_none L X
  clear hc0 hcap
  simp only [List.length_nil] at c1 hSD
  go_enter L.f169, Body.n169_ntmps ρ
  go_wp2
  go_region_o
  all_goals (go_wp2; go_ret; exact ⟨rfl, ⟨rfl, rfl, rfl, Nat.le_refl _⟩, fun _ _ => rfl⟩)
 have hUS : (Builtin.unsafeString_ #[(ρ.t 127), (ρ.t 3)] (ρ.t 9) #[.pointer (some ⟨g, 0, none⟩), .int .i64 l.length]).run P w.drew = .ok (.string ⟨l.toArray⟩) (w.drew.freeze ⟨g, 0, none⟩ l.length) := by
  refine Lib.run_unsafeString_row w.drew (ρ.t 127) (ρ.t 3) (ρ.t 9) (ρ.t 5) L.t127 X.cellsByte g cur.size (by have hg' : w.drew.heap[g]? = some (.cells cur (ρ.t 5) (0, 0)) := hg; simp [World.shape?, hg']) l hl (by omega) (by unfold maxLen at hcm; omega) ?_
  intro j x hx
  exact hown.cells (g := g) rfl j (.int .u8 x.toNat) (by simp [Lib.byteCells, hx])
 have hfz : ∀ k, g ≠ k → (w.drew.freeze ⟨g, 0, none⟩ l.length).heap[k]? = w.heap[k]? := fun k hk => by
  unfold World.freeze
  split
  ·rfl
  show (w.heap.modify g _)[k]? = _
  rw [Array.getElem?_modify, if_neg hk]
 have hfs : (w.drew.freeze ⟨g, 0, none⟩ l.length).heap.size = w.heap.size := by
  unfold World.freeze
  split
  ·rfl
  show (w.heap.modify g _).size = _
  simp
 have hfo : (w.drew.freeze ⟨g, 0, none⟩ l.length).os = w.os ∧ (w.drew.freeze ⟨g, 0, none⟩ l.length).tape = w.tape ∧ (w.drew.freeze ⟨g, 0, none⟩ l.length).output = w.output := by
  unfold World.freeze
  split <;> exact ⟨rfl, rfl, rfl⟩
 clear hc0 hcap
 go_enter L.f169, Body.n169_ntmps ρ
 go_wp2
 go_region_o
 all_goals (go_wp2; go_ret; exact ⟨rfl, ⟨hfo.1, hfo.2.1, hfo.2.2, Nat.le_of_eq hfs.symm⟩, fun k hk => hfz k (fun e => hk (by rw [e]; rfl))⟩)
end
end Go.Proofs

namespace Go.SX.Nb
open Go Go.SX Go.Proofs Go.Shelf
variable [ErrAt]
set_option maxRecDepth 8000
/-! show's builder. -/
theorem rz : Builder.Extra Tryz.prog Tryz.ren155 where
 sizeBuilder := by kernel_rfl
 liesBuilder := by kernel_rfl
 t5 := Tryz.underlying5
 a5 := Tryz.isAgg5
 z5 := Tryz.sizeOf5
 v5 := Tryz.zeroValue5
 infoByte := by kernel_rfl
 cellsByte := by kernel_rfl
 sizeByte := by kernel_rfl
 neB5 := by decide
theorem kb : liesAt Tryz.prog Tryz.prog.depth 126 (2 / Tryz.prog.cellsOf 126) 0 121 1 = true := by kernel_rfl
abbrev O1 (bs : Str) : AObj := .bld 126 5 bs
theorem Bv {n : Nat} {bs : Str} : ObjLow n (O1 bs) := trivial
/-- (*strings.Builder).WriteString. -/
theorem c77 (bs s : Str) (hl : bs.length + s.length ≤ 140737488355328) (o : Nat) (Hp : List AObj) (ho : Hp[o]? = some (O1 bs)) :
  ACall Tryz.prog 77 [.ptr o 0, A8 s] Hp (fun r H' => r = .tup [A4 s.length, .v .nilIface] ∧ H' = Hp.set o (O1 (bs ++ s))) := by
 refine ACall.bldWrite ho (fun b p v w h => ?_)
 have hw := bldWrite Tryz.lays166 rz (T := 126) kb (by decide) b p v bs.length (Lib.byteCells bs) ⟨s.toArray⟩ w h (by rw [Co]; exact hl)
 rw [Co, Lib.strCells_eq, ← Lib.byteCells_append] at hw
 exact hw
/-- (*strings.Builder).Len. -/
theorem c80 (bs : Str) (o : Nat) (Hp : List AObj) (ho : Hp[o]? = some (O1 bs)) : AFun Tryz.prog 80 [.ptr o 0] Hp (A4 bs.length) :=
 AFun.bldLen ho (fun b p v w h => bldLen Tryz.lays170 (T := 126) (e := 5) b p v _ _ w h)
/-- (*strings.Builder).String. -/
theorem c78 (bs : Str) (o : Nat) (Hp : List AObj) (ho : Hp[o]? = some (O1 bs)) : ACall Tryz.prog 78 [.ptr o 0] Hp (fun r H' => r = A8 bs ∧ H' = Hp.set o (.cells 126 [.any, .any])) :=
 ACall.bldString ho (fun b p v w h hc => bldString (ρ := Tryz.ren155) { Tryz.lays155 with } rz (T := 126) b p v bs w h hc)
end Go.SX.Nb
namespace Go.SX.Nb
open Go Go.SX Go.Proofs
variable [ErrAt]
set_option maxRecDepth 4000
abbrev lj : AV := .v (.tuple #[])
abbrev Ds : Nat := 1099511627776
/-- What node writes. -/
def eh (e : Expr) : Prop := ∀ (o : Nat) (bs : Str) (Hp : List AObj), Hp[o]? = some (O1 bs) → bs.length + (Ag e).length ≤ Ds → ACall Tryz.prog 79 [.ptr o 0, Ab e] Hp (fun r H' => r = lj ∧ H' = Hp.set o (O1 (bs ++ Ag e)))
theorem Zq (e : Expr) : Ag e = Jt e.op e.text e.val e.kids (e.kids.map Ag) := by
 cases e with
 | mk o t v k => rw [Ag, J0]; rfl
theorem kc {k : List Expr} {i : Nat} (h : i < k.length) : (k.map Ag).getD i [] = Ag (k.getD i Ah) := by
 rw [List.getD_eq_getElem?_getD, List.getD_eq_getElem?_getD, List.getElem?_map, List.getElem?_eq_getElem h]
 rfl
theorem Q3 (l : List Str) (s : Str) : Dr (l ++ [s]) = Dr l ++ (44 :: 32 :: s) := by
 induction l with
 | nil => simp [Dr]
 | cons a r ih => simp [Dr, ih]
theorem ek {k : List Expr} {x : Nat} (h : x < k.length) : (Dr ((k.take (x + 1)).map Ag)).drop 2 = (Dr ((k.take x).map Ag)).drop 2 ++ (if 0 < x then [44, 32] else []) ++ Ag k[x] := by
 rw [List.take_succ_eq_append_getElem h, List.map_append, List.map_singleton, Q3]
 cases x with
 | zero => simp [Dr]
 | succ x =>
  have : 2 ≤ (Dr ((k.take (x + 1)).map Ag)).length := by
   rw [List.take_succ_eq_append_getElem (by omega), List.map_append, List.map_singleton, Q3]
   simp
   omega
  rw [List.drop_append_of_le_length this, if_pos (by omega)]
  simp
theorem nx {k : List Expr} (x : Nat) : (Dr ((k.take x).map Ag)).length ≤ (Dr (k.map Ag)).length := by
 have : k.map Ag = (k.take x).map Ag ++ (k.drop x).map Ag := by rw [← List.map_append, List.take_append_drop]
 rw [this]
 have : ∀ a b : List Str, (Dr a).length ≤ (Dr (a ++ b)).length := by
  intro a b
  induction a with
  | nil => simp [Dr]
  | cons c r ih => simp [Dr]; exact ih
 exact this _ _
theorem To {H : List AObj} {o : Nat} {a b : AObj} : (H.set o a).set o b = H.set o b := List.set_set _
theorem Zr (e : Expr) (he : eh e) (hlev : Vr e = (levE e : Int)) (least : Nat) (l0 : Int) (hl0 : l0 = (least : Int)) (o : Nat) (bs : Str) (Hp : List AObj) (ho : Hp[o]? = some (O1 bs)) (hb : bs.length + (Gv least e (Ag e)).length ≤ Ds) : ACall Tryz.prog 118 [.ptr o 0, Ab e, A4 l0] Hp (fun r H' => r = lj ∧ H' = Hp.set o (O1 (bs ++ Gv least e (Ag e)))) := by
 subst hl0
 refine ACall.body [] [0, 1, 2] Tryz.func118 Tryz.ntmps118 (fun d => ?_)
 refine Z24 ?_;refine R.fin [0, 2, 4] ?_;refine Oe ?_;refine R.call Tryz.call116 (ry e _) ?_;refine Au ?_;refine R.geq ?_;refine R.fin [0, 4, 9] ?_
 refine W.cond (fun ht9 => ?_) (fun ht9 => ?_)
 ·have hz : least ≤ levE e := by
   have h := ht9
   rw [hlev] at h
   simpa using h
  rw [show Gv least e (Ag e) = Ag e from if_pos hz] at hb ⊢
  refine Z0 ?_;refine Dq ?_;refine R.callUp Tryz.call79 ho (by simp) Bv (he o bs _ (Ac ho) (by omega)) ?_;refine bv ?_;exact K.fin .nores ⟨rfl, by simp⟩
 have hz : ¬ least ≤ levE e := by
  have h := ht9
  rw [hlev] at h
  simpa using h
 rw [show Gv least e (Ag e) = 40 :: (Ag e ++ [41]) from if_neg hz] at hb ⊢
 simp only [List.length_cons, List.length_append, List.length_nil, Ds] at hb
 refine I7 ?_;refine Z63 ?_
 refine R.callUp Tryz.call77 ho (by simp) Bv (c77 bs [40] (by simp only [Ds, List.length_append, List.length_cons, List.length_nil] at *; omega) o _ (Ac ho)) ?_
 refine R.fin [0, 4] ?_;refine Z0 ?_;refine Dq ?_
 refine R.callUp Tryz.call79 (Ad ho) (by simp) Bv (he o (bs ++ [40]) _ (Ac (Ad ho)) (by simp only [Ds, List.length_append, List.length_cons, List.length_nil] at *; omega)) ?_
 refine R.fin [0] ?_;refine Z26 ?_;refine Z63 ?_
 refine R.callUp Tryz.call77 (Ad (Ad ho)) (by simp) Bv (c77 (bs ++ [40] ++ Ag e) [41] (by simp only [Ds, List.length_append, List.length_cons, List.length_nil] at *; omega) o _ (Ac (Ad (Ad ho)))) ?_
 refine R.fin [] ?_;exact K.finN .nores ⟨rfl, by simp⟩

theorem c79 : ∀ (n : Nat) (e : Expr), okE n e → Cg C9 e = true → Cg F0 e = true → eh e := by
 intro n
 induction n with
 | zero => exact fun e h => h.elim
 | succ n ih =>
 intro e hok hnd hrg o bs Hp ho hb
 have hnd0 := hnd
 have hrg0 := hrg
 rw [Fo, Bool.and_eq_true] at hnd0 hrg0
 have hev : ∀ y ∈ e.kids, eh y := fun y hy => ih y (hok.2.2 y hy) ((Ch _ _).1 hnd0.2 y hy) ((Ch _ _).1 hrg0.2 y hy)
 have hlv : ∀ y ∈ e.kids, Vr y = (levE y : Int) := fun y hy => X1 (by have := (Ch _ _).1 hnd0.2 y hy; rw [Fo, Bool.and_eq_true] at this; exact this.1)
 obtain ⟨k5, k34, k6, kall⟩ := ef hnd0.1
 have hi64 : iw e.val.n := by
  have := hrg0.1
  simp only [F0, Bool.and_eq_true, decide_eq_true_eq] at this
  exact this
 have hlv0 := X1 hnd0.1
 have pe := Zq e
 have hol := (List.getElem?_eq_some_iff.1 ho).1
 unfold Jt at pe
 refine ACall.body [] [0, 1] Tryz.func79 Tryz.ntmps79 (fun d => ?_)
 refine Z24 ?_;refine Lm ?_;refine Z57 ?_;refine R.call Tryz.call116 (ry e _) ?_;refine Ax ?_;refine R.fin [0, 3, 4] ?_;refine Mf ?_;refine R.fin [0, 3, 4, 11] ?_;refine S1 ?_;refine R.fin [0, 3, 4, 11, 12] ?_
 refine W.cond (fun ht12 => ?_) (fun ht12 => ?_)
 ·rw [if_pos ht12] at pe
  refine W.draw0 [0, 1, 3, 0, 8, 24, 63] 6 Ae (by kernel_rfl) ?_;refine bc ?_;refine D.fieldAddrRo (off := 2) jU Tryz.sizeOf24 ?_;refine Gt ?_;refine D.call Tryz.call117 (rc e.val hi64 _) ?_;refine D.tail ?_
  refine R.callUp Tryz.call77 ho (by simp) Bv (c77 bs (D7 e.val) (by rw [pe] at hb; simp only [Ds] at hb; omega) o _ (Ac ho)) ?_
  exact Xx
 rw [if_neg (by rw [ht12]; simp)] at pe
 refine Z49 ?_;refine R.fin [0, 3, 4, 11, 21] ?_
 refine W.cond (fun ht21 => ?_) (fun ht21 => ?_)
 ·rw [if_pos ht21] at pe
  refine W.draw0 [0, 1, 3, 0, 8, 31] 5 Ae (by kernel_rfl) ?_;refine bc ?_;refine Z75 ?_;refine D.tail ?_
  refine R.callUp Tryz.call77 ho (by simp) Bv (c77 bs e.text (by rw [pe] at hb; simp only [Ds] at hb; omega) o _ (Ac ho)) ?_
  exact Xx
 rw [if_neg (by rw [ht21]; simp)] at pe
 refine Z49 ?_;refine R.fin [0, 3, 4, 11, 29] ?_
 refine W.cond (fun ht29 => ?_) (fun ht29 => ?_)
 ·rw [if_pos ht29] at pe
  have hkl := k34 (.inl (by simpa using ht29))
  rw [kc (by omega)] at pe
  rw [pe] at hb
  simp only [List.length_cons, Ds] at hb
  refine Z0 ?_;refine Z63 ?_
  refine R.callUp Tryz.call77 ho (by simp) Bv (c77 bs [45] (by simp only [Ds, List.length_append, List.length_cons, List.length_nil] at *; omega) o _ (Ac ho)) ?_
  refine Lm ?_;refine Z26 ?_;refine Z39 ?_;refine Z98 ?_
  refine R.callUp Tryz.call118 (Ad ho) (by simp) Bv (Zr (e.kids.getD 0 Ah) (hev _ (Jy (by omega)).2.1) (hlv _ (Jy (by omega)).2.1) (6) _ (rfl) o (bs ++ [45]) _ (Ac (Ad ho)) (by simp only [Ds, List.length_append, List.length_cons, List.length_nil] at *; omega)) ?_
  exact Xx
 rw [if_neg (by rw [ht29]; simp)] at pe
 refine Z49 ?_;refine R.fin [0, 3, 4, 11, 41] ?_
 refine W.cond (fun ht41 => ?_) (fun ht41 => ?_)
 ·rw [if_pos ht41] at pe
  have hkl := k34 (.inr (by simpa using ht41))
  rw [kc (by omega)] at pe
  rw [pe] at hb
  simp only [List.length_cons, List.length_append, Z1, List.length_nil, Ds] at hb
  refine Z0 ?_;refine Z63 ?_
  refine R.callUp Tryz.call77 ho (by simp) Bv (c77 bs [110, 111, 116, 32] (by simp only [Ds, List.length_append, List.length_cons, List.length_nil] at *; omega) o _ (Ac ho)) ?_
  refine Lm ?_;refine Z26 ?_;refine Z39 ?_;refine Z98 ?_
  refine R.callUp Tryz.call118 (Ad ho) (by simp) Bv (Zr (e.kids.getD 0 Ah) (hev _ (Jy (by omega)).2.1) (hlv _ (Jy (by omega)).2.1) (2) _ (rfl) o (bs ++ [110, 111, 116, 32]) _ (Ac (Ad ho)) (by simp only [Ds, List.length_append, List.length_cons, List.length_nil] at *; omega)) ?_
  exact Xx
 rw [if_neg (by rw [ht41]; simp)] at pe
 refine Z49 ?_;refine R.fin [0, 3, 4, 11, 53] ?_
 refine W.cond (fun ht53 => ?_) (fun ht53 => ?_)
 ·rw [if_pos ht53] at pe
  have h5 : e.op = 5 := by simpa using ht53
  have hkl := k5 h5
  have hlv5 : levE e = (At e.text).toNat := by simp [levE, h5]
  have hl5 := dl e.text
  rw [kc (by omega), kc (by omega)] at pe
  rw [pe] at hb
  simp only [List.length_cons, List.length_append, Ds] at hb
  rw [hlv0, hlv5]
  refine Z66 ?_;refine R.fin [0, 3, 4, 5] ?_;refine Z9 ?_;refine R.eql ?_;refine R.fin [0, 3, 4, 5, 57] ?_
  refine W.cond (fun ht57 => ?_) (fun ht57 => ?_)
  ·have h3 : (At e.text).toNat = 3 := by have := ht57; simp at this; omega
   have hf1 : (((At e.text).toNat : Int) + 1) = ((Dy (At e.text).toNat : Nat) : Int) := by rw [h3]; rfl
   refine Ui ?_;refine R.fin [0, 3, 4, 5] ?_;refine K.thN ?_;refine Z0 ?_;refine Z39 ?_;refine Z98 ?_;refine Au ?_
   refine R.callUp Tryz.call118 ho (by simp) Bv (Zr (e.kids.getD 0 Ah) (hev _ (Jy (by omega)).2.1) (hlv _ (Jy (by omega)).2.1) (Dy (At e.text).toNat) _ (by first | exact hf1 | rw [hf2]) o (bs) _ (Ac ho) (by simp only [Ds, List.length_append, List.length_cons, List.length_nil] at *; omega)) ?_
   refine py ?_;refine bc ?_;refine Z75 ?_
   refine D.sadd (hl := by simp only [List.length_cons, List.length_nil]; omega) ?_
   refine D.sadd (hl := by simp only [List.length_cons, List.length_nil, List.length_append]; omega) ?_
   refine D.tail ?_
   refine R.callUp Tryz.call77 (Ad ho) (by simp) Bv (c77 (bs ++ Gv (Dy (At e.text).toNat) (e.kids.getD 0 Ah) (Ag (e.kids.getD 0 Ah))) (32 :: (e.text ++ [32])) (by simp only [Ds, List.length_append, List.length_cons, List.length_nil] at *; omega) o _ (Ac (Ad ho))) ?_
   refine R.fin [0, 3, 4] ?_;refine Z26 ?_;refine Z39 ?_;refine pl ?_;refine Au ?_;refine R.add64 ?_
   refine R.callUp Tryz.call118 (Ad (Ad ho)) (by simp) Bv (Zr (e.kids.getD 1 Ah) (hev _ (Jy (by omega)).2.1) (hlv _ (Jy (by omega)).2.1) ((At e.text).toNat + 1) _ (by first | rfl | (push_cast; rfl)) o (bs ++ Gv (Dy (At e.text).toNat) (e.kids.getD 0 Ah) (Ag (e.kids.getD 0 Ah)) ++ 32 :: (e.text ++ [32])) _ (Ac (Ad (Ad ho))) (by simp only [Ds, List.length_append, List.length_cons, List.length_nil] at *; omega)) ?_
   exact Xx
  have h3 : (At e.text).toNat ≠ 3 := by have := ht57; simp at this; omega
  have hf2 : Dy (At e.text).toNat = (At e.text).toNat := by unfold Dy; rw [if_neg h3]
  refine I7 ?_;refine Z39 ?_;refine Z98 ?_;refine Au ?_
  refine R.callUp Tryz.call118 ho (by simp) Bv (Zr (e.kids.getD 0 Ah) (hev _ (Jy (by omega)).2.1) (hlv _ (Jy (by omega)).2.1) (Dy (At e.text).toNat) _ (by first | exact hf1 | rw [hf2]) o (bs) _ (Ac ho) (by simp only [Ds, List.length_append, List.length_cons, List.length_nil] at *; omega)) ?_
  refine py ?_;refine bc ?_;refine Z75 ?_
  refine D.sadd (hl := by simp only [List.length_cons, List.length_nil]; omega) ?_
  refine D.sadd (hl := by simp only [List.length_cons, List.length_nil, List.length_append]; omega) ?_
  refine D.tail ?_
  refine R.callUp Tryz.call77 (Ad ho) (by simp) Bv (c77 (bs ++ Gv (Dy (At e.text).toNat) (e.kids.getD 0 Ah) (Ag (e.kids.getD 0 Ah))) (32 :: (e.text ++ [32])) (by simp only [Ds, List.length_append, List.length_cons, List.length_nil] at *; omega) o _ (Ac (Ad ho))) ?_
  refine R.fin [0, 3, 4] ?_;refine Z26 ?_;refine Z39 ?_;refine pl ?_;refine Au ?_;refine R.add64 ?_
  refine R.callUp Tryz.call118 (Ad (Ad ho)) (by simp) Bv (Zr (e.kids.getD 1 Ah) (hev _ (Jy (by omega)).2.1) (hlv _ (Jy (by omega)).2.1) ((At e.text).toNat + 1) _ (by first | rfl | (push_cast; rfl)) o (bs ++ Gv (Dy (At e.text).toNat) (e.kids.getD 0 Ah) (Ag (e.kids.getD 0 Ah)) ++ 32 :: (e.text ++ [32])) _ (Ac (Ad (Ad ho))) (by simp only [Ds, List.length_append, List.length_cons, List.length_nil] at *; omega)) ?_
  exact Xx
 rw [if_neg (by rw [ht53]; simp)] at pe
 refine Z49 ?_;refine R.fin [0, 3, 83] ?_
 refine W.cond (fun ht83 => ?_) (fun ht83 => ?_)
 ·have hsl : ∀ x, ((Dr ((e.kids.take x).map Ag)).drop 2).length ≤ ((Dr (e.kids.map Ag)).drop 2).length := fun x => by have := nx (k := e.kids) x; rw [List.length_drop, List.length_drop]; omega
  have hkl6 := hok.2.1
  rw [pe] at hb
  simp only [List.length_cons, List.length_append, List.length_nil, Ds] at hb
  refine W.draw [0, 1, 3, 0, 8, 24, 63] 6 Ae (by kernel_rfl) ?_;refine bc ?_;refine Z75 ?_
  refine D.sadd (hl := by simp only [List.length_cons, List.length_nil]; omega) ?_
  refine D.tail ?_
  refine R.callUp Tryz.call77 ho (by simp) Bv (c77 bs (e.text ++ [40]) (by simp only [Ds, List.length_append, List.length_cons, List.length_nil] at *; omega) o _ (Ac ho)) ?_
  refine Lm ?_;refine Z23 ?_;refine Z39 ?_;refine Z64 ?_;refine R.fin [0, 93, 94, 95] ?_
  refine AW.loopC (α := Nat) (fun x => ⟨114, A5 0 (.ptr o 0) (A5 93 (.slice false 6 (e.kids.map Ab)) (A5 94 (A4 (e.kids.length : Nat)) (A5 95 (A4 (x : Nat)) (fun _ => .any)))), Hp.set o (O1 (bs ++ (e.text ++ [40]) ++ (Dr ((e.kids.take x).map Ag)).drop 2)), [], [], none⟩) (fun x => x ≤ e.kids.length) (fun x => e.kids.length - x) (0) (Nat.zero_le _) (StLe.of_eq (by simp [Dr])) rfl (fun x hx => ?_)
  refine Z89 ?_;refine R.fin [0, 93, 94, 95, 96] ?_
  refine W.condX (fun ht96 => ?_) (fun ht96 => ?_)
  ·have hlt : x < e.kids.length := by simpa using ht96
   have hst := ek hlt
   have hsl1 := hsl (x + 1)
   have hslx := hsl x
   refine Gd ?_;refine gi ?_;refine bm ?_;refine R.fin [0, 6, 7, 93, 94, 95] ?_;refine Z9 ?_;refine R.gtr ?_;refine R.fin [0, 7, 93, 94, 95, 101] ?_
   refine W.cond (fun ht101 => ?_) (fun ht101 => ?_)
   ·have h0x : 0 < x := by simpa using ht101
    rw [if_pos h0x] at hst
    have hstl := congrArg List.length hst
    simp only [List.length_append, List.length_cons, List.length_nil] at hstl
    refine Z26 ?_;refine Z63 ?_
    refine R.callUp Tryz.call77 (Ad ho) (by simp) Bv (c77 (bs ++ (e.text ++ [40]) ++ (Dr ((e.kids.take x).map Ag)).drop 2) [44, 32] (by simp only [Ds, List.length_append, List.length_cons, List.length_nil] at *; omega) o _ (Ac (Ad ho))) ?_
    refine R.fin [0, 7, 93, 94, 95] ?_;refine K.thN ?_;refine Z26 ?_;refine Ml ?_
    first | refine R.callUp Tryz.call79 (Ad ho) (by simp) Bv (hev _ (List.getElem_mem hlt) o (bs ++ (e.text ++ [40]) ++ (Dr ((e.kids.take x).map Ag)).drop 2) _ (Ac (Ad ho)) (by simp only [Ds, List.length_append, List.length_cons, List.length_nil] at *; omega)) ?_ | refine R.callUp Tryz.call79 (Ad (Ad ho)) (by simp) Bv (hev _ (List.getElem_mem hlt) o (bs ++ (e.text ++ [40]) ++ (Dr ((e.kids.take x).map Ag)).drop 2 ++ [44, 32]) _ (Ac (Ad (Ad ho))) (by simp only [Ds, List.length_append, List.length_cons, List.length_nil] at *; omega)) ?_
    refine R.fin [0, 93, 94, 95] ?_;refine Uj ?_;refine R.fin [0, 93, 94, 95] ?_;refine K.lpN (x + 1) hlt (by omega) ?_
    simp only [hst, To, List.append_assoc, List.append_nil]
    exact StCut.take (own := []) (fun _ => .refl _) (by repeat (first | exact B7 | refine B6 (by first | exact Cc | exact Lx | (simp [or_imp, forall_and, oid] <;> omega)) ?_)) (by simp) (by simp)
   have h0x : ¬ 0 < x := by simpa using ht101
   rw [if_neg h0x] at hst
   have hstl := congrArg List.length hst
   simp only [List.length_append, List.length_cons, List.length_nil] at hstl
   refine gy ?_;refine Ml ?_
   first | refine R.callUp Tryz.call79 (Ad ho) (by simp) Bv (hev _ (List.getElem_mem hlt) o (bs ++ (e.text ++ [40]) ++ (Dr ((e.kids.take x).map Ag)).drop 2) _ (Ac (Ad ho)) (by simp only [Ds, List.length_append, List.length_cons, List.length_nil] at *; omega)) ?_ | refine R.callUp Tryz.call79 (Ad (Ad ho)) (by simp) Bv (hev _ (List.getElem_mem hlt) o (bs ++ (e.text ++ [40]) ++ (Dr ((e.kids.take x).map Ag)).drop 2 ++ [44, 32]) _ (Ac (Ad (Ad ho))) (by simp only [Ds, List.length_append, List.length_cons, List.length_nil] at *; omega)) ?_
   refine R.fin [0, 93, 94, 95] ?_;refine Uj ?_;refine R.fin [0, 93, 94, 95] ?_;refine K.lpN (x + 1) hlt (by omega) ?_
   simp only [hst, To, List.append_assoc, List.append_nil]
   exact StCut.take (own := []) (fun _ => .refl _) (by repeat (first | exact B7 | refine B6 (by first | exact Cc | exact Lx | (simp [or_imp, forall_and, oid] <;> omega)) ?_)) (by simp) (by simp)
  have hxe : e.kids.take x = e.kids := List.take_of_length_le (by simp at ht96; omega)
  have hslx := hsl x
  refine Z54 ?_;refine Z26 ?_;refine Z63 ?_
  refine R.callUp Tryz.call77 (Ad ho) (by simp) Bv (c77 (bs ++ (e.text ++ [40]) ++ (Dr ((e.kids.take x).map Ag)).drop 2) [41] (by simp only [Ds, List.length_append, List.length_cons, List.length_nil] at *; omega) o _ (Ac (Ad ho))) ?_
  refine R.fin [] ?_;refine K.blN ?_;exact K.finN .nores ⟨rfl, by rw [pe, hxe] <;> simp⟩
 exfalso
 have h6 := kall
 simp at ht12 ht21 ht29 ht41 ht53 ht83
 omega

set_option maxRecDepth 8000
/-! How long a print is. -/
theorem Vs {v : Val} (hp : Bx v = true) (hi : iw v.n) : (D7 v).length ≤ 402 := by
 unfold D7
 rw [hp]
 simp only [Bool.not_true, Bool.false_eq_true, if_false]
 split
 ·have := Lib.itoa_length_le v.n hi.1 hi.2
  omega
 split
 ·rename_i h1 h2
  rw [L4]
  have h3 := Sw v.s
  have h4 : v.s.length ≤ 200 := by
   have k2 : v.kind = 2 := by simpa using h2
   simp [Bx, k2] at hp
   omega
  simp
  omega
 split
 ·simp
 split <;> simp
theorem Lw (k : Nat) (x : Expr) (s : Str) : (Gv k x s).length ≤ s.length + 2 := by
 unfold Gv
 split <;> simp
theorem Tp {t : Str} (h : 0 ≤ At t) : t.length ≤ 3 := by
 rcases Hj t with hm | ⟨hm, _⟩
 ·have h3 : (levels.flatten.all fun s => decide (s.length ≤ 3)) = true := by kernel_rfl
  exact of_decide_eq_true (List.all_eq_true.1 h3 t hm)
 omega
theorem O2 {t : Str} {n : Nat} (h : Aw t = (n : Int)) : t.length ≤ 6 := by
 rcases Iz h with ⟨e, _⟩ | ⟨e, _⟩ | ⟨e, _⟩ | ⟨e, _⟩ | ⟨e, _⟩ | ⟨e, _⟩ | ⟨e, _⟩ | ⟨e, _⟩ <;> rw [e] <;> decide
theorem el {k : List Expr} (h : ∀ y ∈ k, (Ag y).length + 10 ≤ 440 * sizeE y) : (Dr (k.map Ag)).length ≤ 440 * Ba k := by
 induction k with
 | nil => simp [Dr]
 | cons y r ih =>
  have h1 := h y List.mem_cons_self
  have h2 := ih (fun z hz => h z (List.mem_cons_of_mem _ hz))
  simp only [List.map_cons, Dr, Ba, List.length_cons, List.length_append]
  omega
theorem Q4 : ∀ (n : Nat) (e : Expr), sizeE e ≤ n → Cg C9 e = true → Cg F0 e = true → (Ag e).length + 10 ≤ 440 * sizeE e
 | 0, e, h, _, _ => by rw [Hc] at h; omega
 | n + 1, e, h, hn, hr => by
  rw [Fo, Bool.and_eq_true] at hn hr
  have hk : ∀ y ∈ e.kids, (Ag y).length + 10 ≤ 440 * sizeE y := fun y hy => by
   obtain ⟨i, hi⟩ := List.getElem?_of_mem hy
   obtain ⟨hlt, rfl⟩ := List.getElem?_eq_some_iff.1 hi
   exact Q4 n _ (by have := da e hlt; omega) ((Ch _ _).1 hn.2 _ hy) ((Ch _ _).1 hr.2 _ hy)
  have hi : iw e.val.n := by
   have := hr.1
   simp only [F0, Bool.and_eq_true, decide_eq_true_eq] at this
   exact this
  rw [Hc]
  cases Fd hn.1 with
  | val v hp h0 =>
   rw [nd]
   have := Vs hp (v := v) hi
   simp only [Fs, Expr.kids, Ba]
   omega
  | name t ht =>
   rw [js]
   have : t.length ≤ 16 := by
    cases t with
    | nil => simp
    | cons c r =>
     simp only [Jd, Bool.and_eq_true, decide_eq_true_eq] at ht
     exact ht.1.1.1
   simp only [D8, Expr.kids, Ba]
   omega
  | neg a =>
   rw [nf]
   have h1 := Lw 6 a (Ag a)
   have h2 := hk a (by simp [Dk, Expr.kids])
   simp only [Dk, Expr.kids, Ba, List.length_cons]
   omega
  | no a =>
   rw [rp]
   have h1 := Lw 2 a (Ag a)
   have h2 := hk a (by simp [Dk, Expr.kids])
   simp only [Dk, Expr.kids, Ba, List.length_cons, List.length_append, Z1, List.length_nil]
   omega
  | bin t a b ht =>
   rw [ng]
   have h1 := Lw (Dy (At t).toNat) a (Ag a)
   have h2 := Lw ((At t).toNat + 1) b (Ag b)
   have h3 := hk a (by simp [Eu, Expr.kids])
   have h4 := hk b (by simp [Eu, Expr.kids])
   have h5 := Tp ht
   simp only [Eu, Expr.kids, Ba, List.length_cons, List.length_append]
   omega
  | call t k ha =>
   rw [jt]
   have h1 := O2 ha
   have h2 := el (k := k) hk
   rw [← J0] at h2
   simp only [Expr.kids, List.length_cons, List.length_append, List.length_drop, List.length_nil]
   omega
theorem Hr {e : Expr} (hr : C0 e = true) (hg : Cg F0 e = true) : (Ag e).length ≤ 132000 := by
 have h1 := J1 hr
 have h2 : sizeE e ≤ 300 := by
  unfold C0 at hr
  simp only [Bool.and_eq_true, decide_eq_true_eq] at hr
  exact hr.1.2
 have := Q4 _ e (Nat.le_refl _) h1 hg
 omega
set_option maxRecDepth 4000
theorem Vt {e : Expr} (h : C9 e = true) : e.text.length ≤ 16 ∧ e.kids.length ≤ 8 := by
 cases Fd h with
 | val v hp h0 => exact ⟨by simp [Fs, Expr.text], by simp [Fs, Expr.kids]⟩
 | name t ht =>
  refine ⟨?_, by simp [D8, Expr.kids]⟩
  show t.length ≤ 16
  cases t with
  | nil => simp
  | cons c r =>
   simp only [Jd, Bool.and_eq_true, decide_eq_true_eq] at ht
   exact ht.1.1.1
 | neg a => exact ⟨by simp [Dk, Expr.text], by simp [Dk, Expr.kids]⟩
 | no a => exact ⟨by simp [Dk, Expr.text], by simp [Dk, Expr.kids]⟩
 | bin t a b ht => exact ⟨by have := Tp ht; show t.length ≤ 16; omega, by simp [Eu, Expr.kids]⟩
 | call t k ha =>
  refine ⟨by have := O2 ha; show t.length ≤ 16; omega, ?_⟩
  show k.length ≤ 8
  rcases Iz ha with ⟨_, e⟩ | ⟨_, e⟩ | ⟨_, e⟩ | ⟨_, e⟩ | ⟨_, e⟩ | ⟨_, e⟩ | ⟨_, e⟩ | ⟨_, e⟩ <;> omega
theorem Q5 : ∀ {l : List Expr} {y : Expr}, y ∈ l → depthE y ≤ Hg l
 | a :: r, y, h => by
  rw [Hg]
  rcases List.mem_cons.1 h with rfl | h
  ·omega
  have := Q5 h
  omega
theorem X2 : ∀ (n : Nat) (e : Expr), depthE e ≤ n → Cg C9 e = true → okE n e
 | 0, e, h, _ => by rw [Pg] at h; omega
 | n + 1, e, h, hn => by
  rw [Fo, Bool.and_eq_true] at hn
  rw [Pg] at h
  have hs := Vt hn.1
  refine ⟨by omega, by omega, fun y hy => X2 n y (by have := Q5 hy; omega) ((Ch _ _).1 hn.2 y hy)⟩
theorem Zs {e : Expr} (h : C0 e = true) : okE 30 e ∧ sizeE e ≤ 300 := by
 have h1 := J1 h
 unfold C0 at h
 simp only [Bool.and_eq_true, decide_eq_true_eq] at h
 exact ⟨X2 30 e h.1.1 h1, h.1.2⟩
theorem c44 (n : Nat) (e : Expr) (hok : okE n e) (hn : n ≤ 1048576) (hg : Cg F0 e = true) (Hp : List AObj) : AFun Tryz.prog 44 [Ab e] Hp (.tup [A8 (Gr e).1, A4 (Gr e).2]) := by
 refine ACall.body [.tmp 2, .tmp 3] [0] Tryz.func44 Tryz.ntmps44 (fun d => ?_)
 refine Uo ?_;refine R.fin [1] ?_;refine Oe ?_;refine R.call Tryz.call61 (c61 n e hok hn _) ?_;refine R.not ?_;refine R.fin [1, 7] ?_
 refine W.cond (fun ht7 => ?_) (fun ht7 => ?_)
 ·have hsh : Gr e = ([], 1) := if_pos ht7
  refine Z2 ?_;refine Z41 ?_;exact oy
 have hnr : ¬ (!(Bc e)) = true := by rw [ht7]; simp
 have hr : C0 e = true := by rw [← Ez]; simpa using ht7
 have hps := Hr hr hg
 refine Lk ?_;refine R.build (places := #[(0, 2)]) jU (fun w => by simp) jZ ?_;refine bt ?_;refine R.fin [1, 4] ?_;refine B9 ?_;refine R.toBld 0 126 5 ?_;refine Au ?_;refine Dq ?_
 refine R.callOwn (n := 0) (x := O1 (Ag e)) Tryz.call79 (c79 n e hok (J1 hr) hg (oid Hp.length 0) [] _ (by rw [An]; rfl) (by simp only [Ds, List.length_nil]; omega)) ?_
 refine R.fin [4] ?_;refine Z9 ?_;refine Z63 ?_
 refine R.call Tryz.call80 (c80 (Ag e) (oid Hp.length 0) _ (by rw [An]; rfl)) ?_
 refine R.gtr ?_;refine R.fin [4, 17] ?_
 refine W.cond (fun ht17 => ?_) (fun ht17 => ?_)
 ·have hsh : Gr e = ([], 3) := by unfold Gr; rw [if_neg hnr, if_pos ht17]
  refine Z2 ?_;refine Z41 ?_;exact oy
 have hsh : Gr e = (Ag e, 0) := by unfold Gr; rw [if_neg hnr, if_neg (by rw [ht17]; simp)]
 refine I7 ?_;refine Z63 ?_
 refine R.callOwn (n := 0) (x := .cells 126 [.any, .any]) Tryz.call78 (c78 (Ag e) (oid Hp.length 0) _ (by rw [An]; rfl)) ?_
 refine bq ?_;refine AW.ret ?_;exact qm

structure QW (q : Qry) : Prop where
 ok : okE 61 q.whr
 size : sizeE q.whr ≤ 1048576
 rng : Cg F0 q.whr = true
 len : q.cols.length ≤ 1048576
 names : ∀ s ∈ q.cols, s.length ≤ 1048576
def noN (s : Str) : Bool := !(Di s)
def O3 (ks : List Str) : Int := if ks.any noN then (ks.findIdx noN : Int) else -1
theorem en {ks : List Str} {i : Nat} (h : i < ks.length) (hn : noN ks[i] = true) (hp : ∀ (j : Nat) (y : Str), j < i → ks[j]? = some y → ¬ noN y = true) : (i : Int) = O3 ks := by
 unfold O3
 rw [if_pos (List.any_eq_true.2 ⟨_, List.getElem_mem h, hn⟩)]
 congr 1
 refine (List.findIdx_eq h |>.2 ⟨hn, fun j hj => ?_⟩).symm
 have := hp j (ks[j]'(by omega)) hj (List.getElem?_eq_getElem (by omega))
 simpa using this
theorem Vu {ks : List Str} (hp : ∀ (j : Nat) (y : Str), ks[j]? = some y → ¬ noN y = true) : (-1 : Int) = O3 ks := by
 unfold O3
 rw [if_neg]
 intro h
 obtain ⟨y, hy, hn⟩ := List.any_eq_true.1 h
 obtain ⟨j, hj⟩ := List.getElem?_of_mem hy
 exact hp j y hj hn
theorem Zt (ks : List Str) : decide (0 ≤ O3 ks) = ks.any noN := by
 unfold O3
 cases ks.any noN <;> simp
theorem ke {α : Type} {p : α → Bool} (l : List α) : (!(l.any fun s => !(p s))) = l.all p := by
 induction l with
 | nil => rfl
 | cons a r ih => rw [List.any_cons, List.all_cons, ← ih]; cases p a <;> simp
theorem kg {q : Qry} (h : ((((q.all != ((q.cols.length : Int) == 0)) || decide ((12 : Int) < (q.cols.length : Int))) || decide (q.lim < -1)) || decide ((100000 : Int) < q.lim)) = true) : Dg q = false := if_pos h
theorem ki {q : Qry} (h : ((((q.all != ((q.cols.length : Int) == 0)) || decide ((12 : Int) < (q.cols.length : Int))) || decide (q.lim < -1)) || decide ((100000 : Int) < q.lim)) = false) : Dg q = ((q.cols.all Di) && (!(Ig q) || C0 q.whr)) := if_neg (by rw [h]; simp)
theorem kj {q : Qry} (h : ((((q.all != ((q.cols.length : Int) == 0)) || decide ((12 : Int) < (q.cols.length : Int))) || decide (q.lim < -1)) || decide ((100000 : Int) < q.lim)) = false) : Dg q = (!(q.cols.any noN) && (!(Ig q) || Bc q.whr)) := by rw [ki h, ← ke, Ez]; rfl
def La (q : Qry) : Bool := if decide ((20 : Int) < (q.cols.length : Int)) || Pk q.whr then true else q.cols.any fun s => decide ((100 : Int) < (s.length : Int))
theorem km {q : Qry} (h : (decide ((20 : Int) < (q.cols.length : Int)) || Pk q.whr) = true) : La q = true := if_pos h
theorem kn {q : Qry} (h : (decide ((20 : Int) < (q.cols.length : Int)) || Pk q.whr) = false) {s : Str} (hs : s ∈ q.cols) (hn : decide ((100 : Int) < (s.length : Int)) = true) : La q = true := by
 unfold La
 rw [if_neg (by rw [h]; simp)]
 exact List.any_eq_true.2 ⟨s, hs, hn⟩
theorem ko {q : Qry} (h : (decide ((20 : Int) < (q.cols.length : Int)) || Pk q.whr) = false) (hn : ∀ s ∈ q.cols, decide ((100 : Int) < (s.length : Int)) = false) : La q = false := by
 unfold La
 rw [if_neg (by rw [h]; simp), Bool.eq_false_iff]
 intro e
 obtain ⟨s, hs, h2⟩ := List.any_eq_true.1 e
 rw [hn s hs] at h2; cases h2
theorem Vw {α : Type} {l : List α} {P : α → Prop} {i : Nat} (h : i < l.length) (hx : ∀ y ∈ l.take i, P y) (hr : P l[i]) : ∀ y ∈ l.take (i + 1), P y := by
 intro y hy
 rw [List.take_succ_eq_append_getElem h, List.mem_append] at hy
 rcases hy with hy | hy
 ·exact hx y hy
 rw [List.mem_singleton] at hy; subst hy; exact hr
theorem Zu {α : Type} {l : List α} {P : α → Prop} {i : Nat} (h : l.length ≤ i) (hx : ∀ y ∈ l.take i, P y) : ∀ y ∈ l, P y := by rwa [List.take_of_length_le h] at hx
theorem c59 (s : Str) (hs : s.length ≤ 1048576) (Hp : List AObj) : AFun Tryz.prog 59 [A8 s] Hp (Al (noN s)) := by
 refine ACall.body [.tmp 2] [0] Tryz.func59 Tryz.ntmps59 (fun d => ?_)
 refine Z88 ?_;refine Z0 ?_;refine R.call Tryz.call60 (c60 s hs _) ?_;refine R.not ?_;exact bg

theorem c63 (ks : List Str) (hkl : ks.length ≤ 1048576) (hks : ∀ s ∈ ks, s.length ≤ 1048576) (Hp : List AObj) : AFun Tryz.prog 63 [Gm ks, .fn (.func 59) [] []] Hp (A4 (O3 ks)) := by
 refine ACall.body [.tmp 4] [0, 1] Tryz.func63 Tryz.ntmps63 (fun d => ?_)
 refine Y9 ?_;refine R.fin [0, 1, 7, 8] ?_
 refine AW.loopC (α := Nat) (fun x => ⟨19, A5 0 (Gm ks) (A5 1 (.fn (.func 59) [] []) (A5 7 (A4 ks.length) (A5 8 (A4 (x : Nat)) (fun _ => .any)))), Hp, [], [], none⟩) (fun x => x ≤ ks.length ∧ ∀ (j : Nat) (y : Str), j < x → ks[j]? = some y → ¬ noN y = true) (fun x => ks.length - x) (0) (by simp) (StLe.of_eq (by simp)) rfl (fun x hx => ?_)
 refine Z89 ?_;refine R.fin [0, 1, 7, 8, 9] ?_
 refine W.condX (fun ht9 => ?_) (fun ht9 => ?_)
 ·have hlt : x < ks.length := by simpa using ht9
  refine Z27 ?_;refine Z66 ?_;refine R.fin [0, 1, 5, 7, 8] ?_;refine Z29 ?_;refine Au ?_;refine R.indexAddr (x) (A8 ks[x]) jU jS (Bf hlt) ?_;refine Cp ?_;refine R.callV Tryz.call59 (c59 ks[x] (hks _ (List.getElem_mem hlt)) _) ?_;refine R.fin [0, 1, 5, 7, 8, 16] ?_
  refine W.cond (fun ht16 => ?_) (fun ht16 => ?_)
  ·refine Z66 ?_;refine Z36 ?_;refine Og ?_;exact K.fin (V.one V.tmp) ⟨by rw [en hlt ht16 hx.2], rfl⟩
  refine Mk ?_;exact oh
 refine Z54 ?_;refine Xz ?_;exact K.fin (V.one V.tmp) ⟨by rw [Vu (Ha (by simp at ht9; omega) hx.2)], rfl⟩

theorem c27 (ks : List Str) (hkl : ks.length ≤ 1048576) (hks : ∀ s ∈ ks, s.length ≤ 1048576) (Hp : List AObj) : AFun Tryz.prog 27 [Gm ks, .fn (.func 59) [] []] Hp (Al (ks.any noN)) := by
 refine ACall.body [.tmp 4] [0, 1] Tryz.func27 Tryz.ntmps27 (fun d => ?_)
 refine Z73 ?_;refine Z29 ?_;refine R.call Tryz.call63 (c63 ks hkl hks _) ?_;refine R.geq ?_;refine Ax ?_;refine Z36 ?_;exact K.fin (V.one V.tmp) ⟨by rw [← Zt]; try rfl, rfl⟩

theorem c30 (q : Qry) (h : QW q) (Hp : List AObj) : AFun Tryz.prog 30 [J4 q] Hp (Al (Ig q)) := by
 refine ACall.body [.tmp 2] [0] Tryz.func30 Tryz.ntmps30 (fun d => ?_)
 refine Of ?_;refine B9 ?_;refine b8 ?_;refine S6 ?_;refine R.wk 5 _ No ?_;refine R.call Tryz.call66 (c66 61 q.whr h.ok Ah _) ?_;refine R.not ?_;exact bg

theorem c25 (q : Qry) (h : QW q) (Hp : List AObj) : AFun Tryz.prog 25 [J4 q] Hp (Al (Dg q)) := by
 refine ACall.body [.tmp 2] [0] Tryz.func25 Tryz.ntmps25 (fun d => ?_)
 refine Of ?_;refine Z23 ?_;refine m6 ?_;refine Z60 ?_;refine R.len jU ?_;refine R.eql ?_;refine R.bneq jU ?_;refine Au ?_;refine G.fieldAddrRo (off := 1) jU Tryz.sizeOf22 ?_;refine G.loadRo jA ?_;refine G.len jU ?_;refine Mh ?_;refine Au ?_;refine m8 ?_;refine G.lss ?_;refine R.pickOr ?_;refine Au ?_;refine m8 ?_;refine Mh ?_;refine R.fin [1, 25] ?_
 refine W.cond (fun ht25 => ?_) (fun ht25 => ?_)
 ·rw [List.length_map] at ht25
  have e := kg ht25
  refine Z56 ?_;refine K.thR ?_;exact K.fin (V.one V.tmp) ⟨by rw [e] <;> rfl, rfl⟩
 rw [List.length_map] at ht25
 have e := kj ht25
 refine Lk ?_;refine Z60 ?_;refine R.call Tryz.call27 (c27 q.cols h.len h.names _) ?_;refine R.not ?_;refine Au ?_;refine G.loadRoN jA jS ?_;refine G.call Tryz.call30 (fun hB => c30 q h _) ?_;refine G.not ?_;refine G.move ?_;refine G.fieldAddrRo (off := 2) jU Tryz.sizeOf27 ?_;refine G.loadRoN jA jS ?_;refine G.call Tryz.call61 (fun hB => c61 61 q.whr h.ok (by decide) _) ?_;refine G.pickOr ?_;refine Z32 ?_;refine Z3 ?_;exact K.fin (V.one V.tmp) ⟨by rw [e] <;> rfl, rfl⟩

theorem c7 (q : Qry) (Hp : List AObj) : AFun Tryz.prog 7 [J4 q] Hp (Al (La q)) := by
 refine ACall.body [.tmp 2] [0] Tryz.func7 Tryz.ntmps7 (fun d => ?_)
 refine Of ?_;refine Z23 ?_;refine Z60 ?_;refine Uc ?_;refine Au ?_;refine G.fieldAddrRo (off := 2) jU Tryz.sizeOf27 ?_;refine G.loadRoN jA jS ?_;refine G.call Tryz.call17 (fun hB => c17 q.whr _) ?_;refine R.pickOr ?_;refine R.fin [1, 12] ?_
 refine W.cond (fun ht12 => ?_) (fun ht12 => ?_)
 ·rw [List.length_map] at ht12
  have e := km ht12
  refine Z56 ?_;refine K.thR ?_;exact ml
 rw [List.length_map] at ht12
 have hl20 : q.cols.length ≤ 20 := by
  simp only [Bool.or_eq_false_iff, decide_eq_false_iff_not] at ht12
  omega
 refine Z5 ?_;refine Um ?_;refine R.fin [1, 3] ?_
 refine AW.loopC (α := Nat) (fun x => ⟨27, A5 1 (.ro (qoC false q)) (A5 3 (A4 (x : Nat)) (fun _ => .any)), Hp, [], [], none⟩) (fun x => x ≤ q.cols.length ∧ ∀ s ∈ q.cols.take x, decide ((100 : Int) < (s.length : Int)) = false) (fun x => q.cols.length - x) (0) ⟨Nat.zero_le _, fun s hs => by simp at hs⟩ (StLe.of_eq (by simp)) rfl (fun x hx => ?_)
 refine Z9 ?_;refine Z60 ?_;refine ol ?_;refine R.fin [1, 3, 17] ?_
 refine W.cond (fun ht17 => ?_) (fun ht17 => ?_)
 ·have hlt : x < q.cols.length := by simpa using ht17
  refine Z5 ?_;refine Qr ?_;refine Z60 ?_;refine Au ?_;refine R.indexAddr (x) (A8 q.cols[x]) jU jS (Bf hlt) ?_;refine Cp ?_;refine Ua ?_;refine R.fin [1, 3, 26] ?_
  refine W.cond (fun ht26 => ?_) (fun ht26 => ?_)
  ·have e := kn ht12 (List.getElem_mem hlt) ht26
   refine Z56 ?_;refine Og ?_;exact ml
  refine Z17 ?_;refine Ui ?_;refine R.fin [1, 3] ?_;exact K.lpN (x + 1) ⟨hlt, Vw hlt hx.2 ht26⟩ (by omega) (StCut.of_eq rfl)
 have hxe : q.cols.length ≤ x := by simpa using ht17
 have e := ko ht12 (Zu hxe hx.2)
 refine Oj ?_;refine Z56 ?_;exact ml

/-! What is printed is parsed: queries. -/
structure QOk (q : Qry) : Prop where
 all : q.all = ((q.cols.length : Int) == 0)
 len : q.cols.length ≤ 12
 lo : -1 ≤ q.lim
 hi : q.lim ≤ 100000
 names : ∀ s ∈ q.cols, Di s = true
 tree : Ig q = true → C0 q.whr = true
theorem Zv {q : Qry} (h : Dg q = true) : QOk q := by
 unfold Dg at h
 split at h
 ·cases h
 rename_i h1
 simp only [Bool.or_eq_true, not_or, Bool.not_eq_true, decide_eq_false_iff_not, bne_eq_false_iff_eq] at h1
 obtain ⟨⟨⟨a, b⟩, c⟩, d⟩ := h1
 simp only [Bool.and_eq_true, Bool.or_eq_true, Bool.not_eq_true', List.all_eq_true] at h
 refine ⟨a, by omega, by omega, by omega, h.1, fun ha => ?_⟩
 rcases h.2 with h2 | h2
 ·rw [h2] at ha; cases ha
 exact h2
theorem Zw (a : Str) (r : List Str) : Px (a :: r) = a ++ Ko r := rfl
def X3 (q : Qry) : Str := if q.all then [42] else Px q.cols
def eo (q : Qry) : Str := if Ig q then nk ++ Ag q.whr else []
def kp (q : Qry) : Str := if q.lim != -1 then nl ++ Lib.itoa q.lim else []
def a1 (q : Qry) : Str := nj ++ X3 q
def a2 (q : Qry) : Str := a1 q ++ eo q
def a3 (q : Qry) : Str := a2 q ++ kp q
theorem Jz (q : Qry) : J3 q = a3 q ++ [59] := rfl
theorem Lb : ∀ r : List Str, Lib.joinTail [44, 32] r = Ko r
 | [] => rfl
 | a :: r => by
  show ([44, 32] ++ a) ++ Lib.joinTail [44, 32] r = _
  rw [Lb r]
  rfl
theorem Q6 (c : List Str) : Lib.join c [44, 32] = Px c := by
 cases c with
 | nil => rfl
 | cons a r => rw [Lib.join_cons, Lb, Zw]
theorem O4 : ∀ c : List Str, (∀ s ∈ c, s.length ≤ 1048576) → (Ko c).length ≤ c.length * 1048578
 | [], _ => Nat.zero_le _
 | a :: r, h => by
  have h1 := O4 r (fun s hs => h s (by simp [hs]))
  have h2 := h a (by simp)
  show (([44, 32] ++ a) ++ Ko r).length ≤ (r.length + 1) * 1048578
  simp only [List.length_append, List.length_cons, List.length_nil]
  omega
theorem Tq {c : List Str} (h : ∀ s ∈ c, s.length ≤ 1048576) : (Px c).length ≤ c.length * 1048578 := by
 have := O4 c h
 unfold Px
 rw [List.length_drop]
 omega
/-- query.Print: the text and the error. -/
def Lc (q : Qry) : Str × Int := if Dg q = true then (if decide ((4000 : Int) < ((J3 q).length : Int)) = true then ([], 3) else (J3 q, 0)) else ([], 1)
theorem kq {q : Qry} (h : Dg q = false) : Lc q = ([], 1) := if_neg (by rw [h]; simp)
theorem X4 {q : Qry} (h : Dg q = true) (h2 : decide ((4000 : Int) < ((J3 q).length : Int)) = true) : Lc q = ([], 3) := by unfold Lc; rw [if_pos h, if_pos h2]
theorem kr {q : Qry} (h : Dg q = true) (h2 : decide ((4000 : Int) < ((J3 q).length : Int)) = false) : Lc q = (J3 q, 0) := by unfold Lc; rw [if_pos h, if_neg (by rw [h2]; simp)]
theorem ep {q : Qry} (ha : Ig q = true) (h : 4000 < (Ag q.whr).length) : decide ((4000 : Int) < ((J3 q).length : Int)) = true := by
 rw [decide_eq_true_eq, Jz]
 unfold a3 a2 eo
 rw [if_pos ha]
 simp only [List.length_append]
 omega
theorem er {q : Qry} (hq : QOk q) (h : ∀ s ∈ q.cols, s.length ≤ 1048576) : (a1 q).length ≤ 13000000 := by
 have h1 := Tq h
 have h2 := hq.len
 unfold a1 X3 nj Jv
 split <;> simp only [List.length_append, List.length_cons, List.length_nil] <;> omega
theorem et {q : Qry} (hq : QOk q) (hg : Cg F0 q.whr = true) (h : ∀ s ∈ q.cols, s.length ≤ 1048576) : (a2 q).length ≤ 13200000 := by
 have h1 := er hq h
 unfold a2 eo nk Fv
 split
 ·rename_i ha
  have := Hr (hq.tree ha) hg
  simp only [List.length_append, List.length_cons, List.length_nil]
  omega
 simp only [List.length_append, List.length_nil]; omega
theorem X5 {q : Qry} (hq : QOk q) : (Lib.itoa q.lim).length ≤ 21 := Lib.itoa_length_le _ (by have := hq.lo; omega) (by have := hq.hi; omega)
theorem ny {q : Qry} (hq : QOk q) (hg : Cg F0 q.whr = true) (h : ∀ s ∈ q.cols, s.length ≤ 1048576) : (a3 q).length ≤ 13300000 := by
 have h1 := et hq hg h
 have h2 := X5 hq
 unfold a3 kp nl Fh
 split <;> simp only [List.length_append, List.length_cons, List.length_nil] <;> omega
theorem c16 (q : Qry) (h : QW q) (Hp : List AObj) : AFun Tryz.prog 16 [J4 q] Hp (.tup [A8 (Lc q).1, A4 (Lc q).2]) := by
 refine ACall.body [.tmp 2, .tmp 3] [0] Tryz.func16 Tryz.ntmps16 (fun d => ?_)
 refine Uo ?_;refine R.fin [1] ?_;refine Oe ?_;refine R.call Tryz.call25 (c25 q h _) ?_;refine R.not ?_;refine R.fin [1, 9] ?_
 refine W.cond (fun ht9 => ?_) (fun ht9 => ?_)
 ·have e := kq (q := q) (by simpa using ht9)
  refine Z2 ?_;refine Z41 ?_;exact p9
 have hr : Dg q = true := by simpa using ht9
 have hq := Zv hr
 have hb1 := er hq h.names
 have hb2 := et hq h.rng h.names
 have hb3 := ny hq h.rng h.names
 have hbl := X5 hq
 refine Z5 ?_;refine Z2 ?_;refine R.fin [1, 4] ?_
 refine W.join ⟨47, A5 1 (.ro (qoC false q)) (A5 4 (A8 (a1 q)) (fun _ => .any)), Hp, [], [], none⟩ ?_ ?_
 ·refine B9 ?_;refine m6 ?_;refine R.not ?_;refine R.fin [1, 4, 12] ?_
  refine W.cond (fun ht12 => ?_) (fun ht12 => ?_)
  ·have ha : q.all = false := by simpa using ht12
   have ej : ([115, 101, 108, 101, 99, 116, 32] : Str) ++ Lib.join q.cols [44, 32] = a1 q := by
    rw [Q6]
    unfold a1 X3
    rw [ha]
    rfl
   have hjl : (Lib.join q.cols [44, 32]).length ≤ 13000000 := by
    rw [Q6]
    have := Tq h.names
    have := hq.len
    omega
   refine AW.region ?_;refine Z60 ?_
   refine R.call Tryz.call43 (c43 q.cols [44, 32] (by have := h.len; omega) (by omega) _) ?_
   refine R.sadd ?_;refine Ax ?_;refine R.fin [1, 4] ?_;refine K.thJ ?_
   try simp only [List.cons_append, List.nil_append] at ej
   exact StLe.of_eq (by rw [ej] <;> rfl)
  have ha : q.all = true := by simpa using ht12
  have ej : ([115, 101, 108, 101, 99, 116, 32, 42] : Str) = a1 q := by
   unfold a1 X3
   rw [ha]
   rfl
  refine W.keep [1, 4] ?_;refine AW.skip ?_;refine K.thJ ?_
  try simp only [List.cons_append, List.nil_append] at ej
  exact StLe.of_eq (by rw [ej] <;> rfl)
 refine W.join ⟨47, A5 1 (.ro (qoC false q)) (A5 4 (A8 (a2 q)) (fun _ => .any)), Hp, [], [], none⟩ ?_ ?_
 ·refine Z57 ?_;refine R.call Tryz.call30 (c30 q h _) ?_;refine R.fin [1, 4, 18] ?_
  refine W.cond (fun ht18 => ?_) (fun ht18 => ?_)
  ·have hrw := hq.tree ht18
   have hpl := Hr hrw h.rng
   refine B9 ?_;refine b8 ?_;refine R.call Tryz.call44 (c44 61 q.whr h.ok (by decide) h.rng _) ?_;refine Jb ?_;refine R.fin [1, 4, 5, 6] ?_;refine Ll ?_;refine R.fin [1, 4, 5, 6, 26] ?_
   refine W.cond (fun ht26 => ?_) (fun ht26 => ?_)
   ·have hsm : Gr q.whr = ([], 3) ∧ 4000 < (Ag q.whr).length := by
     rcases Wv hrw with h1 | h1
     ·exact h1
     rw [h1.1] at ht26; cases ht26
    have e := X4 hr (ep ht18 hsm.2)
    rw [hsm.1]
    refine Z0 ?_;refine bq ?_;refine Z11 ?_;refine K.thR ?_;exact mm
   have hsm : Gr q.whr = (Ag q.whr, 0) := by
    rcases Wv hrw with h1 | h1
    ·rw [h1.1] at ht26; cases ht26
    exact h1.1
   rw [hsm]
   have ej2 : a1 q ++ (([32, 119, 104, 101, 114, 101, 32] : Str) ++ Ag q.whr) = a2 q := by
    unfold a2 eo
    rw [ht18]
    rfl
   refine c8 ?_;refine R.sadd ?_;refine R.sadd ?_;refine Ax ?_;refine R.fin [1, 4] ?_;refine K.thJ ?_
   try simp only [List.cons_append, List.nil_append] at ej2
   exact StLe.of_eq (by rw [ej2] <;> rfl)
  have ej2 : a1 q = a2 q := by
   unfold a2 eo
   rw [ht18, if_neg (by simp), List.append_nil]
  refine W.keep [1, 4] ?_;refine AW.skip ?_;refine K.thJ ?_
  try simp only [List.cons_append, List.nil_append] at ej2
  exact StLe.of_eq (by rw [ej2] <;> rfl)
 refine W.join ⟨47, A5 4 (A8 (a3 q)) (fun _ => .any), Hp, [], [], none⟩ ?_ ?_
 ·refine B9 ?_;refine m4 ?_;refine R.neq ?_;refine R.fin [1, 4, 34] ?_
  refine W.cond (fun ht34 => ?_) (fun ht34 => ?_)
  ·have ej3 : a2 q ++ (([32, 108, 105, 109, 105, 116, 32] : Str) ++ Lib.itoa q.lim) = a3 q := by
    unfold a3 kp
    rw [ht34]
    rfl
   refine Z26 ?_;refine m4 ?_
   refine R.call Tryz.call45 (c45 q.lim (by have := hq.lo; omega) (by have := hq.hi; omega) _) ?_
   refine R.sadd ?_;refine R.sadd ?_;refine Ax ?_;refine R.fin [4] ?_;refine K.thJ ?_
   try simp only [List.cons_append, List.nil_append] at ej3
   exact StLe.of_eq (by rw [ej3] <;> rfl)
  have ej3 : a2 q = a3 q := by
   unfold a3 kp
   rw [ht34, if_neg (by simp), List.append_nil]
  refine W.keep [4] ?_;refine AW.skip ?_;refine K.thJ ?_
  try simp only [List.cons_append, List.nil_append] at ej3
  exact StLe.of_eq (by rw [ej3] <;> rfl)
 refine Z9 ?_;refine R.sadd ?_;refine Ax ?_;refine R.fin [4] ?_;refine Z0 ?_;refine Ua ?_;refine R.fin [4, 45] ?_
 refine W.cond (fun ht45 => ?_) (fun ht45 => ?_)
 ·rw [← Jz] at ht45
  have e := X4 hr ht45
  refine Z2 ?_;refine Z41 ?_;exact p9
 rw [← Jz] at ht45
 have e := kr hr ht45
 rw [← Jz]
 refine I7 ?_;refine bq ?_;refine AW.ret ?_;exact mm

def qaT : Str := [115, 101, 108, 101, 99, 116, 32, 97, 44, 116, 32, 119, 104, 101, 114, 101, 32, 97, 62, 51, 32, 108, 105, 109, 105, 116, 32, 50, 59]
def qaP : Str := [115, 101, 108, 101, 99, 116, 32, 97, 44, 32, 116, 32, 119, 104, 101, 114, 101, 32, 97, 32, 62, 32, 51, 32, 108, 105, 109, 105, 116, 32, 50, 59]
def qaQ : Qry := ⟨false, [[97], [116]], Eu [62] (D8 [97]) (Fs ⟨1, 3, []⟩), 2⟩
theorem eu : Fw qaT = (qaQ, 0, 0) := by kernel_rfl
theorem kt : Lc qaQ = (qaP, 0) := by kernel_rfl
theorem ew : C0 qaQ.whr = true := by kernel_rfl
theorem s0 : QW qaQ := by
 obtain ⟨h1, h2⟩ := Zs ew
 exact ⟨Dx (by decide) h1, by omega, by kernel_rfl, by decide, by decide⟩
theorem s6 (Hp : List AObj) : AFun Tryz.prog 15 [A8 qaT] Hp (.tup [J4 qaQ, .agg [A4 0, A4 0]]) := by
 have := c6 qaT (by decide) Hp
 rw [eu] at this
 exact this
theorem s7 (Hp : List AObj) : AFun Tryz.prog 16 [J4 qaQ] Hp (.tup [A8 qaP, A4 0]) := by
 have := c16 qaQ s0 Hp
 rw [kt] at this
 exact this
theorem s8 {q : Qry} (h : La q = false) (hg : Cg F0 q.whr = true) : QW q := by
 unfold La at h
 split at h
 ·cases h
 rename_i h1
 simp only [Bool.or_eq_true, decide_eq_true_eq, not_or, Bool.not_eq_true] at h1
 have hs := j8 h1.2
 refine ⟨hs.ok, by have := hs.size; omega, hg, by omega, fun s hs => ?_⟩
 rw [Bool.eq_false_iff] at h
 have : ¬ ((100 : Int) < (s.length : Int)) := fun e => h (List.any_eq_true.2 ⟨s, hs, by simpa using e⟩)
 omega
theorem c5 (Hp : List AObj) : AFun Tryz.prog 6 [] Hp (Al true) := by
 refine ACall.body [.tmp 0] [] Tryz.func6 Tryz.ntmps6 (fun d => ?_)
 refine Z2 ?_;refine R.fin [] ?_;refine B9 ?_;refine R.call Tryz.call15 (s6 _) ?_;refine Z62 ?_;refine R.alloc jZ ?_;refine Z16 ?_;refine Dh ?_;refine R.fin [1, 2] ?_;refine Z28 ?_;refine R.call Tryz.call16 (s7 _) ?_;refine Jb ?_;refine R.fin [2, 3, 4] ?_;refine B9 ?_;refine iq ?_;refine Im ?_;refine Y7 ?_;refine G.eql ?_;refine Ue ?_;refine G.seql ?_;refine Z32 ?_;refine R.fin [0] ?_;exact me

abbrev Kr (r : Rs) : AV := .tup [Bl r.1, A4 r.2]
abbrev X6 (l : List Int) : AV := .slice false 1 (l.map A4)
abbrev O5 (c : List Col) (l : List Val) : AV := .agg [C3 c, Dp l]
theorem um (e : Int) (Hp : List AObj) : AFun Tryz.prog 157 [A4 e] Hp (Kr (Bh e)) := by
 refine ACall.body [.cell 2 24, .tmp 3] [0] Tryz.func157 Tryz.ntmps157 (fun d => ?_)
 refine S3 ?_;refine R.fin [0, 2] ?_;refine mg ?_;refine Au ?_;refine Qn ?_;refine AW.ret ?_;exact K.fin (V.two (V.cellN jA jS) V.tmp)

theorem un (n e : Int) (Hp : List AObj) : AFun Tryz.prog 224 [A4 n, A4 e] Hp (Kr (Eb (n, e))) := by
 refine ACall.body [.cell 4 24, .tmp 5] [0, 1] Tryz.func224 Tryz.ntmps224 (fun d => ?_)
 refine S3 ?_;refine R.fin [0, 1, 4] ?_;refine Ll ?_;refine R.fin [0, 1, 4, 7] ?_
 refine W.cond (fun ht7 => ?_) (fun ht7 => ?_)
 ·have hw : Eb (n, e) = Bh e := if_pos ht7
  refine Z0 ?_;refine Z43 ?_;refine Mj ?_;exact qn
 have hw : Eb (n, e) = (⟨1, n, []⟩, 0) := if_neg (by rw [ht7]; simp)
 refine I7 ?_;refine R.call Tryz.call197 (mu _ _) ?_;refine Dh ?_;refine Z21 ?_;exact qn

theorem Tr {vs : List Val} {ks : List Int} (hl : ks.length ≤ vs.length) {x : Nat} (hk : x < ks.length) (hx : Cl vs ks = Cl (vs.drop x) (ks.drop x)) : Cl vs ks = ((vs[x].kind == ks[x]) && Cl (vs.drop (x + 1)) (ks.drop (x + 1))) := by
 rw [hx, List.drop_eq_getElem_cons hk, List.drop_eq_getElem_cons (show x < vs.length by omega), Cl]
theorem ey (vs : List Val) (ks : List Int) (hks : ks.length ≤ vs.length) (hk2 : ks.length ≤ 1048576) (Hp : List AObj) : AFun Tryz.prog 223 [Dp vs, X6 ks] Hp (Al (Cl vs ks)) := by
 refine ACall.body [.tmp 4] [0, 1] Tryz.func223 Tryz.ntmps223 (fun d => ?_)
 refine Y9 ?_;refine R.fin [0, 7, 8, 9] ?_
 refine AW.loopC (α := Nat) (fun x => ⟨22, A5 0 (Dp vs) (A5 7 (X6 ks) (A5 8 (A4 (ks.length : Nat)) (A5 9 (A4 (x : Nat)) (fun _ => .any)))), Hp, [], [], none⟩) (fun x => x ≤ ks.length ∧ Cl vs ks = Cl (vs.drop x) (ks.drop x)) (fun x => ks.length - x) (0) ⟨Nat.zero_le _, rfl⟩ (StLe.of_eq (by simp)) rfl (fun x hx => ?_)
 refine Z89 ?_;refine R.fin [0, 7, 8, 9, 10] ?_
 refine W.condX (fun ht10 => ?_) (fun ht10 => ?_)
 ·have hlt : x < ks.length := by simpa using ht10
  have hls : x < vs.length := by omega
  have hst := Tr hks hlt hx.2
  refine Gd ?_;refine R.indexAddr (x) (A4 ks[x]) jU jS (Bf hlt) ?_;refine Cp ?_;refine Z14 ?_;refine R.fin [0, 5, 6, 7, 8, 9] ?_;refine Z29 ?_;refine R.indexAddr (x) (Bl vs[x]) jU jS (Bf hls) ?_;refine Z15 ?_;refine Au ?_;refine R.neq ?_;refine R.fin [0, 7, 8, 9, 20] ?_
  refine W.cond (fun ht20 => ?_) (fun ht20 => ?_)
  ·have hm : Cl vs ks = false := by rw [hst]; simp only [bne_iff_ne, ne_eq] at ht20; simp [ht20]
   exact i7
  have hn : Cl vs ks = Cl (vs.drop (x + 1)) (ks.drop (x + 1)) := by rw [hst]; simp only [bne_eq_false_iff_eq] at ht20; simp [ht20]
  refine Mk ?_;refine R.fin [0, 7, 8, 9] ?_;exact oz
 have hxe : ks.length ≤ x := by simpa using ht10
 have hm : Cl vs ks = true := by rw [hx.2, List.drop_of_length_le hxe]; cases vs.drop x <;> rfl
 refine Z54 ?_;exact Y2

theorem uo (t : Str) (c : Int) (Hp : List AObj) : AFun Tryz.prog 237 [A8 t, A4 c] Hp (.tup [Al (A6 t c).1, Al (A6 t c).2]) := by
 refine ACall.body [.tmp 4, .tmp 5] [0, 1] Tryz.func237 Tryz.ntmps237 (fun d => ?_)
 refine Up ?_;refine Z9 ?_;refine R.fin [1, 6] ?_;refine Es ?_;refine Z19 ?_;refine R.fin [1, 6, 7] ?_
 refine W.cond (fun ht7 => ?_) (fun ht7 => ?_)
 ·refine Z0 ?_;refine Z22 ?_;refine Oi ?_
  first | (by_cases e0 : A6 t c = (c == 0, true); exact K.fin (V.two V.tmp V.tmp) ⟨by rw [e0]; try rfl, rfl⟩; exfalso; refine e0 ?_; clear e0; simp_all [A6]; done) | (by_cases e0 : A6 t c = (c != 0, true); exact K.fin (V.two V.tmp V.tmp) ⟨by rw [e0]; try rfl, rfl⟩; exfalso; refine e0 ?_; clear e0; simp_all [A6]; done) | (by_cases e0 : A6 t c = (decide (c < 0), true); exact K.fin (V.two V.tmp V.tmp) ⟨by rw [e0]; try rfl, rfl⟩; exfalso; refine e0 ?_; clear e0; simp_all [A6]; done) | (by_cases e0 : A6 t c = (decide (c ≤ 0), true); exact K.fin (V.two V.tmp V.tmp) ⟨by rw [e0]; try rfl, rfl⟩; exfalso; refine e0 ?_; clear e0; simp_all [A6]; done) | (by_cases e0 : A6 t c = (decide (0 < c), true); exact K.fin (V.two V.tmp V.tmp) ⟨by rw [e0]; try rfl, rfl⟩; exfalso; refine e0 ?_; clear e0; simp_all [A6]; done) | (by_cases e0 : A6 t c = (decide (0 ≤ c), true); exact K.fin (V.two V.tmp V.tmp) ⟨by rw [e0]; try rfl, rfl⟩; exfalso; refine e0 ?_; clear e0; simp_all [A6]; done) | (by_cases e0 : A6 t c = (false, false); exact K.fin (V.two V.tmp V.tmp) ⟨by rw [e0]; try rfl, rfl⟩; exfalso; refine e0 ?_; clear e0; simp_all [A6]; done)
 refine Z19 ?_;refine R.fin [1, 6, 11] ?_
 refine W.cond (fun ht11 => ?_) (fun ht11 => ?_)
 ·refine Z0 ?_;refine R.neq ?_;refine Qt ?_
  first | (by_cases e0 : A6 t c = (c == 0, true); exact K.fin (V.two V.tmp V.tmp) ⟨by rw [e0]; try rfl, rfl⟩; exfalso; refine e0 ?_; clear e0; simp_all [A6]; done) | (by_cases e0 : A6 t c = (c != 0, true); exact K.fin (V.two V.tmp V.tmp) ⟨by rw [e0]; try rfl, rfl⟩; exfalso; refine e0 ?_; clear e0; simp_all [A6]; done) | (by_cases e0 : A6 t c = (decide (c < 0), true); exact K.fin (V.two V.tmp V.tmp) ⟨by rw [e0]; try rfl, rfl⟩; exfalso; refine e0 ?_; clear e0; simp_all [A6]; done) | (by_cases e0 : A6 t c = (decide (c ≤ 0), true); exact K.fin (V.two V.tmp V.tmp) ⟨by rw [e0]; try rfl, rfl⟩; exfalso; refine e0 ?_; clear e0; simp_all [A6]; done) | (by_cases e0 : A6 t c = (decide (0 < c), true); exact K.fin (V.two V.tmp V.tmp) ⟨by rw [e0]; try rfl, rfl⟩; exfalso; refine e0 ?_; clear e0; simp_all [A6]; done) | (by_cases e0 : A6 t c = (decide (0 ≤ c), true); exact K.fin (V.two V.tmp V.tmp) ⟨by rw [e0]; try rfl, rfl⟩; exfalso; refine e0 ?_; clear e0; simp_all [A6]; done) | (by_cases e0 : A6 t c = (false, false); exact K.fin (V.two V.tmp V.tmp) ⟨by rw [e0]; try rfl, rfl⟩; exfalso; refine e0 ?_; clear e0; simp_all [A6]; done)
 refine Z19 ?_;refine R.fin [1, 6, 15] ?_
 refine W.cond (fun ht15 => ?_) (fun ht15 => ?_)
 ·refine Z0 ?_;refine R.lss ?_;refine Qt ?_
  first | (by_cases e0 : A6 t c = (c == 0, true); exact K.fin (V.two V.tmp V.tmp) ⟨by rw [e0]; try rfl, rfl⟩; exfalso; refine e0 ?_; clear e0; simp_all [A6]; done) | (by_cases e0 : A6 t c = (c != 0, true); exact K.fin (V.two V.tmp V.tmp) ⟨by rw [e0]; try rfl, rfl⟩; exfalso; refine e0 ?_; clear e0; simp_all [A6]; done) | (by_cases e0 : A6 t c = (decide (c < 0), true); exact K.fin (V.two V.tmp V.tmp) ⟨by rw [e0]; try rfl, rfl⟩; exfalso; refine e0 ?_; clear e0; simp_all [A6]; done) | (by_cases e0 : A6 t c = (decide (c ≤ 0), true); exact K.fin (V.two V.tmp V.tmp) ⟨by rw [e0]; try rfl, rfl⟩; exfalso; refine e0 ?_; clear e0; simp_all [A6]; done) | (by_cases e0 : A6 t c = (decide (0 < c), true); exact K.fin (V.two V.tmp V.tmp) ⟨by rw [e0]; try rfl, rfl⟩; exfalso; refine e0 ?_; clear e0; simp_all [A6]; done) | (by_cases e0 : A6 t c = (decide (0 ≤ c), true); exact K.fin (V.two V.tmp V.tmp) ⟨by rw [e0]; try rfl, rfl⟩; exfalso; refine e0 ?_; clear e0; simp_all [A6]; done) | (by_cases e0 : A6 t c = (false, false); exact K.fin (V.two V.tmp V.tmp) ⟨by rw [e0]; try rfl, rfl⟩; exfalso; refine e0 ?_; clear e0; simp_all [A6]; done)
 refine Z19 ?_;refine R.fin [1, 6, 19] ?_
 refine W.cond (fun ht19 => ?_) (fun ht19 => ?_)
 ·refine Z0 ?_;refine R.leq ?_;refine Qt ?_
  first | (by_cases e0 : A6 t c = (c == 0, true); exact K.fin (V.two V.tmp V.tmp) ⟨by rw [e0]; try rfl, rfl⟩; exfalso; refine e0 ?_; clear e0; simp_all [A6]; done) | (by_cases e0 : A6 t c = (c != 0, true); exact K.fin (V.two V.tmp V.tmp) ⟨by rw [e0]; try rfl, rfl⟩; exfalso; refine e0 ?_; clear e0; simp_all [A6]; done) | (by_cases e0 : A6 t c = (decide (c < 0), true); exact K.fin (V.two V.tmp V.tmp) ⟨by rw [e0]; try rfl, rfl⟩; exfalso; refine e0 ?_; clear e0; simp_all [A6]; done) | (by_cases e0 : A6 t c = (decide (c ≤ 0), true); exact K.fin (V.two V.tmp V.tmp) ⟨by rw [e0]; try rfl, rfl⟩; exfalso; refine e0 ?_; clear e0; simp_all [A6]; done) | (by_cases e0 : A6 t c = (decide (0 < c), true); exact K.fin (V.two V.tmp V.tmp) ⟨by rw [e0]; try rfl, rfl⟩; exfalso; refine e0 ?_; clear e0; simp_all [A6]; done) | (by_cases e0 : A6 t c = (decide (0 ≤ c), true); exact K.fin (V.two V.tmp V.tmp) ⟨by rw [e0]; try rfl, rfl⟩; exfalso; refine e0 ?_; clear e0; simp_all [A6]; done) | (by_cases e0 : A6 t c = (false, false); exact K.fin (V.two V.tmp V.tmp) ⟨by rw [e0]; try rfl, rfl⟩; exfalso; refine e0 ?_; clear e0; simp_all [A6]; done)
 refine Z19 ?_;refine R.fin [1, 6, 23] ?_
 refine W.cond (fun ht23 => ?_) (fun ht23 => ?_)
 ·refine Z0 ?_;refine R.gtr ?_;refine Qt ?_
  first | (by_cases e0 : A6 t c = (c == 0, true); exact K.fin (V.two V.tmp V.tmp) ⟨by rw [e0]; try rfl, rfl⟩; exfalso; refine e0 ?_; clear e0; simp_all [A6]; done) | (by_cases e0 : A6 t c = (c != 0, true); exact K.fin (V.two V.tmp V.tmp) ⟨by rw [e0]; try rfl, rfl⟩; exfalso; refine e0 ?_; clear e0; simp_all [A6]; done) | (by_cases e0 : A6 t c = (decide (c < 0), true); exact K.fin (V.two V.tmp V.tmp) ⟨by rw [e0]; try rfl, rfl⟩; exfalso; refine e0 ?_; clear e0; simp_all [A6]; done) | (by_cases e0 : A6 t c = (decide (c ≤ 0), true); exact K.fin (V.two V.tmp V.tmp) ⟨by rw [e0]; try rfl, rfl⟩; exfalso; refine e0 ?_; clear e0; simp_all [A6]; done) | (by_cases e0 : A6 t c = (decide (0 < c), true); exact K.fin (V.two V.tmp V.tmp) ⟨by rw [e0]; try rfl, rfl⟩; exfalso; refine e0 ?_; clear e0; simp_all [A6]; done) | (by_cases e0 : A6 t c = (decide (0 ≤ c), true); exact K.fin (V.two V.tmp V.tmp) ⟨by rw [e0]; try rfl, rfl⟩; exfalso; refine e0 ?_; clear e0; simp_all [A6]; done) | (by_cases e0 : A6 t c = (false, false); exact K.fin (V.two V.tmp V.tmp) ⟨by rw [e0]; try rfl, rfl⟩; exfalso; refine e0 ?_; clear e0; simp_all [A6]; done)
 refine Z19 ?_;refine R.fin [1, 27] ?_
 refine W.cond (fun ht27 => ?_) (fun ht27 => ?_)
 ·refine Z0 ?_;refine R.geq ?_;refine Qt ?_
  first | (by_cases e0 : A6 t c = (c == 0, true); exact K.fin (V.two V.tmp V.tmp) ⟨by rw [e0]; try rfl, rfl⟩; exfalso; refine e0 ?_; clear e0; simp_all [A6]; done) | (by_cases e0 : A6 t c = (c != 0, true); exact K.fin (V.two V.tmp V.tmp) ⟨by rw [e0]; try rfl, rfl⟩; exfalso; refine e0 ?_; clear e0; simp_all [A6]; done) | (by_cases e0 : A6 t c = (decide (c < 0), true); exact K.fin (V.two V.tmp V.tmp) ⟨by rw [e0]; try rfl, rfl⟩; exfalso; refine e0 ?_; clear e0; simp_all [A6]; done) | (by_cases e0 : A6 t c = (decide (c ≤ 0), true); exact K.fin (V.two V.tmp V.tmp) ⟨by rw [e0]; try rfl, rfl⟩; exfalso; refine e0 ?_; clear e0; simp_all [A6]; done) | (by_cases e0 : A6 t c = (decide (0 < c), true); exact K.fin (V.two V.tmp V.tmp) ⟨by rw [e0]; try rfl, rfl⟩; exfalso; refine e0 ?_; clear e0; simp_all [A6]; done) | (by_cases e0 : A6 t c = (decide (0 ≤ c), true); exact K.fin (V.two V.tmp V.tmp) ⟨by rw [e0]; try rfl, rfl⟩; exfalso; refine e0 ?_; clear e0; simp_all [A6]; done) | (by_cases e0 : A6 t c = (false, false); exact K.fin (V.two V.tmp V.tmp) ⟨by rw [e0]; try rfl, rfl⟩; exfalso; refine e0 ?_; clear e0; simp_all [A6]; done)
 refine Z17 ?_;refine Z2 ?_;refine Z21 ?_
 first | (by_cases e0 : A6 t c = (c == 0, true); exact K.fin (V.two V.tmp V.tmp) ⟨by rw [e0]; try rfl, rfl⟩; exfalso; refine e0 ?_; clear e0; simp_all [A6]; done) | (by_cases e0 : A6 t c = (c != 0, true); exact K.fin (V.two V.tmp V.tmp) ⟨by rw [e0]; try rfl, rfl⟩; exfalso; refine e0 ?_; clear e0; simp_all [A6]; done) | (by_cases e0 : A6 t c = (decide (c < 0), true); exact K.fin (V.two V.tmp V.tmp) ⟨by rw [e0]; try rfl, rfl⟩; exfalso; refine e0 ?_; clear e0; simp_all [A6]; done) | (by_cases e0 : A6 t c = (decide (c ≤ 0), true); exact K.fin (V.two V.tmp V.tmp) ⟨by rw [e0]; try rfl, rfl⟩; exfalso; refine e0 ?_; clear e0; simp_all [A6]; done) | (by_cases e0 : A6 t c = (decide (0 < c), true); exact K.fin (V.two V.tmp V.tmp) ⟨by rw [e0]; try rfl, rfl⟩; exfalso; refine e0 ?_; clear e0; simp_all [A6]; done) | (by_cases e0 : A6 t c = (decide (0 ≤ c), true); exact K.fin (V.two V.tmp V.tmp) ⟨by rw [e0]; try rfl, rfl⟩; exfalso; refine e0 ?_; clear e0; simp_all [A6]; done) | (by_cases e0 : A6 t c = (false, false); exact K.fin (V.two V.tmp V.tmp) ⟨by rw [e0]; try rfl, rfl⟩; exfalso; refine e0 ?_; clear e0; simp_all [A6]; done)

theorem s9 (a b : Int) (Hp : List AObj) : AFun Tryz.prog 241 [A4 a, A4 b] Hp (.tup [A4 (Hl a b).1, A4 (Hl a b).2]) := by
 refine ACall.body [.tmp 4, .tmp 5] [0, 1] Tryz.func241 Tryz.ntmps241 (fun d => ?_)
 refine Up ?_;refine Z29 ?_;refine R.sub ?_;refine Ax ?_;refine R.fin [0, 1, 6] ?_;refine Mg ?_;refine R.xor ?_;refine Z76 ?_;refine R.xor ?_;refine R.and ?_;refine R.lss ?_;refine R.fin [6, 17] ?_
 refine W.cond (fun ht17 => ?_) (fun ht17 => ?_)
 ·have hm : Hl a b = (0, 4) := if_pos ht17
  refine Z2 ?_;exact pm
 have hm : Hl a b = (IntKind.i64.wrap (a - b), 0) := if_neg (by rw [ht17]; simp)
 refine Z5 ?_;refine Z66 ?_;exact pw

theorem uq (a b : Int) (Hp : List AObj) : AFun Tryz.prog 248 [A4 a, A4 b] Hp (.tup [A4 (Nq a b).1, A4 (Nq a b).2]) := by
 refine ACall.body [.tmp 4, .tmp 5] [0, 1] Tryz.func248 Tryz.ntmps248 (fun d => ?_)
 refine Up ?_;refine Z29 ?_;refine R.add ?_;refine Ax ?_;refine R.fin [0, 1, 6] ?_;refine Mg ?_;refine R.xor ?_;refine Z76 ?_;refine R.xor ?_;refine R.and ?_;refine R.lss ?_;refine R.fin [6, 17] ?_
 refine W.cond (fun ht17 => ?_) (fun ht17 => ?_)
 ·have hm : Nq a b = (0, 4) := if_pos ht17
  refine Z2 ?_;exact pm
 have hm : Nq a b = (IntKind.i64.wrap (a + b), 0) := if_neg (by rw [ht17]; simp)
 refine Z5 ?_;refine Z66 ?_;exact pw

theorem ur (a : Int) (Hp : List AObj) : AFun Tryz.prog 225 [A4 a] Hp (.tup [A4 (Hl 0 a).1, A4 (Hl 0 a).2]) := by
 refine ACall.body [.tmp 2, .tmp 3] [0] Tryz.func225 Tryz.ntmps225 (fun d => ?_)
 refine Z2 ?_;refine Ax ?_;refine R.fin [0] ?_;refine Z0 ?_;refine R.call Tryz.call241 (s9 _ _ _) ?_;refine Z8 ?_;refine bq ?_;refine AW.ret ?_;exact K.fin (V.two V.tmp V.tmp)

theorem sa (a : Int) (Hp : List AObj) : AFun Tryz.prog 258 [A4 a] Hp (ce (L6 a)) := by
 refine ACall.body [.tmp 2] [0] Tryz.func258 Tryz.ntmps258 (fun d => ?_)
 refine Z88 ?_;refine Ul ?_;refine R.fin [0, 4] ?_
 refine W.cond (fun ht4 => ?_) (fun ht4 => ?_)
 ·have hm : L6 a = IntKind.u64.wrap (0 - IntKind.u64.wrap a) := if_pos ht4
  refine Z0 ?_;refine Ln ?_;refine R.neg ?_;refine Z82 ?_;exact Z47
 have hm : L6 a = IntKind.u64.wrap a := if_neg (by rw [ht4]; simp)
 refine I7 ?_;refine Ln ?_;refine Z82 ?_;exact Yc

theorem nz (n : Int) : 0 ≤ IntKind.u64.wrap n ∧ IntKind.u64.wrap n < 18446744073709551616 := by rw [IntKind.wrap_u64]; omega
theorem f6 (a : Int) : 0 ≤ L6 a ∧ L6 a < 18446744073709551616 := by
 unfold L6
 split <;> exact nz _
theorem ut (x y : Int) (hx : 0 ≤ x ∧ x < 18446744073709551616) (hy : 0 ≤ y ∧ y < 18446744073709551616) (Hp : List AObj) : AFun Tryz.prog 257 [ce x, ce y] Hp (.tup [ce (x * y / 18446744073709551616), ce (x * y % 18446744073709551616)]) := by
 obtain ⟨m, rfl⟩ := Int.eq_ofNat_of_zero_le hx.1
 obtain ⟨n, rfl⟩ := Int.eq_ofNat_of_zero_le hy.1
 refine AFun.lib (xs := [.int .u64 m, .int .u64 n]) (v := .tuple #[.int .u64 ((m * n / 18446744073709551616 : Nat) : Int), .int .u64 ((m * n % 18446744073709551616 : Nat) : Int)]) (fun G w => Ga rfl (fun i y u hy hu => ?_)) (fun w hg => ?_)
 ·match i with
  | 0 => simp at hy hu; subst hy; subst hu; exact .v _ _
  | 1 => simp at hy hu; subst hy; subst hu; exact .v _ _
  | i + 2 => simp at hy
 refine (Any.bits_Mul64 Tryz.lays264 m n (by omega) (by omega) w).mono ?_
 rintro e w' ⟨rfl, rfl⟩
 exact ⟨rfl, Go.RowKit.Below.refl _ _⟩
theorem uu (s t : Str) (Hp : List AObj) : AFun Tryz.prog 247 [A8 s, A8 t] Hp (A4 (Lib.compareBytes s t)) := by
 refine AFun.lib (xs := [sv s, sv t]) (v := .int .i64 (Lib.compareBytes s t)) (fun G w => .v _ _) (fun w hg => ?_)
 refine (Any.strings_Compare Tryz.lays106 ⟨s.toArray⟩ ⟨t.toArray⟩ w).mono ?_
 rintro e w' ⟨rfl, rfl⟩
 exact ⟨rfl, Go.RowKit.Below.refl _ _⟩
theorem uv (a b : Int) (Hp : List AObj) : AFun Tryz.prog 249 [A4 a, A4 b] Hp (.tup [A4 (Iv a b).1, A4 (Iv a b).2]) := by
 refine ACall.body [.tmp 4, .tmp 5] [0, 1] Tryz.func249 Tryz.ntmps249 (fun d => ?_)
 refine Up ?_;refine Z0 ?_;refine R.call Tryz.call258 (sa _ _) ?_;refine Au ?_;refine R.call Tryz.call258 (sa _ _) ?_;refine R.call Tryz.call257 (ut _ _ (f6 a) (f6 b) _) ?_;refine Jb ?_;refine R.fin [0, 1, 6, 7] ?_;refine Z0 ?_;refine R.lss ?_;refine Au ?_;refine R.lss ?_;refine R.bneq jU ?_;refine Ax ?_;refine R.fin [6, 7, 8] ?_;refine Z2 ?_;refine R.fin [6, 7, 8, 9] ?_;refine Z9 ?_;refine R.fin [6, 7, 8, 9, 23] ?_
 refine W.cond (fun ht23 => ?_) (fun ht23 => ?_)
 ·refine Z26 ?_;refine R.add ?_;refine Ax ?_;refine R.fin [6, 7, 8, 9] ?_;refine K.thN ?_;refine Gd ?_;refine R.gtr ?_;refine K6 ?_;refine Mh ?_;refine Ax ?_;refine R.fin [7, 8, 26] ?_
  refine W.cond (fun ht26 => ?_) (fun ht26 => ?_)
  ·refine Z2 ?_;refine Oi ?_
   exact K.fin (V.two V.tmp V.tmp) ⟨by
    have w1 : IntKind.u64.wrap 9223372036854775808 = 9223372036854775808 := rfl
    simp_all [Iv]
    try first | (rw [if_pos ht26]; simp; done) | (rw [if_neg (by omega)]; simp; done), rfl⟩
  refine Z66 ?_;refine R.fin [7, 34] ?_
  refine W.cond (fun ht34 => ?_) (fun ht34 => ?_)
  ·refine Z0 ?_;refine R.neg ?_;refine Ln ?_;refine Qt ?_
   exact K.fin (V.two V.tmp V.tmp) ⟨by
    have w1 : IntKind.u64.wrap 9223372036854775808 = 9223372036854775808 := rfl
    simp_all [Iv]
    try first | (rw [if_pos ht26]; simp; done) | (rw [if_neg (by omega)]; simp; done), rfl⟩
  refine Z17 ?_;refine Z0 ?_;refine Ln ?_;refine Z90 ?_
  exact K.fin (V.two V.tmp V.tmp) ⟨by
   have w1 : IntKind.u64.wrap 9223372036854775808 = 9223372036854775808 := rfl
   simp_all [Iv]
   try first | (rw [if_pos ht26]; simp; done) | (rw [if_neg (by omega)]; simp; done), rfl⟩
 refine Z5 ?_;refine Gd ?_;refine R.gtr ?_;refine K6 ?_;refine Mh ?_;refine Ax ?_;refine R.fin [7, 8, 26] ?_
 refine W.cond (fun ht26 => ?_) (fun ht26 => ?_)
 ·refine Z2 ?_;refine Oi ?_
  exact K.fin (V.two V.tmp V.tmp) ⟨by
   have w1 : IntKind.u64.wrap 9223372036854775808 = 9223372036854775808 := rfl
   simp_all [Iv]
   try first | (rw [if_pos ht26]; simp; done) | (rw [if_neg (by omega)]; simp; done), rfl⟩
 refine Z66 ?_;refine R.fin [7, 34] ?_
 refine W.cond (fun ht34 => ?_) (fun ht34 => ?_)
 ·refine Z0 ?_;refine R.neg ?_;refine Ln ?_;refine Qt ?_
  exact K.fin (V.two V.tmp V.tmp) ⟨by
   have w1 : IntKind.u64.wrap 9223372036854775808 = 9223372036854775808 := rfl
   simp_all [Iv]
   try first | (rw [if_pos ht26]; simp; done) | (rw [if_neg (by omega)]; simp; done), rfl⟩
 refine Z17 ?_;refine Z0 ?_;refine Ln ?_;refine Z90 ?_
 exact K.fin (V.two V.tmp V.tmp) ⟨by
  have w1 : IntKind.u64.wrap 9223372036854775808 = 9223372036854775808 := rfl
  simp_all [Iv]
  try first | (rw [if_pos ht26]; simp; done) | (rw [if_neg (by omega)]; simp; done), rfl⟩

theorem uw (a b : Int) (Hp : List AObj) : AFun Tryz.prog 250 [A4 a, A4 b] Hp (.tup [A4 (Ec a b).1, A4 (Ec a b).2]) := by
 refine ACall.body [.tmp 4, .tmp 5] [0, 1] Tryz.func250 Tryz.ntmps250 (fun d => ?_)
 refine Up ?_;refine Gd ?_;refine Z22 ?_;refine R.fin [0, 1, 6] ?_
 refine W.cond (fun ht6 => ?_) (fun ht6 => ?_)
 ·refine Z2 ?_;refine Oi ?_
  first | (by_cases e0 : Ec a b = (0, 5); exact K.fin (V.two V.tmp V.tmp) ⟨by rw [e0]; try rfl, rfl⟩; exfalso; refine e0 ?_; clear e0; simp_all [Ec]; done) | (by_cases e0 : Ec a b = (0, 4); exact K.fin (V.two V.tmp V.tmp) ⟨by rw [e0]; try rfl, rfl⟩; exfalso; refine e0 ?_; clear e0; simp_all [Ec]; done) | (by_cases e0 : Ec a b = (IntKind.i64.wrap (a.tdiv b), 0); exact K.fin (V.two V.tmp V.tmp) ⟨by rw [e0]; try rfl, rfl⟩; exfalso; refine e0 ?_; clear e0; simp_all [Ec]; done)
 refine Z0 ?_;refine Y7 ?_;refine bf ?_;refine R.fin [0, 1, 9] ?_
 refine W.cond (fun ht9 => ?_) (fun ht9 => ?_)
 ·refine Z2 ?_;refine Oi ?_
  first | (by_cases e0 : Ec a b = (0, 5); exact K.fin (V.two V.tmp V.tmp) ⟨by rw [e0]; try rfl, rfl⟩; exfalso; refine e0 ?_; clear e0; simp_all [Ec]; done) | (by_cases e0 : Ec a b = (0, 4); exact K.fin (V.two V.tmp V.tmp) ⟨by rw [e0]; try rfl, rfl⟩; exfalso; refine e0 ?_; clear e0; simp_all [Ec]; done) | (by_cases e0 : Ec a b = (IntKind.i64.wrap (a.tdiv b), 0); exact K.fin (V.two V.tmp V.tmp) ⟨by rw [e0]; try rfl, rfl⟩; exfalso; refine e0 ?_; clear e0; simp_all [Ec]; done)
 refine Z17 ?_;refine Z29 ?_;refine R.quo (h0 := by simpa using ht6) ?_;refine Z90 ?_
 first | (by_cases e0 : Ec a b = (0, 5); exact K.fin (V.two V.tmp V.tmp) ⟨by rw [e0]; try rfl, rfl⟩; exfalso; refine e0 ?_; clear e0; simp_all [Ec]; done) | (by_cases e0 : Ec a b = (0, 4); exact K.fin (V.two V.tmp V.tmp) ⟨by rw [e0]; try rfl, rfl⟩; exfalso; refine e0 ?_; clear e0; simp_all [Ec]; done) | (by_cases e0 : Ec a b = (IntKind.i64.wrap (a.tdiv b), 0); exact K.fin (V.two V.tmp V.tmp) ⟨by rw [e0]; try rfl, rfl⟩; exfalso; refine e0 ?_; clear e0; simp_all [Ec]; done)

theorem Zx {a b : Int} (ha : -9223372036854775808 ≤ a ∧ a ≤ 9223372036854775807) : IntKind.i64.wrap (a.tmod b) = a.tmod b := by
 have h1 : (a.tmod b).natAbs ≤ a.natAbs := by rw [Int.natAbs_tmod]; exact Nat.mod_le _ _
 rw [IntKind.wrap_i64]
 rcases Int.le_total 0 a with h | h
 ·have := Int.tmod_nonneg b h
  omega
 have h2 := Int.tmod_nonneg b (show 0 ≤ -a by omega)
 rw [Int.neg_tmod] at h2
 omega
theorem ux (a b : Int) (ha : -9223372036854775808 ≤ a ∧ a ≤ 9223372036854775807) (Hp : List AObj) : AFun Tryz.prog 251 [A4 a, A4 b] Hp (.tup [A4 (Jr a b).1, A4 (Jr a b).2]) := by
 refine ACall.body [.tmp 4, .tmp 5] [0, 1] Tryz.func251 Tryz.ntmps251 (fun d => ?_)
 refine Up ?_;refine Z9 ?_;refine R.fin [0, 1, 6] ?_;refine S1 ?_;refine R.fin [0, 1, 6, 7] ?_
 refine W.cond (fun ht7 => ?_) (fun ht7 => ?_)
 ·have hm : Jr a b = (0, 5) := if_pos ht7
  refine Z2 ?_;exact pq
 refine Z49 ?_;refine R.fin [0, 1, 9] ?_
 refine W.cond (fun ht9 => ?_) (fun ht9 => ?_)
 ·have hm : Jr a b = (0, 0) := by unfold Jr; rw [if_neg (by rw [ht7]; simp), if_pos ht9]
  refine Z2 ?_;exact pq
 have hm : Jr a b = (a.tmod b, 0) := by unfold Jr; rw [if_neg (by rw [ht7]; simp), if_neg (by rw [ht9]; simp), Zx ha]
 refine Z17 ?_;refine Z29 ?_;refine R.rem (h0 := by simpa using ht7) ?_;refine Z90 ?_;exact ir

theorem sb (a : Int) (Hp : List AObj) : AFun Tryz.prog 254 [A4 a] Hp (Al false) := by
 refine ACall.body [.tmp 2] [0] Tryz.func254 Tryz.ntmps254 (fun d => ?_)
 refine Z88 ?_;refine Z29 ?_;refine R.neq ?_;exact qa

theorem sc (a : Int) (Hp : List AObj) : AFun Tryz.prog 255 [A4 a] Hp (Al false) := by
 refine ACall.body [.tmp 2] [0] Tryz.func255 Tryz.ntmps255 (fun d => ?_)
 refine Z88 ?_;refine Z29 ?_;refine R.neq ?_;exact qa

theorem uz (a b : Int) (Hp : List AObj) : AFun Tryz.prog 245 [A4 a, A4 b] Hp (A4 (Gu a b)) := by
 refine ACall.body [.tmp 4] [0, 1] Tryz.func245 Tryz.ntmps245 (fun d => ?_)
 refine Z73 ?_;refine Z0 ?_;refine R.call Tryz.call254 (sb _ _) ?_;refine Ax ?_;refine Ok ?_;refine Z0 ?_;refine R.call Tryz.call254 (sb _ _) ?_;refine Ax ?_;refine R.fin [0, 1, 5, 6] ?_;refine Z9 ?_;refine R.fin [0, 1, 6, 11] ?_
 refine W.cond (fun ht11 => ?_) (fun ht11 => ?_)
 ·cases ht11
 refine Z5 ?_;refine Z9 ?_;refine R.fin [0, 1, 13] ?_
 refine W.cond (fun ht13 => ?_) (fun ht13 => ?_)
 ·cases ht13
 refine Z5 ?_;refine Mg ?_;refine R.lss ?_;refine R.fin [0, 1, 16] ?_
 refine W.cond (fun ht16 => ?_) (fun ht16 => ?_)
 ·have hm : Gu a b = -1 := if_pos ht16
  exact Rz
 refine Z5 ?_;refine Mg ?_;refine R.gtr ?_;refine R.fin [19] ?_
 refine W.cond (fun ht19 => ?_) (fun ht19 => ?_)
 ·have hm : Gu a b = 1 := by unfold Gu; rw [if_neg (by rw [ht16]; simp), if_pos ht19]
  exact Rz
 have hm : Gu a b = 0 := by unfold Gu; rw [if_neg (by rw [ht16]; simp), if_neg (by rw [ht19]; simp)]
 refine Z5 ?_;exact Y2

theorem v6 (a b : Int) (Hp : List AObj) : AFun Tryz.prog 246 [A4 a, A4 b] Hp (A4 (Gu a b)) := by
 refine ACall.body [.tmp 4] [0, 1] Tryz.func246 Tryz.ntmps246 (fun d => ?_)
 refine Z73 ?_;refine Z0 ?_;refine R.call Tryz.call255 (sc _ _) ?_;refine Ax ?_;refine Ok ?_;refine Z0 ?_;refine R.call Tryz.call255 (sc _ _) ?_;refine Ax ?_;refine R.fin [0, 1, 5, 6] ?_;refine Z9 ?_;refine R.fin [0, 1, 6, 11] ?_
 refine W.cond (fun ht11 => ?_) (fun ht11 => ?_)
 ·cases ht11
 refine Z5 ?_;refine Z9 ?_;refine R.fin [0, 1, 13] ?_
 refine W.cond (fun ht13 => ?_) (fun ht13 => ?_)
 ·cases ht13
 refine Z5 ?_;refine Mg ?_;refine R.lss ?_;refine R.fin [0, 1, 16] ?_
 refine W.cond (fun ht16 => ?_) (fun ht16 => ?_)
 ·have hm : Gu a b = -1 := if_pos ht16
  exact Rz
 refine Z5 ?_;refine Mg ?_;refine R.gtr ?_;refine R.fin [19] ?_
 refine W.cond (fun ht19 => ?_) (fun ht19 => ?_)
 ·have hm : Gu a b = 1 := by unfold Gu; rw [if_neg (by rw [ht16]; simp), if_pos ht19]
  exact Rz
 have hm : Gu a b = 0 := by unfold Gu; rw [if_neg (by rw [ht16]; simp), if_neg (by rw [ht19]; simp)]
 refine Z5 ?_;exact Y2

theorem f7 {l : List Int} {x : Nat} (h : x < l.length) (hx : orI l = orI (l.drop x)) : orI l = if l[x] != 0 then l[x] else orI (l.drop (x + 1)) := by rw [hx, List.drop_eq_getElem_cons h, orI]
theorem v7 (l : List Int) (hl : l.length ≤ 1048576) (Hp : List AObj) : AFun Tryz.prog 244 [X6 l] Hp (A4 (orI l)) := by
 refine ACall.body [.tmp 2] [0] Tryz.func244 Tryz.ntmps244 (fun d => ?_)
 refine Z88 ?_;refine Z2 ?_;refine Lm ?_;refine U9 ?_;refine R.fin [3, 6, 7, 8] ?_
 refine AW.loopC (α := Nat) (fun x => ⟨18, A5 3 (A4 0) (A5 6 (X6 l) (A5 7 (A4 (l.length : Nat)) (A5 8 (A4 (x : Nat)) (fun _ => .any)))), Hp, [], [], none⟩) (fun x => x ≤ l.length ∧ orI l = orI (l.drop x)) (fun x => l.length - x) (0) ⟨Nat.zero_le _, rfl⟩ (StLe.of_eq (by simp)) rfl (fun x hx => ?_)
 refine Z89 ?_;refine R.fin [3, 6, 7, 8, 9] ?_
 refine W.condX (fun ht9 => ?_) (fun ht9 => ?_)
 ·have hlt : x < l.length := by simpa using ht9
  have hst := f7 hlt hx.2
  refine Qr ?_;refine R.indexAddr (x) (A4 l[x]) jU jS (Bf hlt) ?_;refine Cp ?_;refine Ax ?_;refine R.fin [3, 5, 6, 7, 8] ?_;refine Z29 ?_;refine R.neq ?_;refine R.fin [3, 5, 6, 7, 8, 14] ?_
  refine W.cond (fun ht14 => ?_) (fun ht14 => ?_)
  ·have hm : orI l = l[x] := by rw [hst, if_pos ht14]
   refine Z66 ?_;refine Z3 ?_;exact gu
  have hn : orI l = orI (l.drop (x + 1)) := by rw [hst, if_neg (by rw [ht14]; simp)]
  refine Mk ?_;refine R.fin [3, 6, 7, 8] ?_;exact oz
 have hxe : l.length ≤ x := by simpa using ht9
 have hm : orI l = 0 := by rw [hx.2, List.drop_of_length_le hxe]; rfl
 refine Z54 ?_;refine Z66 ?_;refine Z3 ?_;exact Yc

theorem v8 (a b : Val) (Hp : List AObj) : AFun Tryz.prog 238 [Bl a, Bl b] Hp (A4 (Ze a b)) := by
 refine ACall.body [.tmp 4] [0, 1] Tryz.func238 Tryz.ntmps238 (fun d => ?_)
 refine Lj ?_;refine Z41 ?_;refine Oe ?_;refine R.call Tryz.call120 (cm a _) ?_;refine R.not ?_;refine Au ?_;refine G.loadRoN jA jS ?_;refine G.call Tryz.call120 (fun hB => cm b _) ?_;refine Ud ?_;refine R.fin [2, 3, 12] ?_
 refine W.cond (fun ht12 => ?_) (fun ht12 => ?_)
 ·have hm : Ze a b = 0 := if_pos ht12
  exact Rz
 have hm : Ze a b = orI [Gu a.kind b.kind, Gu a.n b.n, Lib.compareBytes a.s b.s] := if_neg (by rw [ht12]; simp)
 refine Z5 ?_;refine W.draw [0, 1, 0, 4, 15, 0, 32, 0, 128, 511, 0, 1024, 0, 4096, 16383, 32767, 65535, 131071] 14 Ae (by kernel_rfl) ?_;refine gn ?_;refine gn ?_;refine D.call Tryz.call245 (uz _ _ _) ?_;refine ba ?_;refine ba ?_;refine D.call Tryz.call246 (v6 _ _ _) ?_;refine Z80 ?_;refine Z80 ?_;refine D.tail ?_;refine R.call Tryz.call247 (uu _ _ _) ?_;refine Mm ?_;refine R.call Tryz.call244 (v7 [Gu a.kind b.kind, Gu a.n b.n, Lib.compareBytes a.s b.s] (by simp) _) ?_;refine Ax ?_;exact Z81

theorem vd (t : Str) (a b : Int) (ha : -9223372036854775808 ≤ a ∧ a ≤ 9223372036854775807) (Hp : List AObj) : AFun Tryz.prog 240 [A8 t, A4 a, A4 b] Hp (Kr (Eb (Am t a b))) := by
 refine ACall.body [.cell 6 24, .tmp 7] [0, 1, 2] Tryz.func240 Tryz.ntmps240 (fun d => ?_)
 refine S3 ?_;refine R.fin [0, 1, 2, 6] ?_;refine Z9 ?_;refine R.fin [1, 2, 6, 8] ?_;refine Es ?_;refine Z19 ?_;refine R.fin [1, 2, 6, 8, 9] ?_
 refine W.cond (fun ht9 => ?_) (fun ht9 => ?_)
 ·refine Z29 ?_;refine R.call Tryz.call248 (uq _ _ _) ?_;refine Un ?_;refine Z69 ?_;refine Z59 ?_
  first | (by_cases e0 : Am t a b = Nq a b; exact K.fin (V.two (V.cellN Tryz.isAgg24 Tryz.sizeOf24) V.tmp) ⟨by rw [e0]; try rfl, rfl⟩; exfalso; refine e0 ?_; clear e0; simp_all [Am]; done) | (by_cases e0 : Am t a b = Hl a b; exact K.fin (V.two (V.cellN Tryz.isAgg24 Tryz.sizeOf24) V.tmp) ⟨by rw [e0]; try rfl, rfl⟩; exfalso; refine e0 ?_; clear e0; simp_all [Am]; done) | (by_cases e0 : Am t a b = Iv a b; exact K.fin (V.two (V.cellN Tryz.isAgg24 Tryz.sizeOf24) V.tmp) ⟨by rw [e0]; try rfl, rfl⟩; exfalso; refine e0 ?_; clear e0; simp_all [Am]; done) | (by_cases e0 : Am t a b = Ec a b; exact K.fin (V.two (V.cellN Tryz.isAgg24 Tryz.sizeOf24) V.tmp) ⟨by rw [e0]; try rfl, rfl⟩; exfalso; refine e0 ?_; clear e0; simp_all [Am]; done) | (by_cases e0 : Am t a b = Jr a b; exact K.fin (V.two (V.cellN Tryz.isAgg24 Tryz.sizeOf24) V.tmp) ⟨by rw [e0]; try rfl, rfl⟩; exfalso; refine e0 ?_; clear e0; simp_all [Am]; done)
 refine Z19 ?_;refine R.fin [1, 2, 6, 8, 19] ?_
 refine W.cond (fun ht19 => ?_) (fun ht19 => ?_)
 ·refine Z29 ?_;refine R.call Tryz.call241 (s9 _ _ _) ?_;refine Un ?_;refine Z69 ?_;refine Z59 ?_
  first | (by_cases e0 : Am t a b = Nq a b; exact K.fin (V.two (V.cellN Tryz.isAgg24 Tryz.sizeOf24) V.tmp) ⟨by rw [e0]; try rfl, rfl⟩; exfalso; refine e0 ?_; clear e0; simp_all [Am]; done) | (by_cases e0 : Am t a b = Hl a b; exact K.fin (V.two (V.cellN Tryz.isAgg24 Tryz.sizeOf24) V.tmp) ⟨by rw [e0]; try rfl, rfl⟩; exfalso; refine e0 ?_; clear e0; simp_all [Am]; done) | (by_cases e0 : Am t a b = Iv a b; exact K.fin (V.two (V.cellN Tryz.isAgg24 Tryz.sizeOf24) V.tmp) ⟨by rw [e0]; try rfl, rfl⟩; exfalso; refine e0 ?_; clear e0; simp_all [Am]; done) | (by_cases e0 : Am t a b = Ec a b; exact K.fin (V.two (V.cellN Tryz.isAgg24 Tryz.sizeOf24) V.tmp) ⟨by rw [e0]; try rfl, rfl⟩; exfalso; refine e0 ?_; clear e0; simp_all [Am]; done) | (by_cases e0 : Am t a b = Jr a b; exact K.fin (V.two (V.cellN Tryz.isAgg24 Tryz.sizeOf24) V.tmp) ⟨by rw [e0]; try rfl, rfl⟩; exfalso; refine e0 ?_; clear e0; simp_all [Am]; done)
 refine Z19 ?_;refine R.fin [1, 2, 6, 8, 29] ?_
 refine W.cond (fun ht29 => ?_) (fun ht29 => ?_)
 ·refine Z29 ?_;refine R.call Tryz.call249 (uv _ _ _) ?_;refine Un ?_;refine Z69 ?_;refine Z59 ?_
  first | (by_cases e0 : Am t a b = Nq a b; exact K.fin (V.two (V.cellN Tryz.isAgg24 Tryz.sizeOf24) V.tmp) ⟨by rw [e0]; try rfl, rfl⟩; exfalso; refine e0 ?_; clear e0; simp_all [Am]; done) | (by_cases e0 : Am t a b = Hl a b; exact K.fin (V.two (V.cellN Tryz.isAgg24 Tryz.sizeOf24) V.tmp) ⟨by rw [e0]; try rfl, rfl⟩; exfalso; refine e0 ?_; clear e0; simp_all [Am]; done) | (by_cases e0 : Am t a b = Iv a b; exact K.fin (V.two (V.cellN Tryz.isAgg24 Tryz.sizeOf24) V.tmp) ⟨by rw [e0]; try rfl, rfl⟩; exfalso; refine e0 ?_; clear e0; simp_all [Am]; done) | (by_cases e0 : Am t a b = Ec a b; exact K.fin (V.two (V.cellN Tryz.isAgg24 Tryz.sizeOf24) V.tmp) ⟨by rw [e0]; try rfl, rfl⟩; exfalso; refine e0 ?_; clear e0; simp_all [Am]; done) | (by_cases e0 : Am t a b = Jr a b; exact K.fin (V.two (V.cellN Tryz.isAgg24 Tryz.sizeOf24) V.tmp) ⟨by rw [e0]; try rfl, rfl⟩; exfalso; refine e0 ?_; clear e0; simp_all [Am]; done)
 refine Z19 ?_;refine R.fin [1, 2, 6, 39] ?_
 refine W.cond (fun ht39 => ?_) (fun ht39 => ?_)
 ·refine Z29 ?_;refine R.call Tryz.call250 (uw _ _ _) ?_;refine Un ?_;refine Z69 ?_;refine Z59 ?_
  first | (by_cases e0 : Am t a b = Nq a b; exact K.fin (V.two (V.cellN Tryz.isAgg24 Tryz.sizeOf24) V.tmp) ⟨by rw [e0]; try rfl, rfl⟩; exfalso; refine e0 ?_; clear e0; simp_all [Am]; done) | (by_cases e0 : Am t a b = Hl a b; exact K.fin (V.two (V.cellN Tryz.isAgg24 Tryz.sizeOf24) V.tmp) ⟨by rw [e0]; try rfl, rfl⟩; exfalso; refine e0 ?_; clear e0; simp_all [Am]; done) | (by_cases e0 : Am t a b = Iv a b; exact K.fin (V.two (V.cellN Tryz.isAgg24 Tryz.sizeOf24) V.tmp) ⟨by rw [e0]; try rfl, rfl⟩; exfalso; refine e0 ?_; clear e0; simp_all [Am]; done) | (by_cases e0 : Am t a b = Ec a b; exact K.fin (V.two (V.cellN Tryz.isAgg24 Tryz.sizeOf24) V.tmp) ⟨by rw [e0]; try rfl, rfl⟩; exfalso; refine e0 ?_; clear e0; simp_all [Am]; done) | (by_cases e0 : Am t a b = Jr a b; exact K.fin (V.two (V.cellN Tryz.isAgg24 Tryz.sizeOf24) V.tmp) ⟨by rw [e0]; try rfl, rfl⟩; exfalso; refine e0 ?_; clear e0; simp_all [Am]; done)
 refine Z17 ?_;refine Z29 ?_;refine R.call Tryz.call251 (ux _ _ ha _) ?_;refine Un ?_;refine Z69 ?_;refine AW.ret ?_
 first | (by_cases e0 : Am t a b = Nq a b; exact K.fin (V.two (V.cellN Tryz.isAgg24 Tryz.sizeOf24) V.tmp) ⟨by rw [e0]; try rfl, rfl⟩; exfalso; refine e0 ?_; clear e0; simp_all [Am]; done) | (by_cases e0 : Am t a b = Hl a b; exact K.fin (V.two (V.cellN Tryz.isAgg24 Tryz.sizeOf24) V.tmp) ⟨by rw [e0]; try rfl, rfl⟩; exfalso; refine e0 ?_; clear e0; simp_all [Am]; done) | (by_cases e0 : Am t a b = Iv a b; exact K.fin (V.two (V.cellN Tryz.isAgg24 Tryz.sizeOf24) V.tmp) ⟨by rw [e0]; try rfl, rfl⟩; exfalso; refine e0 ?_; clear e0; simp_all [Am]; done) | (by_cases e0 : Am t a b = Ec a b; exact K.fin (V.two (V.cellN Tryz.isAgg24 Tryz.sizeOf24) V.tmp) ⟨by rw [e0]; try rfl, rfl⟩; exfalso; refine e0 ?_; clear e0; simp_all [Am]; done) | (by_cases e0 : Am t a b = Jr a b; exact K.fin (V.two (V.cellN Tryz.isAgg24 Tryz.sizeOf24) V.tmp) ⟨by rw [e0]; try rfl, rfl⟩; exfalso; refine e0 ?_; clear e0; simp_all [Am]; done)

theorem ve (a b : Val) (fa : Fine a) (fb : Fine b) (Hp : List AObj) : AFun Tryz.prog 239 [.slice false 3 [Bl a, Bl b]] Hp (Kr (Jq a b)) := by
 refine ACall.body [.cell 2 24, .tmp 3] [0] Tryz.func239 Tryz.ntmps239 (fun d => ?_)
 refine S3 ?_;refine R.fin [0, 2] ?_;refine Gd ?_;refine R.buildSl jU jS jZ ?_;refine R.call Tryz.call223 (ey [a, b] [2, 2] (by simp) (by simp) _) ?_;refine R.not ?_;refine Ax ?_;refine R.fin [0, 2, 4] ?_
 refine W.cond (fun ht4 => ?_) (fun ht4 => ?_)
 ·have hm : Jq a b = Bh 10 := if_pos ht4
  refine Oh ?_;refine Z41 ?_;refine AW.ret ?_;exact Z12
 have hla := fa.len
 have hlb := fb.len
 refine W.draw [0, 1, 3, 7, 15, 0, 32, 96, 224, 480, 1023, 2047, 4095] 10 Ae (by kernel_rfl) ?_;refine Z45 ?_;refine Z80 ?_;refine D.slen jU ?_;refine Z46 ?_;refine Z80 ?_;refine D.slen jU ?_;refine D.tail ?_;refine R.add64 (h1 := by omega) (h2 := by omega) ?_;refine Y0 ?_;refine R.fin [0, 2, 12] ?_
 refine W.cond (fun ht12 => ?_) (fun ht12 => ?_)
 ·have hm : Jq a b = Bh 3 := by unfold Jq; rw [if_neg (by rw [ht4]; simp), if_pos ht12]
  refine Oh ?_;refine Z41 ?_;refine AW.ret ?_;exact Z12
 have hm : Jq a b = (Ow (a.s ++ b.s), 0) := by unfold Jq; rw [if_neg (by rw [ht4]; simp), if_neg (by rw [ht12]; simp)]
 refine Z17 ?_;refine W.draw [0, 1, 3, 7, 0, 16, 48, 112, 255, 511, 1023, 2047] 8 Ae (by kernel_rfl) ?_;refine Z45 ?_;refine Z80 ?_;refine Z46 ?_;refine Z80 ?_;refine D.tail ?_;refine R.sadd (hl := by omega) ?_;refine R.call Tryz.call215 (Yk _ _) ?_;refine Qn ?_;exact lr

theorem vf (t : Str) (a b : Val) (fa : Fine a) (fb : Fine b) (Hp : List AObj) : AFun Tryz.prog 222 [A8 t, .slice false 3 [Bl a, Bl b]] Hp (Kr (Iw t a b)) := by
 refine ACall.body [.cell 4 24, .tmp 5] [0, 1] Tryz.func222 Tryz.ntmps222 (fun d => ?_)
 refine S3 ?_;refine R.fin [0, 1, 4] ?_;refine W.seq ?_;refine W.draw [0, 0, 2, 6, 0, 16, 48, 126, 255, 511, 1023, 1023, 2047, 8191] 13 Ae (by kernel_rfl) ?_;refine D.move ?_;refine Z45 ?_;refine Gt ?_;refine Z46 ?_;refine Gt ?_;refine D.call Tryz.call238 (v8 _ _ _) ?_;refine D.call Tryz.call237 (uo _ _ _) ?_;refine bi ?_;refine Rx ?_;refine Ax ?_;refine R.fin [0, 1, 4, 6, 7] ?_;refine Z0 ?_;refine R.fin [0, 1, 4, 6, 20] ?_
 refine W.cond (fun ht20 => ?_) (fun ht20 => ?_)
 ·refine W.seq ?_;refine W.draw [0, 1, 3, 7, 0, 16, 48, 112, 255] 8 Ae (by kernel_rfl) ?_;refine Z45 ?_;refine gn ?_;refine Z46 ?_;refine gn ?_;refine D.tail ?_;refine R.neq ?_;refine R.fin [4, 6, 29] ?_
  refine W.cond (fun ht29 => ?_) (fun ht29 => ?_)
  ·have hm : Iw t a b = Bh 10 := by unfold Iw; rw [if_pos ht20, if_pos ht29]
   refine Oh ?_;refine Mj ?_;exact ge
  have hm : Iw t a b = (E2 (A6 t (Ze a b)).1, 0) := by unfold Iw; rw [if_pos ht20, if_neg (by rw [ht29]; simp)]
  refine I7 ?_;refine R.call Tryz.call122 (V1 _ _) ?_;exact mh
 refine Z5 ?_;refine Z9 ?_;refine R.seql ?_;refine R.fin [0, 1, 4, 36] ?_
 refine W.cond (fun ht36 => ?_) (fun ht36 => ?_)
 ·have hm : Iw t a b = Jq a b := by unfold Iw; rw [if_neg (by rw [ht20]; simp), if_pos ht36]
  refine Z0 ?_;refine R.call Tryz.call239 (ve a b fa fb _) ?_;refine Z37 ?_;exact gw
 refine Z5 ?_;refine Z9 ?_;refine R.buildSl jU jS jZ ?_;refine R.call Tryz.call223 (ey [a, b] [1, 1] (by simp) (by simp) _) ?_;refine R.not ?_;refine R.fin [0, 1, 4, 44] ?_
 refine W.cond (fun ht44 => ?_) (fun ht44 => ?_)
 ·have hm : Iw t a b = Bh 10 := by unfold Iw; rw [if_neg (by rw [ht20]; simp), if_neg (by rw [ht36]; simp), if_pos ht44]
  refine Oh ?_;exact gw
 have hm : Iw t a b = Eb (Am t a.n b.n) := by unfold Iw; rw [if_neg (by rw [ht20]; simp), if_neg (by rw [ht36]; simp), if_neg (by rw [ht44]; simp)]
 refine Z5 ?_;refine W.draw [0, 0, 2, 6, 14, 0, 32, 96, 224, 511, 1023, 1023, 4095, 8191] 12 Ae (by kernel_rfl) ?_;refine D.move ?_;refine Z45 ?_;refine ba ?_;refine Z46 ?_;refine ba ?_;refine D.call Tryz.call240 (vd _ _ _ ⟨fa.lo, fa.hi⟩ _) ?_;refine Uh ?_;exact gx

theorem o0 (s : Str) (n : Int) : ∃ k : Nat, (if (0 : Int) < (if (s.length : Int) < n then (s.length : Int) else n) then (if (s.length : Int) < n then (s.length : Int) else n) else 0) = (k : Int) ∧ k ≤ s.length ∧ k = (max 0 (min n s.length)).toNat := by
 refine ⟨(max 0 (min n s.length)).toNat, ?_, ?_, rfl⟩ <;> repeat' split
 all_goals omega
theorem vg (t s : Str) (n : Int) (hs : s.length ≤ 1048576) (Hp : List AObj) : AFun Tryz.prog 227 [A8 t, A8 s, A4 n] Hp (Bl (Ho t s n)) := by
 refine ACall.body [.cell 6 24] [0, 1, 2] Tryz.func227 Tryz.ntmps227 (fun d => ?_)
 refine ia ?_;refine bw ?_;refine R.minI ?_;refine R.maxI ?_
 obtain ⟨k, hk, hks, hke⟩ := o0 s n
 simp only [hk]
 refine Ax ?_;refine R.fin [0, 1, 6, 7] ?_;refine Z9 ?_;refine R.seql ?_;refine R.fin [1, 6, 7, 14] ?_
 refine W.cond (fun ht14 => ?_) (fun ht14 => ?_)
 ·have hm : Ho t s n = Ow (s.take k) := by unfold Ho; rw [if_pos ht14, ← hke]
  refine Z29 ?_;refine R.scutH k jU (Nat.zero_le _) hks ?_;refine R.call Tryz.call215 (Yk _ _) ?_;refine gh ?_;refine Z11 ?_;exact qq
 have hm : Ho t s n = Ow (s.drop (s.length - k)) := by unfold Ho; rw [if_neg (by rw [ht14]; simp), ← hke]
 refine Z5 ?_;refine bw ?_;refine Au ?_;refine R.sub64 (h1 := by omega) (h2 := by omega) ?_;refine R.scutL (s.length - k) jU (show s.length - k ≤ s.length by omega) (Nat.le_refl _) ?_;refine R.call Tryz.call215 (Yk _ _) ?_;refine Y5 ?_;exact qq

theorem vh (t : Str) (v : Val) (h : Fine v) (Hp : List AObj) : AFun Tryz.prog 226 [A8 t, Bl v] Hp (Kr (Gq t v)) := by
 have hlen := h.len
 refine ACall.body [.cell 4 24, .tmp 5] [0, 1] Tryz.func226 Tryz.ntmps226 (fun d => ?_)
 refine Z24 ?_;refine Z86 ?_;refine R.fin [0, 3, 4] ?_;refine Gd ?_;refine R.seql ?_;refine Au ?_;refine Z94 ?_;refine bf ?_;refine R.fin [0, 3, 4, 6] ?_
 refine W.cond (fun ht6 => ?_) (fun ht6 => ?_)
 ·have hm : Gq t v = (Ow (Lib.itoa v.n), 0) := if_pos ht6
  refine B9 ?_;refine b9 ?_;refine R.call Tryz.call151 (r9 _ h.lo h.hi _) ?_;refine R.call Tryz.call215 (Yk _ _) ?_;exact Ql
 refine Z0 ?_;refine R.seql ?_;refine Au ?_;refine Z94 ?_;refine bf ?_;refine R.fin [0, 3, 4, 18] ?_
 refine W.cond (fun ht18 => ?_) (fun ht18 => ?_)
 ·have hm : Gq t v = (⟨1, v.s.length, []⟩, 0) := by unfold Gq; rw [if_neg (by rw [ht6]; simp), if_pos ht18]
  refine B9 ?_;refine gk ?_;refine R.slen jU ?_;refine R.call Tryz.call197 (mu _ _) ?_;exact Ql
 refine Z0 ?_;refine R.seql ?_;refine Au ?_;refine Z94 ?_;refine bf ?_;refine R.fin [3, 4, 30] ?_
 refine W.cond (fun ht30 => ?_) (fun ht30 => ?_)
 ·have hm : Gq t v = Eb (Bt v.s) := by unfold Gq; rw [if_neg (by rw [ht6]; simp), if_neg (by rw [ht18]; simp), if_pos ht30]
  refine B9 ?_;refine gk ?_;refine R.call Tryz.call196 (r8 v.s (by omega) _) ?_;refine Un ?_;exact Z96
 have hm : Gq t v = Bh 10 := by unfold Gq; rw [if_neg (by rw [ht6]; simp), if_neg (by rw [ht18]; simp), if_neg (by rw [ht30]; simp)]
 refine Z17 ?_;refine Oh ?_;exact Z50

theorem ku {vs : List Val} (h : 0 < vs.length) : vs.getD 0 noV = vs[0] := by rw [List.getD_eq_getElem?_getD, List.getElem?_eq_getElem h]; rfl
/-- As many values as a node asks for. -/
structure ArgsOk (o : Int) (vs : List Val) : Prop where
 two : o = 5 → ∃ a b, vs = [a, b]
 one : o = 3 ∨ o = 4 → vs.length = 1
 call : o = 6 → vs.length = 1 ∨ ∃ a b, vs = [a, b]
 fine : ∀ v ∈ vs, Fine v
theorem vi (e : Expr) (vs : List Val) (h : ArgsOk e.op vs) (Hp : List AObj) : AFun Tryz.prog 207 [Ab e, Dp vs] Hp (Kr (B8 e.op e.text vs)) := by
 refine ACall.body [.cell 4 24, .tmp 5] [0, 1] Tryz.func207 Tryz.ntmps207 (fun d => ?_)
 refine Z24 ?_;refine Z86 ?_;refine R.fin [1, 2, 4] ?_;refine Z27 ?_;refine Ya ?_;refine R.fin [1, 2, 4, 6] ?_
 refine W.cond (fun ht6 => ?_) (fun ht6 => ?_)
 ·obtain ⟨a, b, rfl⟩ := h.two (by simpa using ht6)
  have hm : B8 e.op e.text [a, b] = Iw e.text a b := if_pos ht6
  refine S4 ?_;refine Au ?_;refine R.call Tryz.call222 (vf e.text a b (h.fine a (by simp)) (h.fine b (by simp)) _) ?_;refine Z37 ?_;exact Z96
 refine Mf ?_;refine Y7 ?_;refine G.buildSl jU jS jZ ?_
 refine G.call Tryz.call223 (C := ((e.op == 3) == true)) (fun hB => ey vs [1] (by have := h.one (.inl (by simpa using hB)); simp [this]) (by simp) _) ?_
 refine Z32 ?_;refine R.fin [1, 2, 4, 16] ?_
 refine W.cond (fun ht16 => ?_) (fun ht16 => ?_)
 ·have hm0 : ((e.op == 3) && Cl vs [1]) = true := ht16
  have hop : e.op = 3 := by simp only [Bool.and_eq_true, beq_iff_eq] at hm0; exact hm0.1
  have hln := h.one (.inl hop)
  have hg0 : (vs.map Bl)[0]? = some (Bl (vs.getD 0 noV)) := by rw [ku (by omega)]; exact Bf (by omega)
  have hm : B8 e.op e.text vs = Eb (Hl 0 (vs.getD 0 noV).n) := by unfold B8; rw [if_neg (by rw [ht6]; simp), if_pos ht16]
  refine Z0 ?_;refine R.indexAddr (0) (Bl (vs.getD 0 noV)) jU jS hg0 ?_;refine b9 ?_;refine R.call Tryz.call225 (ur _ _) ?_;refine Un ?_;exact Z96
 refine Mf ?_;refine Y7 ?_;refine G.buildSl jU jS jZ ?_
 refine G.call Tryz.call223 (C := ((e.op == 4) == true)) (fun hB => ey vs [3] (by have := h.one (.inr (by simpa using hB)); simp [this]) (by simp) _) ?_
 refine Z32 ?_;refine R.fin [1, 2, 4, 35] ?_
 refine W.cond (fun ht35 => ?_) (fun ht35 => ?_)
 ·have hm0 : ((e.op == 4) && Cl vs [3]) = true := ht35
  have hop : e.op = 4 := by simp only [Bool.and_eq_true, beq_iff_eq] at hm0; exact hm0.1
  have hln := h.one (.inr hop)
  have hg0 : (vs.map Bl)[0]? = some (Bl (vs.getD 0 noV)) := by rw [ku (by omega)]; exact Bf (by omega)
  have hm : B8 e.op e.text vs = (E2 ((vs.getD 0 noV).n == 0), 0) := by unfold B8; rw [if_neg (by rw [ht6]; simp), if_neg (by rw [ht16]; simp), if_pos ht35]
  refine Z0 ?_;refine R.indexAddr (0) (Bl (vs.getD 0 noV)) jU jS hg0 ?_;refine b9 ?_;refine R.eql ?_;exact qb
 refine Mf ?_;refine Ry ?_;refine R.fin [1, 2, 4, 50] ?_
 refine W.cond (fun ht50 => ?_) (fun ht50 => ?_)
 ·have hm : B8 e.op e.text vs = Bh 10 := by unfold B8; rw [if_neg (by rw [ht6]; simp), if_neg (by rw [ht16]; simp), if_neg (by rw [ht35]; simp), if_pos ht50]
  refine Oh ?_;exact Z96
 have hop : e.op = 6 := by simpa using ht50
 have hcl := h.call hop
 refine Z0 ?_;refine R.len jU ?_;refine Z22 ?_;refine R.fin [1, 2, 4, 57] ?_
 refine W.cond (fun ht57 => ?_) (fun ht57 => ?_)
 ·rw [List.length_map] at ht57
  have hln : vs.length = 1 := by have := ht57; simp only [beq_iff_eq] at this; omega
  have hg0 : (vs.map Bl)[0]? = some (Bl (vs.getD 0 noV)) := by rw [ku (by omega)]; exact Bf (by omega)
  have hf0 : Fine (vs.getD 0 noV) := by rw [ku (by omega)]; exact h.fine _ (List.getElem_mem _)
  have hm : B8 e.op e.text vs = Gq e.text (vs.getD 0 noV) := by unfold B8; rw [if_neg (by rw [ht6]; simp), if_neg (by rw [ht16]; simp), if_neg (by rw [ht35]; simp), if_neg (by rw [ht50]; simp), if_pos ht57]
  refine W.draw [0, 1, 0, 4, 12, 31, 63, 63, 255, 511] 8 Ae (by kernel_rfl) ?_;refine Z75 ?_;refine D.move ?_;refine D.indexAddr (0) (Bl (vs.getD 0 noV)) jU jS hg0 ?_;refine Gt ?_;refine D.call Tryz.call226 (vh _ _ hf0 _) ?_;refine Uh ?_;exact Ql
 rw [List.length_map] at ht57
 obtain ⟨a, b, rfl⟩ : ∃ a b, vs = [a, b] := by
  rcases hcl with h1 | h1
  ·exfalso
   have := ht57
   rw [h1] at this
   simp at this
  exact h1
 refine Z0 ?_;refine R.buildSl jU jS jZ ?_;refine R.call Tryz.call223 (ey [a, b] [2, 1] (by simp) (by simp) _) ?_;refine R.not ?_;refine Ax ?_;refine R.fin [1, 2, 4, 69] ?_
 refine W.cond (fun ht69 => ?_) (fun ht69 => ?_)
 ·have hm : B8 e.op e.text [a, b] = Bh 10 := by unfold B8; rw [if_neg (by rw [ht6]; simp), if_neg (by rw [ht16]; simp), if_neg (by rw [ht35]; simp), if_neg (by rw [ht50]; simp), if_neg (by rw [ht57]; simp), if_pos ht69]
  refine Oh ?_;exact Z96
 have hm : B8 e.op e.text [a, b] = (Ho e.text a.s b.n, 0) := by unfold B8; rw [if_neg (by rw [ht6]; simp), if_neg (by rw [ht16]; simp), if_neg (by rw [ht35]; simp), if_neg (by rw [ht50]; simp), if_neg (by rw [ht57]; simp), if_neg (by rw [ht69]; simp)]; rfl
 refine Z17 ?_;refine W.draw [0, 1, 0, 4, 12, 28, 0, 64, 192, 448, 1023, 2047, 4095] 10 Ae (by kernel_rfl) ?_;refine Z75 ?_;refine Z45 ?_;refine Z80 ?_;refine Z46 ?_;refine ba ?_;refine D.tail ?_
 refine R.call Tryz.call227 (vg e.text a.s b.n (by have := (h.fine a (by simp)).len; omega) _) ?_
 exact gx

theorem I5 (a b : Val) : ((a.kind == b.kind && a.n == b.n) && a.s == b.s) = (a == b) := by
 obtain ⟨k, n, s⟩ := a
 obtain ⟨k', n', s'⟩ := b
 by_cases h : (⟨k, n, s⟩ : Val) = ⟨k', n', s'⟩
 ·injection h with h1 h2 h3
  subst h1; subst h2; subst h3
  simp
 have : ((⟨k, n, s⟩ : Val) == ⟨k', n', s'⟩) = false := by simpa using h
 rw [this]
 simp only [Bool.and_eq_false_iff, beq_eq_false_iff_ne]
 by_cases h1 : k = k'
 ·by_cases h2 : n = n'
  ·right
   rintro rfl
   exact h (by rw [h1, h2])
  exact .inl (.inr h2)
 exact .inl (.inl h1)
/-- What eval answers for a tree, over any heap. -/
abbrev F5 (c : List Col) (l : List Val) (e : Expr) (r : Rs) : Prop := ∀ Hp, AFun Tryz.prog 158 [O5 c l, Ab e] Hp (Kr r)
theorem sd (c : List Col) (l : List Val) (x : Expr) (r : Rs) (h : F5 c l x r) (Hp : List AObj) : AFun Tryz.prog 206 [O5 c l, Ab x] Hp (Kr (Aj r)) := by
 refine ACall.body [.cell 4 24, .tmp 5] [0, 1] Tryz.func206 Tryz.ntmps206 (fun d => ?_)
 refine Lj ?_;refine ij ?_;refine Z57 ?_;refine Dq ?_;refine R.call Tryz.call158 (h _) ?_;refine Y8 ?_;refine R.fin [4, 6, 7] ?_;refine Z9 ?_;refine Mi ?_;refine Z74 ?_;refine G.neq ?_;refine U8 ?_;refine Z74 ?_;refine G.neq ?_;refine R.pickAnd ?_;refine R.fin [4, 6, 7, 25] ?_
 refine W.cond (fun ht25 => ?_) (fun ht25 => ?_)
 ·have hm : Aj r = Bh 10 := if_pos ht25
  refine Oh ?_;exact gw
 have hm : Aj r = r := if_neg (by rw [ht25]; simp)
 refine Uq ?_;refine Au ?_;exact gx

theorem se (c : List Col) (l : List Val) (x k0 k1 : Expr) (s : Val) (ra rb : Rs) (h0 : (x.kids.map Ab)[0]? = some (Ab k0)) (h1 : (x.kids.map Ab)[1]? = some (Ab k1)) (ha : F5 c l k0 ra) (hb : F5 c l k1 rb) (Hp : List AObj) : AFun Tryz.prog 184 [O5 c l, Ab x, Bl s] Hp (Kr (Ev s ra rb)) := by
 refine ACall.body [.cell 6 24, .tmp 7] [0, 1, 2] Tryz.func184 Tryz.ntmps184 (fun d => ?_)
 refine Lj ?_;refine R.boxRo ?_;refine Z86 ?_;refine R.fin [3, 4, 5, 6] ?_;refine W.drawY [0, 0, 2, 6, 14, 31, 63, 127, 127, 0, 767, 2047] [9, 10] [.q 9 [] [], .s [8] (some 0) [] [1], .s [] (some 1) [0] []] (fun _ => Hp) (fun B => if B 0 = true then [.cells 24 [A4 0, A4 0, A8 []], (if B 1 = true then .cells 24 [A4 (Aj ra).1.kind, A4 (Aj ra).1.n, A8 (Aj ra).1.s] else .cells 24 [A4 0, A4 0, A8 []] : AObj)] else [.cells 24 [A4 0, A4 0, A8 []]]) Ae (by kernel_rfl) rfl rfl (fun _ => rfl) ?_
 apply Y.q
 case h1 =>
  intro B hT hF
  refine Z67 ?_;refine Gs ?_;refine m5 ?_;exact px
 case hTF => decide
 refine Z55 ?_;refine ob ?_;refine R.fin [3, 4, 5, 6, 8, 9] ?_;refine Ll ?_;refine Au ?_;refine G.loadOwnN jA jS ?_;refine G.loadRoN jA jS ?_;refine G.eqlAgg S8 (fun w => Fl (Aj ra).1.kind (Aj ra).1.n s.kind s.n (Aj ra).1.s s.s w) ?_;refine R.pickOr ?_;refine R.fin [3, 4, 5, 6, 8, 9, 26] ?_
 refine W.cond (fun ht26 => ?_) (fun ht26 => ?_)
 ·rw [I5] at ht26
  have hm : Ev s ra rb = Aj ra := if_pos ht26
  refine Z28 ?_;refine Au ?_;refine Dh ?_;refine Z69 ?_;exact Z38
 rw [I5] at ht26
 refine Z5 ?_;refine W.drawY [0, 0, 2, 6, 14, 31, 63, 127, 127, 0, 767, 2047] [9, 10] [.q 9 [] [], .s [10] (some 0) [] [1], .s [] (some 1) [0] []] (fun _ => Hp) (fun B => if B 0 = true then [.cells 24 [A4 0, A4 0, A8 []], .cells 24 [A4 (Aj ra).1.kind, A4 (Aj ra).1.n, A8 (Aj ra).1.s], (if B 1 = true then .cells 24 [A4 (Aj rb).1.kind, A4 (Aj rb).1.n, A8 (Aj rb).1.s] else .cells 24 [A4 0, A4 0, A8 []] : AObj)] else [.cells 24 [A4 0, A4 0, A8 []], .cells 24 [A4 (Aj ra).1.kind, A4 (Aj ra).1.n, A8 (Aj ra).1.s]]) Ae (by kernel_rfl) rfl rfl (fun _ => rfl) ?_
 apply Y.q
 case h1 =>
  intro B hT hF
  refine Z67 ?_;refine Gs ?_;refine D.indexAddr (1) (Ab k1) jU jS h1 ?_;refine Gt ?_;refine D.call Tryz.call206 (sd c l k1 rb hb _) ?_;exact m9
 case hTF => decide
 refine Y.alloc (zs := [A4 0, A4 0, A8 []]) (n := 2) (u := Hp.length) Tryz.zeroValue24 (fun B hT hF hB => ⟨rfl, by simp [hB], by simp [upd, hB, hF 1 (by simp)], rfl⟩) ?_;refine Y.storeOwnT (u := Hp.length) (n := 2) (t' := 24) (cs := [A4 0, A4 0, A8 []]) (cs' := [A4 (Aj rb).1.kind, A4 (Aj rb).1.n, A8 (Aj rb).1.s]) Tryz.sizeOf24 (fun B hT hF hB => ⟨rfl, by simp [hT 0 (by simp), hB], by simp [upd, hT 0 (by simp), hB], rfl⟩) ?_;refine Y.tail (tn := [9, 10]) (O := [.cells 24 [A4 0, A4 0, A8 []], .cells 24 [A4 (Aj ra).1.kind, A4 (Aj ra).1.n, A8 (Aj ra).1.s], .cells 24 [A4 (Aj rb).1.kind, A4 (Aj rb).1.n, A8 (Aj rb).1.s]]) ?_;refine Ax ?_;refine R.fin [5, 6, 8, 9, 10] ?_;refine Ll ?_;refine Au ?_;refine G.loadOwnN jA jS ?_;refine G.loadRoN jA jS ?_
 refine G.eqlAgg S8 (fun w => Fl (Aj rb).1.kind (Aj rb).1.n s.kind s.n (Aj rb).1.s s.s w) ?_;refine R.pickOr ?_;refine Au ?_;refine Z74 ?_;refine Ub ?_;refine R.fin [6, 8, 9, 10, 49] ?_
 refine W.cond (fun ht49 => ?_) (fun ht49 => ?_)
 ·rw [I5] at ht49
  have hm : Ev s ra rb = Aj rb := by unfold Ev; rw [if_neg (by rw [ht26]; simp), if_pos ht49]
  refine Z28 ?_;refine Au ?_;refine Dh ?_;refine Z69 ?_;exact Z38
 rw [I5] at ht49
 have hm : Ev s ra rb = ((Aj ra).1, 0) := by unfold Ev; rw [if_neg (by rw [ht26]; simp), if_neg (by rw [ht49]; simp)]
 refine Uq ?_;refine Dh ?_;refine Z69 ?_;exact lr

theorem vj (c : List Col) (l : List Val) (x k0 k1 k2 : Expr) (ra rb d2 : Rs) (h0 : (x.kids.map Ab)[0]? = some (Ab k0)) (h1 : (x.text == B4) = false → (x.kids.map Ab)[1]? = some (Ab k1)) (h2 : (x.text == ifW) = true → (x.kids.map Ab)[2]? = some (Ab k2)) (ha : F5 c l k0 ra) (hb : (x.text == B4) = false → F5 c l k1 rb) (hd : (x.text == ifW) = true → F5 c l k2 d2) (Hp : List AObj) : AFun Tryz.prog 185 [O5 c l, Ab x] Hp (Kr (Cx x.text ra rb d2)) := by
 refine ACall.body [.cell 4 24, .tmp 5] [0, 1] Tryz.func185 Tryz.ntmps185 (fun d => ?_)
 refine Lj ?_;refine ij ?_;refine Z23 ?_;refine Z40 ?_;refine R.seql ?_;refine R.fin [2, 3, 4, 12] ?_
 refine W.cond (fun ht12 => ?_) (fun ht12 => ?_)
 ·have hni : (x.text == B4) = false := by
   have e : x.text = ifW := by simpa [ifW] using ht12
   rw [e]; rfl
  have hc : Cx x.text ra rb d2 = (if (Aj ra).2 != 0 then Bh (Aj ra).2 else if (Aj ra).1 == E2 true then rb else d2) := if_pos ht12
  refine W.drawY [0, 0, 2, 6, 14, 31, 63, 127, 127, 0, 767, 2047] [9, 10] [.q 9 [] [], .s [6] (some 0) [] [1], .s [] (some 1) [0] []] (fun _ => Hp) (fun B => if B 0 = true then [.cells 24 [A4 0, A4 0, A8 []], (if B 1 = true then .cells 24 [A4 (Aj ra).1.kind, A4 (Aj ra).1.n, A8 (Aj ra).1.s] else .cells 24 [A4 0, A4 0, A8 []] : AObj)] else [.cells 24 [A4 0, A4 0, A8 []]]) Ae (by kernel_rfl) rfl rfl (fun _ => rfl) ?_
  apply Y.q
  case h1 =>
   intro B hT hF
   refine Z67 ?_;refine Gs ?_;refine m5 ?_;exact px
  case hTF => decide
  refine Z55 ?_;refine ob ?_;refine R.fin [2, 3, 4, 6, 7] ?_;refine Gd ?_;refine Ry ?_;refine R.fin [2, 3, 4, 6, 7, 22] ?_
  refine W.cond (fun ht22 => ?_) (fun ht22 => ?_)
  ·have hm : Cx x.text ra rb d2 = Bh (Aj ra).2 := by rw [hc, if_pos ht22]
   refine Z0 ?_;refine Z43 ?_;refine Oi ?_;exact ge
  refine W.draw [0, 0, 3, 7] 2 Ae (by kernel_rfl) ?_;refine S7 ?_;refine D.call Tryz.call122 (V1 true _) ?_;refine D.tail ?_;refine R.eqlAgg S8 (fun w => Fl (Aj ra).1.kind (Aj ra).1.n 3 1 (Aj ra).1.s [] w) ?_;refine Ax ?_;refine R.fin [2, 3, 4, 29] ?_
  refine W.cond (fun ht29 => ?_) (fun ht29 => ?_)
  ·rw [I5 (Aj ra).1 ⟨3, 1, []⟩] at ht29
   have ht29b : ((Aj ra).1 == E2 true) = true := ht29
   have hm : Cx x.text ra rb d2 = rb := by rw [hc, if_neg (by rw [ht22]; simp), if_pos ht29b]
   refine lu ?_;refine Gs ?_;refine D.indexAddr (1) (Ab k1) jU jS (h1 hni) ?_;refine Gt ?_;refine D.call Tryz.call158 (hb hni _) ?_;refine Uh ?_;refine Dh ?_;refine Oi ?_;exact ge
  rw [I5 (Aj ra).1 ⟨3, 1, []⟩] at ht29
  have hm : Cx x.text ra rb d2 = d2 := by rw [hc, if_neg (by rw [ht22]; simp), if_neg (by show ¬ ((Aj ra).1 == ⟨3, 1, []⟩) = true; rw [ht29]; simp)]
  refine Z17 ?_;refine lu ?_;refine Gs ?_;refine D.indexAddr (2) (Ab k2) jU jS (h2 ht12) ?_;refine Gt ?_;refine D.call Tryz.call158 (hd ht12 _) ?_;refine Uh ?_;exact mh
 have hc : Cx x.text ra rb d2 = (if ra.2 != 0 then Bh ra.2 else if x.text == B4 then (E2 (ra.1.kind == 0), 0) else if ra.1.kind != 0 then (ra.1, 0) else rb) := if_neg (by show ¬ (x.text == ifW) = true; rw [show (x.text == ifW) = false from ht12]; simp)
 refine Z5 ?_;refine W.drawY [0, 0, 2, 6, 14, 31, 63, 127, 127, 0, 767, 2047] [9, 10] [.q 9 [] [], .s [8] (some 0) [] [1], .s [] (some 1) [0] []] (fun _ => Hp) (fun B => if B 0 = true then [.cells 24 [A4 0, A4 0, A8 []], (if B 1 = true then .cells 24 [A4 ra.1.kind, A4 ra.1.n, A8 ra.1.s] else .cells 24 [A4 0, A4 0, A8 []] : AObj)] else [.cells 24 [A4 0, A4 0, A8 []]]) Ae (by kernel_rfl) rfl rfl (fun _ => rfl) ?_
 apply Y.q
 case h1 =>
  intro B hT hF
  refine Z67 ?_;refine Gs ?_;refine m5 ?_;refine D.call Tryz.call158 (ha _) ?_;exact m9
 case hTF => decide
 refine qr ?_;refine Y.storeOwnT (u := Hp.length) (n := 1) (t' := 24) (cs := [A4 0, A4 0, A8 []]) (cs' := [A4 ra.1.kind, A4 ra.1.n, A8 ra.1.s]) Tryz.sizeOf24 (fun B hT hF hB => ⟨rfl, by simp [hT 0 (by simp), hB], by simp [upd, hT 0 (by simp), hB], rfl⟩) ?_;refine Y.tail (tn := [9, 10]) (O := [.cells 24 [A4 0, A4 0, A8 []], .cells 24 [A4 ra.1.kind, A4 ra.1.n, A8 ra.1.s]]) ?_;refine Ax ?_;refine R.fin [2, 3, 4, 8, 9] ?_;refine Gd ?_;refine Ry ?_;refine R.fin [2, 3, 4, 8, 9, 58] ?_
 refine W.cond (fun ht58 => ?_) (fun ht58 => ?_)
 ·have hm : Cx x.text ra rb d2 = Bh ra.2 := by rw [hc, if_pos ht58]
  refine Z0 ?_;refine Z43 ?_;exact Z96
 refine S4 ?_;refine Z10 ?_;refine R.fin [2, 3, 4, 8, 65] ?_
 refine W.cond (fun ht65 => ?_) (fun ht65 => ?_)
 ·have hm : Cx x.text ra rb d2 = (E2 (ra.1.kind == 0), 0) := by rw [hc, if_neg (by rw [ht58]; simp), if_pos (show (x.text == B4) = true from ht65)]
  refine Y4 ?_;refine R.eql ?_;exact qb
 refine Y4 ?_;refine Ry ?_;refine R.fin [2, 3, 4, 8, 73] ?_
 refine W.cond (fun ht73 => ?_) (fun ht73 => ?_)
 ·have hm : Cx x.text ra rb d2 = (ra.1, 0) := by rw [hc, if_neg (by rw [ht58]; simp), if_neg (by show ¬ (x.text == B4) = true; rw [show (x.text == B4) = false from ht65]; simp), if_pos ht73]
  refine Z28 ?_;exact Ql
 have hm : Cx x.text ra rb d2 = rb := by rw [hc, if_neg (by rw [ht58]; simp), if_neg (by show ¬ (x.text == B4) = true; rw [show (x.text == B4) = false from ht65]; simp), if_neg (by rw [ht73]; simp)]
 refine Z17 ?_;refine lu ?_;refine Gs ?_;refine D.indexAddr (1) (Ab k1) jU jS (h1 ht65) ?_;refine Gt ?_;refine D.call Tryz.call158 (hb ht65 _) ?_;refine Uh ?_;exact gx

abbrev Ts (s : Sign) : AV := .agg [.slice false 1 (s.kids.map A4), A4 s.own]
theorem Eo {n : Nat} (s : Sign) : Low n (Ts s) := by simp [or_imp, forall_and]
theorem vk (s : Str) (Hp : List AObj) : AFun Tryz.prog 131 [A8 s] Hp (Ts (A2 s)) := by
 refine ACall.body [.cell 2 144] [0] Tryz.func131 Tryz.ntmps131 (fun d => ?_)
 refine Z85 ?_;refine Z9 ?_;refine R.fin [2, 3] ?_;refine Es ?_;refine W.seq ?_;refine Z19 ?_;refine R.fin [2, 3, 4] ?_
 refine W.cond (fun ht4 => ?_) (fun ht4 => ?_)
 ·refine Z5 ?_
  refine W.cond (fun ht4 => ?_) (fun ht4 => ?_)
  ·refine Z35 ?_
   first | (by_cases e0 : A2 s = ⟨[3, 3], 3⟩; exact K.fin (V.one (V.cellN Tryz.isAgg144 Tryz.sizeOf144)) ⟨by rw [e0]; rfl, rfl⟩; exfalso; apply e0; simp_all [A2]; done) | (by_cases e0 : A2 s = ⟨[-1, -1], 3⟩; exact K.fin (V.one (V.cellN Tryz.isAgg144 Tryz.sizeOf144)) ⟨by rw [e0]; rfl, rfl⟩; exfalso; apply e0; simp_all [A2]; done) | (by_cases e0 : A2 s = ⟨[2, 2], 2⟩; exact K.fin (V.one (V.cellN Tryz.isAgg144 Tryz.sizeOf144)) ⟨by rw [e0]; rfl, rfl⟩; exfalso; apply e0; simp_all [A2]; done) | (by_cases e0 : A2 s = ⟨[1, 1], 1⟩; exact K.fin (V.one (V.cellN Tryz.isAgg144 Tryz.sizeOf144)) ⟨by rw [e0]; rfl, rfl⟩; exfalso; apply e0; simp_all [A2]; done)
  refine W.seq ?_;refine Z93 ?_
  refine W.cond (fun ht9 => ?_) (fun ht9 => ?_)
  ·refine Z5 ?_
   refine W.cond (fun ht9 => ?_) (fun ht9 => ?_)
   ·refine Z35 ?_
    first | (by_cases e0 : A2 s = ⟨[3, 3], 3⟩; exact K.fin (V.one (V.cellN Tryz.isAgg144 Tryz.sizeOf144)) ⟨by rw [e0]; rfl, rfl⟩; exfalso; apply e0; simp_all [A2]; done) | (by_cases e0 : A2 s = ⟨[-1, -1], 3⟩; exact K.fin (V.one (V.cellN Tryz.isAgg144 Tryz.sizeOf144)) ⟨by rw [e0]; rfl, rfl⟩; exfalso; apply e0; simp_all [A2]; done) | (by_cases e0 : A2 s = ⟨[2, 2], 2⟩; exact K.fin (V.one (V.cellN Tryz.isAgg144 Tryz.sizeOf144)) ⟨by rw [e0]; rfl, rfl⟩; exfalso; apply e0; simp_all [A2]; done) | (by_cases e0 : A2 s = ⟨[1, 1], 1⟩; exact K.fin (V.one (V.cellN Tryz.isAgg144 Tryz.sizeOf144)) ⟨by rw [e0]; rfl, rfl⟩; exfalso; apply e0; simp_all [A2]; done)
   refine Z97 ?_
   refine W.cond (fun ht18 => ?_) (fun ht18 => ?_)
   ·refine Z35 ?_
    first | (by_cases e0 : A2 s = ⟨[3, 3], 3⟩; exact K.fin (V.one (V.cellN Tryz.isAgg144 Tryz.sizeOf144)) ⟨by rw [e0]; rfl, rfl⟩; exfalso; apply e0; simp_all [A2]; done) | (by_cases e0 : A2 s = ⟨[-1, -1], 3⟩; exact K.fin (V.one (V.cellN Tryz.isAgg144 Tryz.sizeOf144)) ⟨by rw [e0]; rfl, rfl⟩; exfalso; apply e0; simp_all [A2]; done) | (by_cases e0 : A2 s = ⟨[2, 2], 2⟩; exact K.fin (V.one (V.cellN Tryz.isAgg144 Tryz.sizeOf144)) ⟨by rw [e0]; rfl, rfl⟩; exfalso; apply e0; simp_all [A2]; done) | (by_cases e0 : A2 s = ⟨[1, 1], 1⟩; exact K.fin (V.one (V.cellN Tryz.isAgg144 Tryz.sizeOf144)) ⟨by rw [e0]; rfl, rfl⟩; exfalso; apply e0; simp_all [A2]; done)
   refine I6 ?_
   first | (by_cases e0 : A2 s = ⟨[3, 3], 3⟩; exact K.fin (V.one (V.cellN Tryz.isAgg144 Tryz.sizeOf144)) ⟨by rw [e0]; rfl, rfl⟩; exfalso; apply e0; simp_all [A2]; done) | (by_cases e0 : A2 s = ⟨[-1, -1], 3⟩; exact K.fin (V.one (V.cellN Tryz.isAgg144 Tryz.sizeOf144)) ⟨by rw [e0]; rfl, rfl⟩; exfalso; apply e0; simp_all [A2]; done) | (by_cases e0 : A2 s = ⟨[2, 2], 2⟩; exact K.fin (V.one (V.cellN Tryz.isAgg144 Tryz.sizeOf144)) ⟨by rw [e0]; rfl, rfl⟩; exfalso; apply e0; simp_all [A2]; done) | (by_cases e0 : A2 s = ⟨[1, 1], 1⟩; exact K.fin (V.one (V.cellN Tryz.isAgg144 Tryz.sizeOf144)) ⟨by rw [e0]; rfl, rfl⟩; exfalso; apply e0; simp_all [A2]; done)
  refine Z93 ?_
  refine W.cond (fun ht9 => ?_) (fun ht9 => ?_)
  ·refine Z5 ?_
   refine W.cond (fun ht9 => ?_) (fun ht9 => ?_)
   ·refine Z35 ?_
    first | (by_cases e0 : A2 s = ⟨[3, 3], 3⟩; exact K.fin (V.one (V.cellN Tryz.isAgg144 Tryz.sizeOf144)) ⟨by rw [e0]; rfl, rfl⟩; exfalso; apply e0; simp_all [A2]; done) | (by_cases e0 : A2 s = ⟨[-1, -1], 3⟩; exact K.fin (V.one (V.cellN Tryz.isAgg144 Tryz.sizeOf144)) ⟨by rw [e0]; rfl, rfl⟩; exfalso; apply e0; simp_all [A2]; done) | (by_cases e0 : A2 s = ⟨[2, 2], 2⟩; exact K.fin (V.one (V.cellN Tryz.isAgg144 Tryz.sizeOf144)) ⟨by rw [e0]; rfl, rfl⟩; exfalso; apply e0; simp_all [A2]; done) | (by_cases e0 : A2 s = ⟨[1, 1], 1⟩; exact K.fin (V.one (V.cellN Tryz.isAgg144 Tryz.sizeOf144)) ⟨by rw [e0]; rfl, rfl⟩; exfalso; apply e0; simp_all [A2]; done)
   refine Z97 ?_
   refine W.cond (fun ht18 => ?_) (fun ht18 => ?_)
   ·refine Z35 ?_
    first | (by_cases e0 : A2 s = ⟨[3, 3], 3⟩; exact K.fin (V.one (V.cellN Tryz.isAgg144 Tryz.sizeOf144)) ⟨by rw [e0]; rfl, rfl⟩; exfalso; apply e0; simp_all [A2]; done) | (by_cases e0 : A2 s = ⟨[-1, -1], 3⟩; exact K.fin (V.one (V.cellN Tryz.isAgg144 Tryz.sizeOf144)) ⟨by rw [e0]; rfl, rfl⟩; exfalso; apply e0; simp_all [A2]; done) | (by_cases e0 : A2 s = ⟨[2, 2], 2⟩; exact K.fin (V.one (V.cellN Tryz.isAgg144 Tryz.sizeOf144)) ⟨by rw [e0]; rfl, rfl⟩; exfalso; apply e0; simp_all [A2]; done) | (by_cases e0 : A2 s = ⟨[1, 1], 1⟩; exact K.fin (V.one (V.cellN Tryz.isAgg144 Tryz.sizeOf144)) ⟨by rw [e0]; rfl, rfl⟩; exfalso; apply e0; simp_all [A2]; done)
   refine I6 ?_
   first | (by_cases e0 : A2 s = ⟨[3, 3], 3⟩; exact K.fin (V.one (V.cellN Tryz.isAgg144 Tryz.sizeOf144)) ⟨by rw [e0]; rfl, rfl⟩; exfalso; apply e0; simp_all [A2]; done) | (by_cases e0 : A2 s = ⟨[-1, -1], 3⟩; exact K.fin (V.one (V.cellN Tryz.isAgg144 Tryz.sizeOf144)) ⟨by rw [e0]; rfl, rfl⟩; exfalso; apply e0; simp_all [A2]; done) | (by_cases e0 : A2 s = ⟨[2, 2], 2⟩; exact K.fin (V.one (V.cellN Tryz.isAgg144 Tryz.sizeOf144)) ⟨by rw [e0]; rfl, rfl⟩; exfalso; apply e0; simp_all [A2]; done) | (by_cases e0 : A2 s = ⟨[1, 1], 1⟩; exact K.fin (V.one (V.cellN Tryz.isAgg144 Tryz.sizeOf144)) ⟨by rw [e0]; rfl, rfl⟩; exfalso; apply e0; simp_all [A2]; done)
  refine Z93 ?_
  refine W.cond (fun ht9 => ?_) (fun ht9 => ?_)
  ·refine Z5 ?_
   refine W.cond (fun ht9 => ?_) (fun ht9 => ?_)
   ·refine Z35 ?_
    first | (by_cases e0 : A2 s = ⟨[3, 3], 3⟩; exact K.fin (V.one (V.cellN Tryz.isAgg144 Tryz.sizeOf144)) ⟨by rw [e0]; rfl, rfl⟩; exfalso; apply e0; simp_all [A2]; done) | (by_cases e0 : A2 s = ⟨[-1, -1], 3⟩; exact K.fin (V.one (V.cellN Tryz.isAgg144 Tryz.sizeOf144)) ⟨by rw [e0]; rfl, rfl⟩; exfalso; apply e0; simp_all [A2]; done) | (by_cases e0 : A2 s = ⟨[2, 2], 2⟩; exact K.fin (V.one (V.cellN Tryz.isAgg144 Tryz.sizeOf144)) ⟨by rw [e0]; rfl, rfl⟩; exfalso; apply e0; simp_all [A2]; done) | (by_cases e0 : A2 s = ⟨[1, 1], 1⟩; exact K.fin (V.one (V.cellN Tryz.isAgg144 Tryz.sizeOf144)) ⟨by rw [e0]; rfl, rfl⟩; exfalso; apply e0; simp_all [A2]; done)
   refine Z97 ?_
   refine W.cond (fun ht18 => ?_) (fun ht18 => ?_)
   ·refine Z35 ?_
    first | (by_cases e0 : A2 s = ⟨[3, 3], 3⟩; exact K.fin (V.one (V.cellN Tryz.isAgg144 Tryz.sizeOf144)) ⟨by rw [e0]; rfl, rfl⟩; exfalso; apply e0; simp_all [A2]; done) | (by_cases e0 : A2 s = ⟨[-1, -1], 3⟩; exact K.fin (V.one (V.cellN Tryz.isAgg144 Tryz.sizeOf144)) ⟨by rw [e0]; rfl, rfl⟩; exfalso; apply e0; simp_all [A2]; done) | (by_cases e0 : A2 s = ⟨[2, 2], 2⟩; exact K.fin (V.one (V.cellN Tryz.isAgg144 Tryz.sizeOf144)) ⟨by rw [e0]; rfl, rfl⟩; exfalso; apply e0; simp_all [A2]; done) | (by_cases e0 : A2 s = ⟨[1, 1], 1⟩; exact K.fin (V.one (V.cellN Tryz.isAgg144 Tryz.sizeOf144)) ⟨by rw [e0]; rfl, rfl⟩; exfalso; apply e0; simp_all [A2]; done)
   refine I6 ?_
   first | (by_cases e0 : A2 s = ⟨[3, 3], 3⟩; exact K.fin (V.one (V.cellN Tryz.isAgg144 Tryz.sizeOf144)) ⟨by rw [e0]; rfl, rfl⟩; exfalso; apply e0; simp_all [A2]; done) | (by_cases e0 : A2 s = ⟨[-1, -1], 3⟩; exact K.fin (V.one (V.cellN Tryz.isAgg144 Tryz.sizeOf144)) ⟨by rw [e0]; rfl, rfl⟩; exfalso; apply e0; simp_all [A2]; done) | (by_cases e0 : A2 s = ⟨[2, 2], 2⟩; exact K.fin (V.one (V.cellN Tryz.isAgg144 Tryz.sizeOf144)) ⟨by rw [e0]; rfl, rfl⟩; exfalso; apply e0; simp_all [A2]; done) | (by_cases e0 : A2 s = ⟨[1, 1], 1⟩; exact K.fin (V.one (V.cellN Tryz.isAgg144 Tryz.sizeOf144)) ⟨by rw [e0]; rfl, rfl⟩; exfalso; apply e0; simp_all [A2]; done)
  refine Z93 ?_
  refine W.cond (fun ht9 => ?_) (fun ht9 => ?_)
  ·refine Z5 ?_
   refine W.cond (fun ht9 => ?_) (fun ht9 => ?_)
   ·refine Z35 ?_
    first | (by_cases e0 : A2 s = ⟨[3, 3], 3⟩; exact K.fin (V.one (V.cellN Tryz.isAgg144 Tryz.sizeOf144)) ⟨by rw [e0]; rfl, rfl⟩; exfalso; apply e0; simp_all [A2]; done) | (by_cases e0 : A2 s = ⟨[-1, -1], 3⟩; exact K.fin (V.one (V.cellN Tryz.isAgg144 Tryz.sizeOf144)) ⟨by rw [e0]; rfl, rfl⟩; exfalso; apply e0; simp_all [A2]; done) | (by_cases e0 : A2 s = ⟨[2, 2], 2⟩; exact K.fin (V.one (V.cellN Tryz.isAgg144 Tryz.sizeOf144)) ⟨by rw [e0]; rfl, rfl⟩; exfalso; apply e0; simp_all [A2]; done) | (by_cases e0 : A2 s = ⟨[1, 1], 1⟩; exact K.fin (V.one (V.cellN Tryz.isAgg144 Tryz.sizeOf144)) ⟨by rw [e0]; rfl, rfl⟩; exfalso; apply e0; simp_all [A2]; done)
   refine Z97 ?_
   refine W.cond (fun ht18 => ?_) (fun ht18 => ?_)
   ·refine Z35 ?_
    first | (by_cases e0 : A2 s = ⟨[3, 3], 3⟩; exact K.fin (V.one (V.cellN Tryz.isAgg144 Tryz.sizeOf144)) ⟨by rw [e0]; rfl, rfl⟩; exfalso; apply e0; simp_all [A2]; done) | (by_cases e0 : A2 s = ⟨[-1, -1], 3⟩; exact K.fin (V.one (V.cellN Tryz.isAgg144 Tryz.sizeOf144)) ⟨by rw [e0]; rfl, rfl⟩; exfalso; apply e0; simp_all [A2]; done) | (by_cases e0 : A2 s = ⟨[2, 2], 2⟩; exact K.fin (V.one (V.cellN Tryz.isAgg144 Tryz.sizeOf144)) ⟨by rw [e0]; rfl, rfl⟩; exfalso; apply e0; simp_all [A2]; done) | (by_cases e0 : A2 s = ⟨[1, 1], 1⟩; exact K.fin (V.one (V.cellN Tryz.isAgg144 Tryz.sizeOf144)) ⟨by rw [e0]; rfl, rfl⟩; exfalso; apply e0; simp_all [A2]; done)
   refine I6 ?_
   first | (by_cases e0 : A2 s = ⟨[3, 3], 3⟩; exact K.fin (V.one (V.cellN Tryz.isAgg144 Tryz.sizeOf144)) ⟨by rw [e0]; rfl, rfl⟩; exfalso; apply e0; simp_all [A2]; done) | (by_cases e0 : A2 s = ⟨[-1, -1], 3⟩; exact K.fin (V.one (V.cellN Tryz.isAgg144 Tryz.sizeOf144)) ⟨by rw [e0]; rfl, rfl⟩; exfalso; apply e0; simp_all [A2]; done) | (by_cases e0 : A2 s = ⟨[2, 2], 2⟩; exact K.fin (V.one (V.cellN Tryz.isAgg144 Tryz.sizeOf144)) ⟨by rw [e0]; rfl, rfl⟩; exfalso; apply e0; simp_all [A2]; done) | (by_cases e0 : A2 s = ⟨[1, 1], 1⟩; exact K.fin (V.one (V.cellN Tryz.isAgg144 Tryz.sizeOf144)) ⟨by rw [e0]; rfl, rfl⟩; exfalso; apply e0; simp_all [A2]; done)
  refine Z93 ?_
  refine W.cond (fun ht9 => ?_) (fun ht9 => ?_)
  ·refine Z5 ?_
   refine W.cond (fun ht9 => ?_) (fun ht9 => ?_)
   ·refine Z35 ?_
    first | (by_cases e0 : A2 s = ⟨[3, 3], 3⟩; exact K.fin (V.one (V.cellN Tryz.isAgg144 Tryz.sizeOf144)) ⟨by rw [e0]; rfl, rfl⟩; exfalso; apply e0; simp_all [A2]; done) | (by_cases e0 : A2 s = ⟨[-1, -1], 3⟩; exact K.fin (V.one (V.cellN Tryz.isAgg144 Tryz.sizeOf144)) ⟨by rw [e0]; rfl, rfl⟩; exfalso; apply e0; simp_all [A2]; done) | (by_cases e0 : A2 s = ⟨[2, 2], 2⟩; exact K.fin (V.one (V.cellN Tryz.isAgg144 Tryz.sizeOf144)) ⟨by rw [e0]; rfl, rfl⟩; exfalso; apply e0; simp_all [A2]; done) | (by_cases e0 : A2 s = ⟨[1, 1], 1⟩; exact K.fin (V.one (V.cellN Tryz.isAgg144 Tryz.sizeOf144)) ⟨by rw [e0]; rfl, rfl⟩; exfalso; apply e0; simp_all [A2]; done)
   refine Z97 ?_
   refine W.cond (fun ht18 => ?_) (fun ht18 => ?_)
   ·refine Z35 ?_
    first | (by_cases e0 : A2 s = ⟨[3, 3], 3⟩; exact K.fin (V.one (V.cellN Tryz.isAgg144 Tryz.sizeOf144)) ⟨by rw [e0]; rfl, rfl⟩; exfalso; apply e0; simp_all [A2]; done) | (by_cases e0 : A2 s = ⟨[-1, -1], 3⟩; exact K.fin (V.one (V.cellN Tryz.isAgg144 Tryz.sizeOf144)) ⟨by rw [e0]; rfl, rfl⟩; exfalso; apply e0; simp_all [A2]; done) | (by_cases e0 : A2 s = ⟨[2, 2], 2⟩; exact K.fin (V.one (V.cellN Tryz.isAgg144 Tryz.sizeOf144)) ⟨by rw [e0]; rfl, rfl⟩; exfalso; apply e0; simp_all [A2]; done) | (by_cases e0 : A2 s = ⟨[1, 1], 1⟩; exact K.fin (V.one (V.cellN Tryz.isAgg144 Tryz.sizeOf144)) ⟨by rw [e0]; rfl, rfl⟩; exfalso; apply e0; simp_all [A2]; done)
   refine I6 ?_
   first | (by_cases e0 : A2 s = ⟨[3, 3], 3⟩; exact K.fin (V.one (V.cellN Tryz.isAgg144 Tryz.sizeOf144)) ⟨by rw [e0]; rfl, rfl⟩; exfalso; apply e0; simp_all [A2]; done) | (by_cases e0 : A2 s = ⟨[-1, -1], 3⟩; exact K.fin (V.one (V.cellN Tryz.isAgg144 Tryz.sizeOf144)) ⟨by rw [e0]; rfl, rfl⟩; exfalso; apply e0; simp_all [A2]; done) | (by_cases e0 : A2 s = ⟨[2, 2], 2⟩; exact K.fin (V.one (V.cellN Tryz.isAgg144 Tryz.sizeOf144)) ⟨by rw [e0]; rfl, rfl⟩; exfalso; apply e0; simp_all [A2]; done) | (by_cases e0 : A2 s = ⟨[1, 1], 1⟩; exact K.fin (V.one (V.cellN Tryz.isAgg144 Tryz.sizeOf144)) ⟨by rw [e0]; rfl, rfl⟩; exfalso; apply e0; simp_all [A2]; done)
  refine Qp ?_;refine R.fin [2, 3, 9] ?_;refine K.thN ?_
  refine W.cond (fun ht9 => ?_) (fun ht9 => ?_)
  ·refine Z35 ?_
   first | (by_cases e0 : A2 s = ⟨[3, 3], 3⟩; exact K.fin (V.one (V.cellN Tryz.isAgg144 Tryz.sizeOf144)) ⟨by rw [e0]; rfl, rfl⟩; exfalso; apply e0; simp_all [A2]; done) | (by_cases e0 : A2 s = ⟨[-1, -1], 3⟩; exact K.fin (V.one (V.cellN Tryz.isAgg144 Tryz.sizeOf144)) ⟨by rw [e0]; rfl, rfl⟩; exfalso; apply e0; simp_all [A2]; done) | (by_cases e0 : A2 s = ⟨[2, 2], 2⟩; exact K.fin (V.one (V.cellN Tryz.isAgg144 Tryz.sizeOf144)) ⟨by rw [e0]; rfl, rfl⟩; exfalso; apply e0; simp_all [A2]; done) | (by_cases e0 : A2 s = ⟨[1, 1], 1⟩; exact K.fin (V.one (V.cellN Tryz.isAgg144 Tryz.sizeOf144)) ⟨by rw [e0]; rfl, rfl⟩; exfalso; apply e0; simp_all [A2]; done)
  refine Z97 ?_
  refine W.cond (fun ht18 => ?_) (fun ht18 => ?_)
  ·refine Z35 ?_
   first | (by_cases e0 : A2 s = ⟨[3, 3], 3⟩; exact K.fin (V.one (V.cellN Tryz.isAgg144 Tryz.sizeOf144)) ⟨by rw [e0]; rfl, rfl⟩; exfalso; apply e0; simp_all [A2]; done) | (by_cases e0 : A2 s = ⟨[-1, -1], 3⟩; exact K.fin (V.one (V.cellN Tryz.isAgg144 Tryz.sizeOf144)) ⟨by rw [e0]; rfl, rfl⟩; exfalso; apply e0; simp_all [A2]; done) | (by_cases e0 : A2 s = ⟨[2, 2], 2⟩; exact K.fin (V.one (V.cellN Tryz.isAgg144 Tryz.sizeOf144)) ⟨by rw [e0]; rfl, rfl⟩; exfalso; apply e0; simp_all [A2]; done) | (by_cases e0 : A2 s = ⟨[1, 1], 1⟩; exact K.fin (V.one (V.cellN Tryz.isAgg144 Tryz.sizeOf144)) ⟨by rw [e0]; rfl, rfl⟩; exfalso; apply e0; simp_all [A2]; done)
  refine I6 ?_
  first | (by_cases e0 : A2 s = ⟨[3, 3], 3⟩; exact K.fin (V.one (V.cellN Tryz.isAgg144 Tryz.sizeOf144)) ⟨by rw [e0]; rfl, rfl⟩; exfalso; apply e0; simp_all [A2]; done) | (by_cases e0 : A2 s = ⟨[-1, -1], 3⟩; exact K.fin (V.one (V.cellN Tryz.isAgg144 Tryz.sizeOf144)) ⟨by rw [e0]; rfl, rfl⟩; exfalso; apply e0; simp_all [A2]; done) | (by_cases e0 : A2 s = ⟨[2, 2], 2⟩; exact K.fin (V.one (V.cellN Tryz.isAgg144 Tryz.sizeOf144)) ⟨by rw [e0]; rfl, rfl⟩; exfalso; apply e0; simp_all [A2]; done) | (by_cases e0 : A2 s = ⟨[1, 1], 1⟩; exact K.fin (V.one (V.cellN Tryz.isAgg144 Tryz.sizeOf144)) ⟨by rw [e0]; rfl, rfl⟩; exfalso; apply e0; simp_all [A2]; done)
 refine Qp ?_;refine R.fin [2, 3, 4] ?_;refine K.thN ?_
 refine W.cond (fun ht4 => ?_) (fun ht4 => ?_)
 ·refine Z35 ?_
  first | (by_cases e0 : A2 s = ⟨[3, 3], 3⟩; exact K.fin (V.one (V.cellN Tryz.isAgg144 Tryz.sizeOf144)) ⟨by rw [e0]; rfl, rfl⟩; exfalso; apply e0; simp_all [A2]; done) | (by_cases e0 : A2 s = ⟨[-1, -1], 3⟩; exact K.fin (V.one (V.cellN Tryz.isAgg144 Tryz.sizeOf144)) ⟨by rw [e0]; rfl, rfl⟩; exfalso; apply e0; simp_all [A2]; done) | (by_cases e0 : A2 s = ⟨[2, 2], 2⟩; exact K.fin (V.one (V.cellN Tryz.isAgg144 Tryz.sizeOf144)) ⟨by rw [e0]; rfl, rfl⟩; exfalso; apply e0; simp_all [A2]; done) | (by_cases e0 : A2 s = ⟨[1, 1], 1⟩; exact K.fin (V.one (V.cellN Tryz.isAgg144 Tryz.sizeOf144)) ⟨by rw [e0]; rfl, rfl⟩; exfalso; apply e0; simp_all [A2]; done)
 refine W.seq ?_;refine Z93 ?_
 refine W.cond (fun ht9 => ?_) (fun ht9 => ?_)
 ·refine Z5 ?_
  refine W.cond (fun ht9 => ?_) (fun ht9 => ?_)
  ·refine Z35 ?_
   first | (by_cases e0 : A2 s = ⟨[3, 3], 3⟩; exact K.fin (V.one (V.cellN Tryz.isAgg144 Tryz.sizeOf144)) ⟨by rw [e0]; rfl, rfl⟩; exfalso; apply e0; simp_all [A2]; done) | (by_cases e0 : A2 s = ⟨[-1, -1], 3⟩; exact K.fin (V.one (V.cellN Tryz.isAgg144 Tryz.sizeOf144)) ⟨by rw [e0]; rfl, rfl⟩; exfalso; apply e0; simp_all [A2]; done) | (by_cases e0 : A2 s = ⟨[2, 2], 2⟩; exact K.fin (V.one (V.cellN Tryz.isAgg144 Tryz.sizeOf144)) ⟨by rw [e0]; rfl, rfl⟩; exfalso; apply e0; simp_all [A2]; done) | (by_cases e0 : A2 s = ⟨[1, 1], 1⟩; exact K.fin (V.one (V.cellN Tryz.isAgg144 Tryz.sizeOf144)) ⟨by rw [e0]; rfl, rfl⟩; exfalso; apply e0; simp_all [A2]; done)
  refine Z97 ?_
  refine W.cond (fun ht18 => ?_) (fun ht18 => ?_)
  ·refine Z35 ?_
   first | (by_cases e0 : A2 s = ⟨[3, 3], 3⟩; exact K.fin (V.one (V.cellN Tryz.isAgg144 Tryz.sizeOf144)) ⟨by rw [e0]; rfl, rfl⟩; exfalso; apply e0; simp_all [A2]; done) | (by_cases e0 : A2 s = ⟨[-1, -1], 3⟩; exact K.fin (V.one (V.cellN Tryz.isAgg144 Tryz.sizeOf144)) ⟨by rw [e0]; rfl, rfl⟩; exfalso; apply e0; simp_all [A2]; done) | (by_cases e0 : A2 s = ⟨[2, 2], 2⟩; exact K.fin (V.one (V.cellN Tryz.isAgg144 Tryz.sizeOf144)) ⟨by rw [e0]; rfl, rfl⟩; exfalso; apply e0; simp_all [A2]; done) | (by_cases e0 : A2 s = ⟨[1, 1], 1⟩; exact K.fin (V.one (V.cellN Tryz.isAgg144 Tryz.sizeOf144)) ⟨by rw [e0]; rfl, rfl⟩; exfalso; apply e0; simp_all [A2]; done)
  refine I6 ?_
  first | (by_cases e0 : A2 s = ⟨[3, 3], 3⟩; exact K.fin (V.one (V.cellN Tryz.isAgg144 Tryz.sizeOf144)) ⟨by rw [e0]; rfl, rfl⟩; exfalso; apply e0; simp_all [A2]; done) | (by_cases e0 : A2 s = ⟨[-1, -1], 3⟩; exact K.fin (V.one (V.cellN Tryz.isAgg144 Tryz.sizeOf144)) ⟨by rw [e0]; rfl, rfl⟩; exfalso; apply e0; simp_all [A2]; done) | (by_cases e0 : A2 s = ⟨[2, 2], 2⟩; exact K.fin (V.one (V.cellN Tryz.isAgg144 Tryz.sizeOf144)) ⟨by rw [e0]; rfl, rfl⟩; exfalso; apply e0; simp_all [A2]; done) | (by_cases e0 : A2 s = ⟨[1, 1], 1⟩; exact K.fin (V.one (V.cellN Tryz.isAgg144 Tryz.sizeOf144)) ⟨by rw [e0]; rfl, rfl⟩; exfalso; apply e0; simp_all [A2]; done)
 refine Z93 ?_
 refine W.cond (fun ht9 => ?_) (fun ht9 => ?_)
 ·refine Z5 ?_
  refine W.cond (fun ht9 => ?_) (fun ht9 => ?_)
  ·refine Z35 ?_
   first | (by_cases e0 : A2 s = ⟨[3, 3], 3⟩; exact K.fin (V.one (V.cellN Tryz.isAgg144 Tryz.sizeOf144)) ⟨by rw [e0]; rfl, rfl⟩; exfalso; apply e0; simp_all [A2]; done) | (by_cases e0 : A2 s = ⟨[-1, -1], 3⟩; exact K.fin (V.one (V.cellN Tryz.isAgg144 Tryz.sizeOf144)) ⟨by rw [e0]; rfl, rfl⟩; exfalso; apply e0; simp_all [A2]; done) | (by_cases e0 : A2 s = ⟨[2, 2], 2⟩; exact K.fin (V.one (V.cellN Tryz.isAgg144 Tryz.sizeOf144)) ⟨by rw [e0]; rfl, rfl⟩; exfalso; apply e0; simp_all [A2]; done) | (by_cases e0 : A2 s = ⟨[1, 1], 1⟩; exact K.fin (V.one (V.cellN Tryz.isAgg144 Tryz.sizeOf144)) ⟨by rw [e0]; rfl, rfl⟩; exfalso; apply e0; simp_all [A2]; done)
  refine Z97 ?_
  refine W.cond (fun ht18 => ?_) (fun ht18 => ?_)
  ·refine Z35 ?_
   first | (by_cases e0 : A2 s = ⟨[3, 3], 3⟩; exact K.fin (V.one (V.cellN Tryz.isAgg144 Tryz.sizeOf144)) ⟨by rw [e0]; rfl, rfl⟩; exfalso; apply e0; simp_all [A2]; done) | (by_cases e0 : A2 s = ⟨[-1, -1], 3⟩; exact K.fin (V.one (V.cellN Tryz.isAgg144 Tryz.sizeOf144)) ⟨by rw [e0]; rfl, rfl⟩; exfalso; apply e0; simp_all [A2]; done) | (by_cases e0 : A2 s = ⟨[2, 2], 2⟩; exact K.fin (V.one (V.cellN Tryz.isAgg144 Tryz.sizeOf144)) ⟨by rw [e0]; rfl, rfl⟩; exfalso; apply e0; simp_all [A2]; done) | (by_cases e0 : A2 s = ⟨[1, 1], 1⟩; exact K.fin (V.one (V.cellN Tryz.isAgg144 Tryz.sizeOf144)) ⟨by rw [e0]; rfl, rfl⟩; exfalso; apply e0; simp_all [A2]; done)
  refine I6 ?_
  first | (by_cases e0 : A2 s = ⟨[3, 3], 3⟩; exact K.fin (V.one (V.cellN Tryz.isAgg144 Tryz.sizeOf144)) ⟨by rw [e0]; rfl, rfl⟩; exfalso; apply e0; simp_all [A2]; done) | (by_cases e0 : A2 s = ⟨[-1, -1], 3⟩; exact K.fin (V.one (V.cellN Tryz.isAgg144 Tryz.sizeOf144)) ⟨by rw [e0]; rfl, rfl⟩; exfalso; apply e0; simp_all [A2]; done) | (by_cases e0 : A2 s = ⟨[2, 2], 2⟩; exact K.fin (V.one (V.cellN Tryz.isAgg144 Tryz.sizeOf144)) ⟨by rw [e0]; rfl, rfl⟩; exfalso; apply e0; simp_all [A2]; done) | (by_cases e0 : A2 s = ⟨[1, 1], 1⟩; exact K.fin (V.one (V.cellN Tryz.isAgg144 Tryz.sizeOf144)) ⟨by rw [e0]; rfl, rfl⟩; exfalso; apply e0; simp_all [A2]; done)
 refine Z93 ?_
 refine W.cond (fun ht9 => ?_) (fun ht9 => ?_)
 ·refine Z5 ?_
  refine W.cond (fun ht9 => ?_) (fun ht9 => ?_)
  ·refine Z35 ?_
   first | (by_cases e0 : A2 s = ⟨[3, 3], 3⟩; exact K.fin (V.one (V.cellN Tryz.isAgg144 Tryz.sizeOf144)) ⟨by rw [e0]; rfl, rfl⟩; exfalso; apply e0; simp_all [A2]; done) | (by_cases e0 : A2 s = ⟨[-1, -1], 3⟩; exact K.fin (V.one (V.cellN Tryz.isAgg144 Tryz.sizeOf144)) ⟨by rw [e0]; rfl, rfl⟩; exfalso; apply e0; simp_all [A2]; done) | (by_cases e0 : A2 s = ⟨[2, 2], 2⟩; exact K.fin (V.one (V.cellN Tryz.isAgg144 Tryz.sizeOf144)) ⟨by rw [e0]; rfl, rfl⟩; exfalso; apply e0; simp_all [A2]; done) | (by_cases e0 : A2 s = ⟨[1, 1], 1⟩; exact K.fin (V.one (V.cellN Tryz.isAgg144 Tryz.sizeOf144)) ⟨by rw [e0]; rfl, rfl⟩; exfalso; apply e0; simp_all [A2]; done)
  refine Z97 ?_
  refine W.cond (fun ht18 => ?_) (fun ht18 => ?_)
  ·refine Z35 ?_
   first | (by_cases e0 : A2 s = ⟨[3, 3], 3⟩; exact K.fin (V.one (V.cellN Tryz.isAgg144 Tryz.sizeOf144)) ⟨by rw [e0]; rfl, rfl⟩; exfalso; apply e0; simp_all [A2]; done) | (by_cases e0 : A2 s = ⟨[-1, -1], 3⟩; exact K.fin (V.one (V.cellN Tryz.isAgg144 Tryz.sizeOf144)) ⟨by rw [e0]; rfl, rfl⟩; exfalso; apply e0; simp_all [A2]; done) | (by_cases e0 : A2 s = ⟨[2, 2], 2⟩; exact K.fin (V.one (V.cellN Tryz.isAgg144 Tryz.sizeOf144)) ⟨by rw [e0]; rfl, rfl⟩; exfalso; apply e0; simp_all [A2]; done) | (by_cases e0 : A2 s = ⟨[1, 1], 1⟩; exact K.fin (V.one (V.cellN Tryz.isAgg144 Tryz.sizeOf144)) ⟨by rw [e0]; rfl, rfl⟩; exfalso; apply e0; simp_all [A2]; done)
  refine I6 ?_
  first | (by_cases e0 : A2 s = ⟨[3, 3], 3⟩; exact K.fin (V.one (V.cellN Tryz.isAgg144 Tryz.sizeOf144)) ⟨by rw [e0]; rfl, rfl⟩; exfalso; apply e0; simp_all [A2]; done) | (by_cases e0 : A2 s = ⟨[-1, -1], 3⟩; exact K.fin (V.one (V.cellN Tryz.isAgg144 Tryz.sizeOf144)) ⟨by rw [e0]; rfl, rfl⟩; exfalso; apply e0; simp_all [A2]; done) | (by_cases e0 : A2 s = ⟨[2, 2], 2⟩; exact K.fin (V.one (V.cellN Tryz.isAgg144 Tryz.sizeOf144)) ⟨by rw [e0]; rfl, rfl⟩; exfalso; apply e0; simp_all [A2]; done) | (by_cases e0 : A2 s = ⟨[1, 1], 1⟩; exact K.fin (V.one (V.cellN Tryz.isAgg144 Tryz.sizeOf144)) ⟨by rw [e0]; rfl, rfl⟩; exfalso; apply e0; simp_all [A2]; done)
 refine Z93 ?_
 refine W.cond (fun ht9 => ?_) (fun ht9 => ?_)
 ·refine Z5 ?_
  refine W.cond (fun ht9 => ?_) (fun ht9 => ?_)
  ·refine Z35 ?_
   first | (by_cases e0 : A2 s = ⟨[3, 3], 3⟩; exact K.fin (V.one (V.cellN Tryz.isAgg144 Tryz.sizeOf144)) ⟨by rw [e0]; rfl, rfl⟩; exfalso; apply e0; simp_all [A2]; done) | (by_cases e0 : A2 s = ⟨[-1, -1], 3⟩; exact K.fin (V.one (V.cellN Tryz.isAgg144 Tryz.sizeOf144)) ⟨by rw [e0]; rfl, rfl⟩; exfalso; apply e0; simp_all [A2]; done) | (by_cases e0 : A2 s = ⟨[2, 2], 2⟩; exact K.fin (V.one (V.cellN Tryz.isAgg144 Tryz.sizeOf144)) ⟨by rw [e0]; rfl, rfl⟩; exfalso; apply e0; simp_all [A2]; done) | (by_cases e0 : A2 s = ⟨[1, 1], 1⟩; exact K.fin (V.one (V.cellN Tryz.isAgg144 Tryz.sizeOf144)) ⟨by rw [e0]; rfl, rfl⟩; exfalso; apply e0; simp_all [A2]; done)
  refine Z97 ?_
  refine W.cond (fun ht18 => ?_) (fun ht18 => ?_)
  ·refine Z35 ?_
   first | (by_cases e0 : A2 s = ⟨[3, 3], 3⟩; exact K.fin (V.one (V.cellN Tryz.isAgg144 Tryz.sizeOf144)) ⟨by rw [e0]; rfl, rfl⟩; exfalso; apply e0; simp_all [A2]; done) | (by_cases e0 : A2 s = ⟨[-1, -1], 3⟩; exact K.fin (V.one (V.cellN Tryz.isAgg144 Tryz.sizeOf144)) ⟨by rw [e0]; rfl, rfl⟩; exfalso; apply e0; simp_all [A2]; done) | (by_cases e0 : A2 s = ⟨[2, 2], 2⟩; exact K.fin (V.one (V.cellN Tryz.isAgg144 Tryz.sizeOf144)) ⟨by rw [e0]; rfl, rfl⟩; exfalso; apply e0; simp_all [A2]; done) | (by_cases e0 : A2 s = ⟨[1, 1], 1⟩; exact K.fin (V.one (V.cellN Tryz.isAgg144 Tryz.sizeOf144)) ⟨by rw [e0]; rfl, rfl⟩; exfalso; apply e0; simp_all [A2]; done)
  refine I6 ?_
  first | (by_cases e0 : A2 s = ⟨[3, 3], 3⟩; exact K.fin (V.one (V.cellN Tryz.isAgg144 Tryz.sizeOf144)) ⟨by rw [e0]; rfl, rfl⟩; exfalso; apply e0; simp_all [A2]; done) | (by_cases e0 : A2 s = ⟨[-1, -1], 3⟩; exact K.fin (V.one (V.cellN Tryz.isAgg144 Tryz.sizeOf144)) ⟨by rw [e0]; rfl, rfl⟩; exfalso; apply e0; simp_all [A2]; done) | (by_cases e0 : A2 s = ⟨[2, 2], 2⟩; exact K.fin (V.one (V.cellN Tryz.isAgg144 Tryz.sizeOf144)) ⟨by rw [e0]; rfl, rfl⟩; exfalso; apply e0; simp_all [A2]; done) | (by_cases e0 : A2 s = ⟨[1, 1], 1⟩; exact K.fin (V.one (V.cellN Tryz.isAgg144 Tryz.sizeOf144)) ⟨by rw [e0]; rfl, rfl⟩; exfalso; apply e0; simp_all [A2]; done)
 refine Z93 ?_
 refine W.cond (fun ht9 => ?_) (fun ht9 => ?_)
 ·refine Z5 ?_
  refine W.cond (fun ht9 => ?_) (fun ht9 => ?_)
  ·refine Z35 ?_
   first | (by_cases e0 : A2 s = ⟨[3, 3], 3⟩; exact K.fin (V.one (V.cellN Tryz.isAgg144 Tryz.sizeOf144)) ⟨by rw [e0]; rfl, rfl⟩; exfalso; apply e0; simp_all [A2]; done) | (by_cases e0 : A2 s = ⟨[-1, -1], 3⟩; exact K.fin (V.one (V.cellN Tryz.isAgg144 Tryz.sizeOf144)) ⟨by rw [e0]; rfl, rfl⟩; exfalso; apply e0; simp_all [A2]; done) | (by_cases e0 : A2 s = ⟨[2, 2], 2⟩; exact K.fin (V.one (V.cellN Tryz.isAgg144 Tryz.sizeOf144)) ⟨by rw [e0]; rfl, rfl⟩; exfalso; apply e0; simp_all [A2]; done) | (by_cases e0 : A2 s = ⟨[1, 1], 1⟩; exact K.fin (V.one (V.cellN Tryz.isAgg144 Tryz.sizeOf144)) ⟨by rw [e0]; rfl, rfl⟩; exfalso; apply e0; simp_all [A2]; done)
  refine Z97 ?_
  refine W.cond (fun ht18 => ?_) (fun ht18 => ?_)
  ·refine Z35 ?_
   first | (by_cases e0 : A2 s = ⟨[3, 3], 3⟩; exact K.fin (V.one (V.cellN Tryz.isAgg144 Tryz.sizeOf144)) ⟨by rw [e0]; rfl, rfl⟩; exfalso; apply e0; simp_all [A2]; done) | (by_cases e0 : A2 s = ⟨[-1, -1], 3⟩; exact K.fin (V.one (V.cellN Tryz.isAgg144 Tryz.sizeOf144)) ⟨by rw [e0]; rfl, rfl⟩; exfalso; apply e0; simp_all [A2]; done) | (by_cases e0 : A2 s = ⟨[2, 2], 2⟩; exact K.fin (V.one (V.cellN Tryz.isAgg144 Tryz.sizeOf144)) ⟨by rw [e0]; rfl, rfl⟩; exfalso; apply e0; simp_all [A2]; done) | (by_cases e0 : A2 s = ⟨[1, 1], 1⟩; exact K.fin (V.one (V.cellN Tryz.isAgg144 Tryz.sizeOf144)) ⟨by rw [e0]; rfl, rfl⟩; exfalso; apply e0; simp_all [A2]; done)
  refine I6 ?_
  first | (by_cases e0 : A2 s = ⟨[3, 3], 3⟩; exact K.fin (V.one (V.cellN Tryz.isAgg144 Tryz.sizeOf144)) ⟨by rw [e0]; rfl, rfl⟩; exfalso; apply e0; simp_all [A2]; done) | (by_cases e0 : A2 s = ⟨[-1, -1], 3⟩; exact K.fin (V.one (V.cellN Tryz.isAgg144 Tryz.sizeOf144)) ⟨by rw [e0]; rfl, rfl⟩; exfalso; apply e0; simp_all [A2]; done) | (by_cases e0 : A2 s = ⟨[2, 2], 2⟩; exact K.fin (V.one (V.cellN Tryz.isAgg144 Tryz.sizeOf144)) ⟨by rw [e0]; rfl, rfl⟩; exfalso; apply e0; simp_all [A2]; done) | (by_cases e0 : A2 s = ⟨[1, 1], 1⟩; exact K.fin (V.one (V.cellN Tryz.isAgg144 Tryz.sizeOf144)) ⟨by rw [e0]; rfl, rfl⟩; exfalso; apply e0; simp_all [A2]; done)
 refine Qp ?_;refine R.fin [2, 3, 9] ?_;refine K.thN ?_
 refine W.cond (fun ht9 => ?_) (fun ht9 => ?_)
 ·refine Z35 ?_
  first | (by_cases e0 : A2 s = ⟨[3, 3], 3⟩; exact K.fin (V.one (V.cellN Tryz.isAgg144 Tryz.sizeOf144)) ⟨by rw [e0]; rfl, rfl⟩; exfalso; apply e0; simp_all [A2]; done) | (by_cases e0 : A2 s = ⟨[-1, -1], 3⟩; exact K.fin (V.one (V.cellN Tryz.isAgg144 Tryz.sizeOf144)) ⟨by rw [e0]; rfl, rfl⟩; exfalso; apply e0; simp_all [A2]; done) | (by_cases e0 : A2 s = ⟨[2, 2], 2⟩; exact K.fin (V.one (V.cellN Tryz.isAgg144 Tryz.sizeOf144)) ⟨by rw [e0]; rfl, rfl⟩; exfalso; apply e0; simp_all [A2]; done) | (by_cases e0 : A2 s = ⟨[1, 1], 1⟩; exact K.fin (V.one (V.cellN Tryz.isAgg144 Tryz.sizeOf144)) ⟨by rw [e0]; rfl, rfl⟩; exfalso; apply e0; simp_all [A2]; done)
 refine Z97 ?_
 refine W.cond (fun ht18 => ?_) (fun ht18 => ?_)
 ·refine Z35 ?_
  first | (by_cases e0 : A2 s = ⟨[3, 3], 3⟩; exact K.fin (V.one (V.cellN Tryz.isAgg144 Tryz.sizeOf144)) ⟨by rw [e0]; rfl, rfl⟩; exfalso; apply e0; simp_all [A2]; done) | (by_cases e0 : A2 s = ⟨[-1, -1], 3⟩; exact K.fin (V.one (V.cellN Tryz.isAgg144 Tryz.sizeOf144)) ⟨by rw [e0]; rfl, rfl⟩; exfalso; apply e0; simp_all [A2]; done) | (by_cases e0 : A2 s = ⟨[2, 2], 2⟩; exact K.fin (V.one (V.cellN Tryz.isAgg144 Tryz.sizeOf144)) ⟨by rw [e0]; rfl, rfl⟩; exfalso; apply e0; simp_all [A2]; done) | (by_cases e0 : A2 s = ⟨[1, 1], 1⟩; exact K.fin (V.one (V.cellN Tryz.isAgg144 Tryz.sizeOf144)) ⟨by rw [e0]; rfl, rfl⟩; exfalso; apply e0; simp_all [A2]; done)
 refine I6 ?_
 first | (by_cases e0 : A2 s = ⟨[3, 3], 3⟩; exact K.fin (V.one (V.cellN Tryz.isAgg144 Tryz.sizeOf144)) ⟨by rw [e0]; rfl, rfl⟩; exfalso; apply e0; simp_all [A2]; done) | (by_cases e0 : A2 s = ⟨[-1, -1], 3⟩; exact K.fin (V.one (V.cellN Tryz.isAgg144 Tryz.sizeOf144)) ⟨by rw [e0]; rfl, rfl⟩; exfalso; apply e0; simp_all [A2]; done) | (by_cases e0 : A2 s = ⟨[2, 2], 2⟩; exact K.fin (V.one (V.cellN Tryz.isAgg144 Tryz.sizeOf144)) ⟨by rw [e0]; rfl, rfl⟩; exfalso; apply e0; simp_all [A2]; done) | (by_cases e0 : A2 s = ⟨[1, 1], 1⟩; exact K.fin (V.one (V.cellN Tryz.isAgg144 Tryz.sizeOf144)) ⟨by rw [e0]; rfl, rfl⟩; exfalso; apply e0; simp_all [A2]; done)

theorem vl (s : Str) (Hp : List AObj) : AFun Tryz.prog 132 [A8 s] Hp (Ts (A3 s)) := by
 refine ACall.body [.cell 2 144] [0] Tryz.func132 Tryz.ntmps132 (fun d => ?_)
 refine Z85 ?_;refine Z9 ?_;refine R.fin [2, 3] ?_;refine Es ?_;refine W.seq ?_;refine Z19 ?_;refine R.fin [2, 3, 4] ?_
 refine W.cond (fun ht4 => ?_) (fun ht4 => ?_)
 ·refine Z5 ?_
  refine W.cond (fun ht4 => ?_) (fun ht4 => ?_)
  ·refine Z35 ?_
   first | (by_cases e0 : A3 s = ⟨[2], 1⟩; exact K.fin (V.one (V.cellN Tryz.isAgg144 Tryz.sizeOf144)) ⟨by rw [e0]; rfl, rfl⟩; exfalso; apply e0; simp_all [A3]; done) | (by_cases e0 : A3 s = ⟨[1], 2⟩; exact K.fin (V.one (V.cellN Tryz.isAgg144 Tryz.sizeOf144)) ⟨by rw [e0]; rfl, rfl⟩; exfalso; apply e0; simp_all [A3]; done) | (by_cases e0 : A3 s = ⟨[2, 1], 2⟩; exact K.fin (V.one (V.cellN Tryz.isAgg144 Tryz.sizeOf144)) ⟨by rw [e0]; rfl, rfl⟩; exfalso; apply e0; simp_all [A3]; done) | (by_cases e0 : A3 s = ⟨[-2], 3⟩; exact K.fin (V.one (V.cellN Tryz.isAgg144 Tryz.sizeOf144)) ⟨by rw [e0]; rfl, rfl⟩; exfalso; apply e0; simp_all [A3]; done) | (by_cases e0 : A3 s = ⟨[-1, -1], -1⟩; exact K.fin (V.one (V.cellN Tryz.isAgg144 Tryz.sizeOf144)) ⟨by rw [e0]; rfl, rfl⟩; exfalso; apply e0; simp_all [A3]; done) | (by_cases e0 : A3 s = ⟨[3, -1, -1], -1⟩; exact K.fin (V.one (V.cellN Tryz.isAgg144 Tryz.sizeOf144)) ⟨by rw [e0]; rfl, rfl⟩; exfalso; apply e0; simp_all [A3]; done)
  refine Z93 ?_
  refine W.cond (fun ht9 => ?_) (fun ht9 => ?_)
  ·refine Z35 ?_
   first | (by_cases e0 : A3 s = ⟨[2], 1⟩; exact K.fin (V.one (V.cellN Tryz.isAgg144 Tryz.sizeOf144)) ⟨by rw [e0]; rfl, rfl⟩; exfalso; apply e0; simp_all [A3]; done) | (by_cases e0 : A3 s = ⟨[1], 2⟩; exact K.fin (V.one (V.cellN Tryz.isAgg144 Tryz.sizeOf144)) ⟨by rw [e0]; rfl, rfl⟩; exfalso; apply e0; simp_all [A3]; done) | (by_cases e0 : A3 s = ⟨[2, 1], 2⟩; exact K.fin (V.one (V.cellN Tryz.isAgg144 Tryz.sizeOf144)) ⟨by rw [e0]; rfl, rfl⟩; exfalso; apply e0; simp_all [A3]; done) | (by_cases e0 : A3 s = ⟨[-2], 3⟩; exact K.fin (V.one (V.cellN Tryz.isAgg144 Tryz.sizeOf144)) ⟨by rw [e0]; rfl, rfl⟩; exfalso; apply e0; simp_all [A3]; done) | (by_cases e0 : A3 s = ⟨[-1, -1], -1⟩; exact K.fin (V.one (V.cellN Tryz.isAgg144 Tryz.sizeOf144)) ⟨by rw [e0]; rfl, rfl⟩; exfalso; apply e0; simp_all [A3]; done) | (by_cases e0 : A3 s = ⟨[3, -1, -1], -1⟩; exact K.fin (V.one (V.cellN Tryz.isAgg144 Tryz.sizeOf144)) ⟨by rw [e0]; rfl, rfl⟩; exfalso; apply e0; simp_all [A3]; done)
  refine W.seq ?_;refine Z19 ?_;refine R.fin [2, 3, 13] ?_
  refine W.cond (fun ht13 => ?_) (fun ht13 => ?_)
  ·refine Z5 ?_
   refine W.cond (fun ht13 => ?_) (fun ht13 => ?_)
   ·refine Z35 ?_
    first | (by_cases e0 : A3 s = ⟨[2], 1⟩; exact K.fin (V.one (V.cellN Tryz.isAgg144 Tryz.sizeOf144)) ⟨by rw [e0]; rfl, rfl⟩; exfalso; apply e0; simp_all [A3]; done) | (by_cases e0 : A3 s = ⟨[1], 2⟩; exact K.fin (V.one (V.cellN Tryz.isAgg144 Tryz.sizeOf144)) ⟨by rw [e0]; rfl, rfl⟩; exfalso; apply e0; simp_all [A3]; done) | (by_cases e0 : A3 s = ⟨[2, 1], 2⟩; exact K.fin (V.one (V.cellN Tryz.isAgg144 Tryz.sizeOf144)) ⟨by rw [e0]; rfl, rfl⟩; exfalso; apply e0; simp_all [A3]; done) | (by_cases e0 : A3 s = ⟨[-2], 3⟩; exact K.fin (V.one (V.cellN Tryz.isAgg144 Tryz.sizeOf144)) ⟨by rw [e0]; rfl, rfl⟩; exfalso; apply e0; simp_all [A3]; done) | (by_cases e0 : A3 s = ⟨[-1, -1], -1⟩; exact K.fin (V.one (V.cellN Tryz.isAgg144 Tryz.sizeOf144)) ⟨by rw [e0]; rfl, rfl⟩; exfalso; apply e0; simp_all [A3]; done) | (by_cases e0 : A3 s = ⟨[3, -1, -1], -1⟩; exact K.fin (V.one (V.cellN Tryz.isAgg144 Tryz.sizeOf144)) ⟨by rw [e0]; rfl, rfl⟩; exfalso; apply e0; simp_all [A3]; done)
   refine ie ?_
   refine W.cond (fun ht18 => ?_) (fun ht18 => ?_)
   ·refine Z35 ?_
    first | (by_cases e0 : A3 s = ⟨[2], 1⟩; exact K.fin (V.one (V.cellN Tryz.isAgg144 Tryz.sizeOf144)) ⟨by rw [e0]; rfl, rfl⟩; exfalso; apply e0; simp_all [A3]; done) | (by_cases e0 : A3 s = ⟨[1], 2⟩; exact K.fin (V.one (V.cellN Tryz.isAgg144 Tryz.sizeOf144)) ⟨by rw [e0]; rfl, rfl⟩; exfalso; apply e0; simp_all [A3]; done) | (by_cases e0 : A3 s = ⟨[2, 1], 2⟩; exact K.fin (V.one (V.cellN Tryz.isAgg144 Tryz.sizeOf144)) ⟨by rw [e0]; rfl, rfl⟩; exfalso; apply e0; simp_all [A3]; done) | (by_cases e0 : A3 s = ⟨[-2], 3⟩; exact K.fin (V.one (V.cellN Tryz.isAgg144 Tryz.sizeOf144)) ⟨by rw [e0]; rfl, rfl⟩; exfalso; apply e0; simp_all [A3]; done) | (by_cases e0 : A3 s = ⟨[-1, -1], -1⟩; exact K.fin (V.one (V.cellN Tryz.isAgg144 Tryz.sizeOf144)) ⟨by rw [e0]; rfl, rfl⟩; exfalso; apply e0; simp_all [A3]; done) | (by_cases e0 : A3 s = ⟨[3, -1, -1], -1⟩; exact K.fin (V.one (V.cellN Tryz.isAgg144 Tryz.sizeOf144)) ⟨by rw [e0]; rfl, rfl⟩; exfalso; apply e0; simp_all [A3]; done)
   refine im ?_
   refine W.cond (fun ht22 => ?_) (fun ht22 => ?_)
   ·refine Z35 ?_
    first | (by_cases e0 : A3 s = ⟨[2], 1⟩; exact K.fin (V.one (V.cellN Tryz.isAgg144 Tryz.sizeOf144)) ⟨by rw [e0]; rfl, rfl⟩; exfalso; apply e0; simp_all [A3]; done) | (by_cases e0 : A3 s = ⟨[1], 2⟩; exact K.fin (V.one (V.cellN Tryz.isAgg144 Tryz.sizeOf144)) ⟨by rw [e0]; rfl, rfl⟩; exfalso; apply e0; simp_all [A3]; done) | (by_cases e0 : A3 s = ⟨[2, 1], 2⟩; exact K.fin (V.one (V.cellN Tryz.isAgg144 Tryz.sizeOf144)) ⟨by rw [e0]; rfl, rfl⟩; exfalso; apply e0; simp_all [A3]; done) | (by_cases e0 : A3 s = ⟨[-2], 3⟩; exact K.fin (V.one (V.cellN Tryz.isAgg144 Tryz.sizeOf144)) ⟨by rw [e0]; rfl, rfl⟩; exfalso; apply e0; simp_all [A3]; done) | (by_cases e0 : A3 s = ⟨[-1, -1], -1⟩; exact K.fin (V.one (V.cellN Tryz.isAgg144 Tryz.sizeOf144)) ⟨by rw [e0]; rfl, rfl⟩; exfalso; apply e0; simp_all [A3]; done) | (by_cases e0 : A3 s = ⟨[3, -1, -1], -1⟩; exact K.fin (V.one (V.cellN Tryz.isAgg144 Tryz.sizeOf144)) ⟨by rw [e0]; rfl, rfl⟩; exfalso; apply e0; simp_all [A3]; done)
   refine I6 ?_
   first | (by_cases e0 : A3 s = ⟨[2], 1⟩; exact K.fin (V.one (V.cellN Tryz.isAgg144 Tryz.sizeOf144)) ⟨by rw [e0]; rfl, rfl⟩; exfalso; apply e0; simp_all [A3]; done) | (by_cases e0 : A3 s = ⟨[1], 2⟩; exact K.fin (V.one (V.cellN Tryz.isAgg144 Tryz.sizeOf144)) ⟨by rw [e0]; rfl, rfl⟩; exfalso; apply e0; simp_all [A3]; done) | (by_cases e0 : A3 s = ⟨[2, 1], 2⟩; exact K.fin (V.one (V.cellN Tryz.isAgg144 Tryz.sizeOf144)) ⟨by rw [e0]; rfl, rfl⟩; exfalso; apply e0; simp_all [A3]; done) | (by_cases e0 : A3 s = ⟨[-2], 3⟩; exact K.fin (V.one (V.cellN Tryz.isAgg144 Tryz.sizeOf144)) ⟨by rw [e0]; rfl, rfl⟩; exfalso; apply e0; simp_all [A3]; done) | (by_cases e0 : A3 s = ⟨[-1, -1], -1⟩; exact K.fin (V.one (V.cellN Tryz.isAgg144 Tryz.sizeOf144)) ⟨by rw [e0]; rfl, rfl⟩; exfalso; apply e0; simp_all [A3]; done) | (by_cases e0 : A3 s = ⟨[3, -1, -1], -1⟩; exact K.fin (V.one (V.cellN Tryz.isAgg144 Tryz.sizeOf144)) ⟨by rw [e0]; rfl, rfl⟩; exfalso; apply e0; simp_all [A3]; done)
  refine Qp ?_;refine R.fin [2, 3, 13] ?_;refine K.thN ?_
  refine W.cond (fun ht13 => ?_) (fun ht13 => ?_)
  ·refine Z35 ?_
   first | (by_cases e0 : A3 s = ⟨[2], 1⟩; exact K.fin (V.one (V.cellN Tryz.isAgg144 Tryz.sizeOf144)) ⟨by rw [e0]; rfl, rfl⟩; exfalso; apply e0; simp_all [A3]; done) | (by_cases e0 : A3 s = ⟨[1], 2⟩; exact K.fin (V.one (V.cellN Tryz.isAgg144 Tryz.sizeOf144)) ⟨by rw [e0]; rfl, rfl⟩; exfalso; apply e0; simp_all [A3]; done) | (by_cases e0 : A3 s = ⟨[2, 1], 2⟩; exact K.fin (V.one (V.cellN Tryz.isAgg144 Tryz.sizeOf144)) ⟨by rw [e0]; rfl, rfl⟩; exfalso; apply e0; simp_all [A3]; done) | (by_cases e0 : A3 s = ⟨[-2], 3⟩; exact K.fin (V.one (V.cellN Tryz.isAgg144 Tryz.sizeOf144)) ⟨by rw [e0]; rfl, rfl⟩; exfalso; apply e0; simp_all [A3]; done) | (by_cases e0 : A3 s = ⟨[-1, -1], -1⟩; exact K.fin (V.one (V.cellN Tryz.isAgg144 Tryz.sizeOf144)) ⟨by rw [e0]; rfl, rfl⟩; exfalso; apply e0; simp_all [A3]; done) | (by_cases e0 : A3 s = ⟨[3, -1, -1], -1⟩; exact K.fin (V.one (V.cellN Tryz.isAgg144 Tryz.sizeOf144)) ⟨by rw [e0]; rfl, rfl⟩; exfalso; apply e0; simp_all [A3]; done)
  refine ie ?_
  refine W.cond (fun ht18 => ?_) (fun ht18 => ?_)
  ·refine Z35 ?_
   first | (by_cases e0 : A3 s = ⟨[2], 1⟩; exact K.fin (V.one (V.cellN Tryz.isAgg144 Tryz.sizeOf144)) ⟨by rw [e0]; rfl, rfl⟩; exfalso; apply e0; simp_all [A3]; done) | (by_cases e0 : A3 s = ⟨[1], 2⟩; exact K.fin (V.one (V.cellN Tryz.isAgg144 Tryz.sizeOf144)) ⟨by rw [e0]; rfl, rfl⟩; exfalso; apply e0; simp_all [A3]; done) | (by_cases e0 : A3 s = ⟨[2, 1], 2⟩; exact K.fin (V.one (V.cellN Tryz.isAgg144 Tryz.sizeOf144)) ⟨by rw [e0]; rfl, rfl⟩; exfalso; apply e0; simp_all [A3]; done) | (by_cases e0 : A3 s = ⟨[-2], 3⟩; exact K.fin (V.one (V.cellN Tryz.isAgg144 Tryz.sizeOf144)) ⟨by rw [e0]; rfl, rfl⟩; exfalso; apply e0; simp_all [A3]; done) | (by_cases e0 : A3 s = ⟨[-1, -1], -1⟩; exact K.fin (V.one (V.cellN Tryz.isAgg144 Tryz.sizeOf144)) ⟨by rw [e0]; rfl, rfl⟩; exfalso; apply e0; simp_all [A3]; done) | (by_cases e0 : A3 s = ⟨[3, -1, -1], -1⟩; exact K.fin (V.one (V.cellN Tryz.isAgg144 Tryz.sizeOf144)) ⟨by rw [e0]; rfl, rfl⟩; exfalso; apply e0; simp_all [A3]; done)
  refine im ?_
  refine W.cond (fun ht22 => ?_) (fun ht22 => ?_)
  ·refine Z35 ?_
   first | (by_cases e0 : A3 s = ⟨[2], 1⟩; exact K.fin (V.one (V.cellN Tryz.isAgg144 Tryz.sizeOf144)) ⟨by rw [e0]; rfl, rfl⟩; exfalso; apply e0; simp_all [A3]; done) | (by_cases e0 : A3 s = ⟨[1], 2⟩; exact K.fin (V.one (V.cellN Tryz.isAgg144 Tryz.sizeOf144)) ⟨by rw [e0]; rfl, rfl⟩; exfalso; apply e0; simp_all [A3]; done) | (by_cases e0 : A3 s = ⟨[2, 1], 2⟩; exact K.fin (V.one (V.cellN Tryz.isAgg144 Tryz.sizeOf144)) ⟨by rw [e0]; rfl, rfl⟩; exfalso; apply e0; simp_all [A3]; done) | (by_cases e0 : A3 s = ⟨[-2], 3⟩; exact K.fin (V.one (V.cellN Tryz.isAgg144 Tryz.sizeOf144)) ⟨by rw [e0]; rfl, rfl⟩; exfalso; apply e0; simp_all [A3]; done) | (by_cases e0 : A3 s = ⟨[-1, -1], -1⟩; exact K.fin (V.one (V.cellN Tryz.isAgg144 Tryz.sizeOf144)) ⟨by rw [e0]; rfl, rfl⟩; exfalso; apply e0; simp_all [A3]; done) | (by_cases e0 : A3 s = ⟨[3, -1, -1], -1⟩; exact K.fin (V.one (V.cellN Tryz.isAgg144 Tryz.sizeOf144)) ⟨by rw [e0]; rfl, rfl⟩; exfalso; apply e0; simp_all [A3]; done)
  refine I6 ?_
  first | (by_cases e0 : A3 s = ⟨[2], 1⟩; exact K.fin (V.one (V.cellN Tryz.isAgg144 Tryz.sizeOf144)) ⟨by rw [e0]; rfl, rfl⟩; exfalso; apply e0; simp_all [A3]; done) | (by_cases e0 : A3 s = ⟨[1], 2⟩; exact K.fin (V.one (V.cellN Tryz.isAgg144 Tryz.sizeOf144)) ⟨by rw [e0]; rfl, rfl⟩; exfalso; apply e0; simp_all [A3]; done) | (by_cases e0 : A3 s = ⟨[2, 1], 2⟩; exact K.fin (V.one (V.cellN Tryz.isAgg144 Tryz.sizeOf144)) ⟨by rw [e0]; rfl, rfl⟩; exfalso; apply e0; simp_all [A3]; done) | (by_cases e0 : A3 s = ⟨[-2], 3⟩; exact K.fin (V.one (V.cellN Tryz.isAgg144 Tryz.sizeOf144)) ⟨by rw [e0]; rfl, rfl⟩; exfalso; apply e0; simp_all [A3]; done) | (by_cases e0 : A3 s = ⟨[-1, -1], -1⟩; exact K.fin (V.one (V.cellN Tryz.isAgg144 Tryz.sizeOf144)) ⟨by rw [e0]; rfl, rfl⟩; exfalso; apply e0; simp_all [A3]; done) | (by_cases e0 : A3 s = ⟨[3, -1, -1], -1⟩; exact K.fin (V.one (V.cellN Tryz.isAgg144 Tryz.sizeOf144)) ⟨by rw [e0]; rfl, rfl⟩; exfalso; apply e0; simp_all [A3]; done)
 refine Qp ?_;refine R.fin [2, 3, 4] ?_;refine K.thN ?_
 refine W.cond (fun ht4 => ?_) (fun ht4 => ?_)
 ·refine Z35 ?_
  first | (by_cases e0 : A3 s = ⟨[2], 1⟩; exact K.fin (V.one (V.cellN Tryz.isAgg144 Tryz.sizeOf144)) ⟨by rw [e0]; rfl, rfl⟩; exfalso; apply e0; simp_all [A3]; done) | (by_cases e0 : A3 s = ⟨[1], 2⟩; exact K.fin (V.one (V.cellN Tryz.isAgg144 Tryz.sizeOf144)) ⟨by rw [e0]; rfl, rfl⟩; exfalso; apply e0; simp_all [A3]; done) | (by_cases e0 : A3 s = ⟨[2, 1], 2⟩; exact K.fin (V.one (V.cellN Tryz.isAgg144 Tryz.sizeOf144)) ⟨by rw [e0]; rfl, rfl⟩; exfalso; apply e0; simp_all [A3]; done) | (by_cases e0 : A3 s = ⟨[-2], 3⟩; exact K.fin (V.one (V.cellN Tryz.isAgg144 Tryz.sizeOf144)) ⟨by rw [e0]; rfl, rfl⟩; exfalso; apply e0; simp_all [A3]; done) | (by_cases e0 : A3 s = ⟨[-1, -1], -1⟩; exact K.fin (V.one (V.cellN Tryz.isAgg144 Tryz.sizeOf144)) ⟨by rw [e0]; rfl, rfl⟩; exfalso; apply e0; simp_all [A3]; done) | (by_cases e0 : A3 s = ⟨[3, -1, -1], -1⟩; exact K.fin (V.one (V.cellN Tryz.isAgg144 Tryz.sizeOf144)) ⟨by rw [e0]; rfl, rfl⟩; exfalso; apply e0; simp_all [A3]; done)
 refine Z93 ?_
 refine W.cond (fun ht9 => ?_) (fun ht9 => ?_)
 ·refine Z35 ?_
  first | (by_cases e0 : A3 s = ⟨[2], 1⟩; exact K.fin (V.one (V.cellN Tryz.isAgg144 Tryz.sizeOf144)) ⟨by rw [e0]; rfl, rfl⟩; exfalso; apply e0; simp_all [A3]; done) | (by_cases e0 : A3 s = ⟨[1], 2⟩; exact K.fin (V.one (V.cellN Tryz.isAgg144 Tryz.sizeOf144)) ⟨by rw [e0]; rfl, rfl⟩; exfalso; apply e0; simp_all [A3]; done) | (by_cases e0 : A3 s = ⟨[2, 1], 2⟩; exact K.fin (V.one (V.cellN Tryz.isAgg144 Tryz.sizeOf144)) ⟨by rw [e0]; rfl, rfl⟩; exfalso; apply e0; simp_all [A3]; done) | (by_cases e0 : A3 s = ⟨[-2], 3⟩; exact K.fin (V.one (V.cellN Tryz.isAgg144 Tryz.sizeOf144)) ⟨by rw [e0]; rfl, rfl⟩; exfalso; apply e0; simp_all [A3]; done) | (by_cases e0 : A3 s = ⟨[-1, -1], -1⟩; exact K.fin (V.one (V.cellN Tryz.isAgg144 Tryz.sizeOf144)) ⟨by rw [e0]; rfl, rfl⟩; exfalso; apply e0; simp_all [A3]; done) | (by_cases e0 : A3 s = ⟨[3, -1, -1], -1⟩; exact K.fin (V.one (V.cellN Tryz.isAgg144 Tryz.sizeOf144)) ⟨by rw [e0]; rfl, rfl⟩; exfalso; apply e0; simp_all [A3]; done)
 refine W.seq ?_;refine Z19 ?_;refine R.fin [2, 3, 13] ?_
 refine W.cond (fun ht13 => ?_) (fun ht13 => ?_)
 ·refine Z5 ?_
  refine W.cond (fun ht13 => ?_) (fun ht13 => ?_)
  ·refine Z35 ?_
   first | (by_cases e0 : A3 s = ⟨[2], 1⟩; exact K.fin (V.one (V.cellN Tryz.isAgg144 Tryz.sizeOf144)) ⟨by rw [e0]; rfl, rfl⟩; exfalso; apply e0; simp_all [A3]; done) | (by_cases e0 : A3 s = ⟨[1], 2⟩; exact K.fin (V.one (V.cellN Tryz.isAgg144 Tryz.sizeOf144)) ⟨by rw [e0]; rfl, rfl⟩; exfalso; apply e0; simp_all [A3]; done) | (by_cases e0 : A3 s = ⟨[2, 1], 2⟩; exact K.fin (V.one (V.cellN Tryz.isAgg144 Tryz.sizeOf144)) ⟨by rw [e0]; rfl, rfl⟩; exfalso; apply e0; simp_all [A3]; done) | (by_cases e0 : A3 s = ⟨[-2], 3⟩; exact K.fin (V.one (V.cellN Tryz.isAgg144 Tryz.sizeOf144)) ⟨by rw [e0]; rfl, rfl⟩; exfalso; apply e0; simp_all [A3]; done) | (by_cases e0 : A3 s = ⟨[-1, -1], -1⟩; exact K.fin (V.one (V.cellN Tryz.isAgg144 Tryz.sizeOf144)) ⟨by rw [e0]; rfl, rfl⟩; exfalso; apply e0; simp_all [A3]; done) | (by_cases e0 : A3 s = ⟨[3, -1, -1], -1⟩; exact K.fin (V.one (V.cellN Tryz.isAgg144 Tryz.sizeOf144)) ⟨by rw [e0]; rfl, rfl⟩; exfalso; apply e0; simp_all [A3]; done)
  refine ie ?_
  refine W.cond (fun ht18 => ?_) (fun ht18 => ?_)
  ·refine Z35 ?_
   first | (by_cases e0 : A3 s = ⟨[2], 1⟩; exact K.fin (V.one (V.cellN Tryz.isAgg144 Tryz.sizeOf144)) ⟨by rw [e0]; rfl, rfl⟩; exfalso; apply e0; simp_all [A3]; done) | (by_cases e0 : A3 s = ⟨[1], 2⟩; exact K.fin (V.one (V.cellN Tryz.isAgg144 Tryz.sizeOf144)) ⟨by rw [e0]; rfl, rfl⟩; exfalso; apply e0; simp_all [A3]; done) | (by_cases e0 : A3 s = ⟨[2, 1], 2⟩; exact K.fin (V.one (V.cellN Tryz.isAgg144 Tryz.sizeOf144)) ⟨by rw [e0]; rfl, rfl⟩; exfalso; apply e0; simp_all [A3]; done) | (by_cases e0 : A3 s = ⟨[-2], 3⟩; exact K.fin (V.one (V.cellN Tryz.isAgg144 Tryz.sizeOf144)) ⟨by rw [e0]; rfl, rfl⟩; exfalso; apply e0; simp_all [A3]; done) | (by_cases e0 : A3 s = ⟨[-1, -1], -1⟩; exact K.fin (V.one (V.cellN Tryz.isAgg144 Tryz.sizeOf144)) ⟨by rw [e0]; rfl, rfl⟩; exfalso; apply e0; simp_all [A3]; done) | (by_cases e0 : A3 s = ⟨[3, -1, -1], -1⟩; exact K.fin (V.one (V.cellN Tryz.isAgg144 Tryz.sizeOf144)) ⟨by rw [e0]; rfl, rfl⟩; exfalso; apply e0; simp_all [A3]; done)
  refine im ?_
  refine W.cond (fun ht22 => ?_) (fun ht22 => ?_)
  ·refine Z35 ?_
   first | (by_cases e0 : A3 s = ⟨[2], 1⟩; exact K.fin (V.one (V.cellN Tryz.isAgg144 Tryz.sizeOf144)) ⟨by rw [e0]; rfl, rfl⟩; exfalso; apply e0; simp_all [A3]; done) | (by_cases e0 : A3 s = ⟨[1], 2⟩; exact K.fin (V.one (V.cellN Tryz.isAgg144 Tryz.sizeOf144)) ⟨by rw [e0]; rfl, rfl⟩; exfalso; apply e0; simp_all [A3]; done) | (by_cases e0 : A3 s = ⟨[2, 1], 2⟩; exact K.fin (V.one (V.cellN Tryz.isAgg144 Tryz.sizeOf144)) ⟨by rw [e0]; rfl, rfl⟩; exfalso; apply e0; simp_all [A3]; done) | (by_cases e0 : A3 s = ⟨[-2], 3⟩; exact K.fin (V.one (V.cellN Tryz.isAgg144 Tryz.sizeOf144)) ⟨by rw [e0]; rfl, rfl⟩; exfalso; apply e0; simp_all [A3]; done) | (by_cases e0 : A3 s = ⟨[-1, -1], -1⟩; exact K.fin (V.one (V.cellN Tryz.isAgg144 Tryz.sizeOf144)) ⟨by rw [e0]; rfl, rfl⟩; exfalso; apply e0; simp_all [A3]; done) | (by_cases e0 : A3 s = ⟨[3, -1, -1], -1⟩; exact K.fin (V.one (V.cellN Tryz.isAgg144 Tryz.sizeOf144)) ⟨by rw [e0]; rfl, rfl⟩; exfalso; apply e0; simp_all [A3]; done)
  refine I6 ?_
  first | (by_cases e0 : A3 s = ⟨[2], 1⟩; exact K.fin (V.one (V.cellN Tryz.isAgg144 Tryz.sizeOf144)) ⟨by rw [e0]; rfl, rfl⟩; exfalso; apply e0; simp_all [A3]; done) | (by_cases e0 : A3 s = ⟨[1], 2⟩; exact K.fin (V.one (V.cellN Tryz.isAgg144 Tryz.sizeOf144)) ⟨by rw [e0]; rfl, rfl⟩; exfalso; apply e0; simp_all [A3]; done) | (by_cases e0 : A3 s = ⟨[2, 1], 2⟩; exact K.fin (V.one (V.cellN Tryz.isAgg144 Tryz.sizeOf144)) ⟨by rw [e0]; rfl, rfl⟩; exfalso; apply e0; simp_all [A3]; done) | (by_cases e0 : A3 s = ⟨[-2], 3⟩; exact K.fin (V.one (V.cellN Tryz.isAgg144 Tryz.sizeOf144)) ⟨by rw [e0]; rfl, rfl⟩; exfalso; apply e0; simp_all [A3]; done) | (by_cases e0 : A3 s = ⟨[-1, -1], -1⟩; exact K.fin (V.one (V.cellN Tryz.isAgg144 Tryz.sizeOf144)) ⟨by rw [e0]; rfl, rfl⟩; exfalso; apply e0; simp_all [A3]; done) | (by_cases e0 : A3 s = ⟨[3, -1, -1], -1⟩; exact K.fin (V.one (V.cellN Tryz.isAgg144 Tryz.sizeOf144)) ⟨by rw [e0]; rfl, rfl⟩; exfalso; apply e0; simp_all [A3]; done)
 refine Qp ?_;refine R.fin [2, 3, 13] ?_;refine K.thN ?_
 refine W.cond (fun ht13 => ?_) (fun ht13 => ?_)
 ·refine Z35 ?_
  first | (by_cases e0 : A3 s = ⟨[2], 1⟩; exact K.fin (V.one (V.cellN Tryz.isAgg144 Tryz.sizeOf144)) ⟨by rw [e0]; rfl, rfl⟩; exfalso; apply e0; simp_all [A3]; done) | (by_cases e0 : A3 s = ⟨[1], 2⟩; exact K.fin (V.one (V.cellN Tryz.isAgg144 Tryz.sizeOf144)) ⟨by rw [e0]; rfl, rfl⟩; exfalso; apply e0; simp_all [A3]; done) | (by_cases e0 : A3 s = ⟨[2, 1], 2⟩; exact K.fin (V.one (V.cellN Tryz.isAgg144 Tryz.sizeOf144)) ⟨by rw [e0]; rfl, rfl⟩; exfalso; apply e0; simp_all [A3]; done) | (by_cases e0 : A3 s = ⟨[-2], 3⟩; exact K.fin (V.one (V.cellN Tryz.isAgg144 Tryz.sizeOf144)) ⟨by rw [e0]; rfl, rfl⟩; exfalso; apply e0; simp_all [A3]; done) | (by_cases e0 : A3 s = ⟨[-1, -1], -1⟩; exact K.fin (V.one (V.cellN Tryz.isAgg144 Tryz.sizeOf144)) ⟨by rw [e0]; rfl, rfl⟩; exfalso; apply e0; simp_all [A3]; done) | (by_cases e0 : A3 s = ⟨[3, -1, -1], -1⟩; exact K.fin (V.one (V.cellN Tryz.isAgg144 Tryz.sizeOf144)) ⟨by rw [e0]; rfl, rfl⟩; exfalso; apply e0; simp_all [A3]; done)
 refine ie ?_
 refine W.cond (fun ht18 => ?_) (fun ht18 => ?_)
 ·refine Z35 ?_
  first | (by_cases e0 : A3 s = ⟨[2], 1⟩; exact K.fin (V.one (V.cellN Tryz.isAgg144 Tryz.sizeOf144)) ⟨by rw [e0]; rfl, rfl⟩; exfalso; apply e0; simp_all [A3]; done) | (by_cases e0 : A3 s = ⟨[1], 2⟩; exact K.fin (V.one (V.cellN Tryz.isAgg144 Tryz.sizeOf144)) ⟨by rw [e0]; rfl, rfl⟩; exfalso; apply e0; simp_all [A3]; done) | (by_cases e0 : A3 s = ⟨[2, 1], 2⟩; exact K.fin (V.one (V.cellN Tryz.isAgg144 Tryz.sizeOf144)) ⟨by rw [e0]; rfl, rfl⟩; exfalso; apply e0; simp_all [A3]; done) | (by_cases e0 : A3 s = ⟨[-2], 3⟩; exact K.fin (V.one (V.cellN Tryz.isAgg144 Tryz.sizeOf144)) ⟨by rw [e0]; rfl, rfl⟩; exfalso; apply e0; simp_all [A3]; done) | (by_cases e0 : A3 s = ⟨[-1, -1], -1⟩; exact K.fin (V.one (V.cellN Tryz.isAgg144 Tryz.sizeOf144)) ⟨by rw [e0]; rfl, rfl⟩; exfalso; apply e0; simp_all [A3]; done) | (by_cases e0 : A3 s = ⟨[3, -1, -1], -1⟩; exact K.fin (V.one (V.cellN Tryz.isAgg144 Tryz.sizeOf144)) ⟨by rw [e0]; rfl, rfl⟩; exfalso; apply e0; simp_all [A3]; done)
 refine im ?_
 refine W.cond (fun ht22 => ?_) (fun ht22 => ?_)
 ·refine Z35 ?_
  first | (by_cases e0 : A3 s = ⟨[2], 1⟩; exact K.fin (V.one (V.cellN Tryz.isAgg144 Tryz.sizeOf144)) ⟨by rw [e0]; rfl, rfl⟩; exfalso; apply e0; simp_all [A3]; done) | (by_cases e0 : A3 s = ⟨[1], 2⟩; exact K.fin (V.one (V.cellN Tryz.isAgg144 Tryz.sizeOf144)) ⟨by rw [e0]; rfl, rfl⟩; exfalso; apply e0; simp_all [A3]; done) | (by_cases e0 : A3 s = ⟨[2, 1], 2⟩; exact K.fin (V.one (V.cellN Tryz.isAgg144 Tryz.sizeOf144)) ⟨by rw [e0]; rfl, rfl⟩; exfalso; apply e0; simp_all [A3]; done) | (by_cases e0 : A3 s = ⟨[-2], 3⟩; exact K.fin (V.one (V.cellN Tryz.isAgg144 Tryz.sizeOf144)) ⟨by rw [e0]; rfl, rfl⟩; exfalso; apply e0; simp_all [A3]; done) | (by_cases e0 : A3 s = ⟨[-1, -1], -1⟩; exact K.fin (V.one (V.cellN Tryz.isAgg144 Tryz.sizeOf144)) ⟨by rw [e0]; rfl, rfl⟩; exfalso; apply e0; simp_all [A3]; done) | (by_cases e0 : A3 s = ⟨[3, -1, -1], -1⟩; exact K.fin (V.one (V.cellN Tryz.isAgg144 Tryz.sizeOf144)) ⟨by rw [e0]; rfl, rfl⟩; exfalso; apply e0; simp_all [A3]; done)
 refine I6 ?_
 first | (by_cases e0 : A3 s = ⟨[2], 1⟩; exact K.fin (V.one (V.cellN Tryz.isAgg144 Tryz.sizeOf144)) ⟨by rw [e0]; rfl, rfl⟩; exfalso; apply e0; simp_all [A3]; done) | (by_cases e0 : A3 s = ⟨[1], 2⟩; exact K.fin (V.one (V.cellN Tryz.isAgg144 Tryz.sizeOf144)) ⟨by rw [e0]; rfl, rfl⟩; exfalso; apply e0; simp_all [A3]; done) | (by_cases e0 : A3 s = ⟨[2, 1], 2⟩; exact K.fin (V.one (V.cellN Tryz.isAgg144 Tryz.sizeOf144)) ⟨by rw [e0]; rfl, rfl⟩; exfalso; apply e0; simp_all [A3]; done) | (by_cases e0 : A3 s = ⟨[-2], 3⟩; exact K.fin (V.one (V.cellN Tryz.isAgg144 Tryz.sizeOf144)) ⟨by rw [e0]; rfl, rfl⟩; exfalso; apply e0; simp_all [A3]; done) | (by_cases e0 : A3 s = ⟨[-1, -1], -1⟩; exact K.fin (V.one (V.cellN Tryz.isAgg144 Tryz.sizeOf144)) ⟨by rw [e0]; rfl, rfl⟩; exfalso; apply e0; simp_all [A3]; done) | (by_cases e0 : A3 s = ⟨[3, -1, -1], -1⟩; exact K.fin (V.one (V.cellN Tryz.isAgg144 Tryz.sizeOf144)) ⟨by rw [e0]; rfl, rfl⟩; exfalso; apply e0; simp_all [A3]; done)

theorem c96 (e : Expr) (Hp : List AObj) : AFun Tryz.prog 96 [Ab e] Hp (Ts (Bw e.op e.text)) := by
 refine ACall.body [.cell 2 144] [0] Tryz.func96 Tryz.ntmps96 (fun d => ?_)
 refine Z24 ?_;refine R.alloc jZ ?_;refine R.fin [1, 2] ?_;refine Z23 ?_;refine Z15 ?_;refine R.fin [1, 2, 4] ?_;refine S1 ?_;refine R.fin [1, 2, 4, 5] ?_
 refine W.cond (fun ht5 => ?_) (fun ht5 => ?_)
 ·refine Z35 ?_
  first | (by_cases e0 : Bw e.op e.text = ⟨[1], 1⟩; exact K.fin (V.one (V.cellN Tryz.isAgg144 Tryz.sizeOf144)) ⟨by rw [e0]; rfl, rfl⟩; exfalso; apply e0; simp_all [Bw]; done) | (by_cases e0 : Bw e.op e.text = ⟨[3], 3⟩; exact K.fin (V.one (V.cellN Tryz.isAgg144 Tryz.sizeOf144)) ⟨by rw [e0]; rfl, rfl⟩; exfalso; apply e0; simp_all [Bw]; done) | (by_cases e0 : Bw e.op e.text = A2 e.text; exact K.fin (V.one (V.cellN Tryz.isAgg144 Tryz.sizeOf144)) ⟨by rw [e0], rfl⟩ (hlow := Eo _); exfalso; apply e0; simp_all [Bw]; done) | (by_cases e0 : Bw e.op e.text = A3 e.text; exact K.fin (V.one (V.cellN Tryz.isAgg144 Tryz.sizeOf144)) ⟨by rw [e0], rfl⟩ (hlow := Eo _); exfalso; apply e0; simp_all [Bw]; done)
 refine Z49 ?_;refine R.fin [1, 2, 4, 9] ?_
 refine W.cond (fun ht9 => ?_) (fun ht9 => ?_)
 ·refine Z35 ?_
  first | (by_cases e0 : Bw e.op e.text = ⟨[1], 1⟩; exact K.fin (V.one (V.cellN Tryz.isAgg144 Tryz.sizeOf144)) ⟨by rw [e0]; rfl, rfl⟩; exfalso; apply e0; simp_all [Bw]; done) | (by_cases e0 : Bw e.op e.text = ⟨[3], 3⟩; exact K.fin (V.one (V.cellN Tryz.isAgg144 Tryz.sizeOf144)) ⟨by rw [e0]; rfl, rfl⟩; exfalso; apply e0; simp_all [Bw]; done) | (by_cases e0 : Bw e.op e.text = A2 e.text; exact K.fin (V.one (V.cellN Tryz.isAgg144 Tryz.sizeOf144)) ⟨by rw [e0], rfl⟩ (hlow := Eo _); exfalso; apply e0; simp_all [Bw]; done) | (by_cases e0 : Bw e.op e.text = A3 e.text; exact K.fin (V.one (V.cellN Tryz.isAgg144 Tryz.sizeOf144)) ⟨by rw [e0], rfl⟩ (hlow := Eo _); exfalso; apply e0; simp_all [Bw]; done)
 refine Z49 ?_;refine R.fin [1, 2, 13] ?_
 refine W.cond (fun ht13 => ?_) (fun ht13 => ?_)
 ·refine S4 ?_;refine R.call Tryz.call131 (vk e.text _) ?_;refine Z6 ?_;refine Z4 ?_
  first | (by_cases e0 : Bw e.op e.text = ⟨[1], 1⟩; exact K.fin (V.one (V.cellN Tryz.isAgg144 Tryz.sizeOf144)) ⟨by rw [e0]; rfl, rfl⟩; exfalso; apply e0; simp_all [Bw]; done) | (by_cases e0 : Bw e.op e.text = ⟨[3], 3⟩; exact K.fin (V.one (V.cellN Tryz.isAgg144 Tryz.sizeOf144)) ⟨by rw [e0]; rfl, rfl⟩; exfalso; apply e0; simp_all [Bw]; done) | (by_cases e0 : Bw e.op e.text = A2 e.text; exact K.fin (V.one (V.cellN Tryz.isAgg144 Tryz.sizeOf144)) ⟨by rw [e0], rfl⟩ (hlow := Eo _); exfalso; apply e0; simp_all [Bw]; done) | (by_cases e0 : Bw e.op e.text = A3 e.text; exact K.fin (V.one (V.cellN Tryz.isAgg144 Tryz.sizeOf144)) ⟨by rw [e0], rfl⟩ (hlow := Eo _); exfalso; apply e0; simp_all [Bw]; done)
 refine Z17 ?_;refine S4 ?_;refine R.call Tryz.call132 (vl e.text _) ?_;refine Z6 ?_
 first | (by_cases e0 : Bw e.op e.text = ⟨[1], 1⟩; exact K.fin (V.one (V.cellN Tryz.isAgg144 Tryz.sizeOf144)) ⟨by rw [e0]; rfl, rfl⟩; exfalso; apply e0; simp_all [Bw]; done) | (by_cases e0 : Bw e.op e.text = ⟨[3], 3⟩; exact K.fin (V.one (V.cellN Tryz.isAgg144 Tryz.sizeOf144)) ⟨by rw [e0]; rfl, rfl⟩; exfalso; apply e0; simp_all [Bw]; done) | (by_cases e0 : Bw e.op e.text = A2 e.text; exact K.fin (V.one (V.cellN Tryz.isAgg144 Tryz.sizeOf144)) ⟨by rw [e0], rfl⟩ (hlow := Eo _); exfalso; apply e0; simp_all [Bw]; done) | (by_cases e0 : Bw e.op e.text = A3 e.text; exact K.fin (V.one (V.cellN Tryz.isAgg144 Tryz.sizeOf144)) ⟨by rw [e0], rfl⟩ (hlow := Eo _); exfalso; apply e0; simp_all [Bw]; done)

theorem sg (a b : Int) (Hp : List AObj) : AFun Tryz.prog 133 [A4 a, A4 b] Hp (.tup [A4 (By a b).1, Al (By a b).2]) := by
 refine ACall.body [.tmp 4, .tmp 5] [0, 1] Tryz.func133 Tryz.ntmps133 (fun d => ?_)
 refine Up ?_;refine Gd ?_;refine Z22 ?_;refine R.fin [0, 1, 6] ?_
 refine W.cond (fun ht6 => ?_) (fun ht6 => ?_)
 ·refine Z66 ?_;refine Oi ?_
  first | (by_cases e0 : By a b = (b, true); exact K.fin (V.two V.tmp V.tmp) ⟨by rw [e0], rfl⟩; exfalso; apply e0; simp_all [By]; done) | (by_cases e0 : By a b = (a, true); exact K.fin (V.two V.tmp V.tmp) ⟨by rw [e0], rfl⟩; exfalso; apply e0; simp_all [By]; done) | (by_cases e0 : By a b = (0, false); exact K.fin (V.two V.tmp V.tmp) ⟨by rw [e0], rfl⟩; exfalso; apply e0; simp_all [By]; done)
 refine Z0 ?_;refine R.eql ?_;refine K6 ?_;refine G.eql ?_;refine bo ?_;refine R.fin [0, 10] ?_
 refine W.cond (fun ht10 => ?_) (fun ht10 => ?_)
 ·refine Z66 ?_;refine Oi ?_
  first | (by_cases e0 : By a b = (b, true); exact K.fin (V.two V.tmp V.tmp) ⟨by rw [e0], rfl⟩; exfalso; apply e0; simp_all [By]; done) | (by_cases e0 : By a b = (a, true); exact K.fin (V.two V.tmp V.tmp) ⟨by rw [e0], rfl⟩; exfalso; apply e0; simp_all [By]; done) | (by_cases e0 : By a b = (0, false); exact K.fin (V.two V.tmp V.tmp) ⟨by rw [e0], rfl⟩; exfalso; apply e0; simp_all [By]; done)
 refine Z17 ?_;refine Z2 ?_;refine Z21 ?_
 first | (by_cases e0 : By a b = (b, true); exact K.fin (V.two V.tmp V.tmp) ⟨by rw [e0], rfl⟩; exfalso; apply e0; simp_all [By]; done) | (by_cases e0 : By a b = (a, true); exact K.fin (V.two V.tmp V.tmp) ⟨by rw [e0], rfl⟩; exfalso; apply e0; simp_all [By]; done) | (by_cases e0 : By a b = (0, false); exact K.fin (V.two V.tmp V.tmp) ⟨by rw [e0], rfl⟩; exfalso; apply e0; simp_all [By]; done)

structure FitAt (s : Sign) (ks : List Int) (x : Nat × Int) : Prop where
 le : x.1 ≤ ks.length
 eq : Nn s.kids ks 0 = Nn (s.kids.drop x.1) (ks.drop x.1) x.2
theorem FitAt.step {s : Sign} {ks : List Int} {x : Nat × Int} (h : FitAt s ks x) (hk : x.1 < ks.length) (hs : x.1 < s.kids.length) : Nn s.kids ks 0 = (if s.kids[x.1] == -2 then Nn (s.kids.drop (x.1 + 1)) (ks.drop (x.1 + 1)) x.2 else if s.kids[x.1] == -1 then (if (By x.2 ks[x.1]).2 then Nn (s.kids.drop (x.1 + 1)) (ks.drop (x.1 + 1)) (By x.2 ks[x.1]).1 else none) else if (By s.kids[x.1] ks[x.1]).2 then Nn (s.kids.drop (x.1 + 1)) (ks.drop (x.1 + 1)) x.2 else none) := by
 rw [h.eq, List.drop_eq_getElem_cons hk, List.drop_eq_getElem_cons hs, Nn]
theorem FitAt.skip {s : Sign} {ks : List Int} {x : Nat × Int} (h : FitAt s ks x) (hk : x.1 < ks.length) (hs : x.1 < s.kids.length) (h2 : (s.kids[x.1] == -2) = true) : FitAt s ks (x.1 + 1, x.2) := ⟨hk, by rw [h.step hk hs, if_pos h2]⟩
theorem FitAt.same {s : Sign} {ks : List Int} {x : Nat × Int} (h : FitAt s ks x) (hk : x.1 < ks.length) (hs : x.1 < s.kids.length) (h2 : (s.kids[x.1] == -2) = false) (h1 : (s.kids[x.1] == -1) = true) (hm : (By x.2 ks[x.1]).2 = true) : FitAt s ks (x.1 + 1, (By x.2 ks[x.1]).1) := ⟨hk, by rw [h.step hk hs, if_neg (by rw [h2]; simp), if_pos h1, if_pos hm]⟩
theorem FitAt.want {s : Sign} {ks : List Int} {x : Nat × Int} (h : FitAt s ks x) (hk : x.1 < ks.length) (hs : x.1 < s.kids.length) (h2 : (s.kids[x.1] == -2) = false) (h1 : (s.kids[x.1] == -1) = false) (hm : (By s.kids[x.1] ks[x.1]).2 = true) : FitAt s ks (x.1 + 1, x.2) := ⟨hk, by rw [h.step hk hs, if_neg (by rw [h2]; simp), if_neg (by rw [h1]; simp), if_pos hm]⟩
theorem FitAt.bad {s : Sign} {ks : List Int} {x : Nat × Int} (h : FitAt s ks x) (hk : x.1 < ks.length) (hs : x.1 < s.kids.length) (h2 : (s.kids[x.1] == -2) = false) (hm : (if s.kids[x.1] == -1 then (By x.2 ks[x.1]).2 else (By s.kids[x.1] ks[x.1]).2) = false) : T6 s ks = (0, 10) := by
 unfold T6
 rw [h.step hk hs, if_neg (by rw [h2]; simp)]
 split at hm
 ·rename_i h1
  rw [if_pos h1, if_neg (by rw [hm]; simp)]
 rename_i h1
 rw [if_neg h1, if_neg (by rw [hm]; simp)]
theorem FitAt.out {s : Sign} {ks : List Int} {x : Nat × Int} (h : FitAt s ks x) (hk : ks.length ≤ x.1) : T6 s ks = if s.own == -1 then (x.2, 0) else (s.own, 0) := by
 unfold T6
 rw [h.eq, List.drop_of_length_le hk]
 cases s.kids.drop x.1 <;> rfl
theorem c97 (s : Sign) (ks : List Int) (hks : ks.length ≤ s.kids.length) (hk2 : ks.length ≤ 1048576) (Hp : List AObj) : AFun Tryz.prog 97 [Ts s, .slice false 1 (ks.map A4)] Hp (.tup [A4 (T6 s ks).1, A4 (T6 s ks).2]) := by
 refine ACall.body [.tmp 4, .tmp 5] [0, 1] Tryz.func97 Tryz.ntmps97 (fun d => ?_)
 refine Uo ?_;refine R.fin [1, 2] ?_;refine Uf ?_;refine R.fin [1, 2, 6] ?_;refine U9 ?_;refine Yd ?_
 refine AW.loopC (α := Nat × Int) (fun x => ⟨49, A5 2 (.ro [.slice false 1 (s.kids.map A4), A4 s.own]) (A5 6 (.ptr (oid Hp.length 0) 0) (A5 13 (.slice false 1 (ks.map A4)) (A5 14 (A4 (ks.length : Nat)) (A5 15 (A4 (x.1 : Nat)) (fun _ => .any))))), Hp, [.cells 3 [A4 x.2]], [], none⟩) (fun x => FitAt s ks x) (fun x => ks.length - x.1) ((0, 0)) ⟨Nat.zero_le _, rfl⟩ (StLe.of_eq (by simp)) rfl (fun x hx => ?_)
 refine Z89 ?_;refine R.fin [2, 6, 13, 14, 15, 16] ?_
 refine W.condX (fun ht16 => ?_) (fun ht16 => ?_)
 ·have hlt : x.1 < ks.length := by simpa using ht16
  have hls : x.1 < s.kids.length := by omega
  refine Gd ?_;refine R.indexAddr (x.1) (A4 ks[x.1]) jU jS (Bf hlt) ?_;refine Cp ?_;refine Z14 ?_;refine R.fin [2, 6, 7, 8, 13, 14, 15] ?_;refine B9 ?_;refine R.fieldAddrRo (off := 0) jU Tryz.sizeOf142 ?_;refine Cp ?_;refine Au ?_;refine R.indexAddr (x.1) (A4 s.kids[x.1]) jU jS (Bf hls) ?_;refine Cp ?_;refine Z16 ?_;refine R.fin [2, 6, 8, 9, 13, 14, 15] ?_;refine Z23 ?_;refine Im ?_;refine R.eql ?_;refine R.fin [2, 6, 8, 9, 13, 14, 15, 26] ?_
  refine W.cond (fun ht26 => ?_) (fun ht26 => ?_)
  ·refine W.keep [2, 6, 13, 14, 15] ?_;refine b7 ?_;refine K.blE ?_;refine K.thN ?_;refine Z83 ?_;refine Yd ?_
   first | (refine K.lpN (x.1 + 1, x.2) (hx.skip hlt hls ht26) (by show ks.length - (x.1 + 1) < ks.length - x.1; omega) ?_; exact StCut.take (own := [.cells 3 [A4 x.2]]) (fun _ => .refl _) (by repeat (first | exact B7 | refine B6 (by first | (simp [or_imp, forall_and]; done) | (simp [oid] <;> omega)) ?_)) (by intro y hy; rw [List.mem_singleton.1 hy]; intro z hz; rw [List.mem_singleton.1 hz]; simp) (by simp)) | (refine K.lpN (x.1 + 1, (By x.2 ks[x.1]).1) (hx.same hlt hls ht26 ht28 (by simpa using ht38)) (by show ks.length - (x.1 + 1) < ks.length - x.1; omega) ?_; exact StCut.take (own := [.cells 3 [A4 (By x.2 ks[x.1]).1]]) (fun _ => .refl _) (by repeat (first | exact B7 | refine B6 (by first | (simp [or_imp, forall_and]; done) | (simp [oid] <;> omega)) ?_)) (by intro y hy; rw [List.mem_singleton.1 hy]; intro z hz; rw [List.mem_singleton.1 hz]; simp) (by simp)) | (refine K.lpN (x.1 + 1, x.2) (hx.want hlt hls ht26 ht28 (by simpa using ht38)) (by show ks.length - (x.1 + 1) < ks.length - x.1; omega) ?_; exact StCut.take (own := [.cells 3 [A4 x.2]]) (fun _ => .refl _) (by repeat (first | exact B7 | refine B6 (by first | (simp [or_imp, forall_and]; done) | (simp [oid] <;> omega)) ?_)) (by intro y hy; rw [List.mem_singleton.1 hy]; intro z hz; rw [List.mem_singleton.1 hz]; simp) (by simp))
  refine Z5 ?_;refine Z2 ?_;refine R.fin [2, 6, 8, 9, 10, 13, 14, 15] ?_;refine Z23 ?_;refine Im ?_;refine R.eql ?_;refine R.fin [2, 6, 8, 10, 13, 14, 15, 28] ?_
  refine W.cond (fun ht28 => ?_) (fun ht28 => ?_)
  ·refine Xy ?_;refine R.fin [2, 6, 8, 10, 13, 14, 15] ?_;refine K.thN ?_;refine Z0 ?_;refine R.nilPtr ?_;refine Im ?_;refine Au ?_;refine R.call Tryz.call133 (sg _ _ _) ?_;refine Jb ?_;refine R.fin [2, 6, 10, 11, 12, 13, 14, 15] ?_;refine Z9 ?_;refine R.not ?_;refine R.fin [2, 6, 10, 11, 13, 14, 15, 38] ?_
   refine W.cond (fun ht38 => ?_) (fun ht38 => ?_)
   ·have hbad := hx.bad hlt hls ht26 (by first | (rw [if_pos ht28]; simpa using ht38) | (rw [if_neg (by rw [ht28]; simp)]; simpa using ht38))
    refine Z2 ?_;refine Mj ?_;exact ph
   refine c8 ?_;refine R.nilPtr ?_;refine Dh ?_;refine Yd ?_;refine Uj ?_;refine Yd ?_
   first | (refine K.lpN (x.1 + 1, x.2) (hx.skip hlt hls ht26) (by show ks.length - (x.1 + 1) < ks.length - x.1; omega) ?_; exact StCut.take (own := [.cells 3 [A4 x.2]]) (fun _ => .refl _) (by repeat (first | exact B7 | refine B6 (by first | (simp [or_imp, forall_and]; done) | (simp [oid] <;> omega)) ?_)) (by intro y hy; rw [List.mem_singleton.1 hy]; intro z hz; rw [List.mem_singleton.1 hz]; simp) (by simp)) | (refine K.lpN (x.1 + 1, (By x.2 ks[x.1]).1) (hx.same hlt hls ht26 ht28 (by simpa using ht38)) (by show ks.length - (x.1 + 1) < ks.length - x.1; omega) ?_; exact StCut.take (own := [.cells 3 [A4 (By x.2 ks[x.1]).1]]) (fun _ => .refl _) (by repeat (first | exact B7 | refine B6 (by first | (simp [or_imp, forall_and]; done) | (simp [oid] <;> omega)) ?_)) (by intro y hy; rw [List.mem_singleton.1 hy]; intro z hz; rw [List.mem_singleton.1 hz]; simp) (by simp)) | (refine K.lpN (x.1 + 1, x.2) (hx.want hlt hls ht26 ht28 (by simpa using ht38)) (by show ks.length - (x.1 + 1) < ks.length - x.1; omega) ?_; exact StCut.take (own := [.cells 3 [A4 x.2]]) (fun _ => .refl _) (by repeat (first | exact B7 | refine B6 (by first | (simp [or_imp, forall_and]; done) | (simp [oid] <;> omega)) ?_)) (by intro y hy; rw [List.mem_singleton.1 hy]; intro z hz; rw [List.mem_singleton.1 hz]; simp) (by simp))
  refine I7 ?_;refine R.nilPtr ?_;refine Im ?_;refine Au ?_;refine R.call Tryz.call133 (sg _ _ _) ?_;refine Jb ?_;refine R.fin [2, 6, 10, 11, 12, 13, 14, 15] ?_;refine Z9 ?_;refine R.not ?_;refine R.fin [2, 6, 10, 11, 13, 14, 15, 38] ?_
  refine W.cond (fun ht38 => ?_) (fun ht38 => ?_)
  ·have hbad := hx.bad hlt hls ht26 (by first | (rw [if_pos ht28]; simpa using ht38) | (rw [if_neg (by rw [ht28]; simp)]; simpa using ht38))
   refine Z2 ?_;refine Mj ?_;exact ph
  refine c8 ?_;refine R.nilPtr ?_;refine Dh ?_;refine Yd ?_;refine Uj ?_;refine Yd ?_
  first | (refine K.lpN (x.1 + 1, x.2) (hx.skip hlt hls ht26) (by show ks.length - (x.1 + 1) < ks.length - x.1; omega) ?_; exact StCut.take (own := [.cells 3 [A4 x.2]]) (fun _ => .refl _) (by repeat (first | exact B7 | refine B6 (by first | (simp [or_imp, forall_and]; done) | (simp [oid] <;> omega)) ?_)) (by intro y hy; rw [List.mem_singleton.1 hy]; intro z hz; rw [List.mem_singleton.1 hz]; simp) (by simp)) | (refine K.lpN (x.1 + 1, (By x.2 ks[x.1]).1) (hx.same hlt hls ht26 ht28 (by simpa using ht38)) (by show ks.length - (x.1 + 1) < ks.length - x.1; omega) ?_; exact StCut.take (own := [.cells 3 [A4 (By x.2 ks[x.1]).1]]) (fun _ => .refl _) (by repeat (first | exact B7 | refine B6 (by first | (simp [or_imp, forall_and]; done) | (simp [oid] <;> omega)) ?_)) (by intro y hy; rw [List.mem_singleton.1 hy]; intro z hz; rw [List.mem_singleton.1 hz]; simp) (by simp)) | (refine K.lpN (x.1 + 1, x.2) (hx.want hlt hls ht26 ht28 (by simpa using ht38)) (by show ks.length - (x.1 + 1) < ks.length - x.1; omega) ?_; exact StCut.take (own := [.cells 3 [A4 x.2]]) (fun _ => .refl _) (by repeat (first | exact B7 | refine B6 (by first | (simp [or_imp, forall_and]; done) | (simp [oid] <;> omega)) ?_)) (by intro y hy; rw [List.mem_singleton.1 hy]; intro z hz; rw [List.mem_singleton.1 hz]; simp) (by simp))
 have hxe : ks.length ≤ x.1 := by simpa using ht16
 have hout := hx.out hxe
 refine Z54 ?_;refine Z23 ?_;refine m7 ?_;refine R.eql ?_;refine R.fin [2, 6, 45] ?_
 refine W.cond (fun ht45 => ?_) (fun ht45 => ?_)
 ·refine bl ?_;refine Ax ?_;refine Mj ?_;exact K.fin (V.two V.tmp V.tmp) ⟨by rw [hout, if_pos ht45], rfl⟩
 refine Lk ?_;refine m7 ?_;refine Z90 ?_;exact K.fin (V.two V.tmp V.tmp) ⟨by rw [hout, if_neg (by rw [ht45]; simp)], rfl⟩

theorem f8 {n k : Nat} {own : Bool} {l : List Int} : Low n (.slice own k (l.map A4)) := low_slice.2 fun y hy => by
 obtain ⟨z, _, rfl⟩ := List.mem_map.1 hy
 simp
theorem Lx {n : Nat} {e : Expr} : Low n (.ro (E3 e)) := by have := Ak n e; rw [Af] at this; simpa using this
theorem O6 {c : List Col} {t : Str} (h : ¬ (C4 t c < 0)) : ∃ (j : Nat), C4 t c = (j : Int) ∧ j < c.length := by
 obtain ⟨j, y, h2, _, h3⟩ := find_mem.1 h
 exact ⟨j, h3, (List.getElem?_eq_some_iff.1 h2).1⟩
theorem f9 {c : List Col} {e : Expr} (h : (e.op == 1) = true) : Cw c e = (e.val.kind, 0) := by rw [Jp]; unfold Pr; rw [if_pos h]
theorem Zy {c : List Col} {e : Expr} (h1 : (e.op == 1) = false) (h : (e.op == 2) = true) : Cw c e = T7 c e.text := by rw [Jp]; unfold Pr; rw [h1, if_pos h]; rfl
theorem fc {c : List Col} {e : Expr} (h1 : (e.op == 1) = false) (h2 : (e.op == 2) = false) {x : Nat} (hx : x < e.kids.length) (h0 : ∀ (j : Nat) (y : Expr), j < x → e.kids[j]? = some y → ((Cw c y).2 != 0) = false) (hb : ((Cw c e.kids[x]).2 != 0) = true) : Cw c e = (0, (Cw c e.kids[x]).2) := by
 rw [Jp]
 unfold Pr
 rw [h1, h2]
 have : (e.kids.map (Cw c)).find? (fun q => q.2 != 0) = some ((e.kids.map (Cw c))[x]'(by simpa using hx)) := Qv (by simpa using hx) (by simpa using hb) (fun j y hj hy => by
  rw [List.getElem?_map, Option.map_eq_some_iff] at hy
  obtain ⟨z, hz, rfl⟩ := hy
  exact h0 j z hj hz)
 rw [this]
 simp
theorem fe {c : List Col} {e : Expr} (h1 : (e.op == 1) = false) (h2 : (e.op == 2) = false) (h0 : ∀ (j : Nat) (y : Expr), j < e.kids.length → e.kids[j]? = some y → ((Cw c y).2 != 0) = false) : Cw c e = T6 (Bw e.op e.text) (e.kids.map fun y => (Cw c y).1) := by
 rw [Jp]
 unfold Pr
 rw [h1, h2]
 have : (e.kids.map (Cw c)).find? (fun q => q.2 != 0) = none := K9 (fun j y hy => by
  rw [List.getElem?_map, Option.map_eq_some_iff] at hy
  obtain ⟨z, hz, rfl⟩ := hy
  exact h0 j z (List.getElem?_eq_some_iff.1 hz).1 hz)
 rw [this]
 simp only [List.map_map]
 rfl
theorem Zz (f : Expr → Int) (l : List Expr) {x : Nat} (h : x < l.length) : ((l.take x).map f).map A4 ++ [A4 (f l[x])] = ((l.take (x + 1)).map f).map A4 := by rw [List.take_succ_eq_append_getElem h, List.map_append, List.map_append]; rfl
theorem c67 (c : List Col) (hc : OkCols c) : ∀ (n : Nat) (e : Expr), okE n e → Cg C9 e = true → ∀ Hp : List AObj, AFun Tryz.prog 67 [Ab e, C3 c] Hp (.tup [A4 (Cw c e).1, A4 (Cw c e).2]) := by
 intro n
 induction n with
 | zero => exact fun e h => h.elim
 | succ n ih =>
 intro e hok hnd Hp
 have hnd0 := hnd
 rw [Fo, Bool.and_eq_true] at hnd0
 refine ACall.body [.tmp 4, .tmp 5] [0, 1] Tryz.func67 Tryz.ntmps67 (fun d => ?_)
 refine Uo ?_;refine R.fin [1, 2] ?_;refine Z23 ?_;refine Z15 ?_;refine R.fin [1, 2, 13] ?_;refine S1 ?_;refine R.fin [1, 2, 13, 14] ?_
 refine W.cond (fun ht14 => ?_) (fun ht14 => ?_)
 ·have hk := f9 (c := c) ht14
  refine gt ?_;refine Z15 ?_;refine Qt ?_;exact mn
 refine Z49 ?_;refine R.fin [1, 2, 19] ?_
 refine W.cond (fun ht19 => ?_) (fun ht19 => ?_)
 ·have hk := Zy (c := c) ht14 ht19
  refine Z0 ?_;refine Z40 ?_;refine R.call Tryz.call29 (c29 c hc e.text _) ?_;refine Ax ?_;refine R.fin [1, 6] ?_;refine Ul ?_;refine R.fin [1, 6, 26] ?_
  refine W.cond (fun ht26 => ?_) (fun ht26 => ?_)
  ·have hk2 : T7 c e.text = (0, 9) := if_pos (by simpa using ht26)
   refine Z2 ?_;refine Mj ?_;refine Z4 ?_;exact qt
  have hneg : ¬ (C4 e.text c < 0) := by simpa using ht26
  obtain ⟨j, hj, hjl⟩ := O6 hneg
  have hk2 : T7 c e.text = (c[j].kind, 0) := by
   unfold T7
   rw [if_neg hneg, hj, Int.toNat_natCast, List.getD_eq_getElem?_getD, List.getElem?_eq_getElem hjl]
   rfl
  rw [hj]
  refine Z5 ?_;refine Z29 ?_;refine R.indexAddr (j) (Ut c[j]) jU jS (Bf hjl) ?_;refine m7 ?_;refine Qt ?_;exact qt
 refine Z17 ?_;refine Z2 ?_;refine R.fin [1, 2, 7] ?_;refine Z23 ?_;refine R.nilSl 7 1 ?_;refine Z39 ?_;refine Z64 ?_;refine R.fin [1, 2, 7, 33, 34, 35] ?_
 refine AW.loopC (α := Nat) (fun x => ⟨59, A5 1 (C3 c) (A5 2 (.ro (E3 e)) (A5 7 (.slice true 1 (((e.kids.take x).map fun y => (Cw c y).1).map A4)) (A5 33 (.slice false 6 (e.kids.map Ab)) (A5 34 (A4 (e.kids.length : Nat)) (A5 35 (A4 (x : Nat)) (fun _ => .any)))))), Hp, [], [], none⟩) (fun x => x ≤ e.kids.length ∧ ∀ (j : Nat) (y : Expr), j < x → e.kids[j]? = some y → ((Cw c y).2 != 0) = false) (fun x => e.kids.length - x) (0) ⟨Nat.zero_le _, fun j y h => by omega⟩ (StLe.of_eq (by simp)) rfl (fun x hx => ?_)
 refine Z89 ?_;refine R.fin [1, 2, 7, 33, 34, 35, 36] ?_
 refine W.condX (fun ht36 => ?_) (fun ht36 => ?_)
 ·have hlt : x < e.kids.length := by simpa using ht36
  have hkl := hok.2.1
  refine Qr ?_;refine gi ?_;refine Z16 ?_;refine R.fin [1, 2, 7, 9, 33, 34, 35] ?_;refine Z28 ?_;refine Au ?_;refine R.call Tryz.call67 (ih e.kids[x] (hok.2.2 _ (List.getElem_mem hlt)) ((Ch _ _).1 hnd0.2 _ (List.getElem_mem hlt)) _) ?_;refine Jb ?_;refine R.fin [1, 2, 7, 10, 11, 33, 34, 35] ?_;refine Ll ?_;refine R.fin [1, 2, 7, 10, 11, 33, 34, 35, 46] ?_
  refine W.cond (fun ht46 => ?_) (fun ht46 => ?_)
  ·have hkb := fc (c := c) ht14 ht19 hlt hx.2 ht46
   refine Z66 ?_;refine Mj ?_;refine Og ?_;exact K.fin (V.two V.tmp V.tmp) ⟨by rw [hkb], rfl⟩
  refine Z5 ?_;refine AW.region ?_;refine R.moveT ?_;refine Au ?_;refine Mm ?_
  refine R.append jU Tryz.type3 ?_ ?_ ?_
  ·simp only [List.length_map, List.length_take, List.length_cons, List.length_nil, Tryz.t3]; omega
  ·simp only [List.length_map, List.length_take, List.length_cons, List.length_nil, Tryz.t3]; omega
  refine R.assignT ?_;refine R.fin [1, 2, 7, 33, 34, 35] ?_;refine Uj ?_;refine R.fin [1, 2, 7, 33, 34, 35] ?_;refine K.lpN (x + 1) ⟨hlt, Db hlt hx.2 ht46⟩ (by omega) ?_
  simp only [show Tryz.t3.size = 1 from rfl, Zz]
  exact StCut.take (own := []) (fun _ => .refl _) (by repeat (first | exact B7 | refine B6 (by first | exact f8 | exact Lx | exact Cc | (simp [or_imp, forall_and]; done)) ?_)) (by simp) (by simp)
 have hxe : e.kids.take x = e.kids := List.take_of_length_le (by simp at ht36; omega)
 have hxl : e.kids.length ≤ x := by simp at ht36; omega
 have hka := fe (c := c) ht14 ht19 (fun j y hj hy => hx.2 j y (by omega) hy)
 rw [hxe]
 refine Z54 ?_;refine Z57 ?_;refine R.call Tryz.call96 (c96 e _) ?_;refine Au ?_
 refine R.call Tryz.call97 (c97 (Bw e.op e.text) (e.kids.map fun y => (Cw c y).1) (by rw [dn hnd0.1 ht14 ht19]; simp) (by simpa using hok.2.1) _) ?_
 refine Z8 ?_;refine Z90 ?_;exact K.fin (V.two V.tmp V.tmp) ⟨by rw [hka], rfl⟩

theorem Hs {e : Expr} (h : Bc e = true) : Cg C9 e = true := by
 rw [Ez] at h
 unfold C0 at h
 rw [Bool.and_eq_true] at h
 exact h.2
theorem c31 (n : Nat) (e : Expr) (hok : okE n e) (hn : n ≤ 1048576) (c : List Col) (hc : OkCols c) (Hp : List AObj) : AFun Tryz.prog 31 [Ab e, C3 c] Hp (.tup [A4 (Gp e c).1, A4 (Gp e c).2]) := by
 refine ACall.body [.tmp 4, .tmp 5] [0, 1] Tryz.func31 Tryz.ntmps31 (fun d => ?_)
 refine Uo ?_;refine R.fin [1, 2] ?_;refine Oe ?_;refine R.call Tryz.call61 (c61 n e hok hn _) ?_;refine R.not ?_;refine Z20 ?_;refine G.call Tryz.call26 (fun hB => c26 c hc _) ?_;refine Ud ?_;refine R.fin [1, 2, 13] ?_
 refine W.cond (fun ht13 => ?_) (fun ht13 => ?_)
 ·have hk : Gp e c = (0, 1) := if_pos ht13
  refine Z2 ?_;refine Mj ?_;exact mn
 have hk : Gp e c = Cw c e := if_neg (by rw [ht13]; simp)
 have hr : Bc e = true := by simp only [Bool.or_eq_false_iff, Bool.not_eq_false'] at ht13; exact ht13.1
 refine Z5 ?_;refine Z57 ?_;refine Au ?_;refine R.call Tryz.call67 (c67 c hc n e hok (Hs hr) _) ?_;refine Z8 ?_;refine Z90 ?_;exact mn

/-- The first fault of those that were asked. -/
structure AllAt (f : Expr → Rs) (k : List Expr) (x : Nat) : Prop where
 le : x ≤ k.length
 ok : ∀ (j : Nat) (y : Expr), j < x → k[j]? = some y → ((f y).2 != 0) = false
theorem AllAt.bad {f : Expr → Rs} {k : List Expr} {x : Nat} (h : AllAt f k x) (hx : x < k.length) (hb : ((f k[x]).2 != 0) = true) (g : List Val → Rs) : Nr g (k.map f) = Bh (f k[x]).2 := by
 unfold Nr
 have : (k.map f).find? (fun q => q.2 != 0) = some ((k.map f)[x]'(by simpa using hx)) := Qv (by simpa using hx) (by simpa using hb) (fun j y hj hy => by
  rw [List.getElem?_map, Option.map_eq_some_iff] at hy
  obtain ⟨z, hz, rfl⟩ := hy
  exact h.ok j z hj hz)
 rw [this]
 simp
theorem AllAt.all {f : Expr → Rs} {k : List Expr} {x : Nat} (h : AllAt f k x) (hx : k.length ≤ x) (g : List Val → Rs) : Nr g (k.map f) = if (k.take x).any (fun y => (f y).1.kind == 0) then (noV, 0) else g ((k.take x).map fun y => (f y).1) := by
 unfold Nr
 have : (k.map f).find? (fun q => q.2 != 0) = none := K9 (fun j y hy => by
  rw [List.getElem?_map, Option.map_eq_some_iff] at hy
  obtain ⟨z, hz, rfl⟩ := hy
  exact h.ok j z (by have := (List.getElem?_eq_some_iff.1 hz).1; omega) hz)
 rw [this, List.take_of_length_le hx]
 simp only [List.any_map, List.map_map]
 rfl
theorem AllAt.next {f : Expr → Rs} {k : List Expr} {x : Nat} (h : AllAt f k x) (hx : x < k.length) (hb : ((f k[x]).2 != 0) = false) : AllAt f k (x + 1) := ⟨hx, Db hx h.ok hb⟩
theorem ff (f : Expr → Bool) (k : List Expr) {x : Nat} (h : x < k.length) : (k.take (x + 1)).any f = ((k.take x).any f || f k[x]) := by rw [List.take_succ_eq_append_getElem h, List.any_append]; simp
theorem aa (f : Expr → Val) (l : List Expr) {x : Nat} (h : x < l.length) : ((l.take x).map f).map Bl ++ [Bl (f l[x])] = ((l.take (x + 1)).map f).map Bl := by rw [List.take_succ_eq_append_getElem h, List.map_append, List.map_append]; rfl
theorem Tt {n k : Nat} {own : Bool} {l : List Val} : Low n (.slice own k (l.map Bl)) := low_slice.2 fun y hy => by
 obtain ⟨z, _, rfl⟩ := List.mem_map.1 hy
 simp [or_imp, forall_and]
theorem vm (c : List Col) (l : List Val) (e : Expr) (hk : e.kids.length ≤ 1048576) (hev : ∀ y ∈ e.kids, F5 c l y (Bm c l y)) (hargs : ((∀ y ∈ e.kids, (Bm c l y).2 = 0) → ArgsOk e.op (e.kids.map fun y => (Bm c l y).1))) (Hp : List AObj) : AFun Tryz.prog 186 [O5 c l, Ab e] Hp (Kr (Nr (B8 e.op e.text) (e.kids.map (Bm c l)))) := by
 refine ACall.body [.cell 4 24, .tmp 5] [0, 1] Tryz.func186 Tryz.ntmps186 (fun d => ?_)
 refine Lj ?_;refine ij ?_;refine Z2 ?_;refine R.fin [2, 3, 4, 6] ?_;refine B9 ?_;refine R.nilSl 6 3 ?_;refine Ax ?_;refine R.fin [2, 3, 4, 6, 7] ?_;refine Z23 ?_;refine Z39 ?_;refine Z64 ?_;refine R.fin [2, 3, 4, 6, 7, 13, 14, 15] ?_
 refine AW.loopC (α := Nat) (fun x => ⟨49, A5 2 (.ro [C3 c, Dp l]) (A5 3 (.ro (E3 e)) (A5 4 (.ptr (oid Hp.length 0) 0) (A5 6 (.slice true 3 (((e.kids.take x).map fun y => (Bm c l y).1).map Bl)) (A5 7 (Al ((e.kids.take x).any fun y => (Bm c l y).1.kind == 0)) (A5 13 (.slice false 6 (e.kids.map Ab)) (A5 14 (A4 (e.kids.length : Nat)) (A5 15 (A4 (x : Nat)) (fun _ => .any)))))))), Hp, [.cells 24 [A4 0, A4 0, A8 []]], [], none⟩) (fun x => AllAt (Bm c l) e.kids x) (fun x => e.kids.length - x) (0) ⟨Nat.zero_le _, fun j y h => by omega⟩ (StLe.of_eq (by simp)) rfl (fun x hx => ?_)
 refine Z89 ?_;refine R.fin [2, 3, 4, 6, 7, 13, 14, 15, 16] ?_
 refine W.condX (fun ht16 => ?_) (fun ht16 => ?_)
 ·have hlt : x < e.kids.length := by simpa using ht16
  refine Qr ?_;refine gi ?_;refine Z16 ?_;refine R.fin [2, 3, 4, 6, 7, 9, 13, 14, 15] ?_;refine Z57 ?_;refine Ml ?_;refine R.call Tryz.call158 (hev _ (List.getElem_mem hlt) _) ?_;refine Y8 ?_;refine R.fin [2, 3, 4, 6, 7, 10, 11, 13, 14, 15] ?_;refine Ll ?_;refine R.fin [2, 3, 4, 6, 7, 10, 11, 13, 14, 15, 26] ?_
  refine W.cond (fun ht26 => ?_) (fun ht26 => ?_)
  ·have hm := hx.bad hlt ht26 (B8 e.op e.text)
   refine Z0 ?_;refine Z43 ?_;refine Mj ?_;refine Z79 ?_;exact ge
  refine Z5 ?_;refine Z29 ?_;refine Z74 ?_;refine G.eql ?_;refine bo ?_;refine R.fin [2, 3, 4, 6, 7, 10, 13, 14, 15] ?_;refine AW.region ?_;refine R.moveT ?_;refine Ml ?_;refine Mm ?_
  refine R.append jU Tryz.type24 ?_ ?_ ?_
  ·simp only [List.length_map, List.length_take, List.length_cons, List.length_nil, Tryz.t24]; omega
  ·simp only [List.length_map, List.length_take, List.length_cons, List.length_nil, Tryz.t24]; omega
  refine R.assignT ?_;refine R.fin [2, 3, 4, 6, 7, 13, 14, 15] ?_;refine Uj ?_;refine R.fin [2, 3, 4, 6, 7, 13, 14, 15] ?_;refine K.lpN (x + 1) (hx.next hlt ht26) (by omega) ?_
  simp only [show Tryz.t24.size = 3 from rfl, ff _ _ hlt]
  have hvs : ((e.kids.take x).map fun y => (Bm c l y).1).map Bl ++ [.agg [.v (.int .i64 (Bm c l e.kids[x]).1.kind), .v (.int .i64 (Bm c l e.kids[x]).1.n), .v (sv (Bm c l e.kids[x]).1.s)]] = ((e.kids.take (x + 1)).map fun y => (Bm c l y).1).map Bl := aa _ _ hlt
  simp only [hvs]
  exact StCut.take (own := [.cells 24 [A4 0, A4 0, A8 []]]) (fun _ => .refl _) (by repeat (first | exact B7 | refine B6 (by first | exact Cc | exact Tt | exact Lx | (simp [or_imp, forall_and, oid] <;> omega)) ?_)) (by intro y hy; rw [List.mem_singleton.1 hy]; intro z hz; simp only [List.mem_cons, List.not_mem_nil, or_false] at hz; rcases hz with rfl | rfl | rfl <;> simp) (by simp)
 have hxe : e.kids.length ≤ x := by simpa using ht16
 have ha := hx.all hxe (B8 e.op e.text)
 have htk : e.kids.take x = e.kids := List.take_of_length_le hxe
 have h00 : ∀ y ∈ e.kids, (Bm c l y).2 = 0 := fun y hy => by
  obtain ⟨j, hj⟩ := List.getElem?_of_mem hy
  have := hx.ok j y (by have := (List.getElem?_eq_some_iff.1 hj).1; omega) hj
  simpa using this
 have hao := hargs h00
 rw [← htk] at hao
 refine Z54 ?_;refine Z9 ?_;refine R.fin [3, 4, 6, 42] ?_
 refine W.cond (fun ht42 => ?_) (fun ht42 => ?_)
 ·have hm : Nr (B8 e.op e.text) (e.kids.map (Bm c l)) = (noV, 0) := by rw [ha, if_pos ht42]
  refine mg ?_;exact mh
 have hm : Nr (B8 e.op e.text) (e.kids.map (Bm c l)) = B8 e.op e.text ((e.kids.take x).map fun y => (Bm c l y).1) := by rw [ha, if_neg (by rw [ht42]; simp)]
 refine Z5 ?_;refine Z57 ?_;refine Au ?_;refine R.call Tryz.call207 (vi e _ hao _) ?_;refine Z37 ?_;exact Z50

theorem Q7 {e : Expr} (h : C9 e = true) : (e.op = 5 → e.kids.length = 2) ∧ (e.op = 3 ∨ e.op = 4 → e.kids.length = 1) ∧ (e.op = 6 → Aw e.text = (e.kids.length : Int)) ∧ (e.op = 1 ∨ e.op = 2 ∨ e.op = 3 ∨ e.op = 4 ∨ e.op = 5 ∨ e.op = 6) := by
 cases Fd h with
 | val v hp h0 => simp [Fs, Expr.op]
 | name t ht => simp [D8, Expr.op]
 | neg a => simp [Dk, Expr.op, Expr.kids]
 | no a => simp [Dk, Expr.op, Expr.kids]
 | bin t a b ht => simp [Eu, Expr.op, Expr.kids]
 | call t k ht => simpa [Expr.op, Expr.kids, Expr.text] using ht
theorem Dl {k : List Expr} {i : Nat} (h : i < k.length) : (k.map Ab)[i]? = some (Ab (k.getD i Ah)) ∧ k.getD i Ah ∈ k ∧ ∀ (f : Expr → Rs) (d : Rs), (k.map f).getD i d = f (k.getD i Ah) := by
 have e : k.getD i Ah = k[i] := by rw [List.getD_eq_getElem?_getD, List.getElem?_eq_getElem h]; rfl
 rw [e]
 refine ⟨by simp [h], List.getElem_mem h, fun f d => ?_⟩
 rw [List.getD_eq_getElem?_getD, List.getElem?_map, List.getElem?_eq_getElem h]
 rfl
theorem Ra {c : List Col} {l : List Val} {e : Expr} (h1 : (e.op == 1) = false) (h2 : (e.op == 2) = false) (h3 : ((e.op == 5) && (e.text == orW)) = false) (h4 : ((e.op == 5) && (e.text == jq)) = false) (h5 : ((e.op == 6) && (((e.text == ifW) || (e.text == R7)) || (e.text == B4))) = false) : Bm c l e = Nr (B8 e.op e.text) (e.kids.map (Bm c l)) := by
 rw [Bm, Te]
 unfold Hn
 rw [h1, h2, h3, h4, h5]
 rfl
theorem kv {c : List Col} {l : List Val} (hf : ∀ v ∈ l, Fine v) {e : Expr} (hnd : Cg C9 e = true) (hrg : Cg F0 e = true) (hv : Cg Js e = true) (h5 : ((e.op == 6) && (((e.text == ifW) || (e.text == R7)) || (e.text == B4))) = false) : ArgsOk e.op (e.kids.map fun y => (Bm c l y).1) := by
 rw [Fo, Bool.and_eq_true] at hnd hrg hv
 obtain ⟨k5, k34, k6, _⟩ := Q7 hnd.1
 refine ⟨fun h => ?_, fun h => by rw [List.length_map]; exact k34 h, fun h => ?_, fun v hv' => ?_⟩
 ·obtain ⟨a, b, e⟩ := R9 (k5 h)
  rw [e]
  exact ⟨_, _, rfl⟩
 ·rw [List.length_map]
  rw [h] at h5
  simp only [beq_self_eq_true, Bool.true_and, Bool.or_eq_false_iff, beq_eq_false_iff_ne] at h5
  rcases Iz (k6 h) with ⟨_, h⟩ | ⟨_, h⟩ | ⟨_, h⟩ | ⟨e, _⟩ | ⟨e, _⟩ | ⟨_, h⟩ | ⟨_, h⟩ | ⟨e, _⟩
  ·exact .inl h
  ·exact .inl h
  ·exact .inl h
  ·exact absurd e h5.2
  ·exact absurd e h5.1.2
  ·obtain ⟨a, b, e⟩ := R9 h
   rw [e]
   exact .inr ⟨_, _, rfl⟩
  ·obtain ⟨a, b, e⟩ := R9 h
   rw [e]
   exact .inr ⟨_, _, rfl⟩
  exact absurd e h5.1.1
 obtain ⟨y, hy, rfl⟩ := List.mem_map.1 hv'
 exact Pw hf y ((Ch _ _).1 hv.2 y hy) ((Ch _ _).1 hrg.2 y hy)
theorem Ld (a b d : Rs) : Cx B4 a b d = Cx B4 a (noV, 0) (noV, 0) := by
 unfold Cx
 rw [show (B4 == ifW) = false from rfl, show (B4 == B4) = true from rfl]
 rfl
theorem Vx {t : Str} (h : (t == ifW) = false) (a b d d' : Rs) : Cx t a b d = Cx t a b d' := by
 unfold Cx
 rw [h]
 rfl
theorem Tu {t : Str} (h : (t == B4) = true) (a b b' d d' : Rs) : Cx t a b d = Cx t a b' d' := by
 have e : t = B4 := by simpa using h
 subst e
 rw [Ld, Ld a b' d']
theorem ac {t : Str} {k : List Expr} {f : Expr → Rs} {a : Rs} (h1 : (t == B4) = false → 1 < k.length) (h2 : (t == ifW) = true → 2 < k.length) : Cx t a ((k.map f).getD 1 (noV, 0)) ((k.map f).getD 2 (noV, 0)) = Cx t a (f (k.getD 1 Ah)) (f (k.getD 2 Ah)) := by
 cases hn : t == B4 with
 | true => exact Tu hn _ _ _ _ _
 | false =>
  rw [(Dl (h1 hn)).2.2]
  cases hi : t == ifW with
  | true => rw [(Dl (h2 hi)).2.2]
  | false => exact Vx hi _ _ _ _
theorem vn (c : List Col) (l : List Val) (hc : OkCols c) (hl : l.length = c.length) (hf : ∀ v ∈ l, Fine v) : ∀ (n : Nat) (e : Expr), okE n e → Cg C9 e = true → Cg F0 e = true → Cg Js e = true → F5 c l e (Bm c l e) := by
 intro n
 induction n with
 | zero => exact fun e h => h.elim
 | succ n ih =>
 intro e hok hnd hrg hvo Hp
 have hnd0 := hnd
 have hrg0 := hrg
 have hvo0 := hvo
 rw [Fo, Bool.and_eq_true] at hnd0 hrg0 hvo0
 have hev : ∀ y ∈ e.kids, F5 c l y (Bm c l y) := fun y hy => ih y (hok.2.2 y hy) ((Ch _ _).1 hnd0.2 y hy) ((Ch _ _).1 hrg0.2 y hy) ((Ch _ _).1 hvo0.2 y hy)
 obtain ⟨k5, k34, k6, _⟩ := Q7 hnd0.1
 have hev0 : Bm c l e = Hn B8 c l e.op e.text e.val (e.kids.map (Bm c l)) := Te _ _ _ _
 refine ACall.body [.cell 4 24, .tmp 5] [0, 1] Tryz.func158 Tryz.ntmps158 (fun d => ?_)
 refine Lj ?_;refine ij ?_;refine Z27 ?_;refine Ya ?_;refine R.fin [2, 3, 4, 7] ?_
 refine W.cond (fun ht7 => ?_) (fun ht7 => ?_)
 ·have hm : Bm c l e = (e.val, 0) := by rw [hev0]; unfold Hn; rw [if_pos ht7]
  refine gt ?_;refine Dq ?_;exact Ql
 refine Ya ?_;refine R.fin [2, 3, 4, 13] ?_
 refine W.cond (fun ht13 => ?_) (fun ht13 => ?_)
 ·have hm0 : Bm c l e = Hm c l e.text := by rw [hev0]; unfold Hn; rw [if_neg (by rw [ht7]; simp), if_pos ht13]
  refine B9 ?_;refine R.fieldAddrRo (off := 0) jU Tryz.sizeOf30 ?_;refine Cp ?_;refine Z40 ?_;refine R.call Tryz.call29 (c29 c hc e.text _) ?_;refine Ax ?_;refine R.fin [2, 4, 6] ?_;refine Ul ?_;refine R.fin [2, 4, 6, 23] ?_
  refine W.cond (fun ht23 => ?_) (fun ht23 => ?_)
  ·have hm : Bm c l e = Bh 9 := by rw [hm0]; exact if_pos (by simpa using ht23)
   refine Oh ?_;refine Mj ?_;exact Z12
  have hneg : ¬ (C4 e.text c < 0) := by simpa using ht23
  obtain ⟨j, hj, hjc⟩ := O6 hneg
  have hjl : j < l.length := by omega
  have hm : Bm c l e = (l[j], 0) := by
   rw [hm0]
   unfold Hm
   rw [if_neg hneg, hj, Int.toNat_natCast, List.getD_eq_getElem?_getD, List.getElem?_eq_getElem hjl]
   rfl
  rw [hj]
  refine Lk ?_;refine m3 ?_;refine Au ?_;refine R.indexAddr (j) (Bl l[j]) jU jS (Bf hjl) ?_;refine Dq ?_;exact Ql
 refine Mf ?_;refine Mi ?_;refine Qs ?_;refine Z32 ?_;refine R.fin [2, 3, 4, 32] ?_
 refine W.cond (fun ht32 => ?_) (fun ht32 => ?_)
 ·have h32 : ((e.op == 5) && (e.text == orW)) = true := ht32
  have hop : e.op = 5 := by simp only [Bool.and_eq_true, beq_iff_eq] at h32; exact h32.1
  have hkl := k5 hop
  have hm : Bm c l e = Ev (E2 true) (Bm c l (e.kids.getD 0 Ah)) (Bm c l (e.kids.getD 1 Ah)) := by rw [hev0]; unfold Hn; rw [if_neg (by rw [ht7]; simp), if_neg (by rw [ht13]; simp), if_pos h32, (Dl (by omega)).2.2, (Dl (by omega)).2.2]
  refine pz ?_;refine Gt ?_;refine D.call Tryz.call122 (V1 _ _) ?_;refine D.call Tryz.call184 (se c l e (e.kids.getD 0 Ah) (e.kids.getD 1 Ah) (E2 true) _ _ (Dl (by omega)).1 (Dl (by omega)).1 (hev _ (Dl (by omega)).2.1) (hev _ (Dl (by omega)).2.1) _) ?_;refine Uh ?_;exact Ql
 have h32 : ((e.op == 5) && (e.text == orW)) = false := ht32
 refine Mf ?_;refine Mi ?_;refine Qs ?_;refine Z32 ?_;refine R.fin [2, 3, 4, 47] ?_
 refine W.cond (fun ht47 => ?_) (fun ht47 => ?_)
 ·have h47 : ((e.op == 5) && (e.text == jq)) = true := ht47
  have hop : e.op = 5 := by simp only [Bool.and_eq_true, beq_iff_eq] at h47; exact h47.1
  have hkl := k5 hop
  have hm : Bm c l e = Ev (E2 false) (Bm c l (e.kids.getD 0 Ah)) (Bm c l (e.kids.getD 1 Ah)) := by rw [hev0]; unfold Hn; rw [if_neg (by rw [ht7]; simp), if_neg (by rw [ht13]; simp), if_neg (by rw [h32]; simp), if_pos h47, (Dl (by omega)).2.2, (Dl (by omega)).2.2]
  refine pz ?_;refine Gt ?_;refine D.call Tryz.call122 (V1 _ _) ?_;refine D.call Tryz.call184 (se c l e (e.kids.getD 0 Ah) (e.kids.getD 1 Ah) (E2 false) _ _ (Dl (by omega)).1 (Dl (by omega)).1 (hev _ (Dl (by omega)).2.1) (hev _ (Dl (by omega)).2.1) _) ?_;refine Uh ?_;exact Ql
 have h47 : ((e.op == 5) && (e.text == jq)) = false := ht47
 refine Mf ?_;refine Mi ?_;refine Qs ?_;refine G.move ?_;refine Qs ?_;refine G.pickOr ?_;refine G.move ?_;refine Qs ?_;refine G.pickOr ?_;refine Z32 ?_;refine R.fin [2, 3, 4, 62] ?_
 refine W.cond (fun ht62 => ?_) (fun ht62 => ?_)
 ·have h62 : ((e.op == 6) && (((e.text == ifW) || (e.text == R7)) || (e.text == B4))) = true := ht62
  obtain ⟨hkl, hl1, hl2⟩ : 0 < e.kids.length ∧ ((e.text == B4) = false → 1 < e.kids.length) ∧ ((e.text == ifW) = true → 2 < e.kids.length) := by
   have h := h62
   simp only [Bool.and_eq_true, Bool.or_eq_true, beq_iff_eq] at h
   have ha := k6 h.1
   rcases h.2 with (h1 | h1) | h1
   ·rw [h1] at ha ⊢
    have : e.kids.length = 3 := by
     have : Aw ifW = 3 := by kernel_rfl
     omega
    exact ⟨by omega, fun _ => by omega, fun _ => by omega⟩
   ·rw [h1] at ha ⊢
    have : e.kids.length = 2 := by
     have : Aw R7 = 2 := by kernel_rfl
     omega
    exact ⟨by omega, fun _ => by omega, fun h => absurd h (by decide)⟩
   rw [h1] at ha ⊢
   have : e.kids.length = 1 := by
    have : Aw B4 = 1 := by kernel_rfl
    omega
   exact ⟨by omega, fun h => absurd h (by decide), fun h => absurd h (by decide)⟩
  have hm : Bm c l e = Cx e.text (Bm c l (e.kids.getD 0 Ah)) (Bm c l (e.kids.getD 1 Ah)) (Bm c l (e.kids.getD 2 Ah)) := by
   rw [hev0]
   unfold Hn
   rw [if_neg (by rw [ht7]; simp), if_neg (by rw [ht13]; simp), if_neg (by rw [h32]; simp), if_neg (by rw [h47]; simp), if_pos h62, (Dl hkl).2.2]
   exact ac hl1 hl2
  refine Z57 ?_;refine Dq ?_;refine R.call Tryz.call185 (vj c l e (e.kids.getD 0 Ah) (e.kids.getD 1 Ah) (e.kids.getD 2 Ah) _ _ _ (Dl (by omega)).1 (fun h => (Dl (hl1 h)).1) (fun h => (Dl (hl2 h)).1) (hev _ (Dl (by omega)).2.1) (fun h => hev _ (Dl (hl1 h)).2.1) (fun h => hev _ (Dl (hl2 h)).2.1) _) ?_;refine Z37 ?_;exact Z96
 have h62 : ((e.op == 6) && (((e.text == ifW) || (e.text == R7)) || (e.text == B4))) = false := ht62
 have hm := Ra (c := c) (l := l) ht7 ht13 h32 h47 h62
 refine Z17 ?_;refine Z57 ?_;refine Dq ?_;refine R.call Tryz.call186 (vm c l e hok.2.1 hev (fun _ => kv hf hnd hrg hvo h62) _) ?_;refine Z37 ?_;exact Z50

def Ht (l : List Val) : Bool := decide ((50 : Int) < (l.length : Int)) || l.any fun v => decide ((400 : Int) < (v.s.length : Int))
theorem c18 (l : List Val) (Hp : List AObj) : AFun Tryz.prog 18 [Dp l] Hp (Al (Ht l)) := by
 refine ACall.body [.tmp 2] [0] Tryz.func18 Tryz.ntmps18 (fun d => ?_)
 refine Z88 ?_;refine Z9 ?_;refine Uc ?_;refine R.fin [0, 6] ?_
 refine W.cond (fun ht6 => ?_) (fun ht6 => ?_)
 ·rw [List.length_map] at ht6
  have hm : Ht l = true := by unfold Ht; rw [ht6]; rfl
  refine Z56 ?_;exact Z47
 rw [List.length_map] at ht6
 have hl50 : l.length ≤ 50 := by simp at ht6; omega
 refine Z5 ?_;refine Um ?_;refine Lm ?_
 refine AW.loopC (α := Nat) (fun x => ⟨20, A5 0 (Dp l) (A5 3 (A4 (x : Nat)) (fun _ => .any)), Hp, [], [], none⟩) (fun x => x ≤ l.length ∧ ∀ (j : Nat) (v : Val), j < x → l[j]? = some v → decide ((400 : Int) < (v.s.length : Int)) = false) (fun x => l.length - x) (0) ⟨Nat.zero_le _, fun j v h => by omega⟩ (StLe.of_eq (by simp)) rfl (fun x hx => ?_)
 refine Y6 ?_;refine R.fin [0, 3, 10] ?_
 refine W.cond (fun ht10 => ?_) (fun ht10 => ?_)
 ·have hlt : x < l.length := by simpa using ht10
  refine Z5 ?_;refine Z27 ?_;refine Z29 ?_;refine R.indexAddr (x) (Bl l[x]) jU jS (Bf hlt) ?_;refine gk ?_;refine Ua ?_;refine R.fin [0, 3, 19] ?_
  refine W.cond (fun ht19 => ?_) (fun ht19 => ?_)
  ·have hm : Ht l = true := by unfold Ht; rw [Bool.or_eq_true]; exact .inr (List.any_eq_true.2 ⟨l[x], List.getElem_mem hlt, ht19⟩)
   refine Z56 ?_;exact gu
  refine Z17 ?_;refine Z26 ?_;refine R.add64 (h1 := by omega) (h2 := by omega) ?_;refine ib ?_;refine K.lpN (x + 1) ⟨hlt, Db hlt hx.2 ht19⟩ (by omega) ?_;exact StCut.of_eq (by simp)
 have hxe : l.length ≤ x := by simpa using ht10
 have hm : Ht l = false := by
  unfold Ht
  rw [ht6, Bool.false_or, List.any_eq_false]
  intro v hv
  obtain ⟨j, hj⟩ := List.getElem?_of_mem hv
  have := hx.2 j v (by have := (List.getElem?_eq_some_iff.1 hj).1; omega) hj
  rw [this]
  simp
 refine Oj ?_;exact q8

structure RowAt (c : List Col) (l : List Val) (x : Nat) : Prop where
 le : x ≤ l.length
 ok : ∀ (i : Nat) (v : Val) (y : Col), i < x → l[i]? = some v → c[i]? = some y → Bx v = true ∧ (v.kind = 0 ∨ v.kind = y.kind)
theorem RowAt.next {c : List Col} {l : List Val} {x : Nat} (h : RowAt c l x) (hl : x < l.length) (hc : x < c.length) (hb : ((!(Bx l[x])) || ((l[x].kind != 0) && (l[x].kind != c[x].kind))) = false) : RowAt c l (x + 1) := ⟨hl, fun i v y hi hv hy => by
 rcases Nat.lt_or_ge i x with h' | h'
 ·exact h.ok i v y h' hv hy
 have e : i = x := by omega
 subst e
 rw [List.getElem?_eq_getElem hl] at hv
 rw [List.getElem?_eq_getElem hc] at hy
 injection hv with hv
 injection hy with hy
 subst hv
 subst hy
 simp only [Bool.or_eq_false_iff, Bool.not_eq_false', Bool.and_eq_false_iff, bne_eq_false_iff_eq] at hb
 exact ⟨hb.1, hb.2⟩⟩
theorem RowAt.bad {c : List Col} {l : List Val} {x : Nat} (hl : x < l.length) (hc : x < c.length) (hb : ((!(Bx l[x])) || ((l[x].kind != 0) && (l[x].kind != c[x].kind))) = true) : Iu c l = false := by
 cases h : Iu c l with
 | false => rfl
 | true =>
  obtain ⟨h1, h2⟩ := (row_iff.1 h).2.2 x l[x] c[x] (List.getElem?_eq_getElem hl) (List.getElem?_eq_getElem hc)
  rw [h1] at hb
  simp only [Bool.not_true, Bool.false_or, Bool.and_eq_true, bne_iff_ne] at hb
  omega
theorem c82 (c : List Col) (hc : OkCols c) (l : List Val) (hll : l.length ≤ 1048576) (Hp : List AObj) : AFun Tryz.prog 82 [C3 c, Dp l] Hp (Al (Iu c l)) := by
 refine ACall.body [.tmp 4] [0, 1] Tryz.func82 Tryz.ntmps82 (fun d => ?_)
 refine Z73 ?_;refine Z9 ?_;refine R.call Tryz.call26 (c26 c hc _) ?_;refine R.not ?_;refine Z20 ?_;refine G.len jU ?_;refine G.move ?_;refine G.len jU ?_;refine Ub ?_;refine R.fin [0, 1, 16] ?_
 refine W.cond (fun ht16 => ?_) (fun ht16 => ?_)
 ·have hm : Iu c l = false := by
   simp only [List.length_map, Bool.or_eq_true, Bool.not_eq_true', bne_iff_ne, ne_eq] at ht16
   unfold Iu
   rcases ht16 with h | h
   ·rw [h]; rfl
   rw [show (l.length == c.length) = false by simpa using (show l.length ≠ c.length by omega)]; simp
  exact Rz
 have hcl : Jj c = true ∧ l.length = c.length := by
  simp only [List.length_map, Bool.or_eq_false_iff, Bool.not_eq_false', bne_eq_false_iff_eq] at ht16
  exact ⟨ht16.1, by omega⟩
 refine Z5 ?_;refine U9 ?_;refine R.fin [0, 17, 18, 19] ?_
 refine AW.loopC (α := Nat) (fun x => ⟨43, A5 0 (C3 c) (A5 17 (Dp l) (A5 18 (A4 (l.length : Nat)) (A5 19 (A4 (x : Nat)) (fun _ => .any)))), Hp, [], [], none⟩) (fun x => RowAt c l x) (fun x => l.length - x) (0) ⟨Nat.zero_le _, fun i v y h => by omega⟩ (StLe.of_eq (by simp)) rfl (fun x hx => ?_)
 refine Z89 ?_;refine R.fin [0, 17, 18, 19, 20] ?_
 refine W.condX (fun ht20 => ?_) (fun ht20 => ?_)
 ·have hlt : x < l.length := by simpa using ht20
  have hlc : x < c.length := by omega
  refine Gd ?_;refine R.indexAddr (x) (Bl l[x]) jU jS (Bf hlt) ?_;refine Dq ?_;refine bm ?_;refine R.fin [0, 5, 6, 17, 18, 19] ?_;refine W.draw [0, 1, 3, 7, 15, 31, 63, 127, 255, 511, 255, 255, 3327, 7423, 15615, 32767, 65535, 131071] 15 Ae (by kernel_rfl) ?_;refine S7 ?_;refine D.call Tryz.call120 (cm _ _) ?_;refine D.not ?_;refine D.move ?_;refine H.fieldAddrPtr (fo := 0) jU Tryz.sizeOf3 ?_;refine H.loadOwn jA ?_;refine H.neq ?_;refine H.move ?_;refine H.fieldAddrPtr (fo := 0) jU Tryz.sizeOf3 ?_;refine H.loadOwn jA ?_;refine H.move ?_;refine H.move ?_;refine H.indexAddr (x) (Ut c[x]) jU jS (fun _ => Bf hlc) ?_;refine H.fieldAddrRo (off := 1) jU Tryz.sizeOf3 ?_;refine H.loadRo jA ?_;refine D.tail ?_;refine G.neq ?_;refine G.pickAnd ?_;refine R.pickOr ?_;refine R.fin [0, 17, 18, 19, 41] ?_
  refine W.cond (fun ht41 => ?_) (fun ht41 => ?_)
  ·have hm := RowAt.bad hlt hlc ht41
   exact i7
  refine Mk ?_;refine R.fin [0, 17, 18, 19] ?_;refine K.lpN (x + 1) (hx.next hlt hlc ht41) (by omega) ?_
  exact StCut.take (own := []) (fun _ => .refl _) (by repeat (first | exact B7 | refine B6 (by first | exact Tt | exact low_cols | (simp [or_imp, forall_and]; done)) ?_)) (by simp) (by simp)
 have hxe : l.length ≤ x := by simpa using ht20
 have hm : Iu c l = true := row_iff.2 ⟨by rw [← We]; exact hcl.1, hcl.2, fun i v y hv hy => hx.ok i v y (by have := (List.getElem?_eq_some_iff.1 hv).1; omega) hv hy⟩
 refine Z54 ?_;exact Y2

theorem fg {e : Expr} (h : C9 e = true) : Js e = true := by
 unfold Js
 cases Fd h with
 | val v hp h0 => simpa [Fs, Expr.op, Expr.val] using hp
 | name t ht => rfl
 | neg a => rfl
 | no a => rfl
 | bin t a b ht => rfl
 | call t k ht => rfl
mutual
theorem X7 : ∀ e : Expr, Cg C9 e = true → Cg Js e = true
 | .mk o t v k, h => by
  rw [Cg, Bool.and_eq_true] at h ⊢
  exact ⟨fg h.1, Tv k h.2⟩
theorem Tv : ∀ k : List Expr, Hh C9 k = true → Hh Js k = true
  | [], _ => rfl
  | e :: r, h => by
    rw [Hh, Bool.and_eq_true] at h ⊢
    exact ⟨X7 e h.1, Tv r h.2⟩
 end
theorem fh {c : List Col} {l : List Val} (h : Iu c l = true) (hr : ∀ v ∈ l, -9223372036854775808 ≤ v.n ∧ v.n ≤ 9223372036854775807) : ∀ v ∈ l, Fine v := fun v hv => by
 obtain ⟨i, hi⟩ := List.getElem?_of_mem hv
 obtain ⟨_, h2, h3⟩ := row_iff.1 h
 have hil := (List.getElem?_eq_some_iff.1 hi).1
 exact ⟨(h3 i v _ hi (List.getElem?_eq_getElem (show i < c.length by omega))).1, (hr v hv).1, (hr v hv).2⟩
theorem vo (n : Nat) (x : Expr) (hok : okE n x) (hn : n ≤ 1048576) (hrg : Cg F0 x = true) (c : List Col) (hc : OkCols c) (l : List Val) (hll : l.length ≤ 1048576) (hlr : ∀ v ∈ l, -9223372036854775808 ≤ v.n ∧ v.n ≤ 9223372036854775807) (Hp : List AObj) : AFun Tryz.prog 121 [Ab x, C3 c, Dp l] Hp (Kr (Ff x c l)) := by
 refine ACall.body [.cell 6 24, .tmp 7] [0, 1, 2] Tryz.func121 Tryz.ntmps121 (fun d => ?_)
 refine Z24 ?_;refine Z86 ?_;refine R.fin [1, 2, 3, 6] ?_;refine Oe ?_;refine R.call Tryz.call61 (c61 n x hok hn _) ?_;refine R.not ?_;refine K6 ?_;refine G.call Tryz.call82 (fun hB => c82 c hc l hll _) ?_;refine Ud ?_;refine R.fin [1, 2, 3, 6, 16] ?_
 refine W.cond (fun ht16 => ?_) (fun ht16 => ?_)
 ·have hm : Ff x c l = Bh 1 := if_pos ht16
  refine Oh ?_;refine Z69 ?_;exact Z38
 have hm : Ff x c l = Bm c l x := if_neg (by rw [ht16]; simp)
 have hrr : Bc x = true ∧ Iu c l = true := by simpa using ht16
 obtain ⟨hr, hrow⟩ := hrr
 refine Z5 ?_;refine Z29 ?_;refine Us ?_;refine Dq ?_;refine R.call Tryz.call158 (vn c l hc (row_iff.1 hrow).2.1 (fh hrow hlr) n x hok (Hs hr) hrg (X7 x (Hs hr)) _) ?_;refine Z37 ?_;refine Z69 ?_;exact lr

theorem fj {l : List Val} (h : Ht l = false) : l.length ≤ 1048576 := by
 unfold Ht at h
 simp only [Bool.or_eq_false_iff, decide_eq_false_iff_not] at h
 omega
end Go.SX.Nb
namespace Go.SX
variable [GI : GlobInv]
open Classical
variable {P : Program} {d : Nat} {ops : Array Oper} {rest : List Oper} {sz : Nat} {fr : Nat → AV} {up own : List AObj} {dfs : List Nat} {rnd : Option Nat} {Q : St → Prop} {s : Nat} {ty : TypeId} {pos : String} {aft : Array Edge}
/-- Whether a slice is nil is known only of one that has elements. -/
theorem R.eqlNil {t e u : TypeId} {x y : Operand} {o : Bool} {k : Nat} {xs : List AV} (ht : P.underlying t = some (.slice e)) (hg : P.eqGuardType P.depth t = false)
  (hr : ∀ b : Bool, (b = true → xs = []) → ARun P d ops rest ⟨sz, A5 s (.v (.bool b)) fr, up, own, dfs, rnd⟩ Q)
  (hx : A7 fr x = .slice o k xs := by exact sL0) (hy : A7 fr y = .nil := by exact sL0) (hs : Nat.blt s sz = true := by rfl) :
  ARun P d ops (⟨some s, .binOp .eql t x y u, ty, pos, aft, none⟩ :: rest) ⟨sz, fr, up, own, dfs, rnd⟩ Q := by
 refine ARun.op rfl (Q1 := fun s' => ∃ b : Bool, (b = true → xs = []) ∧ s' = ⟨sz, A5 s (.v (.bool b)) fr, up, own, dfs, rnd⟩) ?_ (by rintro _ ⟨b, hb, rfl⟩; exact hr b hb)
 intro G a w hrel Q'
 have h1 := hrel.eval x
 rw [show St.ev ⟨sz, fr, up, own, dfs, rnd⟩ x = .slice o k xs from hx] at h1
 have h2 := hrel.eval y
 rw [show St.ev ⟨sz, fr, up, own, dfs, rnd⟩ y = .nil from hy] at h2
 have key : ∀ b : Bool, (b = true → xs = []) → (execOp a.eval ⟨some s, .binOp .eql t x y u, ty, pos, aft, none⟩).run P w = .ok (.value (.bool b)) w →
   Oper.wpIn (Fr ((St.mk sz fr up own dfs rnd).rnd.map G.blk)) 0 P ⟨some s, .binOp .eql t x y u, ty, pos, aft, none⟩ a w (Post d ⟨sz, fr, up, own, dfs, rnd⟩ G w (fun s' => ∃ b : Bool, (b = true → xs = []) ∧ s' = ⟨sz, A5 s (.v (.bool b)) fr, up, own, dfs, rnd⟩)) Q' := fun b hb hv =>
  Bb (by intro c h; cases h) hv ⟨G, _, hrel.put (y := .v (.bool b)) (by simpa using hs) (.v _ _), Keep.refl d G w, rfl, rfl, rfl, b, hb, rfl⟩
 generalize hya : a.eval y = vy at h2
 generalize hxa : a.eval x = vx at h1
 cases h2
 cases h1 with
 | slice0 => exact key true (fun _ => rfl) (by simp only [execOp, hxa, hya, eqGuard]; simp [Lib.run_eql_slice_nil _ _ _ _ _ _ _ _ ht, hg])
 | sliceE => exact key false (fun h => by cases h) (by simp only [execOp, hxa, hya, eqGuard]; simp [Lib.run_eql_slice_nil _ _ _ _ _ _ _ _ ht, hg])
 | slice => exact key false (fun h => by cases h) (by simp only [execOp, hxa, hya, eqGuard]; simp [Lib.run_eql_slice_nil _ _ _ _ _ _ _ _ ht, hg])
/-! A guarded slice that may be appended to. -/
theorem G.buildSlice {t e : TypeId} {k len : Nat} {z : Value} {parts : List (Nat × Operand)} {ys : List AV} {oj : Oper} {j g : Nat} {want C : Bool} (hu : P.underlying t = some (.slice e)) (hsz : ∀ w, (Go.sizeOf e).run P w = .ok k w) (hz : ∀ w, (zeroValue e).run P w = .ok z w)
  (hr : ARun P d ops rest ⟨sz, A5 s (gAV C (.slice true k ys)) fr, up, own, dfs, rnd⟩ Q) (hj : ops[j]? = some oj := by rfl) (hdj : oj.dst = some g := by rfl) (hgs : GIs (fr g) want C := by exact sL2)
  (hp : parts.toArray = (((parts.map Prod.snd).zipIdx).map fun x => (x.2, x.1)).toArray := by rfl) (hev : C = true → (parts.map Prod.snd).map (A7 fr) = ys := by intro hB; simp only [go_sem, hB, ↓reduceIte, Nat.reduceEqDiff, Nat.reduceAdd] <;> rfl)
  (hk : ys.all (fun y => decide (y.cells.length = k) && y.cells.all AV.one) = true := by simp [go_sem]) (hl : len = ys.length := by rfl) (hlen : ys.length * k ≤ 16777216 := by exact sL3) (hs : Nat.blt s sz = true := by rfl) :
  ARun P d ops (⟨some s, .buildSlice t len parts.toArray, ty, pos, aft, some (j, want)⟩ :: rest) ⟨sz, fr, up, own, dfs, rnd⟩ Q := by
 have h2 : ∀ y ∈ ys, y.cells.length = k ∧ y.cells.all AV.one = true := fun y hy => by simpa using List.all_eq_true.1 hk y hy
 refine ARun.guardA (Q1 := fun s' => s' = ⟨sz, A5 s (.slice true k ys) fr, up, own, dfs, rnd⟩) rfl hj hdj hgs rfl hs (fun hB => AOp.buildSlice (st := ⟨sz, fr, up, own, dfs, rnd⟩) hu hsz hz (hev hB) (fun y hy => (h2 y hy).1) (fun y hy c hc => List.all_eq_true.1 (h2 y hy).2 c hc) hlen (by simpa using hs) hl hp) (fun hB s' e => ?_) (fun hB => ?_)
 ·subst e; rw [hB] at hr; exact hr
 rw [hB] at hr; exact hr
theorem G.append {t e : TypeId} {i : TypeInfo} {z : Value} {k r : Nat} {x : Operand} {o2 : Bool} {xs ys zs : List AV} {oj : Oper} {j g : Nat} {want C : Bool} (hu : P.underlying t = some (.slice e)) (hi : P.info? e = some i)
  (hl : C = true → (xs.length + ys.length) * i.bytes ≤ 140737488355328) (hl2 : C = true → xs.length + ys.length ≤ 4611686018427387904)
  (hr : ARun P d ops rest ⟨sz, A5 s (gAV C (.slice true k zs)) (A5 r .any fr), up, own, dfs, rnd⟩ Q)
  (hj : ops[j]? = some oj := by rfl) (hdj : oj.dst = some g := by rfl) (hgs : GIs (fr g) want C := by exact sL2)
  (hz : i.zero = some z := by rfl) (hsz : i.size = k := by rfl) (hzk : z.cells.size = k := by rfl) (hk : 0 < k := by decide)
  (hb : C = true → H1 (fr r) true k xs := by intro hB; simp only [go_sem, hB, ↓reduceIte, Nat.reduceEqDiff, Nat.reduceAdd] <;> first | exact .inl rfl | exact .inr ⟨rfl, rfl⟩)
  (hx : C = true → H1 (A7 fr x) o2 k ys := by intro hB; simp only [go_sem, hB, ↓reduceIte, Nat.reduceEqDiff, Nat.reduceAdd] <;> first | exact .inl rfl | exact .inr ⟨rfl, rfl⟩)
  (hrs : s ≠ r := by decide) (hzs : xs ++ ys = zs := by first | rfl | (simp only [go_sem, ↓reduceIte, Nat.reduceEqDiff, Nat.reduceAdd] <;> rfl))
  (hs : Nat.blt s sz = true := by rfl) :
  ARun P d ops (⟨some s, .call ⟨.builtin .append, #[.tmp r, x], #[t, t]⟩, ty, pos, aft, some (j, want)⟩ :: rest) ⟨sz, fr, up, own, dfs, rnd⟩ Q := by
 subst hzs
 refine ARun.guardA (Q1 := fun s' => s' = ⟨sz, A5 s (.slice true k (xs ++ ys)) (A5 r (fr r).strip fr), up, own, dfs, rnd⟩) rfl hj hdj hgs rfl hs (fun hB => AOp.append (st := ⟨sz, fr, up, own, dfs, rnd⟩) hu hi hz hsz rfl hzk hk (hb hB) (hx hB) hrs (by simpa using hs) (hl hB) (hl2 hB)) (fun hB s' e => ?_) (fun hB => ?_)
 ·subst e
  rw [hB] at hr
  refine ARun.le (StLe.frame (s := ⟨sz, A5 s (.slice true k (xs ++ ys)) (A5 r (fr r).strip fr), up, own, dfs, rnd⟩) fun i => ?_) hr
  show Le (A5 s (.slice true k (xs ++ ys)) (A5 r (fr r).strip fr) i) (A5 s (.slice true k (xs ++ ys)) (A5 r .any fr) i)
  unfold A5
  split
  ·exact .refl _
  split
  ·exact .any _
  exact .refl _
 rw [hB] at hr
 refine ARun.le (StLe.frame (s := ⟨sz, A5 s (.v undef) fr, up, own, dfs, rnd⟩) fun i => ?_) hr
 show Le (A5 s (.v undef) fr i) (A5 s (.v undef) (A5 r .any fr) i)
 unfold A5
 split
 ·exact .refl _
 split
 ·exact .any _
 exact .refl _
end Go.SX
