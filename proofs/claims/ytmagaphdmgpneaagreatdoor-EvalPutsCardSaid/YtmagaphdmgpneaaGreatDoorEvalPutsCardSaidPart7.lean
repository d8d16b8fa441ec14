/- Texts on the way to this: EvalPuts answers true for whatever it is handed: one tree put in a column's place comes to what its value would there, where it comes to one. (part 7) -/
import Derived.Test.YtmagaphdmgpneaaGreatDoorEvalPutsCardSaidPart6
set_option linter.all false
namespace Go.SX.Nb
open Go Go.SX Go.Proofs
variable [ErrAt]
set_option maxRecDepth 4000
mutual
theorem put_rng {s : Str} {y : Expr} (hy : allE rngN y = true) : ∀ x : Expr, allE rngN x = true → allE rngN (putE s y x) = true
  | .mk o t v k, h => by
    rw [putE]
    split
    · exact hy
    · rw [allE, Bool.and_eq_true] at h ⊢
      exact ⟨h.1, put_rngL hy k h.2⟩
theorem put_rngL {s : Str} {y : Expr} (hy : allE rngN y = true) : ∀ k : List Expr, allL rngN k = true → allL rngN (putL s y k) = true
  | [], _ => rfl
  | e :: r, h => by
    rw [putL]
    rw [allL, Bool.and_eq_true] at h ⊢
    exact ⟨put_rng hy e h.1, put_rngL hy r h.2⟩
 end
theorem valC_len (l : List Val) : ∀ x ∈ l.map valA, x.cells.length = 3 := fun x hx => by
  obtain ⟨v, _, rfl⟩ := List.mem_map.1 hx
  rfl
theorem valC_one (l : List Val) : ∀ x ∈ l.map valA, ∀ y ∈ x.cells, y.one = true := fun x hx y hy => by
  obtain ⟨v, _, rfl⟩ := List.mem_map.1 hx
  simp only [AV.cells, List.mem_cons, List.not_mem_nil, or_false] at hy
  rcases hy with rfl | rfl | rfl <;> rfl
theorem valC_strip (l : List Val) : ∀ x ∈ l.map valA, ∀ y ∈ x.cells, y.strip = y := fun x hx y hy => by
  obtain ⟨v, _, rfl⟩ := List.mem_map.1 hx
  simp only [AV.cells, List.mem_cons, List.not_mem_nil, or_false] at hy
  rcases hy with rfl | rfl | rfl <;> rfl
/-- An element is laid anew. -/
theorem put_flat {k : Nat} {R : List AV} : ∀ {xs : List AV} {i : Nat} {y : AV}, (∀ x ∈ xs, x.cells.length = k) → i < xs.length → y.cells.length = k → putCells (flatA xs ++ R) (i * k) y.cells = flatA (xs.set i y) ++ R
  | [], i, y, _, h, _ => by simp at h
  | a :: r, 0, y, hk, h, hy => by
    have ha := hk a List.mem_cons_self
    rw [List.set_cons_zero, flatA_cons, flatA_cons, putCells, Nat.zero_mul, List.take_zero, List.nil_append, Nat.zero_add, List.append_assoc, List.append_assoc, hy, ← ha, List.drop_left]
  | a :: r, i + 1, y, hk, h, hy => by
    have ha := hk a List.mem_cons_self
    have ih := put_flat (R := R) (fun x hx => hk x (List.mem_cons_of_mem _ hx)) (show i < r.length by simpa using h) hy
    rw [List.set_cons_succ, flatA_cons, flatA_cons, List.append_assoc, List.append_assoc, ← ih]
    unfold putCells
    rw [show (i + 1) * k = a.cells.length + i * k by rw [ha, Nat.add_mul]; omega]
    rw [List.take_append, List.take_of_length_le (by omega), Nat.add_sub_cancel_left, List.append_assoc, List.append_assoc, show a.cells.length + i * k + y.cells.length = a.cells.length + (i * k + y.cells.length) by omega, List.drop_append, List.drop_of_length_le (by omega), Nat.add_sub_cancel_left, List.nil_append]
    simp only [List.append_assoc]
theorem put_vals {R : List AV} {l : List Val} {i : Nat} {v : Val} (h : i < l.length) : putCells (flatA (l.map valA) ++ R) (i * 3) [intA v.kind, intA v.n, strA v.s] = flatA ((l.set i v).map valA) ++ R := by
  have := put_flat (R := R) (xs := l.map valA) (i := i) (y := valA v) (valC_len l) (by simpa using h) rfl
  rw [List.map_set]
  exact this
theorem flat_take {R : List AV} {l : List Val} {n : Nat} (h : n = l.length) : (flatA (l.map valA) ++ R).take (n * 3) = flatA (l.map valA) := by
  rw [List.take_left' (by rw [flatA_len (valC_len l), h, List.length_map])]
theorem ev_fine {y : Expr} {c : List Col} {l : List Val} (hrow : rowP c l = true) (hlr : ∀ v ∈ l, -9223372036854775808 ≤ v.n ∧ v.n ≤ 9223372036854775807) (gy : allE rngN y = true) : Fine (evalM y c l).1 := by
  cases h : exprRightM y with
  | false => unfold evalM evalR; rw [h]; exact fine_no
  | true =>
    rw [eval_of h hrow]
    have hn : allE nodeM y = true := by
      rw [exprRight_eq] at h
      unfold refRightM at h
      rw [Bool.and_eq_true] at h
      exact h.2
    exact fine_eval (row_fine hrow hlr) y (val_all y hn) gy
theorem c8 (x y : Expr) (gx : allE rngN x = true) (gy : allE rngN y = true) (c : List Col) (l : List Val) (hlr : ∀ v ∈ l, -9223372036854775808 ≤ v.n ∧ v.n ≤ 9223372036854775807) (at_ : Int) (Hp : List AObj) : AFun Tryz.prog 8 [exprA x, exprA y, colsA c, valsA l, intA at_] Hp (boolA true) := by
  refine ACall.body [.tmp 10] [0, 1, 2, 3, 4] Tryz.func8 Tryz.ntmps8 (fun d => ?_)
  refine AW.seqR ?_
  refine R.boxRo ?_
  refine R.boxRo ?_
  refine R.assign ?_
  refine R.fin [2, 3, 4, 5, 6] ?_
  refine W.seq ?_
  refine AW.seqR ?_
  refine R.call Tryz.call19 (c19 _) ?_
  refine R.not ?_
  refine R.fin [2, 3, 4, 5, 6, 21] ?_
  refine W.cond (fun ht21 => ?_) (fun ht21 => ?_)
  · skip
    cases ht21
  · skip
    refine AW.skip ?_
    refine K.thN ?_
    refine W.seq ?_
    refine AW.seqR ?_
    refine R.loadRoN Tryz.isAgg27 Tryz.sizeOf27 ?_
    refine R.call Tryz.call14 (c14 x _) ?_
    refine R.move ?_
    refine G.loadRoN Tryz.isAgg27 Tryz.sizeOf27 ?_
    refine G.call Tryz.call14 (fun hB => c14 y _) ?_
    refine R.pickOr ?_
    refine R.move ?_
    refine G.move ?_
    refine G.call Tryz.call21 (fun hB => c21u c _) ?_
    refine R.pickOr ?_
    refine R.move ?_
    refine G.move ?_
    refine G.call Tryz.call22 (fun hB => c22 l _) ?_
    refine R.pickOr ?_
    refine R.move ?_
    refine G.move ?_
    refine G.move ?_
    refine G.call Tryz.call23 (C := ((((((wideM x || wideM y) || manyM c) || longM l) == false)))) (fun hB => c23 c (many_ok (guard_many hB)) l (guard_long hB) _) ?_
    refine G.not ?_
    refine R.pickOr ?_
    refine R.move ?_
    refine G.move ?_
    refine G.len Tryz.underlying45 ?_
    refine G.eql ?_
    refine R.pickOr ?_
    refine R.fin [2, 3, 4, 5, 6, 46] ?_
    refine W.cond (fun ht46 => ?_) (fun ht46 => ?_)
    · skip
      refine AW.seqR ?_
      refine R.assign ?_
      refine R.fin [10] ?_
      refine AW.ret ?_
      refine K.thR ?_
      exact K.fin (V.one V.tmp)
    · skip
      simp only [Bool.or_eq_false_iff, List.length_map, Bool.not_eq_false'] at ht46
      obtain ⟨⟨⟨⟨⟨hwx, hwy⟩, hmc⟩, hlg⟩, hrow⟩, hc0⟩ := ht46
      have hsx := slim_of hwx
      have hsy := slim_of hwy
      have hc := many_ok hmc
      have hl1 := long_len hlg
      have hc50 : c.length ≤ 50 := by unfold manyM at hmc; simp at hmc; omega
      have hc1 : 1 ≤ c.length := by simp at hc0; cases c with | nil => simp at hc0 | cons a r => simp
      have hlc : l.length = c.length := (row_iff.1 hrow).2.1
      have hne : l.map valA ≠ [] := by intro e; have := congrArg List.length e; rw [List.length_map, List.length_nil] at this; omega
      have hzx : sizeE x ≤ 1048576 := by have := hsx.size; omega
      have hzo : ∀ {s : Str}, okE 122 (putE s y x) := put_ok hsy.ok 61 x hsx.ok
      have hzz : ∀ {s : Str}, sizeE (putE s y x) ≤ 1048576 := fun {s} => by
        have h1 := put_size s y 500 (by decide) hsy.size x
        have := hsx.size
        omega
      refine AW.skip ?_
      refine K.thN ?_
      refine AW.seqR ?_
      refine R.move ?_
      refine R.iconv Tryz.underlying3 Tryz.underlying57 ?_
      refine R.move ?_
      refine R.len Tryz.underlying45 ?_
      refine R.iconv Tryz.underlying3 Tryz.underlying57 ?_
      refine R.rem (h0 := by rw [List.length_map, wrap_u64 (by omega) (by omega)]; omega) ?_
      refine R.iconv Tryz.underlying57 Tryz.underlying3 ?_
      obtain ⟨i, hil, hke⟩ := k_mod at_ c.length hc1 (by omega)
      rw [List.length_map, hke]
      refine R.assign ?_
      refine R.fin [2, 3, 5, 6, 11] ?_
      refine AW.seqR ?_
      refine R.loadRoN Tryz.isAgg27 Tryz.sizeOf27 ?_
      refine R.move ?_
      refine R.move ?_
      refine R.call Tryz.call26 (c26 61 y hsy.ok (by decide) gy c hc l hl1 hlr _) ?_
      refine R.move ?_
      refine R.extract ?_
      refine R.extract ?_
      refine R.alloc Tryz.zeroValue24 ?_
      refine R.storeOwn Tryz.sizeOf24 ?_
      refine R.assign ?_
      refine R.fin [2, 3, 5, 6, 11, 12, 13] ?_
      apply W.drawXO [0, 0, 0, 6, 14, 30, 0, 127, 0, 511] 8 0 14 (.ptr (oid Hp.length 1) 0) ([.cells 24 [intA (evalM y c l).1.kind, intA (evalM y c l).1.n, strA (evalM y c l).1.s], .cells 27 [intA 0, strA [], intA 0, intA 0, strA [], .nil]]) Tryzmixed
      case hok => kernel_rfl
      case h1 =>
        intro b
        skip
        refine D.loadRoN Tryz.isAgg27 Tryz.sizeOf27 ?_
        refine D.move ?_
        refine D.move ?_
        refine D.indexAddr (i) (colA c[i]) Tryz.underlying45 Tryz.sizeOf44 (getMap hil) ?_
        refine D.fieldAddrRo (off := 0) Tryz.underlying44 Tryz.sizeOf9 ?_
        refine D.loadRo Tryz.isAgg9 ?_
        refine D.loadRoN Tryz.isAgg27 Tryz.sizeOf27 ?_
        refine D.call Tryz.call27 (c27 c[i].name y 61 x hsx.ok _) ?_
        exact D.end rfl rfl
      case h2 =>
        intro b
        exact D.end rfl rfl
      case hE =>
        intro f hf
        exact X.alloc Tryz.zeroValue27 rfl rfl (by decide)
      case hx => kernel_rfl
      case hlen => simp
      refine R.storeOwn Tryz.sizeOf27 ?_
      refine R.fin [2, 3, 5, 11, 12, 13, 14] ?_
      refine W.seq ?_
      refine W.draw [0, 1, 3, 7, 15, 31, 63, 127, 255, 127, 127, 1663, 3711, 7807, 16383, 32767, 65535, 131071, 262143, 524287, 1048575, 2097151, 4194303, 8388607, 16777215, 33554431, 67108863] 14 Tryzmixed (by kernel_rfl) ?_
      refine D.move ?_
      refine D.neq ?_
      refine D.move ?_
      refine H.fieldAddrPtr (fo := 0) Tryz.underlying24 Tryz.sizeOf3 ?_
      refine H.loadOwn Tryz.isAgg3 ?_
      refine H.neq ?_
      refine H.move ?_
      refine H.fieldAddrPtr (fo := 0) Tryz.underlying24 Tryz.sizeOf3 ?_
      refine H.loadOwn Tryz.isAgg3 ?_
      refine H.move ?_
      refine H.move ?_
      refine H.indexAddr (i) (colA c[i]) Tryz.underlying45 Tryz.sizeOf44 (fun _ => getMap hil) ?_
      refine H.fieldAddrRo (off := 1) Tryz.underlying44 Tryz.sizeOf3 ?_
      refine H.loadRo Tryz.isAgg3 ?_
      refine D.tail ?_
      refine G.neq ?_
      refine G.pickAnd ?_
      refine R.pickOr ?_
      refine R.move ?_
      refine G.loadOwnN Tryz.isAgg27 Tryz.sizeOf27 ?_
      refine G.call Tryz.call17 (fun hB => c17 122 _ hzo (by decide) hzz _) ?_
      refine G.not ?_
      refine R.pickOr ?_
      refine R.move ?_
      refine G.loadRoN Tryz.isAgg27 Tryz.sizeOf27 ?_
      refine G.call Tryz.call17 (fun hB => c17 61 x hsx.ok (by decide) hzx _) ?_
      refine G.not ?_
      refine R.pickOr ?_
      refine R.fin [2, 3, 5, 11, 12, 14, 95] ?_
      refine W.cond (fun ht95 => ?_) (fun ht95 => ?_)
      · skip
        refine AW.seqR ?_
        refine R.assign ?_
        refine R.fin [10] ?_
        refine AW.ret ?_
        refine K.thR ?_
        exact K.fin (V.one V.tmp)
      · skip
        simp only [Bool.or_eq_false_iff, Bool.not_eq_false', bne_eq_false_iff_eq, Bool.and_eq_false_iff] at ht95
        obtain ⟨⟨⟨he0, hk0⟩, hrz⟩, hrx⟩ := ht95
        have hyv : evalM y c l = ((evalM y c l).1, 0) := by rw [← he0]
        have hlaw := eval_puts hrow hil hyv (ev_fine hrow hlr gy).plain hk0 hrz hrx
        have hzr := put_rng (s := c[i].name) gy x gx
        have hlr2 : ∀ v ∈ l.set i (evalM y c l).1, -9223372036854775808 ≤ v.n ∧ v.n ≤ 9223372036854775807 := fun v hv => by
          rcases List.mem_or_eq_of_mem_set hv with h | h
          · exact hlr v h
          · rw [h]; exact ⟨(ev_fine hrow hlr gy).lo, (ev_fine hrow hlr gy).hi⟩
        refine AW.skip ?_
        refine K.thN ?_
        refine AW.seqR ?_
        refine R.buildObj0 (n := 2) Tryz.underlying42 Tryz.sizeOf24 ?_
        refine R.move ?_
        refine R.appendObj (k := 3) (n := 3) Tryz.underlying42 Tryz.type24 hne ?_ ?_ (fun cc hcc => ?_)
        · simp [Tryz.t24]; omega
        · simp; omega
        refine R.assign ?_
        refine R.fin [2, 3, 5, 11, 12, 14, 15] ?_
        refine AW.seqR ?_
        refine R.move ?_
        refine R.move ?_
        refine R.loadOwnN Tryz.isAgg24 Tryz.sizeOf24 ?_
        refine R.indexAddrSl (n := (l.map valA).length) i Tryz.underlying42 Tryz.sizeOf24 (by rw [List.length_map]; omega) ?_
        refine R.storeOwn (n := 3) (cs' := flatA ((l.set i (evalM y c l).1).map valA) ++ List.replicate ((cc - (l.map valA).length) * 3) .any) Tryz.sizeOf24 (hfit := by rw [List.length_append, flatA_len (valC_len l), List.length_map]; omega) (hput := put_vals (by omega)) ?_
        refine R.fin [2, 3, 5, 14, 15] ?_
        refine AW.seqR ?_
        refine R.loadOwnN Tryz.isAgg27 Tryz.sizeOf27 ?_
        refine R.move ?_
        refine R.move ?_
        refine R.call Tryz.call26 (c26 122 _ hzo (by decide) hzr c hc l hl1 hlr _) ?_
        refine R.move ?_
        refine R.extract ?_
        refine R.extract ?_
        refine R.alloc Tryz.zeroValue24 ?_
        refine R.storeOwn Tryz.sizeOf24 ?_
        refine R.assign ?_
        refine R.fin [2, 5, 15, 16, 17] ?_
        refine AW.seqR ?_
        refine R.freeze 15 3 ((l.set i (evalM y c l).1).map valA) hcc (by simp) (flat_take (by rw [List.length_map, List.length_set])) (valC_len _) (valC_one _) (valC_strip _) ?_
        refine R.loadRoN Tryz.isAgg27 Tryz.sizeOf27 ?_
        refine R.move ?_
        refine R.move ?_
        refine R.call Tryz.call26 (c26 61 x hsx.ok (by decide) gx c hc (l.set i (evalM y c l).1) (by rw [List.length_set]; exact hl1) hlr2 _) ?_
        refine R.move ?_
        refine R.extract ?_
        refine R.extract ?_
        refine R.alloc Tryz.zeroValue24 ?_
        refine R.storeOwn Tryz.sizeOf24 ?_
        refine R.assign ?_
        refine R.fin [16, 17, 18, 19] ?_
        refine AW.seqR ?_
        generalize evalM (putE c[i].name y x) c l = ra at hlaw ⊢
        generalize evalM x c (l.set i (evalM y c l).1) = rb at hlaw ⊢
        refine R.loadOwnN Tryz.isAgg24 Tryz.sizeOf24 ?_
        refine R.loadOwnN Tryz.isAgg24 Tryz.sizeOf24 ?_
        refine R.eqlAgg eg24 (fun w => equal24 ra.1.kind ra.1.n rb.1.kind rb.1.n ra.1.s rb.1.s w) ?_
        refine R.move ?_
        refine G.move ?_
        refine G.move ?_
        refine G.eql ?_
        refine R.pickAnd ?_
        refine R.assign ?_
        refine R.fin [10] ?_
        refine AW.ret ?_
        exact K.fin (V.one V.tmp) ⟨by rw [hlaw]; simp, rfl⟩

end Go.SX.Nb
