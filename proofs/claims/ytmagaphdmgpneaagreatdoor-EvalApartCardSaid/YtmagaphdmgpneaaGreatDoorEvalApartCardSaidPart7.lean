/- Texts on the way to this: EvalApart answers true for whatever it is handed: any tree comes to the same over two rows that differ in columns alone that it does not name. (part 7) -/
import Derived.Test.YtmagaphdmgpneaaGreatDoorEvalApartCardSaidPart6
set_option linter.all false
namespace Go.SX.Nb
open Go Go.SX Go.Proofs
variable [ErrAt]
set_option maxRecDepth 4000
theorem valC_len (l : List Val) : ∀ x ∈ l.map valA, x.cells.length = 3 := fun x hx => by
 obtain ⟨v, _, rfl⟩ := List.mem_map.1 hx
 rfl
theorem valC_one (l : List Val) : ∀ x ∈ l.map valA, ∀ y ∈ x.cells, y.one = true := fun x hx y hy => by
 obtain ⟨v, _, rfl⟩ := List.mem_map.1 hx
 simp only [AV.cells, List.mem_cons, List.not_mem_nil, or_false] at hy
 rcases hy with rfl | rfl | rfl <;> rfl
theorem valC_strip (l : List Val) : ∀ x ∈ l.map valA, ∀ y ∈ x.cells, y.strip = y := fun x hx y hy => by
 obtain ⟨v, _, rfl⟩ := List.mem_map.1 hx
 simp only [AV.cells, List.mem_cons, List.not_mem_nil, or_false] at hy
 rcases hy with rfl | rfl | rfl <;> rfl
/-- An element is laid anew. -/
theorem put_flat {k : Nat} {R : List AV} : ∀ {xs : List AV} {i : Nat} {y : AV}, (∀ x ∈ xs, x.cells.length = k) → i < xs.length → y.cells.length = k → putCells (flatA xs ++ R) (i * k) y.cells = flatA (xs.set i y) ++ R
 | [], i, y, _, h, _ => by simp at h
 | a :: r, 0, y, hk, h, hy => by
  have ha := hk a List.mem_cons_self
  rw [List.set_cons_zero, flatA_cons, flatA_cons, putCells, Nat.zero_mul, List.take_zero, List.nil_append, Nat.zero_add, List.append_assoc, List.append_assoc, hy, ← ha, List.drop_left]
 | a :: r, i + 1, y, hk, h, hy => by
  have ha := hk a List.mem_cons_self
  have ih := put_flat (R := R) (fun x hx => hk x (List.mem_cons_of_mem _ hx)) (show i < r.length by simpa using h) hy
  rw [List.set_cons_succ, flatA_cons, flatA_cons, List.append_assoc, List.append_assoc, ← ih]
  unfold putCells
  rw [show (i + 1) * k = a.cells.length + i * k by rw [ha, Nat.add_mul]; omega]
  rw [List.take_append, List.take_of_length_le (by omega), Nat.add_sub_cancel_left, List.append_assoc, List.append_assoc, show a.cells.length + i * k + y.cells.length = a.cells.length + (i * k + y.cells.length) by omega, List.drop_append, List.drop_of_length_le (by omega), Nat.add_sub_cancel_left, List.nil_append]
  simp only [List.append_assoc]
theorem put_vals {R : List AV} {l : List Val} {i : Nat} {v : Val} (h : i < l.length) : putCells (flatA (l.map valA) ++ R) (i * 3) [intA v.kind, intA v.n, strA v.s] = flatA ((l.set i v).map valA) ++ R := by
 have := put_flat (R := R) (xs := l.map valA) (i := i) (y := valA v) (valC_len l) (by simpa using h) rfl
 rw [List.map_set]
 exact this
theorem flat_take {R : List AV} {l : List Val} {n : Nat} (h : n = l.length) : (flatA (l.map valA) ++ R).take (n * 3) = flatA (l.map valA) := by
 rw [List.take_left' (by rw [flatA_len (valC_len l), h, List.length_map])]
end Go.SX.Nb
namespace Go.SX.Nb
open Go Go.SX Go.Proofs
variable [ErrAt]
set_option maxRecDepth 4000
theorem turnR_snoc {c : List Col} {l m : List Val} {ns : List Str} {x : Nat} (h : x < ns.length) : turnR c l (ns.take (x + 1)) m = turn1R c l (turnR c l (ns.take x) m) ns[x] := by
 unfold turnR
 rw [List.take_succ_eq_append_getElem h, List.foldl_append]
 rfl
theorem turnR_len {c : List Col} {l : List Val} : ∀ (ns : List Str) (m : List Val), (turnR c l ns m).length = m.length
 | [], m => rfl
 | s :: r, m => (turnR_len r _).trans turn1R_len
theorem turnR_rng {c : List Col} {l : List Val} {p : Val → Prop} (hl : ∀ v ∈ l, p v) : ∀ (ns : List Str) (m : List Val), (∀ v ∈ m, p v) → m.length = l.length → ∀ v ∈ turnR c l ns m, p v
 | [], m, hm, _ => hm
 | s :: r, m, hm, hlen => by
  refine turnR_rng hl r (turn1R c l m s) (fun v hv => ?_) (turn1R_len.trans hlen)
  unfold turn1R at hv
  split at hv
  ·exact hm v hv
  ·by_cases hlt : (findM s c).toNat < m.length
   ·rcases List.mem_or_eq_of_mem_set hv with h | h
    ·exact hm v h
    ·rw [h, List.getD_eq_getElem?_getD, List.getElem?_eq_getElem (by omega)]
     exact hl _ (List.getElem_mem _)
   ·rw [List.set_eq_of_length_le (by omega)] at hv
    exact hm v hv
theorem names_all {x y : Expr} (hy : y ∈ nodesE x) (h2 : y.op = 2) : y.text ∈ exprNamesM x := by
 have := names_mem y.text x
 have hn : named y.text x = true := by
  unfold named
  rw [List.any_eq_true]
  exact ⟨y, hy, by simp [h2]⟩
 rw [hn] at this
 simpa using this
theorem names_short {x : Expr} (hz : sizeE x ≤ 1048576) : (exprNamesM x).length ≤ 1048576 := by
 have h1 := fold_len (nodesE x) []
 rw [nodes_len] at h1
 show ((nodesE x).foldl addName []).length ≤ _
 simp only [List.length_nil] at h1
 omega
theorem guard3_many {a e d : Bool} {x : List Col} (h : ((((a || manyM x) || e) || d) == false) = true) : manyM x = false := by
 cases hm : manyM x with
 | false => rfl
 | true => rw [hm] at h; cases a <;> cases e <;> cases d <;> simp at h
theorem guard3_longl {a d : Bool} {l : List Val} (h : (((a || longM l) || d) == false) = true) : l.length ≤ 1048576 := by
 cases hm : longM l with
 | false => exact long_len hm
 | true => rw [hm] at h; cases a <;> cases d <;> simp at h
theorem guard4_many {a e d f : Bool} {x : List Col} (h : (((((a || manyM x) || e) || d) || f) == false) = true) : manyM x = false := by
 cases hm : manyM x with
 | false => rfl
 | true => rw [hm] at h; cases a <;> cases e <;> cases d <;> cases f <;> simp at h
theorem guard4_longm {a d : Bool} {l : List Val} (h : (((a || longM l) || d) == false) = true) : l.length ≤ 1048576 := guard3_longl h
theorem c7a (x : Expr) (gx : allE rngN x = true) (c : List Col) (l m : List Val) (hlr : ∀ v ∈ l, -9223372036854775808 ≤ v.n ∧ v.n ≤ 9223372036854775807) (hmr : ∀ v ∈ m, -9223372036854775808 ≤ v.n ∧ v.n ≤ 9223372036854775807) (hm0 : m ≠ []) (Hp : List AObj) : AFun Tryz.prog 7 [exprA x, colsA c, valsA l, valsA m] Hp (boolA true) := by
 refine ACall.body [.tmp 8] [0, 1, 2, 3] Tryz.func7 Tryz.ntmps7 (fun d => ?_)
 refine AW.seqR ?_
 refine R.boxRo ?_
 refine R.assign ?_
 refine R.fin [1, 2, 3, 4] ?_
 refine W.seq ?_
 refine AW.seqR ?_
 refine R.call Tryz.call19 (c19 _) ?_
 refine R.not ?_
 refine R.fin [1, 2, 3, 4, 18] ?_
 refine W.cond (fun ht18 => ?_) (fun ht18 => ?_)
 ·skip
  cases ht18
 ·skip
  refine AW.skip ?_
  refine K.thN ?_
  refine W.seq ?_
  refine AW.seqR ?_
  refine R.loadRoN Tryz.isAgg27 Tryz.sizeOf27 ?_
  refine R.call Tryz.call14 (c14 x _) ?_
  refine R.move ?_
  refine G.move ?_
  refine G.call Tryz.call21 (fun hB => c21u c _) ?_
  refine R.pickOr ?_
  refine R.move ?_
  refine G.move ?_
  refine G.call Tryz.call22 (fun hB => c22 l _) ?_
  refine R.pickOr ?_
  refine R.move ?_
  refine G.move ?_
  refine G.call Tryz.call22 (fun hB => c22 m _) ?_
  refine R.pickOr ?_
  refine R.move ?_
  refine G.move ?_
  refine G.move ?_
  refine G.call Tryz.call23 (C := ((((((wideM x || manyM c) || longM l) || longM m) == false)))) (fun hB => c23 c (many_ok (guard3_many hB)) l (guard3_longl hB) _) ?_
  refine G.not ?_
  refine R.pickOr ?_
  refine R.move ?_
  refine G.move ?_
  refine G.move ?_
  refine G.call Tryz.call23 (C := (((((((wideM x || manyM c) || longM l) || longM m) || (!(rowP c l))) == false)))) (fun hB => c23 c (many_ok (guard4_many hB)) m (guard4_longm hB) _) ?_
  refine G.not ?_
  refine R.pickOr ?_
  refine R.fin [1, 2, 3, 4, 44] ?_
  refine W.cond (fun ht44 => ?_) (fun ht44 => ?_)
  ·skip
   refine AW.seqR ?_
   refine R.assign ?_
   refine R.fin [8] ?_
   refine AW.ret ?_
   refine K.thR ?_
   exact K.fin (V.one V.tmp)
  ·skip
   simp only [Bool.or_eq_false_iff, Bool.not_eq_false'] at ht44
   obtain ⟨⟨⟨⟨⟨hwx, hmc⟩, hlg⟩, hmg⟩, hrl⟩, hrm⟩ := ht44
   have hs := slim_of hwx
   have hc := many_ok hmc
   have hl1 := long_len hlg
   have hm1 := long_len hmg
   have hlc : l.length = c.length := (row_iff.1 hrl).2.1
   have hmc2 : m.length = c.length := (row_iff.1 hrm).2.1
   have hz : sizeE x ≤ 1048576 := by have := hs.size; omega
   have hns := names_short hz
   have hlaw := eval_rows (x := x) hrl hrm (fun y hy h2 => names_all hy h2)
   have hne : m.map valA ≠ [] := by simpa using hm0
   have hlr2 : ∀ v ∈ (turnR c l (exprNamesM x) m), -9223372036854775808 ≤ v.n ∧ v.n ≤ 9223372036854775807 := turnR_rng hlr _ m hmr (by omega)
   refine AW.skip ?_
   refine K.thN ?_
   refine AW.seqR ?_
   refine R.loadRoN Tryz.isAgg27 Tryz.sizeOf27 ?_
   refine R.call Tryz.call24 (c24 x hz _) ?_
   refine R.assign ?_
   refine R.fin [1, 2, 3, 4, 9] ?_
   refine AW.seqR ?_
   refine R.buildObj0 (n := 0) Tryz.underlying42 Tryz.sizeOf24 ?_
   refine R.move ?_
   refine R.appendObj (k := 3) (n := 1) Tryz.underlying42 Tryz.type24 hne ?_ ?_ (fun cc hcc => ?_)
   ·simp [Tryz.t24]; omega
   ·simp; omega
   refine R.assign ?_
   refine R.fin [1, 2, 4, 9, 10] ?_
   refine W.seq ?_
   refine AW.seqR ?_
   refine R.assign ?_
   refine R.fin [1, 2, 4, 9, 10, 11] ?_
   refine AW.loopC (α := Nat) (fun k => ⟨93, setF 1 (colsA c) (setF 2 (valsA l) (setF 4 (.ro (exprC x)) (setF 9 (strsA (exprNamesM x)) (setF 10 (.sl (oid Hp.length 1) 3 (m.map valA).length cc) (setF 11 (intA (k : Nat)) (fun _ => .any)))))), Hp, [.cells 24 [], .cells 24 (flatA ((turnR c l ((exprNamesM x).take k) m).map valA) ++ List.replicate ((cc - (m.map valA).length) * 3) .any)], [], none⟩) (fun k => k ≤ (exprNamesM x).length) (fun k => (exprNamesM x).length - k) (0) (Nat.zero_le _) (StLe.of_eq rfl) rfl (fun k hx => ?_)
   refine W.seq ?_
   refine AW.seqR ?_
   refine R.move ?_
   refine R.move ?_
   refine R.len Tryz.underlying52 ?_
   refine R.lss ?_
   refine R.fin [1, 2, 4, 9, 10, 11, 53] ?_
   refine W.cond (fun ht53 => ?_) (fun ht53 => ?_)
   ·skip
    have hlt : k < (exprNamesM x).length := by simpa using ht53
    have hsn := turnR_snoc (c := c) (l := l) (m := m) hlt
    refine AW.skip ?_
    refine K.thN ?_
    refine W.seq ?_
    refine AW.block ?_
    refine AW.seqR ?_
    refine R.move ?_
    refine R.move ?_
    refine R.move ?_
    refine R.indexAddr (k) (strA (exprNamesM x)[k]) Tryz.underlying52 Tryz.sizeOf9 (getMap hlt) ?_
    refine R.loadRo Tryz.isAgg9 ?_
    refine R.call Tryz.call25 (c25 c hc (exprNamesM x)[k] _) ?_
    refine R.assign ?_
    refine R.fin [1, 2, 4, 9, 10, 11, 12] ?_
    refine AW.seqR ?_
    refine R.move ?_
    refine R.geq ?_
    refine R.fin [1, 2, 4, 9, 10, 11, 12, 63] ?_
    refine W.cond (fun ht63 => ?_) (fun ht63 => ?_)
    ·skip
     have hnn : ¬ findM (exprNamesM x)[k] c < 0 := by simpa using ht63
     obtain ⟨j, hj, hjc⟩ := find_col hnn
     have hjl : j < l.length := by omega
     have hTl : (turnR c l ((exprNamesM x).take k) m).length = m.length := turnR_len _ _
     have hst : turn1R c l (turnR c l ((exprNamesM x).take k) m) (exprNamesM x)[k] = (turnR c l ((exprNamesM x).take k) m).set j l[j] := by
      unfold turn1R
      rw [if_neg hnn, hj, Int.toNat_natCast, List.getD_eq_getElem?_getD, List.getElem?_eq_getElem hjl]
      rfl
     rw [hst] at hsn
     rw [hj]
     refine AW.region ?_
     refine R.move ?_
     refine R.move ?_
     refine R.move ?_
     refine R.move ?_
     refine R.indexAddr (j) (valA l[j]) Tryz.underlying42 Tryz.sizeOf24 (getMap hjl) ?_
     refine R.loadRoN Tryz.isAgg24 Tryz.sizeOf24 ?_
     refine R.indexAddrSl (n := (m.map valA).length) j Tryz.underlying42 Tryz.sizeOf24 (by rw [List.length_map]; omega) ?_
     refine R.storeOwn (n := 1) (cs' := flatA (((turnR c l ((exprNamesM x).take k) m).set j l[j]).map valA) ++ List.replicate ((cc - (m.map valA).length) * 3) .any) Tryz.sizeOf24 (hfit := by rw [List.length_append, flatA_len (valC_len (turnR c l ((exprNamesM x).take k) m)), List.length_map]; omega) (hput := put_vals (by omega)) ?_
     refine R.fin [1, 2, 4, 9, 10, 11] ?_
     refine K.blN ?_
     refine K.thN ?_
     refine AW.region ?_
     refine R.move ?_
     refine R.add64 ?_
     refine R.assign ?_
     refine R.fin [1, 2, 4, 9, 10, 11] ?_
     refine K.lpN (k + 1) hlt (by omega) ?_
     exact StCut.of_eq (by rw [hsn] <;> rfl)
    ·skip
     have hnn : findM (exprNamesM x)[k] c < 0 := by simpa using ht63
     have hst : turn1R c l (turnR c l ((exprNamesM x).take k) m) (exprNamesM x)[k] = (turnR c l ((exprNamesM x).take k) m) := if_pos hnn
     rw [hst] at hsn
     refine AW.skip ?_
     refine K.blN ?_
     refine K.thN ?_
     refine AW.region ?_
     refine R.move ?_
     refine R.add64 ?_
     refine R.assign ?_
     refine R.fin [1, 2, 4, 9, 10, 11] ?_
     refine K.lpN (k + 1) hlt (by omega) ?_
     exact StCut.of_eq (by rw [hsn] <;> rfl)
   ·skip
    have hke : (exprNamesM x).take k = (exprNamesM x) := List.take_of_length_le (by simp at ht53; omega)
    refine AW.exit ?_
    refine K.thE ?_
    refine K.lpE ?_
    refine K.thN ?_
    refine AW.seqR ?_
    rw [hke]
    refine R.loadRoN Tryz.isAgg27 Tryz.sizeOf27 ?_
    refine R.move ?_
    refine R.move ?_
    refine R.call Tryz.call26 (c26 61 x hs.ok (by decide) gx c hc l hl1 hlr _) ?_
    refine R.move ?_
    refine R.extract ?_
    refine R.extract ?_
    refine R.alloc Tryz.zeroValue24 ?_
    refine R.storeOwn Tryz.sizeOf24 ?_
    refine R.assign ?_
    refine R.fin [1, 4, 10, 13, 14] ?_
    refine AW.seqR ?_
    refine R.freeze 10 1 ((turnR c l (exprNamesM x) m).map valA) hcc (by rw [List.length_map, List.length_map, turnR_len]) (flat_take (by rw [List.length_map, turnR_len])) (valC_len _) (valC_one _) (valC_strip _) ?_
    refine R.loadRoN Tryz.isAgg27 Tryz.sizeOf27 ?_
    refine R.move ?_
    refine R.move ?_
    refine R.call Tryz.call26 (c26 61 x hs.ok (by decide) gx c hc (turnR c l (exprNamesM x) m) (by rw [turnR_len]; exact hm1) hlr2 _) ?_
    refine R.move ?_
    refine R.extract ?_
    refine R.extract ?_
    refine R.alloc Tryz.zeroValue24 ?_
    refine R.storeOwn Tryz.sizeOf24 ?_
    refine R.assign ?_
    refine R.fin [13, 14, 15, 16] ?_
    refine AW.seqR ?_
    generalize evalM x c l = ra at hlaw ⊢
    generalize evalM x c (turnR c l (exprNamesM x) m) = rb at hlaw ⊢
    refine R.loadOwnN Tryz.isAgg24 Tryz.sizeOf24 ?_
    refine R.loadOwnN Tryz.isAgg24 Tryz.sizeOf24 ?_
    refine R.eqlAgg eg24 (fun w => equal24 ra.1.kind ra.1.n rb.1.kind rb.1.n ra.1.s rb.1.s w) ?_
    refine R.move ?_
    refine G.move ?_
    refine G.move ?_
    refine G.eql ?_
    refine R.pickAnd ?_
    refine R.assign ?_
    refine R.fin [8] ?_
    refine AW.ret ?_
    exact K.fin (V.one V.tmp) ⟨by rw [hlaw]; simp, rfl⟩

theorem c7e (x : Expr) (gx : allE rngN x = true) (c : List Col) (l m : List Val) (hlr : ∀ v ∈ l, -9223372036854775808 ≤ v.n ∧ v.n ≤ 9223372036854775807) (hmr : ∀ v ∈ m, -9223372036854775808 ≤ v.n ∧ v.n ≤ 9223372036854775807) (hm0 : m = []) (Hp : List AObj) : AFun Tryz.prog 7 [exprA x, colsA c, valsA l, valsA m] Hp (boolA true) := by
 refine ACall.body [.tmp 8] [0, 1, 2, 3] Tryz.func7 Tryz.ntmps7 (fun d => ?_)
 refine AW.seqR ?_
 refine R.boxRo ?_
 refine R.assign ?_
 refine R.fin [1, 2, 3, 4] ?_
 refine W.seq ?_
 refine AW.seqR ?_
 refine R.call Tryz.call19 (c19 _) ?_
 refine R.not ?_
 refine R.fin [1, 2, 3, 4, 18] ?_
 refine W.cond (fun ht18 => ?_) (fun ht18 => ?_)
 ·skip
  cases ht18
 ·skip
  refine AW.skip ?_
  refine K.thN ?_
  refine W.seq ?_
  refine AW.seqR ?_
  refine R.loadRoN Tryz.isAgg27 Tryz.sizeOf27 ?_
  refine R.call Tryz.call14 (c14 x _) ?_
  refine R.move ?_
  refine G.move ?_
  refine G.call Tryz.call21 (fun hB => c21u c _) ?_
  refine R.pickOr ?_
  refine R.move ?_
  refine G.move ?_
  refine G.call Tryz.call22 (fun hB => c22 l _) ?_
  refine R.pickOr ?_
  refine R.move ?_
  refine G.move ?_
  refine G.call Tryz.call22 (fun hB => c22 m _) ?_
  refine R.pickOr ?_
  refine R.move ?_
  refine G.move ?_
  refine G.move ?_
  refine G.call Tryz.call23 (C := ((((((wideM x || manyM c) || longM l) || longM m) == false)))) (fun hB => c23 c (many_ok (guard3_many hB)) l (guard3_longl hB) _) ?_
  refine G.not ?_
  refine R.pickOr ?_
  refine R.move ?_
  refine G.move ?_
  refine G.move ?_
  refine G.call Tryz.call23 (C := (((((((wideM x || manyM c) || longM l) || longM m) || (!(rowP c l))) == false)))) (fun hB => c23 c (many_ok (guard4_many hB)) m (guard4_longm hB) _) ?_
  refine G.not ?_
  refine R.pickOr ?_
  refine R.fin [1, 2, 3, 4, 44] ?_
  refine W.cond (fun ht44 => ?_) (fun ht44 => ?_)
  ·skip
   refine AW.seqR ?_
   refine R.assign ?_
   refine R.fin [8] ?_
   refine AW.ret ?_
   refine K.thR ?_
   exact K.fin (V.one V.tmp)
  ·skip
   simp only [Bool.or_eq_false_iff, Bool.not_eq_false'] at ht44
   obtain ⟨⟨⟨⟨⟨hwx, hmc⟩, hlg⟩, hmg⟩, hrl⟩, hrm⟩ := ht44
   have hs := slim_of hwx
   have hc := many_ok hmc
   have hl1 := long_len hlg
   have hm1 := long_len hmg
   have hlc : l.length = c.length := (row_iff.1 hrl).2.1
   have hmc2 : m.length = c.length := (row_iff.1 hrm).2.1
   have hz : sizeE x ≤ 1048576 := by have := hs.size; omega
   have hns := names_short hz
   have hlaw := eval_rows (x := x) hrl hrm (fun y hy h2 => names_all hy h2)
   subst hm0
   have hc0 : c = [] := List.eq_nil_of_length_eq_zero (by rw [← hmc2]; rfl)
   have hT0 : turnR c l (exprNamesM x) [] = [] := List.eq_nil_of_length_eq_zero (turnR_len _ _)
   rw [hT0] at hlaw
   refine AW.skip ?_
   refine K.thN ?_
   refine AW.seqR ?_
   refine R.loadRoN Tryz.isAgg27 Tryz.sizeOf27 ?_
   refine R.call Tryz.call24 (c24 x hz _) ?_
   refine R.assign ?_
   refine R.fin [1, 2, 3, 4, 9] ?_
   refine AW.seqR ?_
   refine R.buildSlice Tryz.underlying42 Tryz.sizeOf24 Tryz.zeroValue24 ?_
   refine R.move ?_
   refine R.append Tryz.underlying42 Tryz.type24 ?_ ?_ ?_
   ·simp [Tryz.t24] <;> omega
   ·simp [Tryz.t24] <;> omega
   refine R.assignT ?_
   refine R.fin [1, 2, 4, 9, 10] ?_
   refine W.seq ?_
   refine AW.seqR ?_
   refine R.assign ?_
   refine R.fin [1, 2, 4, 9, 10, 11] ?_
   refine AW.loopC (α := Nat) (fun k => ⟨93, setF 1 (colsA c) (setF 2 (valsA l) (setF 4 (.ro (exprC x)) (setF 9 (strsA (exprNamesM x)) (setF 10 (.slice true 3 []) (setF 11 (intA (k : Nat)) (fun _ => .any)))))), Hp, [], [], none⟩) (fun k => k ≤ (exprNamesM x).length) (fun k => (exprNamesM x).length - k) (0) (Nat.zero_le _) (StLe.of_eq rfl) rfl (fun k hx => ?_)
   refine W.seq ?_
   refine AW.seqR ?_
   refine R.move ?_
   refine R.move ?_
   refine R.len Tryz.underlying52 ?_
   refine R.lss ?_
   refine R.fin [1, 2, 4, 9, 10, 11, 53] ?_
   refine W.cond (fun ht53 => ?_) (fun ht53 => ?_)
   ·skip
    have hlt : k < (exprNamesM x).length := by simpa using ht53
    refine AW.skip ?_
    refine K.thN ?_
    refine W.seq ?_
    refine AW.block ?_
    refine AW.seqR ?_
    refine R.move ?_
    refine R.move ?_
    refine R.move ?_
    refine R.indexAddr (k) (strA (exprNamesM x)[k]) Tryz.underlying52 Tryz.sizeOf9 (getMap hlt) ?_
    refine R.loadRo Tryz.isAgg9 ?_
    refine R.call Tryz.call25 (c25 c hc (exprNamesM x)[k] _) ?_
    refine R.assign ?_
    refine R.fin [1, 2, 4, 9, 10, 11, 12] ?_
    refine AW.seqR ?_
    refine R.move ?_
    refine R.geq ?_
    refine R.fin [1, 2, 4, 9, 10, 11, 12, 63] ?_
    refine W.cond (fun ht63 => ?_) (fun ht63 => ?_)
    ·skip
     exfalso
     rw [hc0] at ht63
     simp [findM] at ht63
    ·skip
     refine AW.skip ?_
     refine K.blN ?_
     refine K.thN ?_
     refine AW.region ?_
     refine R.move ?_
     refine R.add64 ?_
     refine R.assign ?_
     refine R.fin [1, 2, 4, 9, 10, 11] ?_
     refine K.lpN (k + 1) hlt (by omega) ?_
     exact StCut.of_eq rfl
   ·skip
    refine AW.exit ?_
    refine K.thE ?_
    refine K.lpE ?_
    refine K.thN ?_
    refine AW.seqR ?_
    refine R.loadRoN Tryz.isAgg27 Tryz.sizeOf27 ?_
    refine R.move ?_
    refine R.move ?_
    refine R.call Tryz.call26 (c26 61 x hs.ok (by decide) gx c hc l hl1 hlr _) ?_
    refine R.move ?_
    refine R.extract ?_
    refine R.extract ?_
    refine R.alloc Tryz.zeroValue24 ?_
    refine R.storeOwn Tryz.sizeOf24 ?_
    refine R.assign ?_
    refine R.fin [1, 4, 10, 13, 14] ?_
    refine AW.seqR ?_
    refine R.loadRoN Tryz.isAgg27 Tryz.sizeOf27 ?_
    refine R.move ?_
    refine R.move ?_
    refine R.call Tryz.call26 (c26 61 x hs.ok (by decide) gx c hc [] (by decide) (fun v hv => by cases hv) _) ?_
    refine R.move ?_
    refine R.extract ?_
    refine R.extract ?_
    refine R.alloc Tryz.zeroValue24 ?_
    refine R.storeOwn Tryz.sizeOf24 ?_
    refine R.assign ?_
    refine R.fin [13, 14, 15, 16] ?_
    refine AW.seqR ?_
    generalize evalM x c l = ra at hlaw ⊢
    generalize evalM x c [] = rb at hlaw ⊢
    refine R.loadOwnN Tryz.isAgg24 Tryz.sizeOf24 ?_
    refine R.loadOwnN Tryz.isAgg24 Tryz.sizeOf24 ?_
    refine R.eqlAgg eg24 (fun w => equal24 ra.1.kind ra.1.n rb.1.kind rb.1.n ra.1.s rb.1.s w) ?_
    refine R.move ?_
    refine G.move ?_
    refine G.move ?_
    refine G.eql ?_
    refine R.pickAnd ?_
    refine R.assign ?_
    refine R.fin [8] ?_
    refine AW.ret ?_
    exact K.fin (V.one V.tmp) ⟨by rw [hlaw]; simp, rfl⟩

theorem c7 (x : Expr) (gx : allE rngN x = true) (c : List Col) (l m : List Val) (hlr : ∀ v ∈ l, -9223372036854775808 ≤ v.n ∧ v.n ≤ 9223372036854775807) (hmr : ∀ v ∈ m, -9223372036854775808 ≤ v.n ∧ v.n ≤ 9223372036854775807) (Hp : List AObj) : AFun Tryz.prog 7 [exprA x, colsA c, valsA l, valsA m] Hp (boolA true) := by
 by_cases h : m = []
 ·exact c7e x gx c l m hlr hmr h Hp
 ·exact c7a x gx c l m hlr hmr h Hp
end Go.SX.Nb
