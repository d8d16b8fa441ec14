/- Texts on the way to this: Whatever the tree, the columns and the values, the law of kinds and values answers true. (part 7) -/
import Derived.Test.YtbakbphlfekakaaGreatDoorEvalKindsCardSaidPart6
set_option linter.all false
namespace Go.SX.Nb
open Go Go.SX Go.Proofs
variable [ErrAt]
set_option maxRecDepth 4000
def longM (l : List Val) : Bool := decide ((50 : Int) < (l.length : Int)) || l.any fun v => decide ((400 : Int) < (v.s.length : Int))
theorem c11 (l : List Val) (Hp : List AObj) : AFun Tryz.prog 11 [valsA l] Hp (boolA (longM l)) := by
  refine ACall.body [.tmp 2] [0] Tryz.func11 Tryz.ntmps11 (fun d => ?_)
  refine AW.seqR ?_
  refine R.assign ?_
  refine R.fin [0] ?_
  refine W.seq ?_
  refine AW.seqR ?_
  refine R.move ?_
  refine R.len Tryz.underlying25 ?_
  refine R.gtr ?_
  refine R.fin [0, 6] ?_
  refine W.cond (fun ht6 => ?_) (fun ht6 => ?_)
  · skip
    rw [List.length_map] at ht6
    have hm : longM l = true := by unfold longM; rw [ht6]; rfl
    refine AW.seqR ?_
    refine R.assign ?_
    refine R.fin [2] ?_
    refine AW.ret ?_
    refine K.thR ?_
    exact K.fin (V.one V.tmp) ⟨by rw [hm], rfl⟩
  · skip
    rw [List.length_map] at ht6
    have hl50 : l.length ≤ 50 := by simp at ht6; omega
    refine AW.skip ?_
    refine K.thN ?_
    refine W.seq ?_
    refine AW.seqR ?_
    refine R.assign ?_
    refine R.fin [0, 3] ?_
    refine AW.loopC (α := Nat) (fun x => ⟨20, setF 0 (valsA l) (setF 3 (intA (x : Nat)) (fun _ => .any)), Hp, [], [], none⟩) (fun x => x ≤ l.length ∧ ∀ (j : Nat) (v : Val), j < x → l[j]? = some v → decide ((400 : Int) < (v.s.length : Int)) = false) (fun x => l.length - x) (0) ⟨Nat.zero_le _, fun j v h => by omega⟩ (StLe.of_eq (by simp)) rfl (fun x hx => ?_)
    refine W.seq ?_
    refine AW.seqR ?_
    refine R.move ?_
    refine R.move ?_
    refine R.len Tryz.underlying25 ?_
    refine R.lss ?_
    refine R.fin [0, 3, 10] ?_
    refine W.cond (fun ht10 => ?_) (fun ht10 => ?_)
    · skip
      have hlt : x < l.length := by simpa using ht10
      refine AW.skip ?_
      refine K.thN ?_
      refine W.seq ?_
      refine AW.block ?_
      refine AW.seqR ?_
      refine R.move ?_
      refine R.move ?_
      refine R.indexAddr (x) (valA l[x]) Tryz.underlying25 Tryz.sizeOf24 (getMap hlt) ?_
      refine R.fieldAddrRo (off := 2) Tryz.underlying24 Tryz.sizeOf9 ?_
      refine R.loadRo Tryz.isAgg9 ?_
      refine R.slen Tryz.underlying9 ?_
      refine R.gtr ?_
      refine R.fin [0, 3, 19] ?_
      refine W.cond (fun ht19 => ?_) (fun ht19 => ?_)
      · skip
        have hm : longM l = true := by unfold longM; rw [Bool.or_eq_true]; exact .inr (List.any_eq_true.2 ⟨l[x], List.getElem_mem hlt, ht19⟩)
        refine AW.seqR ?_
        refine R.assign ?_
        refine R.fin [2] ?_
        refine AW.ret ?_
        refine K.blR ?_
        refine K.thR ?_
        refine K.lpR ?_
        refine K.thR ?_
        exact K.fin (V.one V.tmp) ⟨by rw [hm], rfl⟩
      · skip
        refine AW.skip ?_
        refine K.blN ?_
        refine K.thN ?_
        refine AW.region ?_
        refine R.move ?_
        refine R.add64 (h1 := by omega) (h2 := by omega) ?_
        refine R.assign ?_
        refine R.fin [0, 3] ?_
        refine K.lpN (x + 1) ⟨hlt, upto_succ hlt hx.2 ht19⟩ (by omega) ?_
        exact StCut.of_eq (by simp)
    · skip
      have hxe : l.length ≤ x := by simpa using ht10
      have hm : longM l = false := by
        unfold longM
        rw [ht6, Bool.false_or, List.any_eq_false]
        intro v hv
        obtain ⟨j, hj⟩ := List.getElem?_of_mem hv
        have := hx.2 j v (by have := (List.getElem?_eq_some_iff.1 hj).1; omega) hj
        rw [this]
        simp
      refine AW.exit ?_
      refine K.thE ?_
      refine K.lpE ?_
      refine K.thN ?_
      refine AW.seqR ?_
      refine R.assign ?_
      refine R.fin [2] ?_
      refine AW.ret ?_
      exact K.fin (V.one V.tmp) ⟨by rw [hm], rfl⟩

structure RowAt (c : List Col) (l : List Val) (x : Nat) : Prop where
  le : x ≤ l.length
  ok : ∀ (i : Nat) (v : Val) (y : Col), i < x → l[i]? = some v → c[i]? = some y → plainM v = true ∧ (v.kind = 0 ∨ v.kind = y.kind)
theorem RowAt.next {c : List Col} {l : List Val} {x : Nat} (h : RowAt c l x) (hl : x < l.length) (hc : x < c.length) (hb : ((!(plainM l[x])) || ((l[x].kind != 0) && (l[x].kind != c[x].kind))) = false) : RowAt c l (x + 1) := ⟨hl, fun i v y hi hv hy => by
  rcases Nat.lt_or_ge i x with h' | h'
  · exact h.ok i v y h' hv hy
  · have e : i = x := by omega
    subst e
    rw [List.getElem?_eq_getElem hl] at hv
    rw [List.getElem?_eq_getElem hc] at hy
    injection hv with hv
    injection hy with hy
    subst hv
    subst hy
    simp only [Bool.or_eq_false_iff, Bool.not_eq_false', Bool.and_eq_false_iff, bne_eq_false_iff_eq] at hb
    exact ⟨hb.1, hb.2⟩⟩
theorem RowAt.bad {c : List Col} {l : List Val} {x : Nat} (hl : x < l.length) (hc : x < c.length) (hb : ((!(plainM l[x])) || ((l[x].kind != 0) && (l[x].kind != c[x].kind))) = true) : rowP c l = false := by
  cases h : rowP c l with
  | false => rfl
  | true =>
    obtain ⟨h1, h2⟩ := (row_iff.1 h).2.2 x l[x] c[x] (List.getElem?_eq_getElem hl) (List.getElem?_eq_getElem hc)
    rw [h1] at hb
    simp only [Bool.not_true, Bool.false_or, Bool.and_eq_true, bne_iff_ne] at hb
    omega
theorem c12 (c : List Col) (hc : OkCols c) (l : List Val) (hll : l.length ≤ 1048576) (Hp : List AObj) : AFun Tryz.prog 12 [colsA c, valsA l] Hp (boolA (rowP c l)) := by
  refine ACall.body [.tmp 4] [0, 1] Tryz.func12 Tryz.ntmps12 (fun d => ?_)
  refine AW.seqR ?_
  refine R.assign ?_
  refine R.fin [0, 1] ?_
  refine W.seq ?_
  refine AW.seqR ?_
  refine R.move ?_
  refine R.call Tryz.call21 (c21 c hc _) ?_
  refine R.not ?_
  refine R.move ?_
  refine G.move ?_
  refine G.len Tryz.underlying25 ?_
  refine G.move ?_
  refine G.len Tryz.underlying28 ?_
  refine G.neq ?_
  refine R.pickOr ?_
  refine R.fin [0, 1, 16] ?_
  refine W.cond (fun ht16 => ?_) (fun ht16 => ?_)
  · skip
    have hm : rowP c l = false := by
      simp only [List.length_map, Bool.or_eq_true, Bool.not_eq_true', bne_iff_ne, ne_eq] at ht16
      unfold rowP
      rcases ht16 with h | h
      · rw [h]; rfl
      · rw [show (l.length == c.length) = false by simpa using (show l.length ≠ c.length by omega)]; simp
    refine AW.seqR ?_
    refine R.assign ?_
    refine R.fin [4] ?_
    refine AW.ret ?_
    refine K.thR ?_
    exact K.fin (V.one V.tmp) ⟨by rw [hm], rfl⟩
  · skip
    have hcl : colsP c = true ∧ l.length = c.length := by
      simp only [List.length_map, Bool.or_eq_false_iff, Bool.not_eq_false', bne_eq_false_iff_eq] at ht16
      exact ⟨ht16.1, by omega⟩
    refine AW.skip ?_
    refine K.thN ?_
    refine W.seq ?_
    refine AW.seqR ?_
    refine R.move ?_
    refine R.len Tryz.underlying25 ?_
    refine R.move ?_
    refine R.fin [0, 17, 18, 19] ?_
    refine AW.loopC (α := Nat) (fun x => ⟨43, setF 0 (colsA c) (setF 17 (valsA l) (setF 18 (intA (l.length : Nat)) (setF 19 (intA (x : Nat)) (fun _ => .any)))), Hp, [], [], none⟩) (fun x => RowAt c l x) (fun x => l.length - x) (0) ⟨Nat.zero_le _, fun i v y h => by omega⟩ (StLe.of_eq (by simp)) rfl (fun x hx => ?_)
    refine AW.seqR ?_
    refine R.lss ?_
    refine R.fin [0, 17, 18, 19, 20] ?_
    refine W.condX (fun ht20 => ?_) (fun ht20 => ?_)
    · skip
      have hlt : x < l.length := by simpa using ht20
      have hlc : x < c.length := by omega
      refine W.seq ?_
      refine AW.block ?_
      refine AW.seqR ?_
      refine R.move ?_
      refine R.indexAddr (x) (valA l[x]) Tryz.underlying25 Tryz.sizeOf24 (getMap hlt) ?_
      refine R.loadRoN Tryz.isAgg24 Tryz.sizeOf24 ?_
      refine R.alloc Tryz.zeroValue24 ?_
      refine R.assign ?_
      refine R.storeOwn Tryz.sizeOf24 ?_
      refine R.fin [0, 5, 6, 17, 18, 19] ?_
      refine W.draw [0, 1, 3, 7, 15, 31, 63, 127, 255, 511, 255, 255, 3327, 7423, 15615, 32767, 65535, 131071] 15 Tryzmixed (by kernel_rfl) ?_
      refine D.loadOwnN Tryz.isAgg24 Tryz.sizeOf24 ?_
      refine D.call Tryz.call22 (c22 _ _) ?_
      refine D.not ?_
      refine D.move ?_
      refine H.fieldAddrPtr (fo := 0) Tryz.underlying24 Tryz.sizeOf3 ?_
      refine H.loadOwn Tryz.isAgg3 ?_
      refine H.neq ?_
      refine H.move ?_
      refine H.fieldAddrPtr (fo := 0) Tryz.underlying24 Tryz.sizeOf3 ?_
      refine H.loadOwn Tryz.isAgg3 ?_
      refine H.move ?_
      refine H.move ?_
      refine H.indexAddr (x) (colA c[x]) Tryz.underlying28 Tryz.sizeOf27 (fun _ => getMap hlc) ?_
      refine H.fieldAddrRo (off := 1) Tryz.underlying27 Tryz.sizeOf3 ?_
      refine H.loadRo Tryz.isAgg3 ?_
      refine D.tail ?_
      refine G.neq ?_
      refine G.pickAnd ?_
      refine R.pickOr ?_
      refine R.fin [0, 17, 18, 19, 41] ?_
      refine W.cond (fun ht41 => ?_) (fun ht41 => ?_)
      · skip
        have hm := RowAt.bad hlt hlc ht41
        refine AW.seqR ?_
        refine R.assign ?_
        refine R.fin [4] ?_
        refine AW.ret ?_
        refine K.blR ?_
        refine K.thR ?_
        refine K.lpR ?_
        refine K.thR ?_
        exact K.fin (V.one V.tmp) ⟨by rw [hm], rfl⟩
      · skip
        refine AW.skip ?_
        refine K.blN ?_
        refine K.thN ?_
        refine AW.region ?_
        refine R.add64 ?_
        refine R.move ?_
        refine R.fin [0, 17, 18, 19] ?_
        refine K.lpN (x + 1) (hx.next hlt hlc ht41) (by omega) ?_
        exact StCut.take (own := []) (fun _ => .refl _) (by repeat (first | exact lowF_any | refine lowF_set (by first | exact low_vals | exact low_cols | (simp [or_imp, forall_and]; done)) ?_)) (by simp) (by simp)
    · skip
      have hxe : l.length ≤ x := by simpa using ht20
      have hm : rowP c l = true := row_iff.2 ⟨by rw [← cols_eq]; exact hcl.1, hcl.2, fun i v y hv hy => hx.ok i v y (by have := (List.getElem?_eq_some_iff.1 hv).1; omega) hv hy⟩
      refine K.lpE ?_
      refine K.thN ?_
      refine AW.seqR ?_
      refine R.assign ?_
      refine R.fin [4] ?_
      refine AW.ret ?_
      exact K.fin (V.one V.tmp) ⟨by rw [hm], rfl⟩

theorem node_val {e : Expr} (h : nodeM e = true) : valOk e = true := by
  unfold valOk
  cases node_cases h with
  | val v hp h0 => simpa [valX, Expr.op, Expr.val] using hp
  | name t ht => rfl
  | neg a => rfl
  | no a => rfl
  | bin t a b ht => rfl
  | call t k ht => rfl
mutual
theorem val_all : ∀ e : Expr, allE nodeM e = true → allE valOk e = true
  | .mk o t v k, h => by
    rw [allE, Bool.and_eq_true] at h ⊢
    exact ⟨node_val h.1, val_allL k h.2⟩
theorem val_allL : ∀ k : List Expr, allL nodeM k = true → allL valOk k = true
  | [], _ => rfl
  | e :: r, h => by
    rw [allL, Bool.and_eq_true] at h ⊢
    exact ⟨val_all e h.1, val_allL r h.2⟩
 end
theorem row_fine {c : List Col} {l : List Val} (h : rowP c l = true) (hr : ∀ v ∈ l, -9223372036854775808 ≤ v.n ∧ v.n ≤ 9223372036854775807) : ∀ v ∈ l, Fine v := fun v hv => by
  obtain ⟨i, hi⟩ := List.getElem?_of_mem hv
  obtain ⟨_, h2, h3⟩ := row_iff.1 h
  have hil := (List.getElem?_eq_some_iff.1 hi).1
  exact ⟨(h3 i v _ hi (List.getElem?_eq_getElem (show i < c.length by omega))).1, (hr v hv).1, (hr v hv).2⟩
theorem c15 (n : Nat) (x : Expr) (hok : okE n x) (hn : n ≤ 1048576) (hrg : allE rngN x = true) (c : List Col) (hc : OkCols c) (l : List Val) (hll : l.length ≤ 1048576) (hlr : ∀ v ∈ l, -9223372036854775808 ≤ v.n ∧ v.n ≤ 9223372036854775807) (Hp : List AObj) : AFun Tryz.prog 15 [exprA x, colsA c, valsA l] Hp (resA (evalM x c l)) := by
  refine ACall.body [.cell 6 24, .tmp 7] [0, 1, 2] Tryz.func15 Tryz.ntmps15 (fun d => ?_)
  refine AW.seqR ?_
  refine R.boxRo ?_
  refine R.alloc Tryz.zeroValue24 ?_
  refine R.assign ?_
  refine R.fin [1, 2, 3, 6] ?_
  refine W.seq ?_
  refine AW.seqR ?_
  refine R.loadRoN Tryz.isAgg35 Tryz.sizeOf35 ?_
  refine R.call Tryz.call23 (c23 n x hok hn _) ?_
  refine R.not ?_
  refine R.move ?_
  refine G.move ?_
  refine G.move ?_
  refine G.call Tryz.call12 (fun hB => c12 c hc l hll _) ?_
  refine G.not ?_
  refine R.pickOr ?_
  refine R.fin [1, 2, 3, 6, 16] ?_
  refine W.cond (fun ht16 => ?_) (fun ht16 => ?_)
  · skip
    have hm : evalM x c l = wrongR 1 := if_pos ht16
    refine AW.seqR ?_
    refine R.call Tryz.call24 (c24 _ _) ?_
    refine R.extract ?_
    refine R.extract ?_
    refine R.storeOwn Tryz.sizeOf24 ?_
    refine R.assign ?_
    refine R.fin [6, 7] ?_
    refine AW.ret ?_
    refine K.thR ?_
    exact K.fin (V.two (V.cellN Tryz.isAgg24 Tryz.sizeOf24) V.tmp) ⟨by rw [hm]; try rfl, rfl⟩
  · skip
    have hm : evalM x c l = evalE c l x := if_neg (by rw [ht16]; simp)
    have hrr : exprRightM x = true ∧ rowP c l = true := by simpa using ht16
    obtain ⟨hr, hrow⟩ := hrr
    refine AW.skip ?_
    refine K.thN ?_
    refine AW.seqR ?_
    refine R.move ?_
    refine R.move ?_
    refine R.build (places := #[(0, 1), (1, 1)]) Tryz.underlying59 (fun w => by simp) Tryz.zeroValue59 ?_
    refine R.loadRoN Tryz.isAgg35 Tryz.sizeOf35 ?_
    refine R.call Tryz.call25 (c25 c l hc (row_iff.1 hrow).2.1 (row_fine hrow hlr) n x hok (rightE_node hr) hrg (val_all x (rightE_node hr)) _) ?_
    refine R.extract ?_
    refine R.extract ?_
    refine R.storeOwn Tryz.sizeOf24 ?_
    refine R.assign ?_
    refine R.fin [6, 7] ?_
    refine AW.ret ?_
    exact K.fin (V.two (V.cellN Tryz.isAgg24 Tryz.sizeOf24) V.tmp) ⟨by rw [hm]; try rfl, rfl⟩

def wS1 : Str := [105, 102, 40, 116, 114, 117, 101, 44, 32, 49, 44, 32, 49, 32, 47, 32, 48, 41]
def wS2 : Str := [110, 118, 108, 40, 49, 32, 47, 32, 48, 44, 32, 49, 41]
def wD : Expr := binX [47] (valX ⟨1, 1, []⟩) (valX ⟨1, 0, []⟩)
def wX1 : Expr := .mk 6 ifW noV [valX ⟨3, 1, []⟩, valX ⟨1, 1, []⟩, wD]
def wX2 : Expr := .mk 6 nvlW noV [wD, valX ⟨1, 1, []⟩]
theorem w_parse1 : parseM wS1 = (wX1, 0, 0) := by kernel_rfl
theorem w_parse2 : parseM wS2 = (wX2, 0, 0) := by kernel_rfl
theorem okE_dec {n : Nat} {e : Expr} (h1 : e.text.length ≤ 1048576) (h2 : e.kids.length ≤ 1048576) (h3 : ∀ y ∈ e.kids, okE n y) : okE (n + 1) e := ⟨h1, h2, h3⟩
theorem w_okD : okE 3 wD := okE_dec (by decide) (by decide) fun y hy => by
  have : y = valX ⟨1, 1, []⟩ ∨ y = valX ⟨1, 0, []⟩ := by simpa [wD, binX, Expr.kids] using hy
  rcases this with rfl | rfl <;> exact valX_ok (by decide) _
theorem w_ok1 : okE 4 wX1 := okE_dec (by decide) (by decide) fun y hy => by
  have : y = valX ⟨3, 1, []⟩ ∨ y = valX ⟨1, 1, []⟩ ∨ y = wD := by simpa [wX1, Expr.kids] using hy
  rcases this with rfl | rfl | rfl
  · exact valX_ok (by decide) _
  · exact valX_ok (by decide) _
  · exact w_okD
theorem w_ok2 : okE 4 wX2 := okE_dec (by decide) (by decide) fun y hy => by
  have : y = wD ∨ y = valX ⟨1, 1, []⟩ := by simpa [wX2, Expr.kids] using hy
  rcases this with rfl | rfl
  · exact w_okD
  · exact valX_ok (by decide) _
theorem w_eval1 : evalM wX1 [] [] = (⟨1, 1, []⟩, 0) := by kernel_rfl
theorem w_eval2 : evalM wX2 [] [] = (noV, 5) := by kernel_rfl
theorem ACall.argLe {P : Program} {g : FuncId} {args args' : List AV} {H : List AObj} {post : AV → List AObj → Prop} (h : ACall P g args' H post) (hl : args.length = args'.length) (hle : ∀ (i : Nat) (y y' : AV), args[i]? = some y → args'[i]? = some y' → Le y y') : ACall P g args H post :=
  fun d G w vs h1 h2 h3 h4 => h d G w vs (by rw [h1, hl]) (fun i y' u hy' hu => by
    have hlt : i < args.length := by rw [hl]; exact (List.getElem?_eq_some_iff.1 hy').1
    exact (h2 i args[i] u (List.getElem?_eq_getElem hlt) hu).le (hle i args[i] y' (List.getElem?_eq_getElem hlt) hy')) h3 h4
theorem w_p1 (Hp : List AObj) : AFun Tryz.prog 19 [strA wS1] Hp (.tup [exprA wX1, .agg [intA 0, intA 0]]) := by
  have := c87p wS1 (by decide) Hp
  rw [w_parse1] at this
  exact this
theorem w_p2 (Hp : List AObj) : AFun Tryz.prog 19 [strA wS2] Hp (.tup [exprA wX2, .agg [intA 0, intA 0]]) := by
  have := c87p wS2 (by decide) Hp
  rw [w_parse2] at this
  exact this
theorem w_nil {x : Expr} {r : Rs} (hok : okE 4 x) (hrg : allE rngN x = true) (h : evalM x [] [] = r) (Hp : List AObj) : AFun Tryz.prog 15 [exprA x, .nil, .nil] Hp (resA r) := by
  have := c15 4 x hok (by decide) hrg [] ⟨by decide, by decide⟩ [] (by decide) (fun v hv => by cases hv) Hp
  rw [h] at this
  refine ACall.argLe this rfl fun i y y' h1 h2 => ?_
  match i with
  | 0 => simp at h1 h2; subst h1; subst h2; exact .refl _
  | 1 => simp at h1 h2; subst h1; subst h2; exact .nil false 2
  | 2 => simp at h1 h2; subst h1; subst h2; exact .nil false 3
  | i + 3 => simp at h1
theorem c7 (Hp : List AObj) : AFun Tryz.prog 7 [] Hp (boolA true) := by
  refine ACall.body [.tmp 0] [] Tryz.func7 Tryz.ntmps7 (fun d => ?_)
  refine AW.seqR ?_
  refine R.assign ?_
  refine R.fin [] ?_
  refine AW.seqR ?_
  refine R.call Tryz.call19 (w_p1 _) ?_
  refine R.move ?_
  refine R.extract ?_
  refine R.extract ?_
  refine R.alloc Tryz.zeroValue35 ?_
  refine R.alloc Tryz.zeroValue52 ?_
  refine R.storeOwn Tryz.sizeOf35 ?_
  refine R.storeOwn Tryz.sizeOf52 ?_
  refine R.fin [1, 2] ?_
  refine AW.seqR ?_
  refine R.call Tryz.call19 (w_p2 _) ?_
  refine R.move ?_
  refine R.extract ?_
  refine R.extract ?_
  refine R.alloc Tryz.zeroValue35 ?_
  refine R.alloc Tryz.zeroValue52 ?_
  refine R.storeOwn Tryz.sizeOf35 ?_
  refine R.storeOwn Tryz.sizeOf52 ?_
  refine R.fin [1, 2, 3, 4] ?_
  refine AW.seqR ?_
  refine R.loadOwnN Tryz.isAgg35 Tryz.sizeOf35 ?_
  refine R.call Tryz.call15 (w_nil w_ok1 (by kernel_rfl) w_eval1 _) ?_
  refine R.move ?_
  refine R.extract ?_
  refine R.extract ?_
  refine R.alloc Tryz.zeroValue24 ?_
  refine R.storeOwn Tryz.sizeOf24 ?_
  refine R.assign ?_
  refine R.fin [2, 3, 4, 5, 6] ?_
  refine AW.seqR ?_
  refine R.loadOwnN Tryz.isAgg35 Tryz.sizeOf35 ?_
  refine R.call Tryz.call15 (w_nil w_ok2 (by kernel_rfl) w_eval2 _) ?_
  refine R.move ?_
  refine R.extract ?_
  refine R.extract ?_
  refine R.alloc Tryz.zeroValue24 ?_
  refine R.storeOwn Tryz.sizeOf24 ?_
  refine R.assign ?_
  refine R.fin [2, 4, 5, 6, 8] ?_
  refine AW.seqR ?_
  refine R.fieldAddrPtr (fo := 0) Tryz.underlying52 Tryz.sizeOf29 ?_
  refine R.loadOwn Tryz.isAgg29 ?_
  refine R.eql ?_
  refine R.move ?_
  refine G.fieldAddrPtr (fo := 0) Tryz.underlying52 Tryz.sizeOf29 ?_
  refine G.loadOwn Tryz.isAgg29 ?_
  refine G.eql ?_
  refine R.pickAnd ?_
  refine R.move ?_
  refine G.loadOwnN Tryz.isAgg24 Tryz.sizeOf24 ?_
  refine G.build (places := #[(0, 1), (1, 1), (2, 1)]) Tryz.underlying24 (fun w => by simp) Tryz.zeroValue24 ?_
  refine G.eqlAgg eg24 (fun w => equal24 1 1 1 1 [] [] w) ?_
  refine R.pickAnd ?_
  refine R.move ?_
  refine G.move ?_
  refine G.eql ?_
  refine R.pickAnd ?_
  refine R.move ?_
  refine G.move ?_
  refine G.eql ?_
  refine R.pickAnd ?_
  refine R.assign ?_
  refine R.fin [0] ?_
  refine AW.ret ?_
  exact K.fin (V.one V.tmp)

theorem kinds_law {x : Expr} {c : List Col} {l : List Val} (hk : (kindR x c).2 = 0) (hrow : rowP c l = true) : KOk (kindR x c).1 (evalM x c l) := by
  obtain ⟨h1, h2, h3⟩ := kindR_ok hk
  rw [h3] at hk ⊢
  rw [eval_of h1 hrow]
  exact kinds_K hrow (sizeE x) x (Nat.le_refl _) (rightE_node h1) hk
theorem long_len {l : List Val} (h : longM l = false) : l.length ≤ 1048576 := by
  unfold longM at h
  simp only [Bool.or_eq_false_iff, decide_eq_false_iff_not] at h
  omega
theorem guard_many {a c : Bool} {x : List Col} (h : (((a || manyM x) || c) == false) = true) : manyM x = false := by
  cases hm : manyM x with
  | false => rfl
  | true => rw [hm] at h; cases a <;> cases c <;> simp at h
theorem guard_long {a : Bool} {l : List Val} (h : ((a || longM l) == false) = true) : l.length ≤ 1048576 := by
  cases hm : longM l with
  | false => exact long_len hm
  | true => rw [hm] at h; cases a <;> simp at h
theorem c6 (x : Expr) (hrg : allE rngN x = true) (c : List Col) (l : List Val) (hlr : ∀ v ∈ l, -9223372036854775808 ≤ v.n ∧ v.n ≤ 9223372036854775807) (Hp : List AObj) : AFun Tryz.prog 6 [exprA x, colsA c, valsA l] Hp (boolA true) := by
  refine ACall.body [.tmp 6] [0, 1, 2] Tryz.func6 Tryz.ntmps6 (fun d => ?_)
  refine AW.seqR ?_
  refine R.boxRo ?_
  refine R.assign ?_
  refine R.fin [1, 2, 3] ?_
  refine W.seq ?_
  refine AW.seqR ?_
  refine R.call Tryz.call7 (c7 _) ?_
  refine R.not ?_
  refine R.fin [1, 2, 3, 12] ?_
  refine W.cond (fun ht12 => ?_) (fun ht12 => ?_)
  · skip
    cases ht12
  · skip
    refine AW.skip ?_
    refine K.thN ?_
    refine W.seq ?_
    refine AW.seqR ?_
    refine R.loadRoN Tryz.isAgg35 Tryz.sizeOf35 ?_
    refine R.call Tryz.call9 (c9 x _) ?_
    refine R.move ?_
    refine G.move ?_
    refine G.call Tryz.call10 (fun hB => c21u c _) ?_
    refine R.pickOr ?_
    refine R.move ?_
    refine G.move ?_
    refine G.call Tryz.call11 (fun hB => c11 l _) ?_
    refine R.pickOr ?_
    refine R.move ?_
    refine G.move ?_
    refine G.move ?_
    refine G.call Tryz.call12 (C := ((((wideM x || manyM c) || longM l) == false))) (fun hB => c12 c (many_ok (guard_many hB)) l (guard_long hB) _) ?_
    refine G.not ?_
    refine R.pickOr ?_
    refine R.fin [1, 2, 3, 28] ?_
    refine W.cond (fun ht28 => ?_) (fun ht28 => ?_)
    · skip
      refine AW.seqR ?_
      refine R.assign ?_
      refine R.fin [6] ?_
      refine AW.ret ?_
      refine K.thR ?_
      exact K.fin (V.one V.tmp)
    · skip
      simp only [Bool.or_eq_false_iff, Bool.not_eq_false'] at ht28
      have hs := slim_of ht28.1.1.1
      have hc := many_ok ht28.1.1.2
      have hl1 := long_len ht28.1.2
      have hrow := ht28.2
      refine AW.skip ?_
      refine K.thN ?_
      refine AW.seqR ?_
      refine R.loadRoN Tryz.isAgg35 Tryz.sizeOf35 ?_
      refine R.move ?_
      refine R.call Tryz.call18 (c18 61 x hs.ok (by decide) c hc _) ?_
      refine R.move ?_
      refine R.extract ?_
      refine R.extract ?_
      refine R.assign ?_
      refine R.assign ?_
      refine R.fin [1, 2, 3, 7, 8] ?_
      refine W.seq ?_
      refine AW.seqR ?_
      refine R.move ?_
      refine R.neq ?_
      refine R.fin [1, 2, 3, 7, 36] ?_
      refine W.cond (fun ht36 => ?_) (fun ht36 => ?_)
      · skip
        refine AW.seqR ?_
        refine R.assign ?_
        refine R.fin [6] ?_
        refine AW.ret ?_
        refine K.thR ?_
        exact K.fin (V.one V.tmp)
      · skip
        have hk0 : (kindR x c).2 = 0 := by simpa using ht36
        have hK := kinds_law hk0 hrow
        refine AW.skip ?_
        refine K.thN ?_
        refine AW.seqR ?_
        refine R.loadRoN Tryz.isAgg35 Tryz.sizeOf35 ?_
        refine R.move ?_
        refine R.move ?_
        refine R.call Tryz.call15 (c15 61 x hs.ok (by decide) hrg c hc l hl1 hlr _) ?_
        refine R.move ?_
        refine R.extract ?_
        refine R.extract ?_
        refine R.alloc Tryz.zeroValue24 ?_
        refine R.storeOwn Tryz.sizeOf24 ?_
        refine R.assign ?_
        refine R.fin [7, 9, 10] ?_
        refine W.seq ?_
        refine AW.seqR ?_
        refine R.move ?_
        refine R.neq ?_
        refine R.fin [7, 9, 10, 45] ?_
        refine W.cond (fun ht45 => ?_) (fun ht45 => ?_)
        · skip
          have hfin : (((((evalM x c l).2 == 4) || ((evalM x c l).2 == 5)) || ((evalM x c l).2 == 6)) || ((evalM x c l).2 == 3)) = true := by
            rcases hK.err (by simpa using ht45) with h | h | h | h <;> rw [h] <;> rfl
          refine AW.seqR ?_
          refine R.move ?_
          refine R.eql ?_
          refine R.move ?_
          refine G.move ?_
          refine G.eql ?_
          refine R.pickOr ?_
          refine R.move ?_
          refine G.move ?_
          refine G.eql ?_
          refine R.pickOr ?_
          refine R.move ?_
          refine G.move ?_
          refine G.eql ?_
          refine R.pickOr ?_
          refine R.assign ?_
          refine R.fin [6] ?_
          refine AW.ret ?_
          refine K.thR ?_
          exact K.fin (V.one V.tmp) ⟨by rw [hfin], rfl⟩
        · skip
          have hfin : (((evalM x c l).1.kind == (kindR x c).1) || ((evalM x c l).1.kind == 0)) = true := by
            rcases hK.kind (by simpa using ht45) with h | h <;> rw [h] <;> simp
          refine AW.skip ?_
          refine K.thN ?_
          refine AW.seqR ?_
          refine R.fieldAddrPtr (fo := 0) Tryz.underlying24 Tryz.sizeOf3 ?_
          refine R.loadOwn Tryz.isAgg3 ?_
          refine R.move ?_
          refine R.eql ?_
          refine R.move ?_
          refine G.fieldAddrPtr (fo := 0) Tryz.underlying24 Tryz.sizeOf3 ?_
          refine G.loadOwn Tryz.isAgg3 ?_
          refine G.eql ?_
          refine R.pickOr ?_
          refine R.assign ?_
          refine R.fin [6] ?_
          refine AW.ret ?_
          exact K.fin (V.one V.tmp) ⟨by rw [hfin], rfl⟩

end Go.SX.Nb
