/- Texts on the way to this: TrimTells answers true for whatever it is handed: of any tree the trimmed one, its value, and how many nodes it saves, are what the reference says; trimmed again it stays, and it names no other columns. (part 6) -/
import Derived.Test.YtdpgggmplodldaaGreatDoorTrimTellsCardSaidPart5
set_option linter.all false
namespace Go.SX.Nb
open Go Go.SX Go.Proofs
variable [ErrAt]
set_option maxRecDepth 4000
theorem mk_agg (o : Int) (t : Str) (v : Val) (k : List Expr) : exprA (.mk o t v k) = .agg [intA o, .v (sv t), intA v.kind, intA v.n, .v (sv v.s), .slice false 6 (k.map exprA)] := by rw [exprA_eq]; rfl
theorem take_map {α β : Type} {f : α → β} {l : List α} {x : Nat} (h : x < l.length) : (l.take (x + 1)).map f = (l.take x).map f ++ [f l[x]] := by rw [List.take_succ_eq_append_getElem h, List.map_append]; rfl
theorem mem2 {α : Type} {P : α → Prop} {a b : α} (h1 : P a) (h2 : P b) : ∀ x ∈ [a, b], P x := by
 intro x hx
 simp only [List.mem_cons, List.not_mem_nil, or_false] at hx
 rcases hx with rfl | rfl
 ·exact h1
 exact h2
theorem names_len (e : Expr) : (exprNamesM e).length ≤ sizeE e := by
 have h1 := fold_len (nodesE e) []
 rw [nodes_len] at h1
 have h2 : (exprNamesM e).length = ((nodesE e).foldl addName []).length := rfl
 simp only [List.length_nil] at h1
 omega
set_option maxRecDepth 8000
/-! Who decides decides: the law's sources, columns and truths. -/
def lS1 : Str := [97, 32, 111, 114, 32, 98]
def lS2 : Str := [97, 32, 97, 110, 100, 32, 98]
def lS3 : Str := [110, 111, 116, 32, 40, 110, 111, 116, 32, 97, 32, 97, 110, 100, 32, 110, 111, 116, 32, 98, 41]
def lS4 : Str := [97, 32, 111, 114, 32, 49, 32, 47, 32, 48, 32, 61, 32, 110]
def lX1 : Expr := binX orW (nameE [97]) (nameE [98])
def lX2 : Expr := binX andW (nameE [97]) (nameE [98])
def lX3 : Expr := oneX 4 (binX andW (oneX 4 (nameE [97])) (oneX 4 (nameE [98])))
def lX4 : Expr := binX orW (nameE [97]) (binX [61] (binX [47] (valX ⟨1, 1, []⟩) (valX ⟨1, 0, []⟩)) (nameE [110]))
def lC : List Col := [⟨[97], 3⟩, ⟨[98], 3⟩, ⟨[110], 1⟩]
def lT : List Val := [noV, boolV false, boolV true]
def orV (x y : Val) : Val := if (x.n == 1) || ((x.kind == 0) && (y.n == 0)) then x else y
def andV (x y : Val) : Val := if ((x.kind == 3) && (x.n == 0)) || ((x.kind == 0) && ((y.kind == 0) || (y.n == 1))) then x else y
/-! Rows. -/
theorem row_iff {c : List Col} {l : List Val} : rowP c l = true ↔ colsM c = true ∧ l.length = c.length ∧ ∀ (i : Nat) (v : Val) (y : Col), l[i]? = some v → c[i]? = some y → plainM v = true ∧ (v.kind = 0 ∨ v.kind = y.kind) := by
 unfold rowP
 rw [Bool.and_eq_true, Bool.and_eq_true, cols_eq, beq_iff_eq, List.all_eq_true, and_assoc]
 refine and_congr_right fun _ => and_congr_right fun hl => ⟨fun h i v y hv hy => ?_, fun h p hp => ?_⟩
 ·have := h (v, y) (List.mem_of_getElem? (i := i) (by rw [List.getElem?_zip_eq_some]; exact ⟨hv, hy⟩))
  simpa using this
 obtain ⟨i, hi⟩ := List.getElem?_of_mem hp
 rw [List.getElem?_zip_eq_some] at hi
 have := h i p.1 p.2 hi.1 hi.2
 simpa using this
theorem eval_of {x : Expr} {c : List Col} {l : List Val} (h1 : exprRightM x = true) (h2 : rowP c l = true) : evalM x c l = evalE c l x := by
 unfold evalM evalR
 rw [h1, h2]
 rfl
/-! Rows that differ in what is not named. -/
def turn1R (c : List Col) (l : List Val) (m : List Val) (s : Str) : List Val := if findM s c < 0 then m else m.set (findM s c).toNat (l.getD (findM s c).toNat noV)
def turnR (c : List Col) (l : List Val) (ns : List Str) (m : List Val) : List Val := ns.foldl (turn1R c l) m
/-! Who has a kind comes to it. -/
/-- What a tree of this kind may come to. -/
structure KOk (k : Int) (r : Rs) : Prop where
 kind : r.2 = 0 → r.1.kind = k ∨ r.1.kind = 0
 err : r.2 ≠ 0 → r.2 = 4 ∨ r.2 = 5 ∨ r.2 = 6 ∨ r.2 = 3
theorem KOk.val {k : Int} {v : Val} (h : v.kind = k) : KOk k (v, 0) := ⟨fun _ => .inl h, fun h => absurd rfl h⟩
theorem KOk.wrong {k e : Int} (h : e = 4 ∨ e = 5 ∨ e = 6 ∨ e = 3) : KOk k (wrongR e) := ⟨fun h0 => by rw [show e = 0 from h0] at h; omega, fun _ => h⟩
theorem KOk.whole {x : Int × Int} (h : x.2 ≠ 0 → x.2 = 4 ∨ x.2 = 5 ∨ x.2 = 6 ∨ x.2 = 3) : KOk 1 (wholeR x) := by
 unfold wholeR
 split
 ·rename_i h1; exact .wrong (h (by simpa using h1))
 exact .val rfl
theorem KOk.mono {k k' : Int} {r : Rs} (h : KOk k r) (hk : k = k' ∨ k = 0) : KOk k' r := ⟨fun h0 => by have := h.kind h0; omega, h.err⟩
theorem call_names {t : Str} {n : Nat} (h : arityM t = (n : Int)) : (t = [108, 101, 110] ∧ n = 1) ∨ (t = [115, 116, 114] ∧ n = 1) ∨ (t = [110, 117, 109] ∧ n = 1) ∨ (t = isnullW ∧ n = 1) ∨ (t = nvlW ∧ n = 2) ∨ (t = [108, 101, 102, 116] ∧ n = 2) ∨ (t = [114, 105, 103, 104, 116] ∧ n = 2) ∨ (t = ifW ∧ n = 3) := by
 by_cases hm : t ∈ arityList.map (·.1)
 ·have ha : ∀ s ∈ arityList.map (·.1), (s = [108, 101, 110] ∧ arityM s = 1) ∨ (s = [115, 116, 114] ∧ arityM s = 1) ∨ (s = [110, 117, 109] ∧ arityM s = 1) ∨ (s = isnullW ∧ arityM s = 1) ∨ (s = nvlW ∧ arityM s = 2) ∨ (s = [108, 101, 102, 116] ∧ arityM s = 2) ∨ (s = [114, 105, 103, 104, 116] ∧ arityM s = 2) ∨ (s = ifW ∧ arityM s = 3) := by
   have : ((arityList.map (·.1)).all fun s => decide ((s = [108, 101, 110] ∧ arityM s = 1) ∨ (s = [115, 116, 114] ∧ arityM s = 1) ∨ (s = [110, 117, 109] ∧ arityM s = 1) ∨ (s = isnullW ∧ arityM s = 1) ∨ (s = nvlW ∧ arityM s = 2) ∨ (s = [108, 101, 102, 116] ∧ arityM s = 2) ∨ (s = [114, 105, 103, 104, 116] ∧ arityM s = 2) ∨ (s = ifW ∧ arityM s = 3))) = true := by kernel_rfl
   exact fun s hs => of_decide_eq_true (List.all_eq_true.1 this s hs)
  have := ha t hm
  rw [h] at this
  rcases this with ⟨e, h2⟩ | ⟨e, h2⟩ | ⟨e, h2⟩ | ⟨e, h2⟩ | ⟨e, h2⟩ | ⟨e, h2⟩ | ⟨e, h2⟩ | ⟨e, h2⟩
  ·exact .inl ⟨e, by omega⟩
  ·exact .inr (.inl ⟨e, by omega⟩)
  ·exact .inr (.inr (.inl ⟨e, by omega⟩))
  ·exact .inr (.inr (.inr (.inl ⟨e, by omega⟩)))
  ·exact .inr (.inr (.inr (.inr (.inl ⟨e, by omega⟩))))
  ·exact .inr (.inr (.inr (.inr (.inr (.inl ⟨e, by omega⟩)))))
  ·exact .inr (.inr (.inr (.inr (.inr (.inr (.inl ⟨e, by omega⟩))))))
  exact .inr (.inr (.inr (.inr (.inr (.inr (.inr ⟨e, by omega⟩))))))
 have h1 : arityM t = -1 := by
  unfold arityM
  rw [List.find?_eq_none.2 fun p hp => by
   simp only [beq_iff_eq]
   rintro rfl
   exact hm (List.mem_map.2 ⟨p, hp, rfl⟩)]
 omega
theorem two_len {k : List Expr} (h : k.length = 2) : ∃ a b, k = [a, b] := by match k, h with | [a, b], _ => exact ⟨a, b, rfl⟩
set_option maxRecDepth 4000
theorem kids_len {e : Expr} (h : nodeM e = true) : (e.op = 5 → e.kids.length = 2) ∧ (e.op = 3 ∨ e.op = 4 → e.kids.length = 1) ∧ (e.op = 6 → arityM e.text = (e.kids.length : Int)) ∧ (e.op = 1 ∨ e.op = 2 ∨ e.op = 3 ∨ e.op = 4 ∨ e.op = 5 ∨ e.op = 6) := by
 cases node_cases h with
 | val v hp h0 => simp [valX, Expr.op]
 | name t ht => simp [nameE, Expr.op]
 | neg a => simp [oneX, Expr.op, Expr.kids]
 | no a => simp [oneX, Expr.op, Expr.kids]
 | bin t a b ht => simp [binX, Expr.op, Expr.kids]
 | call t k ht => simpa [Expr.op, Expr.kids, Expr.text] using ht
theorem kidD {k : List Expr} {i : Nat} (h : i < k.length) : (k.map exprA)[i]? = some (exprA (k.getD i nullX)) ∧ k.getD i nullX ∈ k ∧ ∀ (f : Expr → Rs) (d : Rs), (k.map f).getD i d = f (k.getD i nullX) := by
 have e : k.getD i nullX = k[i] := by rw [List.getD_eq_getElem?_getD, List.getElem?_eq_getElem h]; rfl
 rw [e]
 refine ⟨by simp [h], List.getElem_mem h, fun f d => ?_⟩
 rw [List.getD_eq_getElem?_getD, List.getElem?_map, List.getElem?_eq_getElem h]
 rfl
theorem evalN_strict {c : List Col} {l : List Val} {e : Expr} (h1 : (e.op == 1) = false) (h2 : (e.op == 2) = false) (h3 : ((e.op == 5) && (e.text == orW)) = false) (h4 : ((e.op == 5) && (e.text == andW)) = false) (h5 : ((e.op == 6) && (((e.text == ifW) || (e.text == nvlW)) || (e.text == isnullW))) = false) : evalE c l e = allR (strictM e.op e.text) (e.kids.map (evalE c l)) := by
 rw [evalE, evalS_eq]
 unfold evalN
 rw [h1, h2, h3, h4, h5]
 rfl
theorem args_ok {c : List Col} {l : List Val} (hf : ∀ v ∈ l, Fine v) {e : Expr} (hnd : allE nodeM e = true) (hrg : allE rngN e = true) (hv : allE valOk e = true) (h5 : ((e.op == 6) && (((e.text == ifW) || (e.text == nvlW)) || (e.text == isnullW))) = false) : ArgsOk e.op (e.kids.map fun y => (evalE c l y).1) := by
 rw [allE_eq, Bool.and_eq_true] at hnd hrg hv
 obtain ⟨k5, k34, k6, _⟩ := kids_len hnd.1
 refine ⟨fun h => ?_, fun h => by rw [List.length_map]; exact k34 h, fun h => ?_, fun v hv' => ?_⟩
 ·obtain ⟨a, b, e⟩ := two_len (k5 h)
  rw [e]
  exact ⟨_, _, rfl⟩
 ·rw [List.length_map]
  rw [h] at h5
  simp only [beq_self_eq_true, Bool.true_and, Bool.or_eq_false_iff, beq_eq_false_iff_ne] at h5
  rcases call_names (k6 h) with ⟨_, h⟩ | ⟨_, h⟩ | ⟨_, h⟩ | ⟨e, _⟩ | ⟨e, _⟩ | ⟨_, h⟩ | ⟨_, h⟩ | ⟨e, _⟩
  ·exact .inl h
  ·exact .inl h
  ·exact .inl h
  ·exact absurd e h5.2
  ·exact absurd e h5.1.2
  ·obtain ⟨a, b, e⟩ := two_len h
   rw [e]
   exact .inr ⟨_, _, rfl⟩
  ·obtain ⟨a, b, e⟩ := two_len h
   rw [e]
   exact .inr ⟨_, _, rfl⟩
  exact absurd e h5.1.1
 obtain ⟨y, hy, rfl⟩ := List.mem_map.1 hv'
 exact fine_eval hf y ((allL_iff _ _).1 hv.2 y hy) ((allL_iff _ _).1 hrg.2 y hy)
theorem call_isnull (a b d : Rs) : callR isnullW a b d = callR isnullW a (noV, 0) (noV, 0) := by
 unfold callR
 rw [show (isnullW == ifW) = false from rfl, show (isnullW == isnullW) = true from rfl]
 rfl
theorem call_third {t : Str} (h : (t == ifW) = false) (a b d d' : Rs) : callR t a b d = callR t a b d' := by
 unfold callR
 rw [h]
 rfl
theorem call_second {t : Str} (h : (t == isnullW) = true) (a b b' d d' : Rs) : callR t a b d = callR t a b' d' := by
 have e : t = isnullW := by simpa using h
 subst e
 rw [call_isnull, call_isnull a b' d']
theorem call_kids {t : Str} {k : List Expr} {f : Expr → Rs} {a : Rs} (h1 : (t == isnullW) = false → 1 < k.length) (h2 : (t == ifW) = true → 2 < k.length) : callR t a ((k.map f).getD 1 (noV, 0)) ((k.map f).getD 2 (noV, 0)) = callR t a (f (k.getD 1 nullX)) (f (k.getD 2 nullX)) := by
 cases hn : t == isnullW with
 | true => exact call_second hn _ _ _ _ _
 | false =>
  rw [(kidD (h1 hn)).2.2]
  cases hi : t == ifW with
  | true => rw [(kidD (h2 hi)).2.2]
  | false => exact call_third hi _ _ _ _
theorem c29 (c : List Col) (l : List Val) (hc : OkCols c) (hl : l.length = c.length) (hf : ∀ v ∈ l, Fine v) : ∀ (n : Nat) (e : Expr), okE n e → allE nodeM e = true → allE rngN e = true → allE valOk e = true → EvalsTo c l e (evalE c l e) := by
  intro n
  induction n with
  | zero => exact fun e h => h.elim
  | succ n ih =>
  intro e hok hnd hrg hvo Hp
  have hnd0 := hnd
  have hrg0 := hrg
  have hvo0 := hvo
  rw [allE_eq, Bool.and_eq_true] at hnd0 hrg0 hvo0
  have hev : ∀ y ∈ e.kids, EvalsTo c l y (evalE c l y) := fun y hy => ih y (hok.2.2 y hy) ((allL_iff _ _).1 hnd0.2 y hy) ((allL_iff _ _).1 hrg0.2 y hy) ((allL_iff _ _).1 hvo0.2 y hy)
  obtain ⟨k5, k34, k6, _⟩ := kids_len hnd0.1
  have hev0 : evalE c l e = evalN strictM c l e.op e.text e.val (e.kids.map (evalE c l)) := evalS_eq _ _ _ _
  refine ACall.body [.cell 4 23, .tmp 5] [0, 1] Tryz.func29 Tryz.ntmps29 (fun d => ?_)
  refine Z165 ?_;refine Z382 ?_;refine Z33 ?_;refine Z249 ?_;refine R.fin [2, 3, 4, 7] ?_
  refine W.cond (fun ht7 => ?_) (fun ht7 => ?_)
  · have hm : evalE c l e = (e.val, 0) := by rw [hev0]; unfold evalN; rw [if_pos ht7]
    refine Z396 ?_;refine Z96 ?_;exact Z125
  refine Z249 ?_;refine R.fin [2, 3, 4, 13] ?_
  refine W.cond (fun ht13 => ?_) (fun ht13 => ?_)
  · have hm0 : evalE c l e = nameR c l e.text := by rw [hev0]; unfold evalN; rw [if_neg (by rw [ht7]; simp), if_pos ht13]
    refine Z396 ?_;refine R.fieldAddrRo (off := 0) jU Tryz.sizeOf27 ?_;refine Z402 ?_;refine Z15 ?_;refine R.call Tryz.call53 (c53 c hc e.text _) ?_;refine Z404 ?_;refine R.fin [2, 4, 6] ?_;refine Z151 ?_;refine R.fin [2, 4, 6, 23] ?_
    refine W.cond (fun ht23 => ?_) (fun ht23 => ?_)
    · have hm : evalE c l e = wrongR 9 := by rw [hm0]; exact if_pos (by simpa using ht23)
      refine Z187 ?_;refine Z62 ?_;refine K.thR ?_;exact Z19
    have hneg : ¬ (findM e.text c < 0) := by simpa using ht23
    obtain ⟨j, hj, hjc⟩ := find_col hneg
    have hjl : j < l.length := by omega
    have hm : evalE c l e = (l[j], 0) := by
      rw [hm0]
      unfold nameR
      rw [if_neg hneg, hj, Int.toNat_natCast, List.getD_eq_getElem?_getD, List.getElem?_eq_getElem hjl]
      rfl
    rw [hj]
    refine Z38 ?_;refine R.fieldAddrRo (off := 1) jU Tryz.sizeOf28 ?_;refine Z204 ?_;refine R.indexAddr (j) (valA l[j]) jU jS (getMap hjl) ?_;refine Z407 ?_;exact Z125
  refine Z319 ?_;refine Z32 ?_;refine R.fin [2, 3, 4, 32] ?_
  refine W.cond (fun ht32 => ?_) (fun ht32 => ?_)
  · have h32 : ((e.op == 5) && (e.text == orW)) = true := ht32
    have hop : e.op = 5 := by simp only [Bool.and_eq_true, beq_iff_eq] at h32; exact h32.1
    have hkl := k5 hop
    have hm : evalE c l e = logicR (boolV true) (evalE c l (e.kids.getD 0 nullX)) (evalE c l (e.kids.getD 1 nullX)) := by rw [hev0]; unfold evalN; rw [if_neg (by rw [ht7]; simp), if_neg (by rw [ht13]; simp), if_pos h32, (kidD (by omega)).2.2, (kidD (by omega)).2.2]
    refine Z383 ?_;refine D.call Tryz.call30 (c30 _ _) ?_;refine D.call Tryz.call54 (c54 c l e (e.kids.getD 0 nullX) (e.kids.getD 1 nullX) (boolV true) _ _ (kidD (by omega)).1 (kidD (by omega)).1 (hev _ (kidD (by omega)).2.1) (hev _ (kidD (by omega)).2.1) _) ?_;refine Z227 ?_;exact Z125
  have h32 : ((e.op == 5) && (e.text == orW)) = false := ht32
  refine Z319 ?_;refine Z32 ?_;refine R.fin [2, 3, 4, 47] ?_
  refine W.cond (fun ht47 => ?_) (fun ht47 => ?_)
  · have h47 : ((e.op == 5) && (e.text == andW)) = true := ht47
    have hop : e.op = 5 := by simp only [Bool.and_eq_true, beq_iff_eq] at h47; exact h47.1
    have hkl := k5 hop
    have hm : evalE c l e = logicR (boolV false) (evalE c l (e.kids.getD 0 nullX)) (evalE c l (e.kids.getD 1 nullX)) := by rw [hev0]; unfold evalN; rw [if_neg (by rw [ht7]; simp), if_neg (by rw [ht13]; simp), if_neg (by rw [h32]; simp), if_pos h47, (kidD (by omega)).2.2, (kidD (by omega)).2.2]
    refine Z383 ?_;refine D.call Tryz.call30 (c30 _ _) ?_;refine D.call Tryz.call54 (c54 c l e (e.kids.getD 0 nullX) (e.kids.getD 1 nullX) (boolV false) _ _ (kidD (by omega)).1 (kidD (by omega)).1 (hev _ (kidD (by omega)).2.1) (hev _ (kidD (by omega)).2.1) _) ?_;refine Z227 ?_;exact Z125
  have h47 : ((e.op == 5) && (e.text == andW)) = false := ht47
  refine Z319 ?_;refine G.move ?_;refine Z128 ?_;refine G.pickOr ?_;refine G.move ?_;refine Z128 ?_;refine G.pickOr ?_;refine Z32 ?_;refine R.fin [2, 3, 4, 62] ?_
  refine W.cond (fun ht62 => ?_) (fun ht62 => ?_)
  · have h62 : ((e.op == 6) && (((e.text == ifW) || (e.text == nvlW)) || (e.text == isnullW))) = true := ht62
    obtain ⟨hkl, hl1, hl2⟩ : 0 < e.kids.length ∧ ((e.text == isnullW) = false → 1 < e.kids.length) ∧ ((e.text == ifW) = true → 2 < e.kids.length) := by
      have h := h62
      simp only [Bool.and_eq_true, Bool.or_eq_true, beq_iff_eq] at h
      have ha := k6 h.1
      rcases h.2 with (h1 | h1) | h1
      · rw [h1] at ha ⊢
        have : e.kids.length = 3 := by have : arityM ifW = 3 := by kernel_rfl
                                       omega
        exact ⟨by omega, fun _ => by omega, fun _ => by omega⟩
      · rw [h1] at ha ⊢
        have : e.kids.length = 2 := by have : arityM nvlW = 2 := by kernel_rfl
                                       omega
        exact ⟨by omega, fun _ => by omega, fun h => absurd h (by decide)⟩
      rw [h1] at ha ⊢
      have : e.kids.length = 1 := by have : arityM isnullW = 1 := by kernel_rfl
                                     omega
      exact ⟨by omega, fun h => absurd h (by decide), fun h => absurd h (by decide)⟩
    have hm : evalE c l e = callR e.text (evalE c l (e.kids.getD 0 nullX)) (evalE c l (e.kids.getD 1 nullX)) (evalE c l (e.kids.getD 2 nullX)) := by
      rw [hev0]
      unfold evalN
      rw [if_neg (by rw [ht7]; simp), if_neg (by rw [ht13]; simp), if_neg (by rw [h32]; simp), if_neg (by rw [h47]; simp), if_pos h62, (kidD hkl).2.2]
      exact call_kids hl1 hl2
    refine Z300 ?_;refine R.call Tryz.call55 (c55 c l e (e.kids.getD 0 nullX) (e.kids.getD 1 nullX) (e.kids.getD 2 nullX) _ _ _ (kidD (by omega)).1 (fun h => (kidD (hl1 h)).1) (fun h => (kidD (hl2 h)).1) (hev _ (kidD (by omega)).2.1) (fun h => hev _ (kidD (hl1 h)).2.1) (fun h => hev _ (kidD (hl2 h)).2.1) _) ?_;exact Z367
  have h62 : ((e.op == 6) && (((e.text == ifW) || (e.text == nvlW)) || (e.text == isnullW))) = false := ht62
  have hm := evalN_strict (c := c) (l := l) ht7 ht13 h32 h47 h62
  refine Z30 ?_;refine Z300 ?_;refine R.call Tryz.call56 (c56 c l e hok.2.1 hev (fun _ => args_ok hf hnd hrg hvo h62) _) ?_;refine Z12 ?_;exact Z75

abbrev xo (own : Bool) (t : Str) (ks : List Expr) : AObj := .cells 26 [intA 6, strA t, intA 0, intA 0, strA [], .slice own 6 (ks.map exprA)]
theorem low_xo {n : Nat} {own : Bool} {t : Str} {ks : List Expr} : ObjLow n (xo own t ks) := by
 show ∀ z ∈ [intA 6, strA t, intA 0, intA 0, strA [], AV.slice own 6 (ks.map exprA)], Low n z
 intro z hz
 simp only [List.mem_cons, List.not_mem_nil, or_false] at hz
 rcases hz with rfl | rfl | rfl | rfl | rfl | rfl
 all_goals first | exact low_exprs | simp
theorem const69 : constAV (.agg #[.int .i64 0, .string ⟨#[]⟩, .int .i64 0, .int .i64 0, .string ⟨#[]⟩, .slice none 0 0]) = .agg [intA 0, strA [], intA 0, intA 0, strA [], .nil] := rfl
attribute [go_sem] const69
theorem gA {Hp : List AObj} {o ox : Nat} {z A B : AObj} (ho : Hp[o]? = some z) (hne : ox ≠ o) : ((Hp.set o A).set ox B)[o]? = some A := by rw [List.getElem?_set_ne hne]; exact getset ho
theorem gB {Hp : List AObj} {o ox : Nat} {z A B : AObj} (hox : Hp[ox]? = some z) : ((Hp.set o A).set ox B)[ox]? = some B := by
 have := (List.getElem?_eq_some_iff.1 hox).1
 simp [this]
theorem setA {Hp : List AObj} {o ox : Nat} {A A' B : AObj} (hne : ox ≠ o) : ((Hp.set o A).set ox B).set o A' = (Hp.set o A').set ox B := by rw [List.set_comm _ _ hne, List.set_set]
theorem exprs_snoc (ks : List Expr) (x : Expr) : ks.map exprA ++ [.agg [.v (.int .i64 x.op), .v (sv x.text), .v (.int .i64 x.val.kind), .v (.int .i64 x.val.n), .v (sv x.val.s), .slice false 6 (x.kids.map exprA)]] = (ks ++ [x]).map exprA := by rw [List.map_append, List.map_cons, List.map_nil, exprA_eq x]
theorem c228 (l : List Tok) (S : PS) (t : Str) (Dv : Fam) (o ox : Nat) (Hp : List AObj) (hne : ox ≠ o) (ho : Hp[o]? = some (pr l S)) (hox : Hp[ox]? = some (xo true t [])) (hi : S.i < l.length) (hl : TokEnd l) (hll : l.length ≤ 1048576) (hf : Good l S.nest Dv.ei) (hcf : PC 70 l Dv.ei S.nest) : ACall Tryz.prog 228 [.ptr ox 0, .ro [.ptr o 0]] Hp (fun r H' => r = exprA (.mk 6 t noV (argsM l Dv.ei S).1) ∧ H' = (Hp.set o (pr l (argsM l Dv.ei S).2)).set ox (xo true t (argsM l Dv.ei S).1)) := by
 have hoxl := (List.getElem?_eq_some_iff.1 hox).1
 have hol := (List.getElem?_eq_some_iff.1 ho).1
 refine ACall.body [.cell 2 26] [0, 1] Tryz.func228 Tryz.ntmps228 (fun d => ?_)
 refine Z47 ?_;refine R.fin [0, 1, 2] ?_
 refine W.drawT [0, 1, 0, 4, 3, 0, 63, 127, 255, 127, 639] [1, 3] [.q 1 [] [0], .s [4] (some 0) [] [], .q 1 [] [1], .s [6] (some 1) [] [], .q 2 [] []] (fun B => (Hp.set o (if B 1 = true then pr l (Dv.ei S).2 else pr l S)).set ox (if B 0 = true then xo false t [] else xo true t [])) (fun _ => [zero69]) Tryzmixed (by kernel_rfl) (by simp only [Bool.false_eq_true, if_false]; rw [set_same ho, set_same hox]) rfl (fun B => by simp) ?_
 apply Y.q
 case h1 =>
  intro B hT hF
  exact Z208
 case hTF => decide
 refine Y.loadUpT (o := ox) (t' := 26) (cs := [intA 6, strA t, intA 0, intA 0, strA [], .slice true 6 ([].map exprA)]) (cs' := [intA 6, strA t, intA 0, intA 0, strA [], .slice false 6 ([].map exprA)]) Tryz.isAgg24 (fun B hB => ⟨by simp only [hB]; exact gB hox, by simp [upd, List.set_set] <;> rfl, rfl⟩) ?_
 apply Y.q
 case h1 =>
  intro B hT hF
  refine D.loadRo jA ?_;exact Z421
 case hTF => decide
 refine Y.callUp (r := exprA (Dv.ei S).1) (o := o) (x0 := pr l S) (x := pr l (Dv.ei S).2) Tryz.call70 (fun B hT hF hB => ⟨by simp only [hB]; exact gA ho hne, ?_, rfl, low_pr, ?_⟩) ?_
 ·simp only [upd, hB, Nat.reduceEqDiff, if_false, if_true, Bool.false_eq_true]
  exact (setA hne).symm
 ·simp only [hB]
  exact hcf o _ S (get_up (gA ho hne)) hi rfl
 apply Y.q
 case h1 =>
  intro B hT hF
  exact Z390
 case hTF => decide
 refine Y.appendPut (tn := [1, 3]) (U := (Hp.set o (pr l (Dv.ei S).2)).set ox (xo false t [])) (O := [zero69]) (o := ox) (t' := 26) (cs := [intA 6, strA t, intA 0, intA 0, strA [], .slice false 6 ([].map exprA)]) (by kernel_rfl) jU Tryz.type26 Tryz.sizeOf26 Tryz.sizeOf24 jU (get_up (gB hox)) ?_ ?_ ?_ (hfsz := Tryz.sizeOf24)
 ·simp [Tryz.t26]
 ·simp [Tryz.t26]
 refine Z440 ?_
 refine R.storeUpT jS (gB hox) ?_ ?_
 ·first | (rw [exprs_snoc]; exact low_exprs) | (have := low_exprs (n := ((Hp.set o (pr l (Dv.ei S).2)).set ox (xo false t [])).length) (k := 6) (o := true) (l := [(Dv.ei S).1]); simp only [List.map_cons, List.map_nil, exprA_eq] at this; exact this)
 refine R.fin [0, 1, 2] ?_;refine W.seq ?_
 refine AW.loopC (α := List Expr × PS) (fun r => ⟨34, setF 0 (.ptr ox 0) (setF 1 (.ro [.ptr o 0]) (setF 2 (.ptr (oid Hp.length 0) 0) (fun _ => .any))), (Hp.set o (pr l r.2)).set ox (xo true t r.1), [zero69], [], none⟩) (fun r => ArgsAt l Dv.ei S r) (fun r => l.length - r.2.i) (([(Dv.ei S).1], (Dv.ei S).2)) (.start (hf S hi rfl)) (StLe.of_eq (by simp [List.set_set, xo, exprA_eq])) rfl (fun r hx => ?_)
 refine Z11 ?_;refine Z402 ?_;refine Z212 ?_;refine R.loadUp jA (gA ho hne) ?_;refine Z82 ?_;refine G.loadRo jA ?_;refine G.call Tryz.call113 (fun hB => c113 l r.2 commaT o _ (get_up (gA ho hne)) hx.fact.lt hl (by decide)) ?_;refine Z398 ?_;refine R.fin [0, 1, 2, 21] ?_
 refine W.cond (fun ht21 => ?_) (fun ht21 => ?_)
 ·have hon := hx.on hl ht21 hf
  have hle := hon.2.1.le
  have hlt0 := hx.fact.lt
  refine Z389 ?_;refine Z304 ?_;refine R.callUp Tryz.call114 (gA ho hne) (by simp) low_pr (c114 l r.2 o _ (get_up (gA ho hne)) hx.fact.lt hll) ?_;refine R.fin [0, 1, 2] ?_
  refine W.drawT0 [0, 1, 0, 4, 3, 0, 63, 127, 255, 127, 639] [1, 3] [.q 1 [] [0], .s [25] (some 0) [] [], .q 1 [] [1], .s [27] (some 1) [] [], .q 2 [] []] (fun B => (Hp.set o (if B 1 = true then pr l (Dv.ei (nextM r.2)).2 else pr l (nextM r.2))).set ox (if B 0 = true then xo false t r.1 else xo true t r.1)) (fun _ => [zero69]) Tryzmixed (by kernel_rfl) (by simp only [Bool.false_eq_true, if_false]; exact (setA hne).symm) rfl (fun B => by simp) ?_
  apply Y.q
  case h1 =>
   intro B hT hF
   exact Z208
  case hTF => decide
  refine Y.loadUpT (o := ox) (t' := 26) (cs := [intA 6, strA t, intA 0, intA 0, strA [], .slice true 6 (r.1.map exprA)]) (cs' := [intA 6, strA t, intA 0, intA 0, strA [], .slice false 6 (r.1.map exprA)]) Tryz.isAgg24 (fun B hB => ⟨by simp only [hB]; exact gB hox, by simp [upd, List.set_set] <;> rfl, rfl⟩) ?_
  apply Y.q
  case h1 =>
   intro B hT hF
   refine D.loadRo jA ?_;exact Z421
  case hTF => decide
  refine Y.callUp (r := exprA (Dv.ei (nextM r.2)).1) (o := o) (x0 := pr l (nextM r.2)) (x := pr l (Dv.ei (nextM r.2)).2) Tryz.call70 (fun B hT hF hB => ⟨by simp only [hB]; exact gA ho hne, ?_, rfl, low_pr, ?_⟩) ?_
  ·simp only [upd, hB, Nat.reduceEqDiff, if_false, if_true, Bool.false_eq_true]
   exact (setA hne).symm
  ·simp only [hB]
   exact hcf o _ (nextM r.2) (get_up (gA ho hne)) hon.1 hx.fact.nest
  apply Y.q
  case h1 =>
   intro B hT hF
   exact Z390
  case hTF => decide
  refine Y.appendPut (tn := [1, 3]) (U := (Hp.set o (pr l (Dv.ei (nextM r.2)).2)).set ox (xo false t r.1)) (O := [zero69]) (o := ox) (t' := 26) (cs := [intA 6, strA t, intA 0, intA 0, strA [], .slice false 6 (r.1.map exprA)]) (by kernel_rfl) jU Tryz.type26 Tryz.sizeOf26 Tryz.sizeOf24 jU (get_up (gB hox)) ?_ ?_ ?_ (hfsz := Tryz.sizeOf24)
  ·have := hx.fact.len; have := hx.fact.lt; simp only [List.length_map, Tryz.t26]; omega
  ·have := hx.fact.len; have := hx.fact.lt; simp only [List.length_map, Tryz.t26]; omega
  refine Z440 ?_
  refine R.storeUpT jS (gB hox) ?_ ?_
  ·first | (rw [exprs_snoc]; exact low_exprs) | (have := low_exprs (n := ((Hp.set o (pr l (Dv.ei S).2)).set ox (xo false t [])).length) (k := 6) (o := true) (l := [(Dv.ei S).1]); simp only [List.map_cons, List.map_nil, exprA_eq] at this; exact this)
  refine R.fin [0, 1, 2] ?_;refine K.blN ?_
  refine K.lpN (r.1 ++ [(Dv.ei (nextM r.2)).1], (Dv.ei (nextM r.2)).2) hon.2.2 (by show l.length - (Dv.ei (nextM r.2)).2.i < l.length - r.2.i; have : r.2.i + 1 ≤ (Dv.ei (nextM r.2)).2.i := hle; omega) (StCut.of_eq ?_)
  simp only [show Tryz.t26.size = 6 from rfl, exprs_snoc, List.set_set]
 have hout := hx.out (by rw [ht21]; simp)
 refine Z347 ?_;refine R.loadUpN jA jS (gB hox) ?_;refine Z34 ?_;exact K.fin (V.one (V.cellN jA jS)) ⟨by rw [hout, mk_agg]; rfl, by rw [hout]⟩ (hlow := by have := exprA_low Hp.length (.mk 6 t noV r.1); rw [mk_agg] at this; simpa using this)

/-- within, with the function that gathers a call's kids. -/
theorem c227c (l : List Tok) (S : PS) (a : Int) (t : Str) (Dv : Fam) (o : Nat) (Hp : List AObj) (A0 A1 : AObj) (l0 : ObjLow 0 A0) (ho : Hp[o]? = some (pr l S)) (hi : S.i < l.length) (hl : TokEnd l) (hll : l.length ≤ 1048576) (hnl : S.nest ≤ 30) (hd : DeepC l Dv S.nest) :
  ACall Tryz.prog 134 [.ptr o 0, intA a, .fn (.func 228) [] [.ptr (oid Hp.length 2) 0, .ro [.ptr o 0]]] (Hp ++ [A0, A1, xo true t []]) (fun r H' => r = exprA (if S.nest = 30 then nullX else .mk 6 t noV (kidsM l a Dv.ei S).1) ∧ H' = Hp.set o (pr l (kidsM l a Dv.ei S).2) ++ [A0, A1, xo true t (kidsM l a Dv.ei S).1]) := by
 have hlt := (List.getElem?_eq_some_iff.1 ho).1
 have ho' : (Hp ++ [A0, A1, xo true t []])[o]? = some (pr l S) := get_up ho
 by_cases h30 : S.nest = 30
 ·refine (c134 l S a 228 [] [.ptr (oid Hp.length 2) 0, .ro [.ptr o 0]] nullX (deepM S) o (Hp ++ [A0, A1, xo true t []]) ((Hp ++ [A0, A1, xo true t []]).set o (pr l (deepM S))) ho' (by omega) Tryz.call228 (by simp) (getset ho') rfl (fun h => h) (fun h => absurd h30 h)).mono fun r H' h => ?_
  have e : kidsM l a Dv.ei S = ([], failM 18 a S) := if_pos (by rw [h30]; rfl)
  rw [e, if_pos h30]
  obtain ⟨h1, h2⟩ := h.1 h30
  exact ⟨h1, by rw [h2, List.set_append_left _ _ hlt]⟩
 have hq := argsM_fact (S := deepM S) hl hi (hd.ei h30).1
 refine (c134 l S a 228 [] [.ptr (oid Hp.length 2) 0, .ro [.ptr o 0]] (.mk 6 t noV (argsM l Dv.ei (deepM S)).1) (argsM l Dv.ei (deepM S)).2 o (Hp ++ [A0, A1, xo true t []]) (Hp.set o (pr l (argsM l Dv.ei (deepM S)).2) ++ [A0, A1, xo true t (argsM l Dv.ei (deepM S)).1]) ho' (by omega) Tryz.call228 (by simp) (get_up (getset ho)) hq.nest (fun h y hy => ?_) (fun _ own => ?_)).mono fun r H' h => ?_
 ·rw [List.set_append_left _ _ hlt] at h
  rcases List.mem_append.1 hy with hy | hy
  ·rcases List.mem_or_eq_of_mem_set hy with h1 | h1
   ·obtain ⟨i, hi', rfl⟩ := List.getElem_of_mem h1
    by_cases hio : i = o
    ·subst hio
     have : Hp[i] = pr l S := by rw [List.getElem?_eq_getElem hi'] at ho; injection ho
     rw [this]; exact low_pr
    refine h _ (List.mem_append_left _ ?_)
    rw [List.mem_iff_getElem?]
    exact ⟨i, by rw [List.getElem?_set_ne (Ne.symm hio), List.getElem?_eq_getElem hi']⟩
   rw [h1]; exact low_pr
  simp only [List.mem_cons, List.not_mem_nil, or_false] at hy
  rcases hy with rfl | rfl | rfl
  ·exact h _ (List.mem_append_right _ (by simp))
  ·exact h _ (List.mem_append_right _ (by simp))
  exact low_xo
 ·have hoid : oid Hp.length 2 ≠ o := by unfold oid; omega
  have e1 : (Hp ++ [A0, A1, xo true t []]).set o (pr l (deepM S)) ++ own = (Hp.set o (pr l (deepM S)) ++ [A0, A1, xo true t []]) ++ own := by rw [List.set_append_left _ _ hlt]
  rw [e1]
  have g1 : ((Hp.set o (pr l (deepM S)) ++ [A0, A1, xo true t []]) ++ own)[o]? = some (pr l (deepM S)) := get_up (get_up (getset ho))
  have g2 : ((Hp.set o (pr l (deepM S)) ++ [A0, A1, xo true t []]) ++ own)[oid Hp.length 2]? = some (xo true t []) := get_up (by
   have := get_oid (U := Hp.set o (pr l (deepM S))) (O := [A0, A1, xo true t []]) (n := 2)
   rw [List.length_set] at this
   exact this)
  refine (c228 l (deepM S) t Dv o (oid Hp.length 2) _ hoid g1 g2 hi hl hll (hd.ei h30).1 (hd.ei h30).2).mono fun r H' h => ⟨h.1, h.2.trans ?_⟩
  rw [List.append_assoc, List.set_append_left _ _ (by simpa using hlt), List.set_set]
  have := set_oid (U := Hp.set o (pr l (argsM l Dv.ei (deepM S)).2)) (O := [A0, A1, xo true t []] ++ own) (n := 2) (x := xo true t (argsM l Dv.ei (deepM S)).1)
  rw [List.length_set] at this
  rw [this]
  simp
 have e : kidsM l a Dv.ei S = ((argsM l Dv.ei (deepM S)).1, riseM (argsM l Dv.ei (deepM S)).2) := if_neg (by
  show ¬ (((S.nest : Int) == 30) = true)
  simp
  omega)
 rw [e, if_neg h30]
 obtain ⟨h1, h2⟩ := h.2 h30
 exact ⟨h1, by rw [h2, List.set_append_left _ _ (by simpa using hlt), List.set_set]⟩
theorem c224 (l : List Tok) (S : PS) (Dv : Fam) (t : Tok) (o : Nat) (Hp : List AObj) (ho : Hp[o]? = some (pr l S)) (hi : (nextM S).i < l.length) (hl : TokEnd l) (hll : l.length ≤ 1048576) (hnl : S.nest ≤ 30) (hd : DeepC l Dv S.nest) : ACall Tryz.prog 224 [.ptr o 0, tokA t] Hp (fun r H' => r = exprA (callM l Dv t S).1 ∧ H' = Hp.set o (pr l (callM l Dv t S).2)) := by
 have hi0 : S.i < l.length := by have : S.i + 1 < l.length := hi; omega
 have hol := (List.getElem?_eq_some_iff.1 ho).1
 have hkf : KFact l (nextM S) (callKM l Dv S) := kidsM_fact hl _ hi (fun h => (hd.ei h).1)
 refine ACall.body [.cell 4 26] [0, 1] Tryz.func224 Tryz.ntmps224 (fun d => ?_)
 refine Z165 ?_;refine Z420 ?_;refine R.fin [2, 3, 4] ?_;refine Z171 ?_;refine R.call Tryz.call77 (c77 t.text _) ?_;refine Z404 ?_;refine Z426 ?_;refine Z151 ?_;refine R.fin [2, 3, 4, 5, 12] ?_
 refine W.cond (fun ht12 => ?_) (fun ht12 => ?_)
 ·have hlt0 : arityM t.text < 0 := by simpa using ht12
  have e : callM l Dv t S = (nullX, failM 9 t.at_ S) := if_pos hlt0
  refine Z304 ?_;refine Z186 ?_;refine R.callUp Tryz.call72 ho (by simp) low_pr (c72 l S 9 t.at_ o _ (get_up ho)) ?_;refine Z409 ?_;refine Z36 ?_;exact Z115
 have hge : ¬ arityM t.text < 0 := by simpa using ht12
 refine Z38 ?_;refine Z402 ?_;refine R.callUp Tryz.call114 ho (by simp) low_pr (c114 l S o _ (get_up ho) hi0 hll) ?_;refine Z22 ?_;refine R.fin [2, 3, 4, 5, 6] ?_;refine Z171 ?_;refine Z192 ?_;refine Z433 ?_;refine Z396 ?_;refine R.nilCell 2 5 6 ?_;refine Z402 ?_;refine Z124 ?_;refine R.makeFunc ?_
 refine R.callX (up' := (Hp.set o (pr l (nextM S))).set o (pr l (callKM l Dv S).2)) (own' := [zero69, .cells 83 [intA (tokAt l S.i).kind, strA (tokAt l S.i).text, intA (tokAt l S.i).at_], xo true t.text (callKM l Dv S).1]) Tryz.call134 (by have := c227c l (nextM S) (tokAt l S.i).at_ t.text Dv o (Hp.set o (pr l (nextM S))) zero69 (.cells 83 [intA (tokAt l S.i).kind, strA (tokAt l S.i).text, intA (tokAt l S.i).at_]) low_z69 (getset ho) hi hl hll hnl hd; rw [List.length_set] at this; exact this) (by simp) (fun h => low_set h low_pr) ?_
 refine R.fin [2, 3, 4, 5, 7] ?_;refine Z304 ?_;refine R.callUp Tryz.call225 (getset (getset ho)) (by simp) low_pr (c225 l (callKM l Dv S).2 closeT o _ (get_up (getset (getset ho))) hkf.lt hll) ?_;refine R.fin [2, 3, 4, 5, 7] ?_;refine Z11 ?_;refine Z402 ?_;refine Z212 ?_;refine R.loadUp jA (getset (getset (getset ho))) ?_;refine Z82 ?_;refine G.fieldAddrPtr (fo := 5) jU Tryz.sizeOf24 ?_;refine G.loadOwn jA ?_;refine G.len jU ?_;refine G.move ?_;refine G.neq ?_;refine Z398 ?_;refine R.fin [2, 3, 4, 7, 41] ?_
 refine W.cond (fun ht41 => ?_) (fun ht41 => ?_)
 ·have e : callM l Dv t S = (nullX, failM 8 t.at_ (wantM l closeT (callKM l Dv S).2)) := by
   unfold callM
   rw [if_neg hge, if_pos (by have := ht41; simp only [List.length_map] at this; exact this)]
  refine Z304 ?_;refine Z186 ?_;refine R.callUp Tryz.call72 (getset (getset (getset ho))) (by simp) low_pr (c72 l (wantM l closeT (callKM l Dv S).2) 8 t.at_ o _ (get_up (getset (getset (getset ho))))) ?_;refine Z409 ?_;refine Z36 ?_;refine K.thR ?_;exact K.fin (V.one (V.cellN jA jS)) ⟨by rw [e, exprA_eq], by rw [e, List.set_set, List.set_set, List.set_set]⟩ (hlow := low_agg _)
 have e : callM l Dv t S = (.mk 6 t.text noV (callKM l Dv S).1, (wantM l closeT (callKM l Dv S).2)) := by
  unfold callM
  rw [if_neg hge, if_neg (by have := ht41; simp only [List.length_map] at this; rw [Bool.eq_false_iff] at this; exact this)]
 refine Z154 ?_;refine Z409 ?_;refine Z36 ?_;exact K.fin (V.one (V.cellN jA jS)) ⟨by rw [e, mk_agg]; rfl, by rw [e, List.set_set, List.set_set]⟩ (hlow := by have := exprA_low Hp.length (.mk 6 t.text noV (callKM l Dv S).1); rw [mk_agg] at this; simpa using this)

theorem pcall_all {l : List Tok} (hl : TokEnd l) (hll : l.length ≤ 1048576) (n : Nat) (Dv : Fam) (hn : n ≤ 30) (hd : DeepC l Dv n) : PCall l Dv n := fun o Hp S t ho hi hS _ _ => by
 subst hS
 exact c224 l S Dv t o Hp ho hi hl hll hn hd
/-- expr.Parse. -/
theorem c87p (s : Str) (hs : s.length ≤ 1048576) (Hp : List AObj) : AFun Tryz.prog 25 [strA s] Hp (.tup [exprA (parseM s).1, .agg [intA (parseM s).2.1, intA (parseM s).2.2]]) := by
 by_cases h : (lexM s).2.1 = 0
 ·exact c25 s hs (fun n Dv hn hd => pcall_all (lex_end h) (by have := lex_len h; omega) n Dv hn hd) Hp
 refine c25 s hs (fun n Dv hn hd => ?_) Hp
 intro o Hp S t ho hi hS ht hop
 have : (lexM s).1 = [] := by
  unfold lexM at h ⊢
  split
  ·rfl
  rename_i h4
  rw [if_neg h4] at h
  cases hf : (itemsT s).find? (fun it => it.2 != 0) with
  | some it => rfl
  | none => rw [hf] at h; exact absurd rfl h
 rw [this] at hi
 cases hi
def longM (l : List Val) : Bool := decide ((50 : Int) < (l.length : Int)) || l.any fun v => decide ((400 : Int) < (v.s.length : Int))
theorem c9 (l : List Val) (Hp : List AObj) : AFun Tryz.prog 9 [valsA l] Hp (boolA (longM l)) := by
 refine ACall.body [.tmp 2] [0] Tryz.func9 Tryz.ntmps9 (fun d => ?_)
 refine Z101 ?_;refine Z14 ?_;refine Z365 ?_;refine R.fin [0, 6] ?_
 refine W.cond (fun ht6 => ?_) (fun ht6 => ?_)
 ·rw [List.length_map] at ht6
  have hm : longM l = true := by unfold longM; rw [ht6]; rfl
  refine Z39 ?_;exact Z46
 rw [List.length_map] at ht6
 have hl50 : l.length ≤ 50 := by simp at ht6; omega
 refine Z379 ?_;refine R.fin [0, 3] ?_
 refine AW.loopC (α := Nat) (fun x => ⟨20, setF 0 (valsA l) (setF 3 (intA (x : Nat)) (fun _ => .any)), Hp, [], [], none⟩) (fun x => x ≤ l.length ∧ ∀ (j : Nat) (v : Val), j < x → l[j]? = some v → decide ((400 : Int) < (v.s.length : Int)) = false) (fun x => l.length - x) (0) ⟨Nat.zero_le _, fun j v h => by omega⟩ (StLe.of_eq (by simp)) rfl (fun x hx => ?_)
 refine Z210 ?_;refine R.fin [0, 3, 10] ?_
 refine W.cond (fun ht10 => ?_) (fun ht10 => ?_)
 ·have hlt : x < l.length := by simpa using ht10
  refine Z385 ?_;refine R.indexAddr (x) (valA l[x]) jU jS (getMap hlt) ?_;refine Z58 ?_;refine Z289 ?_;refine R.fin [0, 3, 19] ?_
  refine W.cond (fun ht19 => ?_) (fun ht19 => ?_)
  ·have hm : longM l = true := by unfold longM; rw [Bool.or_eq_true]; exact .inr (List.any_eq_true.2 ⟨l[x], List.getElem_mem hlt, ht19⟩)
   refine Z39 ?_;exact Z371
  refine Z30 ?_;refine Z31 ?_;refine R.add64 (h1 := by omega) (h2 := by omega) ?_;refine Z288 ?_;refine K.lpN (x + 1) ⟨hlt, upto_succ hlt hx.2 ht19⟩ (by omega) ?_;exact StCut.of_eq (by simp)
 have hxe : l.length ≤ x := by simpa using ht10
 have hm : longM l = false := by
  unfold longM
  rw [ht6, Bool.false_or, List.any_eq_false]
  intro v hv
  obtain ⟨j, hj⟩ := List.getElem?_of_mem hv
  have := hx.2 j v (by have := (List.getElem?_eq_some_iff.1 hj).1; omega) hj
  rw [this]
  simp
 refine Z90 ?_;refine Z39 ?_;exact Z436

structure RowAt (c : List Col) (l : List Val) (x : Nat) : Prop where
 le : x ≤ l.length
 ok : ∀ (i : Nat) (v : Val) (y : Col), i < x → l[i]? = some v → c[i]? = some y → plainM v = true ∧ (v.kind = 0 ∨ v.kind = y.kind)
theorem RowAt.next {c : List Col} {l : List Val} {x : Nat} (h : RowAt c l x) (hl : x < l.length) (hc : x < c.length) (hb : ((!(plainM l[x])) || ((l[x].kind != 0) && (l[x].kind != c[x].kind))) = false) : RowAt c l (x + 1) := ⟨hl, fun i v y hi hv hy => by
 rcases Nat.lt_or_ge i x with h' | h'
 ·exact h.ok i v y h' hv hy
 have e : i = x := by omega
 subst e
 rw [List.getElem?_eq_getElem hl] at hv
 rw [List.getElem?_eq_getElem hc] at hy
 injection hv with hv
 injection hy with hy
 subst hv
 subst hy
 simp only [Bool.or_eq_false_iff, Bool.not_eq_false', Bool.and_eq_false_iff, bne_eq_false_iff_eq] at hb
 exact ⟨hb.1, hb.2⟩⟩
theorem RowAt.bad {c : List Col} {l : List Val} {x : Nat} (hl : x < l.length) (hc : x < c.length) (hb : ((!(plainM l[x])) || ((l[x].kind != 0) && (l[x].kind != c[x].kind))) = true) : rowP c l = false := by
 cases h : rowP c l with
 | false => rfl
 | true =>
  obtain ⟨h1, h2⟩ := (row_iff.1 h).2.2 x l[x] c[x] (List.getElem?_eq_getElem hl) (List.getElem?_eq_getElem hc)
  rw [h1] at hb
  simp only [Bool.not_true, Bool.false_or, Bool.and_eq_true, bne_iff_ne] at hb
  omega
theorem c13 (c : List Col) (hc : OkCols c) (l : List Val) (hll : l.length ≤ 1048576) (Hp : List AObj) : AFun Tryz.prog 13 [colsA c, valsA l] Hp (boolA (rowP c l)) := by
 refine ACall.body [.tmp 4] [0, 1] Tryz.func13 Tryz.ntmps13 (fun d => ?_)
 refine Z140 ?_;refine Z14 ?_;refine R.call Tryz.call33 (c33 c hc _) ?_;refine R.not ?_;refine Z21 ?_;refine G.len jU ?_;refine G.move ?_;refine G.len jU ?_;refine Z172 ?_;refine R.fin [0, 1, 16] ?_
 refine W.cond (fun ht16 => ?_) (fun ht16 => ?_)
 ·have hm : rowP c l = false := by
   simp only [List.length_map, Bool.or_eq_true, Bool.not_eq_true', bne_iff_ne, ne_eq] at ht16
   unfold rowP
   rcases ht16 with h | h
   ·rw [h]; rfl
   rw [show (l.length == c.length) = false by simpa using (show l.length ≠ c.length by omega)]; simp
  exact Z282
 have hcl : colsP c = true ∧ l.length = c.length := by
  simp only [List.length_map, Bool.or_eq_false_iff, Bool.not_eq_false', bne_eq_false_iff_eq] at ht16
  exact ⟨ht16.1, by omega⟩
 refine Z254 ?_;refine Z150 ?_;refine R.fin [0, 17, 18, 19] ?_
 refine AW.loopC (α := Nat) (fun x => ⟨43, setF 0 (colsA c) (setF 17 (valsA l) (setF 18 (intA (l.length : Nat)) (setF 19 (intA (x : Nat)) (fun _ => .any)))), Hp, [], [], none⟩) (fun x => RowAt c l x) (fun x => l.length - x) (0) ⟨Nat.zero_le _, fun i v y h => by omega⟩ (StLe.of_eq (by simp)) rfl (fun x hx => ?_)
 refine Z166 ?_;refine R.fin [0, 17, 18, 19, 20] ?_
 refine W.condX (fun ht20 => ?_) (fun ht20 => ?_)
 ·have hlt : x < l.length := by simpa using ht20
  have hlc : x < c.length := by omega
  refine Z180 ?_;refine R.indexAddr (x) (valA l[x]) jU jS (getMap hlt) ?_;refine Z407 ?_;refine Z92 ?_;refine Z409 ?_;refine R.fin [0, 5, 6, 17, 18, 19] ?_;refine W.draw [0, 1, 3, 7, 15, 31, 63, 127, 255, 511, 255, 255, 3327, 7423, 15615, 32767, 65535, 131071] 15 Tryzmixed (by kernel_rfl) ?_;refine Z429 ?_;refine D.call Tryz.call34 (c34 _ _) ?_;refine D.not ?_;refine Z415 ?_;refine Z268 ?_;refine H.neq ?_;refine H.move ?_;refine Z268 ?_;refine Z241 ?_;refine H.indexAddr (x) (colA c[x]) jU jS (fun _ => getMap hlc) ?_;refine H.fieldAddrRo (off := 1) jU Tryz.sizeOf3 ?_;refine H.loadRo jA ?_;refine D.tail ?_;refine G.neq ?_;refine Z213 ?_;refine R.fin [0, 17, 18, 19, 41] ?_
  refine W.cond (fun ht41 => ?_) (fun ht41 => ?_)
  ·have hm := RowAt.bad hlt hlc ht41
   refine Z113 ?_;exact Z371
  refine Z238 ?_;refine R.fin [0, 17, 18, 19] ?_;refine K.lpN (x + 1) (hx.next hlt hlc ht41) (by omega) ?_
  exact StCut.take (own := []) (fun _ => .refl _) (by repeat (first | exact lowF_any | refine lowF_set (by first | exact low_vals | exact low_cols | (simp [or_imp, forall_and]; done)) ?_)) (by simp) (by simp)
 have hxe : l.length ≤ x := by simpa using ht20
 have hm : rowP c l = true := row_iff.2 ⟨by rw [← cols_eq]; exact hcl.1, hcl.2, fun i v y hv hy => hx.ok i v y (by have := (List.getElem?_eq_some_iff.1 hv).1; omega) hv hy⟩
 refine Z48 ?_;exact Z175

theorem node_val {e : Expr} (h : nodeM e = true) : valOk e = true := by
 unfold valOk
 cases node_cases h with
 | val v hp h0 => simpa [valX, Expr.op, Expr.val] using hp
 | name t ht => rfl
 | neg a => rfl
 | no a => rfl
 | bin t a b ht => rfl
 | call t k ht => rfl
mutual
theorem val_all : ∀ e : Expr, allE nodeM e = true → allE valOk e = true
 | .mk o t v k, h => by
  rw [allE, Bool.and_eq_true] at h ⊢
  exact ⟨node_val h.1, val_allL k h.2⟩
theorem val_allL : ∀ k : List Expr, allL nodeM k = true → allL valOk k = true
  | [], _ => rfl
  | e :: r, h => by
    rw [allL, Bool.and_eq_true] at h ⊢
    exact ⟨val_all e h.1, val_allL r h.2⟩
 end
theorem row_fine {c : List Col} {l : List Val} (h : rowP c l = true) (hr : ∀ v ∈ l, -9223372036854775808 ≤ v.n ∧ v.n ≤ 9223372036854775807) : ∀ v ∈ l, Fine v := fun v hv => by
 obtain ⟨i, hi⟩ := List.getElem?_of_mem hv
 obtain ⟨_, h2, h3⟩ := row_iff.1 h
 have hil := (List.getElem?_eq_some_iff.1 hi).1
 exact ⟨(h3 i v _ hi (List.getElem?_eq_getElem (show i < c.length by omega))).1, (hr v hv).1, (hr v hv).2⟩
theorem c10 (n : Nat) (x : Expr) (hok : okE n x) (hn : n ≤ 1048576) (hrg : allE rngN x = true) (c : List Col) (hc : OkCols c) (l : List Val) (hll : l.length ≤ 1048576) (hlr : ∀ v ∈ l, -9223372036854775808 ≤ v.n ∧ v.n ≤ 9223372036854775807) (Hp : List AObj) : AFun Tryz.prog 10 [exprA x, colsA c, valsA l] Hp (resA (evalM x c l)) := by
 refine ACall.body [.cell 6 23, .tmp 7] [0, 1, 2] Tryz.func10 Tryz.ntmps10 (fun d => ?_)
 refine Z283 ?_;refine R.fin [1, 2, 3, 6] ?_;refine Z314 ?_;refine R.call Tryz.call27 (c27 n x hok hn _) ?_;refine R.not ?_;refine Z114 ?_;refine G.call Tryz.call13 (fun hB => c13 c hc l hll _) ?_;refine Z221 ?_;refine R.fin [1, 2, 3, 6, 16] ?_
 refine W.cond (fun ht16 => ?_) (fun ht16 => ?_)
 ·have hm : evalM x c l = wrongR 1 := if_pos ht16
  refine Z187 ?_;exact Z179
 have hm : evalM x c l = evalE c l x := if_neg (by rw [ht16]; simp)
 have hrr : exprRightM x = true ∧ rowP c l = true := by simpa using ht16
 obtain ⟨hr, hrow⟩ := hrr
 refine Z326 ?_;refine Z423 ?_;refine Z407 ?_;refine R.call Tryz.call29 (c29 c l hc (row_iff.1 hrow).2.1 (row_fine hrow hlr) n x hok (rightE_node hr) hrg (val_all x (rightE_node hr)) _) ?_;refine Z12 ?_;refine Z1 ?_;exact Z305

def wS1 : Str := [105, 102, 40, 116, 114, 117, 101, 44, 32, 49, 44, 32, 49, 32, 47, 32, 48, 41]
def wS2 : Str := [110, 118, 108, 40, 49, 32, 47, 32, 48, 44, 32, 49, 41]
def wD : Expr := binX [47] (valX ⟨1, 1, []⟩) (valX ⟨1, 0, []⟩)
def wX1 : Expr := .mk 6 ifW noV [valX ⟨3, 1, []⟩, valX ⟨1, 1, []⟩, wD]
def wX2 : Expr := .mk 6 nvlW noV [wD, valX ⟨1, 1, []⟩]
theorem ACall.argLe {P : Program} {g : FuncId} {args args' : List AV} {H : List AObj} {post : AV → List AObj → Prop} (h : ACall P g args' H post) (hl : args.length = args'.length) (hle : ∀ (i : Nat) (y y' : AV), args[i]? = some y → args'[i]? = some y' → Le y y') : ACall P g args H post :=
 fun d G w vs h1 h2 h3 h4 => h d G w vs (by rw [h1, hl]) (fun i y' u hy' hu => by
  have hlt : i < args.length := by rw [hl]; exact (List.getElem?_eq_some_iff.1 hy').1
  exact (h2 i args[i] u (List.getElem?_eq_getElem hlt) hu).le (hle i args[i] y' (List.getElem?_eq_getElem hlt) hy')) h3 h4
theorem long_len {l : List Val} (h : longM l = false) : l.length ≤ 1048576 := by
 unfold longM at h
 simp only [Bool.or_eq_false_iff, decide_eq_false_iff_not] at h
 omega
set_option maxRecDepth 8000
/-! Trees that are trimmed. -/
/-- The kid that is all there is to a node, by its first one. -/
def chosenM (o : Int) (t : Str) (ks : List Expr) : Option Expr :=
 if ((o == 6) && (t == ifW)) && ((ks.getD 0 nullX).val == boolV true) then some (ks.getD 1 nullX)
 else if ((o == 6) && (t == ifW)) && (((ks.getD 0 nullX).val == boolV false) || ((ks.getD 0 nullX).val == noV)) then some (ks.getD 2 nullX)
 else if ((o == 6) && (t == nvlW)) && ((ks.getD 0 nullX).val == noV) then some (ks.getD 1 nullX)
 else if (o == 6) && (t == nvlW) then some (ks.getD 0 nullX)
 else if (o == 5) && (((t == orW) && ((ks.getD 0 nullX).val == boolV true)) || ((t == andW) && ((ks.getD 0 nullX).val == boolV false))) then some (ks.getD 0 nullX)
 else none
/-- A node of values. -/
def reckM (y : Expr) : Option Expr :=
 if y.kids.any (fun k => !(k.op == 1)) then none
 else if ((evalM y [] []).2 != 0) || (((evalM y [] []).1.kind == 1) && decide ((evalM y [] []).1.n < 0)) then none else some (valX (evalM y [] []).1)
def trimN (o : Int) (t : Str) (ks : List Expr) : Expr :=
 match (if (ks.getD 0 nullX).op == 1 then chosenM o t ks else none) with
 | some z => z
 | none => match reckM (.mk o t noV ks) with
  | some z => z
  | none => .mk o t noV ks
mutual
def trimE : Expr → Expr
 | .mk o t v k => if (k.length : Int) == 0 then .mk o t v k else trimN o t (trimL k)
def trimL : List Expr → List Expr
  | [] => []
  | e :: r => trimE e :: trimL r
 end
theorem trimL_map : ∀ k, trimL k = k.map trimE
 | [] => rfl
 | e :: r => by rw [trimL, trimL_map r]; rfl
theorem trimE_eq (e : Expr) : trimE e = if (e.kids.length : Int) == 0 then e else trimN e.op e.text (e.kids.map trimE) := by
 cases e with
 | mk o t v k => rw [trimE, trimL_map]; rfl
/-- What a trimmed tree keeps. -/
structure TrimOk (c : List Col) (l : List Val) (x y : Expr) : Prop where
 ev : evalE c l y = evalE c l x
 node : allE nodeM y = true
 rng : allE rngN y = true
 size : sizeE y ≤ sizeE x
 depth : depthE y ≤ depthE x
theorem TrimOk.of {c : List Col} {l : List Val} {x y z : Expr} (h : TrimOk c l x y) (he : evalE c l z = evalE c l y) (hn : allE nodeM z = true) (hr : allE rngN z = true) (hs : sizeE z ≤ sizeE y) (hd : depthE z ≤ depthE y) : TrimOk c l x z :=
 ⟨he.trans h.ev, hn, hr, Nat.le_trans hs h.size, Nat.le_trans hd h.depth⟩
theorem kind0_no {v : Val} (hp : plainM v = true) (h : v.kind = 0) : v = noV := by
 obtain ⟨k, n, s⟩ := v
 simp only at h
 subst h
 simp [plainM] at hp
 rw [hp.1, hp.2]; rfl
theorem kind3_bool {v : Val} (hp : plainM v = true) (h : v.kind = 3) : v = boolV true ∨ v = boolV false := by
 obtain ⟨k, n, s⟩ := v
 simp only at h
 subst h
 simp [plainM] at hp
 obtain ⟨⟨rfl, h0⟩, h1⟩ := hp
 have : n = 0 ∨ n = 1 := by omega
 rcases this with rfl | rfl
 ·exact .inr rfl
 exact .inl rfl
theorem depth_in : ∀ {l : List Expr} {y : Expr}, y ∈ l → depthE y ≤ depthL l
 | a :: r, y, h => by
  rw [depthL]
  rcases List.mem_cons.1 h with rfl | h
  ·omega
  have := depth_in h
  omega
theorem size_in {l : List Expr} {y : Expr} (h : y ∈ l) : sizeE y ≤ sizeL l := by
 obtain ⟨i, hi⟩ := List.getElem?_of_mem h
 obtain ⟨hlt, rfl⟩ := List.getElem?_eq_some_iff.1 hi
 exact sizeL_get l hlt
theorem getD_in {k : List Expr} {i : Nat} (h : i < k.length) : k.getD i nullX ∈ k := by
 rw [List.getD_eq_getElem?_getD, List.getElem?_eq_getElem h]
 exact List.getElem_mem h
theorem map_getD {f : Expr → Rs} {k : List Expr} {i : Nat} {d : Rs} (h : i < k.length) : (k.map f).getD i d = f (k.getD i nullX) := by
 rw [List.getD_eq_getElem?_getD, List.getD_eq_getElem?_getD, List.getElem?_map, List.getElem?_eq_getElem h]
 rfl
theorem eval_const {c : List Col} {l : List Val} {k : Expr} (h : (k.op == 1) = true) : evalE c l k = (k.val, 0) := by
 rw [evalE, evalS_eq]
 unfold evalN
 rw [if_pos h]
theorem node_lit {v : Val} (h : plainM v = true) (h0 : 0 ≤ v.n) : nodeM (valX v) = true := by rw [node_one, valX, nodeOne_mk]; simp [h, h0]
theorem node_plain {k : Expr} (h : nodeM k = true) (h1 : (k.op == 1) = true) : plainM k.val = true := by
 have := node_val h
 unfold valOk at this
 rw [h1] at this
 simpa using this
/-- A node whose kids are trimmed. -/
theorem trim_node {c : List Col} {l : List Val} (hl : ∀ v ∈ l, Fine v) {o : Int} {t : Str} {k : List Expr} (hn : allE nodeM (.mk o t noV k) = true) (hr : allE rngN (.mk o t noV k) = true) (hk : k ≠ []) : TrimOk c l (.mk o t noV k) (trimN o t k) := by
 have hself : TrimOk c l (.mk o t noV k) (.mk o t noV k) := ⟨rfl, hn, hr, Nat.le_refl _, Nat.le_refl _⟩
 have hn0 := hn
 rw [allE, Bool.and_eq_true] at hn0
 have hr0 := hr
 rw [allE, Bool.and_eq_true] at hr0
 obtain ⟨q5, q34, q6, qall⟩ := kids_len hn0.1
 have hkl : 0 < k.length := List.length_pos_iff.2 hk
 have hkid : ∀ i, i < k.length → TrimOk c l (k.getD i nullX) (k.getD i nullX) ∧ sizeE (k.getD i nullX) ≤ sizeE (.mk o t noV k) ∧ depthE (k.getD i nullX) ≤ depthE (.mk o t noV k) := fun i hi => by
  have hm := getD_in hi
  refine ⟨⟨rfl, (allL_iff _ _).1 hn0.2 _ hm, (allL_iff _ _).1 hr0.2 _ hm, Nat.le_refl _, Nat.le_refl _⟩, ?_, ?_⟩
  ·rw [sizeE]; have := size_in hm; omega
  rw [depthE]; have := depth_in hm; omega
 -- a kid that comes to the same is as good
 have hpick : ∀ i, i < k.length → evalE c l (.mk o t noV k) = evalE c l (k.getD i nullX) → TrimOk c l (.mk o t noV k) (k.getD i nullX) := fun i hi he => by
  obtain ⟨h1, h2, h3⟩ := hkid i hi
  exact ⟨he.symm, h1.node, h1.rng, h2, h3⟩
 have hev : evalE c l (.mk o t noV k) = evalN strictM c l o t noV (k.map (evalE c l)) := by rw [evalE, evalS_eq]; rfl
 have hreck : TrimOk c l (.mk o t noV k) (match reckM (.mk o t noV k) with | some z => z | none => .mk o t noV k) := by
  unfold reckM
  split
  ·rename_i z hz
   split at hz
   ·cases hz
   rename_i hc
   split at hz
   ·cases hz
   rename_i h2
   injection hz with hz
   subst hz
   have hconst : ∀ y ∈ k, (y.op == 1) = true := fun y hy => by
    cases h : y.op == 1 with
    | true => rfl
    | false => exact absurd (List.any_eq_true.2 ⟨y, hy, by rw [h]; rfl⟩) hc
   simp only [Bool.or_eq_true, Bool.and_eq_true, decide_eq_true_eq, not_or, bne_iff_ne, ne_eq, Decidable.not_not] at h2
   obtain ⟨he0, hneg⟩ := h2
   have hright : exprRightM (.mk o t noV k) = true := by
    cases h : exprRightM (.mk o t noV k) with
    | true => rfl
    | false => unfold evalM evalR at he0; rw [h] at he0; cases he0
   have hrow : rowP [] [] = true := by kernel_rfl
   have hm : evalM (.mk o t noV k) [] [] = evalE [] [] (.mk o t noV k) := eval_of hright hrow
   have hfine : Fine (evalM (.mk o t noV k) [] []).1 := by
    rw [hm]
    exact fine_eval (fun v hv => by cases hv) _ (val_all _ hn) hr
   have ho2 : (o == 2) = false := by
    have hnn := hn0.1
    rw [node_one, nodeOne_mk] at hnn
    cases h : o == 2 with
    | false => rfl
    | true =>
     have : o = 2 := by simpa using h
     subst this
     simp at hnn
     exact absurd hnn.2.2 (by intro e; exact hk e)
   have hsame : evalE c l (.mk o t noV k) = evalE [] [] (.mk o t noV k) := by
    have e1 : k.map (evalE c l) = k.map (evalE [] []) := List.map_congr_left fun y hy => by rw [eval_const (hconst y hy), eval_const (hconst y hy)]
    rw [hev, e1, evalE, evalS_eq]
    show evalN strictM c l o t noV _ = evalN strictM [] [] o t noV _
    unfold evalN
    rw [ho2]
    rfl
   have hp := hfine.plain
   refine ⟨?_, ?_, ?_, ?_, ?_⟩
   ·rw [hsame, ← hm, eval_const (k := valX _) rfl]
    show ((evalM (.mk o t noV k) [] []).1, (0 : Int)) = _
    rw [← he0]
   ·rw [allE_eq, Bool.and_eq_true]
    refine ⟨?_, rfl⟩
    refine node_lit hp ?_
    by_cases hk1 : (evalM (.mk o t noV k) [] []).1.kind = 1
    ·have : ¬ (evalM (.mk o t noV k) [] []).1.n < 0 := fun h => hneg ⟨by simpa using hk1, h⟩
     omega
    generalize (evalM (.mk o t noV k) [] []).1 = v at hp hk1
    unfold plainM at hp
    split at hp
    ·simp at hp; omega
    split at hp
    ·rename_i h; exact absurd (by simpa using h) hk1
    split at hp
    ·simp at hp; omega
    simp at hp; omega
   ·rw [allE_eq, Bool.and_eq_true]
    refine ⟨?_, rfl⟩
    show rngN (valX _) = true
    unfold rngN
    simp only [Bool.and_eq_true, decide_eq_true_eq]
    exact ⟨hfine.lo, hfine.hi⟩
   ·rw [sizeE]; show 1 ≤ _; omega
   rw [depthE]; show 1 ≤ _; omega
  exact hself
 unfold trimN
 split
 ·rename_i z hz
  split at hz
  ·rename_i h1
   have hc0 := eval_const (c := c) (l := l) h1
   have hp := node_plain (by have := (hkid 0 hkl).1.node; rw [allE_eq, Bool.and_eq_true] at this; exact this.1) h1
   have hg0 : (k.map (evalE c l)).getD 0 (noV, 0) = ((k.getD 0 nullX).val, 0) := by rw [map_getD hkl, hc0]
   have tr : ∀ {v : Val}, (v = boolV true ∨ v = boolV false ∨ v = noV) → truthR (v, 0) = (v, 0) := fun {v} h => by
    rcases h with rfl | rfl | rfl <;> rfl
   unfold chosenM at hz
   split at hz
   ·rename_i h
    injection hz with hz
    subst hz
    simp only [Bool.and_eq_true, beq_iff_eq] at h
    obtain ⟨⟨rfl, rfl⟩, hv⟩ := h
    have h3 : k.length = 3 := by
     rcases call_names (q6 rfl) with ⟨e, _⟩ | ⟨e, _⟩ | ⟨e, _⟩ | ⟨e, _⟩ | ⟨e, _⟩ | ⟨e, _⟩ | ⟨e, _⟩ | ⟨_, e⟩
     all_goals first | exact e | exact absurd (show ifW = _ from e) (by decide)
    refine hpick 1 (by omega) ?_
    rw [hev]
    show callR ifW _ _ _ = _
    rw [hg0, hv, map_getD (show 1 < k.length by omega)]
    rfl
   split at hz
   ·rename_i h
    injection hz with hz
    subst hz
    simp only [Bool.and_eq_true, Bool.or_eq_true, beq_iff_eq] at h
    obtain ⟨⟨rfl, rfl⟩, hv⟩ := h
    have h3 : k.length = 3 := by
     rcases call_names (q6 rfl) with ⟨e, _⟩ | ⟨e, _⟩ | ⟨e, _⟩ | ⟨e, _⟩ | ⟨e, _⟩ | ⟨e, _⟩ | ⟨e, _⟩ | ⟨_, e⟩
     all_goals first | exact e | exact absurd (show ifW = _ from e) (by decide)
    refine hpick 2 (by omega) ?_
    rw [hev]
    show callR ifW _ _ _ = _
    rw [hg0, map_getD (show 2 < k.length by omega)]
    rcases hv with hv | hv <;> rw [hv] <;> rfl
   split at hz
   ·rename_i h
    injection hz with hz
    subst hz
    simp only [Bool.and_eq_true, beq_iff_eq] at h
    obtain ⟨⟨rfl, rfl⟩, hv⟩ := h
    have h3 : k.length = 2 := by
     rcases call_names (q6 rfl) with ⟨e, _⟩ | ⟨e, _⟩ | ⟨e, _⟩ | ⟨e, _⟩ | ⟨_, e⟩ | ⟨e, _⟩ | ⟨e, _⟩ | ⟨e, _⟩
     all_goals first | exact e | exact absurd (show nvlW = _ from e) (by decide)
    refine hpick 1 (by omega) ?_
    rw [hev]
    show callR nvlW ((k.map (evalE c l)).getD 0 (noV, 0)) ((k.map (evalE c l)).getD 1 (noV, 0)) ((k.map (evalE c l)).getD 2 (noV, 0)) = _
    rw [hg0, hv, map_getD (show 1 < k.length by omega)]
    rfl
   rename_i hnull
   split at hz
   ·rename_i h
    injection hz with hz
    subst hz
    have h' := h
    simp only [Bool.and_eq_true, beq_iff_eq] at h
    obtain ⟨rfl, rfl⟩ := h
    have hv : ¬ (k.getD 0 nullX).val.kind = 0 := fun e => hnull (by rw [kind0_no hp e]; rfl)
    refine hpick 0 hkl ?_
    rw [hev]
    show callR nvlW ((k.map (evalE c l)).getD 0 (noV, 0)) ((k.map (evalE c l)).getD 1 (noV, 0)) ((k.map (evalE c l)).getD 2 (noV, 0)) = _
    rw [hg0, hc0]
    unfold callR
    simp only [show (nvlW == ifW) = false from rfl, show (nvlW == isnullW) = false from rfl, Bool.false_eq_true, if_false]
    rw [if_neg (by simp), if_pos (by simpa using hv)]
   split at hz
   ·rename_i h
    injection hz with hz
    subst hz
    simp only [Bool.and_eq_true, Bool.or_eq_true, beq_iff_eq] at h
    obtain ⟨rfl, h⟩ := h
    refine hpick 0 hkl ?_
    rcases h with ⟨rfl, hv⟩ | ⟨rfl, hv⟩
    ·rw [hev]
     show logicR (boolV true) _ _ = _
     rw [hg0, hc0, hv]
     rfl
    rw [hev]
    show logicR (boolV false) _ _ = _
    rw [hg0, hc0, hv]
    rfl
   cases hz
  cases hz
 exact hreck
theorem trim_ok {c : List Col} {l : List Val} (hl : ∀ v ∈ l, Fine v) : ∀ (n : Nat) (x : Expr), sizeE x ≤ n → allE nodeM x = true → allE rngN x = true → TrimOk c l x (trimE x)
 | 0, x, h, _, _ => by rw [sizeE_eq] at h; omega
 | n + 1, x, h, hn, hr => by
  rw [trimE_eq]
  split
  ·exact ⟨rfl, hn, hr, Nat.le_refl _, Nat.le_refl _⟩
  rename_i h0
  have hk0 : x.kids ≠ [] := fun e => h0 (by rw [e]; rfl)
  have hn0 := hn
  rw [allE_eq, Bool.and_eq_true] at hn0
  have hr0 := hr
  rw [allE_eq, Bool.and_eq_true] at hr0
  have ih : ∀ y ∈ x.kids, TrimOk c l y (trimE y) := fun y hy => by
   obtain ⟨i, hi⟩ := List.getElem?_of_mem hy
   obtain ⟨hlt, rfl⟩ := List.getElem?_eq_some_iff.1 hi
   exact trim_ok hl n _ (by have := size_kid x hlt; omega) ((allL_iff _ _).1 hn0.2 _ hy) ((allL_iff _ _).1 hr0.2 _ hy)
  obtain ⟨o, t, v, k⟩ := x
  simp only [Expr.op, Expr.text, Expr.kids] at *
  -- it has kids, so its own value is none
  have hv : v = noV := by
   have hnn := hn0.1
   rw [node_one, nodeOne_mk] at hnn
   split at hnn
   ·rename_i h1
    simp only [Bool.and_eq_true, beq_iff_eq] at hnn
    exact absurd (List.eq_nil_of_length_eq_zero (by have := hnn.2; omega)) hk0
   split at hnn
   ·cases hnn
   rename_i hb; exact bare_no (by simpa using hb)
  subst hv
  have hmem : ∀ y ∈ k.map trimE, ∃ z ∈ k, y = trimE z := fun y hy => by
   obtain ⟨z, hz, rfl⟩ := List.mem_map.1 hy
   exact ⟨z, hz, rfl⟩
  have hn1 : allE nodeM (.mk o t noV (k.map trimE)) = true := by
   rw [allE, Bool.and_eq_true]
   refine ⟨?_, (allL_iff _ _).2 fun y hy => ?_⟩
   ·have hnn := hn0.1
    rw [node_one, nodeOne_mk] at hnn ⊢
    rw [List.length_map]
    exact hnn
   obtain ⟨z, hz, rfl⟩ := hmem y hy
   exact (ih z hz).node
  have hr1 : allE rngN (.mk o t noV (k.map trimE)) = true := by
   rw [allE, Bool.and_eq_true]
   refine ⟨hr0.1, (allL_iff _ _).2 fun y hy => ?_⟩
   obtain ⟨z, hz, rfl⟩ := hmem y hy
   exact (ih z hz).rng
  have hT : TrimOk c l (.mk o t noV k) (.mk o t noV (k.map trimE)) := by
   refine ⟨?_, hn1, hr1, ?_, ?_⟩
   ·rw [evalE, evalE, evalS_eq, evalS_eq]
    show evalN strictM c l o t noV ((k.map trimE).map (evalE c l)) = evalN strictM c l o t noV (k.map (evalE c l))
    have e2 : k.map (evalE c l ∘ trimE) = k.map (evalE c l) := List.map_congr_left fun y hy => (ih y hy).ev
    rw [List.map_map, e2]
   ·rw [sizeE, sizeE]
    have : ∀ r : List Expr, (∀ y ∈ r, y ∈ k) → sizeL (r.map trimE) ≤ sizeL r := fun r => by
     induction r with
     | nil => intro _; exact Nat.le_refl _
     | cons y r ihr =>
      intro hs
      rw [List.map_cons, sizeL, sizeL]
      have h1 := (ih y (hs y List.mem_cons_self)).size
      have h2 := ihr fun z hz => hs z (List.mem_cons_of_mem _ hz)
      omega
    have := this k fun _ h => h
    omega
   rw [depthE, depthE]
   have : ∀ r : List Expr, (∀ y ∈ r, y ∈ k) → depthL (r.map trimE) ≤ depthL r := fun r => by
    induction r with
    | nil => intro _; exact Nat.le_refl _
    | cons y r ihr =>
     intro hs
     rw [List.map_cons, depthL, depthL]
     have h1 := (ih y (hs y List.mem_cons_self)).depth
     have h2 := ihr fun z hz => hs z (List.mem_cons_of_mem _ hz)
     omega
   have := this k fun _ h => h
   omega
  have h2 := trim_node (c := c) hl hn1 hr1 (by simpa using hk0)
  exact hT.of h2.ev h2.node h2.rng h2.size h2.depth
/-- It comes to the same. -/
theorem trim_keeps {x : Expr} (hr : refRightM x = true) (hg : allE rngN x = true) (c : List Col) (l : List Val) (hl : ∀ v ∈ l, -9223372036854775808 ≤ v.n ∧ v.n ≤ 9223372036854775807) : refRightM (trimE x) = true ∧ allE rngN (trimE x) = true ∧ evalM (trimE x) c l = evalM x c l := by
 have hr' := hr
 unfold refRightM at hr'
 simp only [Bool.and_eq_true, decide_eq_true_eq] at hr'
 have h0 := trim_ok (c := []) (l := []) (fun v hv => by cases hv) _ x (Nat.le_refl _) hr'.2 hg
 have hr2 : refRightM (trimE x) = true := by
  unfold refRightM
  simp only [Bool.and_eq_true, decide_eq_true_eq]
  exact ⟨⟨Nat.le_trans h0.depth hr'.1.1, Nat.le_trans h0.size hr'.1.2⟩, h0.node⟩
 refine ⟨hr2, h0.rng, ?_⟩
 cases hrow : rowP c l with
 | false => unfold evalM evalR; rw [hrow]; simp
 | true =>
  rw [eval_of (by rw [exprRight_eq]; exact hr2) hrow, eval_of (by rw [exprRight_eq]; exact hr) hrow]
  exact (trim_ok (row_fine hrow hl) _ x (Nat.le_refl _) hr'.2 hg).ev
set_option maxRecDepth 4000
theorem node_lenT {e : Expr} (h : nodeM e = true) : e.text.length ≤ 1048576 ∧ e.kids.length ≤ 1048576 := by
 cases node_cases h with
 | val v hp h0 => exact ⟨by simp [valX, Expr.text], by simp [valX, Expr.kids]⟩
 | name t ht =>
  refine ⟨?_, by simp [nameE, Expr.kids]⟩
  show t.length ≤ 1048576
  cases t with
  | nil => simp
  | cons c r =>
   simp only [nameM, Bool.and_eq_true, decide_eq_true_eq] at ht
   have := ht.1.1.1
   omega
 | neg a => exact ⟨by simp [oneX, Expr.text], by simp [oneX, Expr.kids]⟩
 | no a => exact ⟨by simp [oneX, Expr.text], by simp [oneX, Expr.kids]⟩
 | bin t a b ht =>
  refine ⟨?_, by simp [binX, Expr.kids]⟩
  show t.length ≤ 1048576
  rcases level_cases t with hm | ⟨hm, _⟩
  ·have h3 : (levels.flatten.all fun s => decide (s.length ≤ 3)) = true := by kernel_rfl
   have := of_decide_eq_true (List.all_eq_true.1 h3 t hm)
   omega
  omega
 | call t k ha =>
  rcases call_names ha with ⟨e1, e⟩ | ⟨e1, e⟩ | ⟨e1, e⟩ | ⟨e1, e⟩ | ⟨e1, e⟩ | ⟨e1, e⟩ | ⟨e1, e⟩ | ⟨e1, e⟩ <;> subst e1 <;> exact ⟨by simp [Expr.text, isnullW, nvlW, ifW], by show k.length ≤ _; omega⟩
theorem depth_memT : ∀ {l : List Expr} {y : Expr}, y ∈ l → depthE y ≤ depthL l := depth_in
theorem node_okT : ∀ (n : Nat) (e : Expr), depthE e ≤ n → allE nodeM e = true → okE n e
 | 0, e, h, _ => by rw [depthE_eq] at h; omega
 | n + 1, e, h, hn => by
  rw [allE_eq, Bool.and_eq_true] at hn
  rw [depthE_eq] at h
  have hs := node_lenT hn.1
  exact ⟨hs.1, hs.2, fun y hy => node_okT n y (by have := depth_memT hy; omega) ((allL_iff _ _).1 hn.2 y hy)⟩
theorem getE_at {ks : List Expr} {i : Nat} (h : i < ks.length) : (ks.map exprA)[i]? = some (exprA (ks.getD i nullX)) := by
 rw [List.getElem?_map, List.getElem?_eq_getElem h, List.getD_eq_getElem?_getD, List.getElem?_eq_getElem h]
 rfl
/-! trim: what is no value. -/
def noC (k : Expr) : Bool := !(k.op == 1)
def cidxM (ks : List Expr) : Int := if ks.any noC then (ks.findIdx noC : Nat) else -1
theorem cidx_at {ks : List Expr} {x : Nat} (h : x < ks.length) (hx : noC ks[x] = true) (hp : ∀ (j : Nat) (y : Expr), j < x → ks[j]? = some y → ¬ noC y = true) : cidxM ks = (x : Int) := by
 unfold cidxM
 rw [if_pos (List.any_eq_true.2 ⟨_, List.getElem_mem h, hx⟩)]
 congr 1
 rw [List.findIdx_eq h]
 exact ⟨hx, fun j hj => by have := hp j ks[j] hj (List.getElem?_eq_getElem (by omega)); simpa using this⟩
theorem cidx_none {ks : List Expr} (hp : ∀ (j : Nat) (y : Expr), ks[j]? = some y → ¬ noC y = true) : cidxM ks = -1 := by
 unfold cidxM
 rw [if_neg]
 intro h
 obtain ⟨y, hy, hn⟩ := List.any_eq_true.1 h
 obtain ⟨j, hj⟩ := List.getElem?_of_mem hy
 exact hp j y hj hn
theorem cidx_any (ks : List Expr) : decide (0 ≤ cidxM ks) = ks.any noC := by
 unfold cidxM
 cases ks.any noC <;> simp
theorem val_is (v : Val) (k n : Int) (s : Str) : (v.kind == k && v.n == n && v.s == s) = (v == ⟨k, n, s⟩) := by
 obtain ⟨a, b, c⟩ := v
 rw [Bool.eq_iff_iff]
 simp [Val.mk.injEq, and_assoc]
theorem okE_kids {n : Nat} {x : Expr} (h : okE n x) : x.kids.length ≤ 1048576 := by
 cases n with
 | zero => exact h.elim
 | succ n => exact h.2.1
theorem c46 (x : Expr) (Hp : List AObj) : AFun Tryz.prog 46 [exprA x] Hp (boolA (x.op == 1)) := by
 refine ACall.body [.tmp 2] [0] Tryz.func46 Tryz.ntmps46 (fun d => ?_)
 refine Z156 ?_;refine Z249 ?_;exact Z224

theorem c91 (v : Val) (Hp : List AObj) : AFun Tryz.prog 91 [valA v] Hp (exprA (valX v)) := by
 refine ACall.body [.cell 2 26] [0] Tryz.func91 Tryz.ntmps91 (fun d => ?_)
 refine Z37 ?_;refine Z359 ?_;refine Z55 ?_;refine Z301 ?_;exact Z275

theorem c90 (k : Expr) (Hp : List AObj) : AFun Tryz.prog 90 [exprA k] Hp (boolA (noC k)) := by
 refine ACall.body [.tmp 2] [0] Tryz.func90 Tryz.ntmps90 (fun d => ?_)
 refine Z156 ?_;refine Z55 ?_;refine R.call Tryz.call46 (c46 k _) ?_;refine R.not ?_;exact Z253

theorem c108 (ks : List Expr) (hkl : ks.length ≤ 1048576) (Hp : List AObj) : AFun Tryz.prog 108 [.slice false 6 (ks.map exprA), .fn (.func 90) [] []] Hp (intA (cidxM ks)) := by
 refine ACall.body [.tmp 4] [0, 1] Tryz.func108 Tryz.ntmps108 (fun d => ?_)
 refine Z140 ?_;refine Z14 ?_;refine Z150 ?_;refine R.fin [0, 1, 7, 8] ?_
 refine AW.loopC (α := Nat) (fun x => ⟨19, setF 0 (.slice false 6 (ks.map exprA)) (setF 1 (.fn (.func 90) [] []) (setF 7 (intA ks.length) (setF 8 (intA (x : Nat)) (fun _ => .any)))), Hp, [], [], none⟩) (fun x => x ≤ ks.length ∧ ∀ (j : Nat) (y : Expr), j < x → ks[j]? = some y → ¬ noC y = true) (fun x => ks.length - x) (0) (by simp) (StLe.of_eq (by simp)) rfl (fun x hx => ?_)
 refine Z166 ?_;refine R.fin [0, 1, 7, 8, 9] ?_
 refine W.condX (fun ht9 => ?_) (fun ht9 => ?_)
 ·have hlt : x < ks.length := by simpa using ht9
  refine Z180 ?_;refine Z404 ?_;refine R.fin [0, 1, 5, 7, 8] ?_;refine Z44 ?_;refine Z405 ?_;refine R.indexAddr (x) (exprA ks[x]) jU jS (getMap hlt) ?_;refine Z407 ?_;refine R.callV Tryz.call90 (c90 ks[x] _) ?_;refine R.fin [0, 1, 5, 7, 8, 16] ?_
  refine W.cond (fun ht16 => ?_) (fun ht16 => ?_)
  ·refine Z0 ?_;refine Z147 ?_;refine Z123 ?_;exact K.fin (V.one V.tmp) ⟨by rw [cidx_at hlt ht16 hx.2], rfl⟩
  refine Z238 ?_;refine R.fin [0, 1, 7, 8] ?_;exact K.lpN (x + 1) ⟨hlt, upto_succ hlt hx.2 (by rw [ht16]; simp)⟩ (by omega) (StCut.of_eq rfl)
 refine Z48 ?_;refine Z113 ?_;exact K.fin (V.one V.tmp) ⟨by rw [cidx_none (upto_all (by simp at ht9; omega) hx.2)], rfl⟩

theorem c89 (ks : List Expr) (hkl : ks.length ≤ 1048576) (Hp : List AObj) : AFun Tryz.prog 89 [.slice false 6 (ks.map exprA), .fn (.func 90) [] []] Hp (boolA (ks.any noC)) := by
 refine ACall.body [.tmp 4] [0, 1] Tryz.func89 Tryz.ntmps89 (fun d => ?_)
 refine Z140 ?_;refine Z44 ?_;refine R.call Tryz.call108 (c108 ks hkl _) ?_;refine R.geq ?_;refine Z147 ?_;exact K.fin (V.one V.tmp) ⟨by rw [← cidx_any]; try rfl, rfl⟩

theorem ev_nil {n : Nat} {x : Expr} (hok : okE n x) (hn : n ≤ 1048576) (hrg : allE rngN x = true) (Hp : List AObj) : AFun Tryz.prog 10 [exprA x, .nil, .nil] Hp (resA (evalM x [] [])) := by
 have := c10 n x hok hn hrg [] ⟨by decide, by decide⟩ [] (by decide) (fun v hv => by cases hv) Hp
 refine ACall.argLe this rfl fun i y y' h1 h2 => ?_
 match i with
 | 0 => simp at h1 h2; subst h1; subst h2; exact .refl _
 | 1 => simp at h1 h2; subst h1; subst h2; exact .nil false 2
 | 2 => simp at h1 h2; subst h1; subst h2; exact .nil false 3
 | i + 3 => simp at h1
def optA (o : Option Expr) : AV := .tup [exprA (o.getD nullX), boolA o.isSome]
theorem reck_1 {x : Expr} (h : x.kids.any noC = true) : reckM x = none := if_pos h
theorem reck_2 {x : Expr} (h : x.kids.any noC = false) (h2 : (((evalM x [] []).2 != 0) || (((evalM x [] []).1.kind == 1) && decide ((evalM x [] []).1.n < 0))) = true) : reckM x = none := by
 unfold reckM
 rw [if_neg (fun e => by rw [show (x.kids.any fun k => !(k.op == 1)) = x.kids.any noC from rfl, h] at e; cases e), if_pos h2]
theorem reck_3 {x : Expr} (h : x.kids.any noC = false) (h2 : (((evalM x [] []).2 != 0) || (((evalM x [] []).1.kind == 1) && decide ((evalM x [] []).1.n < 0))) = false) : reckM x = some (valX (evalM x [] []).1) := by
 unfold reckM
 rw [if_neg (fun e => by rw [show (x.kids.any fun k => !(k.op == 1)) = x.kids.any noC from rfl, h] at e; cases e), if_neg (by rw [h2]; simp)]
theorem c68 (n : Nat) (x : Expr) (hok : okE n x) (hn : n ≤ 1048576) (hrg : allE rngN x = true) (Hp : List AObj) : AFun Tryz.prog 68 [exprA x] Hp (optA (reckM x)) := by
 have hkl := (okE_kids hok)
 refine ACall.body [.cell 2 26, .tmp 3] [0] Tryz.func68 Tryz.ntmps68 (fun d => ?_)
 refine Z339 ?_;refine Z11 ?_;refine Z16 ?_;refine R.call Tryz.call89 (c89 x.kids hkl _) ?_;refine R.fin [1, 2, 8] ?_
 refine W.cond (fun ht8 => ?_) (fun ht8 => ?_)
 ·refine Z81 ?_;refine R.wk 9 _ nullX_le ?_;refine Z118 ?_;refine K.thR ?_;exact K.fin (V.two (V.cellN jA jS) V.tmp) ⟨by rw [reck_1 ht8]; simp only [optA, Option.getD_some, Option.getD_none, exprA_eq]; try rfl, rfl⟩ (hlow := by simp [exprA_low])
 refine Z211 ?_;refine R.call Tryz.call10 (ev_nil hok hn hrg _) ?_;refine Z112 ?_;refine R.fin [2, 4, 5] ?_;refine Z98 ?_;refine Z405 ?_;refine Z142 ?_;refine G.move ?_;refine Z63 ?_;refine G.lss ?_;refine Z213 ?_;refine R.fin [2, 4, 26] ?_
 refine W.cond (fun ht26 => ?_) (fun ht26 => ?_)
 ·refine Z81 ?_;refine R.wk 27 _ nullX_le ?_;refine Z118 ?_;refine K.thR ?_;exact K.fin (V.two (V.cellN jA jS) V.tmp) ⟨by rw [reck_2 ht8 ht26]; simp only [optA, Option.getD_some, Option.getD_none, exprA_eq]; try rfl, rfl⟩ (hlow := by simp [exprA_low])
 refine Z154 ?_;refine R.call Tryz.call91 (c91 (evalM x [] []).1 _) ?_;refine Z118 ?_;exact K.fin (V.two (V.cellN jA jS) V.tmp) ⟨by rw [reck_3 ht8 ht26]; simp only [optA, Option.getD_some, Option.getD_none, exprA_eq]; try rfl, rfl⟩ (hlow := by simp [exprA_low])

section
variable {o : Int} {t : Str} {ks : List Expr}
theorem ch_1 (h : ((((o == 6) && (t == ifW)) && ((ks.getD 0 nullX).val == boolV true))) = true) : chosenM o t ks = some (ks.getD 1 nullX) := if_pos h
theorem ch_2 (h1 : ((((o == 6) && (t == ifW)) && ((ks.getD 0 nullX).val == boolV true))) = false) (h : (((o == 6) && (t == ifW)) && (((ks.getD 0 nullX).val == boolV false) || ((ks.getD 0 nullX).val == noV))) = true) : chosenM o t ks = some (ks.getD 2 nullX) := by
 unfold chosenM
 rw [if_neg (by rw [h1]; simp), if_pos h]
theorem ch_3 (h1 : ((((o == 6) && (t == ifW)) && ((ks.getD 0 nullX).val == boolV true))) = false) (h2 : (((o == 6) && (t == ifW)) && (((ks.getD 0 nullX).val == boolV false) || ((ks.getD 0 nullX).val == noV))) = false) (h : (((o == 6) && (t == nvlW)) && ((ks.getD 0 nullX).val == noV)) = true) : chosenM o t ks = some (ks.getD 1 nullX) := by
 unfold chosenM
 rw [if_neg (by rw [h1]; simp), if_neg (by rw [h2]; simp), if_pos h]
theorem ch_4 (h1 : ((((o == 6) && (t == ifW)) && ((ks.getD 0 nullX).val == boolV true))) = false) (h2 : (((o == 6) && (t == ifW)) && (((ks.getD 0 nullX).val == boolV false) || ((ks.getD 0 nullX).val == noV))) = false) (h3 : (((o == 6) && (t == nvlW)) && ((ks.getD 0 nullX).val == noV)) = false) (h : ((o == 6) && (t == nvlW)) = true) : chosenM o t ks = some (ks.getD 0 nullX) := by
 unfold chosenM
 rw [if_neg (by rw [h1]; simp), if_neg (by rw [h2]; simp), if_neg (by rw [h3]; simp), if_pos h]
theorem ch_5 (h1 : ((((o == 6) && (t == ifW)) && ((ks.getD 0 nullX).val == boolV true))) = false) (h2 : (((o == 6) && (t == ifW)) && (((ks.getD 0 nullX).val == boolV false) || ((ks.getD 0 nullX).val == noV))) = false) (h3 : (((o == 6) && (t == nvlW)) && ((ks.getD 0 nullX).val == noV)) = false) (h4 : ((o == 6) && (t == nvlW)) = false) (h : ((o == 5) && (((t == orW) && ((ks.getD 0 nullX).val == boolV true)) || ((t == andW) && ((ks.getD 0 nullX).val == boolV false)))) = true) : chosenM o t ks = some (ks.getD 0 nullX) := by
 unfold chosenM
 rw [if_neg (by rw [h1]; simp), if_neg (by rw [h2]; simp), if_neg (by rw [h3]; simp), if_neg (by rw [h4]; simp), if_pos h]
theorem ch_6 (h1 : ((((o == 6) && (t == ifW)) && ((ks.getD 0 nullX).val == boolV true))) = false) (h2 : (((o == 6) && (t == ifW)) && (((ks.getD 0 nullX).val == boolV false) || ((ks.getD 0 nullX).val == noV))) = false) (h3 : (((o == 6) && (t == nvlW)) && ((ks.getD 0 nullX).val == noV)) = false) (h4 : ((o == 6) && (t == nvlW)) = false) (h : ((o == 5) && (((t == orW) && ((ks.getD 0 nullX).val == boolV true)) || ((t == andW) && ((ks.getD 0 nullX).val == boolV false)))) = false) : chosenM o t ks = none := by
 unfold chosenM
 rw [if_neg (by rw [h1]; simp), if_neg (by rw [h2]; simp), if_neg (by rw [h3]; simp), if_neg (by rw [h4]; simp), if_neg (by rw [h]; simp)]
end
theorem and3_len {a b c : Bool} (h : ((a && b) && c) = true) : (a && b) = true := by cases a <;> cases b <;> simp_all
theorem c67 (x : Expr) (h0 : 0 < x.kids.length) (h3 : ((x.op == 6) && (x.text == ifW)) = true → x.kids.length = 3) (h2 : ((x.op == 6) && (x.text == nvlW)) = true → x.kids.length = 2) (Hp : List AObj) : AFun Tryz.prog 67 [exprA x] Hp (optA (chosenM x.op x.text x.kids)) := by
 refine ACall.body [.cell 2 26, .tmp 3] [0] Tryz.func67 Tryz.ntmps67 (fun d => ?_)
 refine Z339 ?_;refine Z220 ?_;refine Z96 ?_;refine Z22 ?_;refine R.fin [1, 2, 4] ?_;refine Z159 ?_;refine D.call Tryz.call30 (c30 true _) ?_;refine D.tail ?_;refine R.eqlAgg eg23 (fun w => equal23 (x.kids.getD 0 nullX).val.kind (x.kids.getD 0 nullX).val.n 3 1 (x.kids.getD 0 nullX).val.s [] w) ?_;refine Z404 ?_;refine R.fin [1, 2, 4, 5] ?_;refine Z159 ?_;refine D.call Tryz.call30 (c30 false _) ?_;refine D.tail ?_;refine R.eqlAgg eg23 (fun w => equal23 (x.kids.getD 0 nullX).val.kind (x.kids.getD 0 nullX).val.n 3 0 (x.kids.getD 0 nullX).val.s [] w) ?_;refine Z404 ?_;refine R.fin [1, 2, 4, 5, 6] ?_;refine Z159 ?_;refine D.call Tryz.call52 (c52 _) ?_;refine D.tail ?_;refine R.eqlAgg eg23 (fun w => equal23 (x.kids.getD 0 nullX).val.kind (x.kids.getD 0 nullX).val.n 0 0 (x.kids.getD 0 nullX).val.s [] w) ?_;refine Z404 ?_;refine R.fin [1, 2, 5, 6, 7] ?_;refine Z279 ?_
 rw [val_is, val_is, val_is]
 refine Z8 ?_;refine Z247 ?_;refine Z164 ?_;refine Z32 ?_;refine R.fin [1, 2, 5, 6, 7, 22] ?_
 refine W.cond (fun ht22 => ?_) (fun ht22 => ?_)
 ·have hq1 : (((x.op == 6) && (x.text == ifW)) && ((x.kids.getD 0 nullX).val == boolV true)) = true := ht22
  refine Z134 ?_
  refine R.indexAddr (1) (exprA (x.kids.getD 1 nullX)) jU jS (getE_at (by have := h3 (and3_len hq1); omega)) ?_
  refine Z292 ?_;exact K.fin (V.two (V.cellN jA jS) V.tmp) ⟨by rw [ch_1 hq1]; simp only [optA, Option.getD_some, exprA_eq]; try rfl, rfl⟩ (hlow := by simp [exprA_low])
 have hn1 : (((x.op == 6) && (x.text == ifW)) && ((x.kids.getD 0 nullX).val == boolV true)) = false := ht22
 refine Z319 ?_;refine Z398 ?_;refine Z114 ?_;refine G.move ?_;refine G.pickOr ?_;refine Z32 ?_;refine R.fin [1, 2, 5, 6, 7, 38] ?_
 refine W.cond (fun ht38 => ?_) (fun ht38 => ?_)
 ·have hq2 : (((x.op == 6) && (x.text == ifW)) && (((x.kids.getD 0 nullX).val == boolV false) || ((x.kids.getD 0 nullX).val == noV))) = true := ht38
  refine Z134 ?_
  refine R.indexAddr (2) (exprA (x.kids.getD 2 nullX)) jU jS (getE_at (by have := h3 (and3_len hq2); omega)) ?_
  refine Z292 ?_;exact K.fin (V.two (V.cellN jA jS) V.tmp) ⟨by rw [ch_2 hn1 hq2]; simp only [optA, Option.getD_some, exprA_eq]; try rfl, rfl⟩ (hlow := by simp [exprA_low])
 have hn2 : (((x.op == 6) && (x.text == ifW)) && (((x.kids.getD 0 nullX).val == boolV false) || ((x.kids.getD 0 nullX).val == noV))) = false := ht38
 refine Z319 ?_;refine Z164 ?_;refine Z32 ?_;refine R.fin [1, 2, 5, 6, 57] ?_
 refine W.cond (fun ht57 => ?_) (fun ht57 => ?_)
 ·have hq3 : (((x.op == 6) && (x.text == nvlW)) && ((x.kids.getD 0 nullX).val == noV)) = true := ht57
  refine Z134 ?_
  refine R.indexAddr (1) (exprA (x.kids.getD 1 nullX)) jU jS (getE_at (by have := h2 (and3_len hq3); omega)) ?_
  refine Z292 ?_;exact K.fin (V.two (V.cellN jA jS) V.tmp) ⟨by rw [ch_3 hn1 hn2 hq3]; simp only [optA, Option.getD_some, exprA_eq]; try rfl, rfl⟩ (hlow := by simp [exprA_low])
 have hn3 : (((x.op == 6) && (x.text == nvlW)) && ((x.kids.getD 0 nullX).val == noV)) = false := ht57
 refine Z319 ?_;refine Z32 ?_;refine R.fin [1, 2, 5, 6, 73] ?_
 refine W.cond (fun ht73 => ?_) (fun ht73 => ?_)
 ·refine Z220 ?_;refine Z292 ?_;exact K.fin (V.two (V.cellN jA jS) V.tmp) ⟨by rw [ch_4 hn1 hn2 hn3 ht73]; simp only [optA, Option.getD_some, exprA_eq]; try rfl, rfl⟩ (hlow := by simp [exprA_low])
 refine Z319 ?_;refine Z374 ?_;refine G.pickAnd ?_;refine G.move ?_;refine Z128 ?_;refine Z374 ?_;refine G.pickAnd ?_;refine G.pickOr ?_;refine Z32 ?_;refine R.fin [1, 2, 86] ?_
 refine W.cond (fun ht86 => ?_) (fun ht86 => ?_)
 ·refine Z220 ?_;refine Z292 ?_;exact K.fin (V.two (V.cellN jA jS) V.tmp) ⟨by rw [ch_5 hn1 hn2 hn3 ht73 ht86]; simp only [optA, Option.getD_some, exprA_eq]; try rfl, rfl⟩ (hlow := by simp [exprA_low])
 refine Z30 ?_;refine Z81 ?_;refine R.wk 110 _ nullX_le ?_;refine Z118 ?_;exact K.fin (V.two (V.cellN jA jS) V.tmp) ⟨by rw [ch_6 hn1 hn2 hn3 ht73 ht86]; simp only [optA, Option.getD_some, Option.getD_none, exprA_eq]; try rfl, rfl⟩ (hlow := by simp [exprA_low])

/-- Who takes what kids yield: item k at U k, never an end. -/
structure Takes1 (P : Program) (l : Nat) (L : List Expr) (U : Nat → List AObj) (n0 : Nat) : Prop where
 lenU : ∀ k, (U k).length = n0
 lowU : ∀ k, ∀ x ∈ U k, ObjLow n0 x
 lt : l < n0
 y : ∀ (X : List AObj) (k : Nat) (z : Expr), L[k]? = some z → AYield P l [exprA z] (U k ++ X) (fun b H' => b = true ∧ H' = U (k + 1) ++ X)
abbrev yo (own : Bool) (o : Int) (t : Str) (ks : List Expr) : AObj := .cells 26 [intA o, strA t, intA 0, intA 0, strA [], .slice own 6 (ks.map exprA)]
theorem low_yo {n : Nat} {own : Bool} {o : Int} {t : Str} {ks : List Expr} : ObjLow n (yo own o t ks) := by
 show ∀ z ∈ [intA o, strA t, intA 0, intA 0, strA [], AV.slice own 6 (ks.map exprA)], Low n z
 intro z hz
 simp only [List.mem_cons, List.not_mem_nil, or_false] at hz
 rcases hz with rfl | rfl | rfl | rfl | rfl | rfl
 all_goals first | exact low_exprs | simp
theorem snocE (ks : List Expr) (x : Expr) : ks.map exprA ++ [.agg [.v (.int .i64 x.op), .v (sv x.text), .v (.int .i64 x.val.kind), .v (.int .i64 x.val.n), .v (sv x.val.s), .slice false 6 (x.kids.map exprA)]] = (ks ++ [x]).map exprA := by rw [List.map_append, List.map_cons, List.map_nil, exprA_eq x]
theorem c66 (x : Expr) (Hp : List AObj) : AFun Tryz.prog 66 [exprA x] Hp (.fn (.func 88) [] [.ro (exprC x)]) := by
 refine ACall.body [.tmp 2] [0] Tryz.func66 Tryz.ntmps66 (fun d => ?_)
 refine Z336 ?_;refine R.makeFunc ?_;refine Z78 ?_;exact K.fin (V.one V.tmp) (hlow := by have := exprA_low Hp.length x; rw [exprA_eq] at this; simpa using this)

theorem c88 {l : Nat} {x : Expr} {U : Nat → List AObj} {n0 : Nat} (T : Takes1 Tryz.prog l (x.kids.map trimE) U n0) (hkl : x.kids.length ≤ 1048576) (ih : ∀ y ∈ x.kids, ∀ Hp : List AObj, AFun Tryz.prog 45 [exprA y] Hp (exprA (trimE y))) : ACall Tryz.prog 88 [.yield l, .ro (exprC x)] (U 0) (fun r H' => H' = U x.kids.length) := by
 refine ACall.body [] [0, 1] Tryz.func88 Tryz.ntmps88 (fun d => ?_)
 refine Z134 ?_;refine Z150 ?_;refine R.fin [0, 6, 7, 8] ?_
 refine AW.loopC (α := Nat) (fun k => ⟨18, setF 0 (.yield l) (setF 6 (.slice false 6 (x.kids.map exprA)) (setF 7 (intA x.kids.length) (setF 8 (intA (k : Nat)) (fun _ => .any)))), U k, [], [], none⟩) (fun k => k ≤ x.kids.length) (fun k => x.kids.length - k) (0) (Nat.zero_le _) (StLe.of_eq (by simp)) rfl (fun k hx => ?_)
 refine Z166 ?_;refine R.fin [0, 6, 7, 8, 9] ?_
 refine W.condX (fun ht9 => ?_) (fun ht9 => ?_)
 ·have hlt : k < x.kids.length := by simpa using ht9
  refine Z279 ?_;refine R.indexAddr (k) (exprA x.kids[k]) jU jS (getMap hlt) ?_;refine Z407 ?_;refine Z22 ?_;refine R.fin [0, 4, 6, 7, 8] ?_;refine Z0 ?_;refine Z430 ?_;refine R.call Tryz.call45 (ih x.kids[k] (List.getElem_mem hlt) _) ?_
  refine R.yield (T.y _ k (trimE x.kids[k]) (by rw [List.getElem?_map, List.getElem?_eq_getElem hlt]; rfl)) ?_
  intro b Vv O hV hb
  obtain ⟨rfl, hH⟩ := hb
  obtain ⟨rfl, rfl⟩ := List.append_inj hH (by rw [hV, T.lenU, T.lenU])
  refine ⟨fun _ => by rw [T.lenU]; exact T.lowU _, fun o ho => by simp at ho, ?_⟩
  refine R.not ?_;refine R.fin [0, 6, 7, 8, 16] ?_
  refine W.cond (fun ht16 => ?_) (fun ht16 => ?_)
  ·cases ht16
  refine Z238 ?_;refine R.fin [0, 6, 7, 8] ?_;refine K.lpN (k + 1) hlt (by omega) ?_
  exact StCut.take (own := []) (fun _ => .refl _) (by repeat (first | exact lowF_any | refine lowF_set (by first | exact low_exprs | (simp; done) | (have := T.lt; simp [T.lenU]; omega)) ?_)) (by simp) (by simp)
 have hke : k = x.kids.length := by simp at ht9; omega
 refine K.lpE ?_;exact K.finN .nores (hp := by rw [hke])

theorem trimE_0 {x : Expr} (h : ((x.kids.length : Int) == 0) = true) : trimE x = x := by rw [trimE_eq, if_pos h]
theorem trimE_1 {x : Expr} (h : ((x.kids.length : Int) == 0) = false) : trimE x = trimN x.op x.text (x.kids.map trimE) := by rw [trimE_eq, if_neg (by rw [h]; simp)]
section
variable {o : Int} {t : Str} {ks : List Expr}
theorem tN_1 {z : Expr} (h : ((ks.getD 0 nullX).op == 1) = true) (hc : chosenM o t ks = some z) : trimN o t ks = z := by unfold trimN; rw [if_pos h, hc]
theorem tN_2 {z : Expr} (h : ((ks.getD 0 nullX).op == 1) = true) (hc : chosenM o t ks = none) (hr : reckM (.mk o t noV ks) = some z) : trimN o t ks = z := by unfold trimN; rw [if_pos h, hc]; simp only; rw [hr]
theorem tN_3 (h : ((ks.getD 0 nullX).op == 1) = true) (hc : chosenM o t ks = none) (hr : reckM (.mk o t noV ks) = none) : trimN o t ks = .mk o t noV ks := by unfold trimN; rw [if_pos h, hc]; simp only; rw [hr]
theorem tN_4 {z : Expr} (h : ((ks.getD 0 nullX).op == 1) = false) (hr : reckM (.mk o t noV ks) = some z) : trimN o t ks = z := by unfold trimN; rw [if_neg (by rw [h]; simp)]; simp only; rw [hr]
theorem tN_5 (h : ((ks.getD 0 nullX).op == 1) = false) (hr : reckM (.mk o t noV ks) = none) : trimN o t ks = .mk o t noV ks := by unfold trimN; rw [if_neg (by rw [h]; simp)]; simp only; rw [hr]
end
theorem opt_some {o : Option Expr} (h : o.isSome = true) : o = some (o.getD nullX) := by cases o <;> simp at h ⊢
theorem opt_none {o : Option Expr} (h : o.isSome = false) : o = none := by cases o <;> simp at h ⊢
theorem trim_kids {x : Expr} (hn : allE nodeM x = true) (hr : allE rngN x = true) (hk : 0 < x.kids.length) : allE nodeM (.mk x.op x.text noV (x.kids.map trimE)) = true ∧ allE rngN (.mk x.op x.text noV (x.kids.map trimE)) = true ∧ sizeE (.mk x.op x.text noV (x.kids.map trimE)) ≤ sizeE x ∧ depthE (.mk x.op x.text noV (x.kids.map trimE)) ≤ depthE x := by
 have h0 := hn
 rw [allE_eq, Bool.and_eq_true] at h0
 have h1 := hr
 rw [allE_eq, Bool.and_eq_true] at h1
 have ih : ∀ y ∈ x.kids, TrimOk [] [] y (trimE y) := fun y hy => trim_ok (fun v hv => by cases hv) _ y (Nat.le_refl _) ((allL_iff _ _).1 h0.2 y hy) ((allL_iff _ _).1 h1.2 y hy)
 obtain ⟨o, t, v, k⟩ := x
 simp only [Expr.op, Expr.text, Expr.kids] at *
 have hv : v = noV := by
  have hnn := h0.1
  rw [node_one, nodeOne_mk] at hnn
  split at hnn
  ·simp only [Bool.and_eq_true, beq_iff_eq] at hnn
   have := hnn.2
   omega
  split at hnn
  ·cases hnn
  rename_i hb; exact bare_no (by simpa using hb)
 subst hv
 have hmem : ∀ y ∈ k.map trimE, ∃ z ∈ k, y = trimE z := fun y hy => by
  obtain ⟨z, hz, rfl⟩ := List.mem_map.1 hy
  exact ⟨z, hz, rfl⟩
 refine ⟨?_, ?_, ?_, ?_⟩
 ·rw [allE, Bool.and_eq_true]
  refine ⟨?_, (allL_iff _ _).2 fun y hy => ?_⟩
  ·have hnn := h0.1
   rw [node_one, nodeOne_mk] at hnn ⊢
   rw [List.length_map]
   exact hnn
  obtain ⟨z, hz, rfl⟩ := hmem y hy
  exact (ih z hz).node
 ·rw [allE, Bool.and_eq_true]
  refine ⟨h1.1, (allL_iff _ _).2 fun y hy => ?_⟩
  obtain ⟨z, hz, rfl⟩ := hmem y hy
  exact (ih z hz).rng
 ·rw [sizeE, sizeE]
  have : ∀ r : List Expr, (∀ y ∈ r, y ∈ k) → sizeL (r.map trimE) ≤ sizeL r := fun r => by
   induction r with
   | nil => intro _; exact Nat.le_refl _
   | cons y r ihr =>
    intro hs
    rw [List.map_cons, sizeL, sizeL]
    have h1 := (ih y (hs y List.mem_cons_self)).size
    have h2 := ihr fun z hz => hs z (List.mem_cons_of_mem _ hz)
    omega
  have := this k fun _ h => h
  omega
 rw [depthE, depthE]
 have : ∀ r : List Expr, (∀ y ∈ r, y ∈ k) → depthL (r.map trimE) ≤ depthL r := fun r => by
  induction r with
  | nil => intro _; exact Nat.le_refl _
  | cons y r ihr =>
   intro hs
   rw [List.map_cons, depthL, depthL]
   have h1 := (ih y (hs y List.mem_cons_self)).depth
   have h2 := ihr fun z hz => hs z (List.mem_cons_of_mem _ hz)
   omega
 have := this k fun _ h => h
 omega
theorem trim_lens {o : Int} {t : Str} {ks : List Expr} (hn : allE nodeM (.mk o t noV ks) = true) : (((o == 6) && (t == ifW)) = true → ks.length = 3) ∧ (((o == 6) && (t == nvlW)) = true → ks.length = 2) := by
 rw [allE, Bool.and_eq_true] at hn
 obtain ⟨q5, q34, q6, qall⟩ := kids_len hn.1
 refine ⟨fun h => ?_, fun h => ?_⟩
 ·simp only [Bool.and_eq_true, beq_iff_eq] at h
  obtain ⟨rfl, rfl⟩ := h
  rcases call_names (q6 rfl) with ⟨e, _⟩ | ⟨e, _⟩ | ⟨e, _⟩ | ⟨e, _⟩ | ⟨e, _⟩ | ⟨e, _⟩ | ⟨e, _⟩ | ⟨_, e⟩
  all_goals first | exact e | exact absurd (show ifW = _ from e) (by decide)
 simp only [Bool.and_eq_true, beq_iff_eq] at h
 obtain ⟨rfl, rfl⟩ := h
 rcases call_names (q6 rfl) with ⟨e, _⟩ | ⟨e, _⟩ | ⟨e, _⟩ | ⟨e, _⟩ | ⟨_, e⟩ | ⟨e, _⟩ | ⟨e, _⟩ | ⟨e, _⟩
 all_goals first | exact e | exact absurd (show nvlW = _ from e) (by decide)
theorem c45  : ∀ (n : Nat) (x : Expr), okE n x → n ≤ 1000000 → allE nodeM x = true → allE rngN x = true → ∀ Hp : List AObj, AFun Tryz.prog 45 [exprA x] Hp (exprA (trimE x)) := by
 intro n
 induction n with
 | zero => exact fun x h => h.elim
 | succ n ih =>
 intro x hok hn hnode hrng Hp
 have hih : ∀ y ∈ x.kids, ∀ Hp : List AObj, AFun Tryz.prog 45 [exprA y] Hp (exprA (trimE y)) := fun y hy => ih y (hok.2.2 y hy) (by omega) (by rw [allE_eq, Bool.and_eq_true] at hnode; exact (allL_iff _ _).1 hnode.2 y hy) (by rw [allE_eq, Bool.and_eq_true] at hrng; exact (allL_iff _ _).1 hrng.2 y hy)
 refine ACall.body [.cell 2 26] [0, 4] Tryz.func45 Tryz.ntmps45 (fun d => ?_)
 refine Z37 ?_;refine Z420 ?_;refine R.fin [1, 2, 4] ?_;refine Z11 ?_;refine Z16 ?_;refine R.len jU ?_;refine R.eql ?_;refine R.fin [1, 2, 4, 12] ?_
 refine W.cond (fun ht12 => ?_) (fun ht12 => ?_)
 ·rw [List.length_map] at ht12
  refine Z55 ?_;refine Z133 ?_;exact K.fin (V.one (V.cellN jA jS)) ⟨by rw [trimE_0 ht12]; simp only [exprA_eq]; try rfl, rfl⟩ (hlow := by simp [exprA_low])
 rw [List.length_map] at ht12
 have hte := trimE_1 ht12
 have hk1 : 0 < x.kids.length := by
  cases hk : x.kids with
  | nil => rw [hk] at ht12; cases ht12
  | cons a r => simp
 have hk0 : 0 < (x.kids.map trimE).length := by simpa using hk1
 obtain ⟨hyn, hyr, hys, hyd⟩ := trim_kids hnode hrng hk1
 obtain ⟨hy3, hy2⟩ := trim_lens hyn
 have hyok : okE (n + 1) (Expr.mk x.op x.text noV (x.kids.map trimE)) := node_okT (n + 1) _ (Nat.le_trans hyd (okE_depth _ _ hok)) hyn
 refine Z38 ?_;refine Z8 ?_;refine Z15 ?_;refine Z192 ?_;refine R.fin [1, 2, 3, 4] ?_;refine Z11 ?_;refine R.nilCell 1 5 6 ?_
 refine R.assumeLow (fun hlow => ?_)
 refine Z407 ?_;refine R.call Tryz.call66 (c66 x _) ?_;refine R.fin [2, 3, 4, 20] ?_;refine AW.block ?_
 refine W.rangeV (m := 2) Tryz.call88 (fun FR as' bd' hFR has hbd => ?_)
 have hFRl : ∀ s, Low (Hp.length + 4) (FR s) := by
  intro s
  rw [hFR]
  refine Low.strip ?_
  revert s
  repeat (first | exact lowF_any | refine lowF_set (by first | exact low_roE | (simp [oid, exprA_low] <;> try omega)) ?_)
 have hOl : ∀ {k : Nat}, ∀ y ∈ [.cells 26 [intA 0, strA [], intA 0, intA 0, strA [], .nil], yo true x.op x.text ((x.kids.map trimE).take k), AObj.defs, AObj.loop LoopState.ready none FR 50 #[21] as' bd' (oid Hp.length 2)], ObjLow (Hp.length + 4) y := by
  intro k y hy
  simp only [List.mem_cons, List.mem_nil_iff, or_false] at hy
  rcases hy with rfl | rfl | rfl | rfl
  ·exact low_z69
  ·exact low_yo
  ·trivial
  exact Z424
 refine ⟨fun _ H' => H' = Hp ++ [.cells 26 [intA 0, strA [], intA 0, intA 0, strA [], .nil], yo true x.op x.text ((x.kids.map trimE).take x.kids.length), AObj.defs, AObj.loop LoopState.ready none FR 50 #[21] as' bd' (oid Hp.length 2)], c88 (x := x) (l := oid Hp.length 3) (U := fun k => Hp ++ [.cells 26 [intA 0, strA [], intA 0, intA 0, strA [], .nil], yo true x.op x.text ((x.kids.map trimE).take k), AObj.defs, AObj.loop LoopState.ready none FR 50 #[21] as' bd' (oid Hp.length 2)]) (n0 := Hp.length + 4) ⟨fun k => by simp, fun k y hy => ?_, by simp [oid], fun X k z hz => ?_⟩ hok.2.1 hih, ?_⟩
 ·exact low_app (fun y hy => ObjLow.le (by omega) (hlow y hy)) hOl y hy
 ·have hklt : k < x.kids.length := by have := (List.getElem?_eq_some_iff.1 hz).1; simpa using this
  generalize hV : (Hp ++ [.cells 26 [intA 0, strA [], intA 0, intA 0, strA [], .nil], yo true x.op x.text ((x.kids.map trimE).take k), AObj.defs, AObj.loop LoopState.ready none FR 50 #[21] as' bd' (oid Hp.length 2)] ++ X) = V
  have hL : V[oid Hp.length 3]? = some (AObj.loop LoopState.ready none FR 50 #[21] as' bd' (oid Hp.length 2)) := by rw [← hV, List.append_assoc, get_oid]; rfl
  have hA0 : V[oid Hp.length 1]? = some (yo true x.op x.text ((x.kids.map trimE).take k)) := by rw [← hV, List.append_assoc, get_oid]; rfl
  refine AYield.ofRound (pd := none) (fr := FR) (sz := 50) (ps := #[21]) (df := oid Hp.length 2) (asg := as') (bd := bd') hL rfl (by decide) (fun d => ?_)
  subst hFR has hbd
  refine W.keep [3, 21] ?_;refine Z411 ?_;refine Z22 ?_;refine R.fin [3, 4] ?_
  refine ⟨rfl, none, hL, ?_⟩
  generalize hbz : (AObj.loop LoopState.busy _ _ _ _ _ _ _) = bz
  have hA : (V.set (oid Hp.length 3) bz)[oid Hp.length 1]? = some (yo true x.op x.text ((x.kids.map trimE).take k)) := by rw [List.getElem?_set_ne (oid_ne (by decide))]; exact hA0
  refine AW.block ?_
  refine W.drawT0 [0, 1, 0, 3, 0, 31, 63, 127, 63, 319] [1] [.q 1 [] [0], .s [23] (some 0) [] [], .q 3 [] []] (fun B => (V.set (oid Hp.length 3) bz).set (oid Hp.length 1) (if B 0 = true then yo false x.op x.text ((x.kids.map trimE).take k) else yo true x.op x.text ((x.kids.map trimE).take k))) (fun _ => [.cells 26 (exprC z)]) Tryzmixed (by kernel_rfl) (by simp only [Bool.false_eq_true, if_false]; exact set_same hA) rfl (fun B => by simp) ?_
  apply Y.q
  case h1 =>
   intro B hT hF
   exact Z208
  case hTF => decide
  refine Y.loadUpT (o := oid Hp.length 1) (t' := 26) (cs := [intA x.op, strA x.text, intA 0, intA 0, strA [], .slice true 6 (((x.kids.map trimE).take k).map exprA)]) (cs' := [intA x.op, strA x.text, intA 0, intA 0, strA [], .slice false 6 (((x.kids.map trimE).take k).map exprA)]) Tryz.isAgg24 (fun B hB => ⟨by simp only [hB]; exact getset hA, by simp only [upd, if_true, List.set_set], rfl⟩) ?_
  apply Y.q
  case h1 =>
   intro B hT hF
   refine Z429 ?_;exact Z390
  case hTF => decide
  refine Y.appendPut (tn := [1]) (U := (V.set (oid Hp.length 3) bz).set (oid Hp.length 1) (yo false x.op x.text ((x.kids.map trimE).take k))) (O := [.cells 26 (exprC z)]) (o := oid Hp.length 1) (t' := 26) (cs := [intA x.op, strA x.text, intA 0, intA 0, strA [], .slice false 6 (((x.kids.map trimE).take k).map exprA)]) (by kernel_rfl) jU Tryz.type26 Tryz.sizeOf26 Tryz.sizeOf24 jU (get_up (getset hA)) ?_ ?_ ?_ (hfsz := Tryz.sizeOf24)
  ·have := hok.2.1; simp [Tryz.t26]; omega
  ·have := hok.2.1; simp [Tryz.t26]; omega
  refine Z440 ?_
  refine R.storeUpT jS (getset hA) ?_ ?_
  ·first | (rw [snocE]; exact low_exprs) | (simp only [exprA_eq]; exact low_exprs)
  refine R.fin [] ?_;refine K.blN ?_
  subst hbz
  refine K.rdN (keep2 hL (oid_ne (by decide)) (oid_ne (by decide))) ?_
  refine ⟨rfl, ?_⟩
  subst hV
  simp only [List.append_assoc, set_oid, List.cons_append, List.nil_append, List.set_cons_succ, List.set_cons_zero]
  rw [take_item hz]
  try simp only [snocE]
  try rfl
 intro r H' hq
 subst hq
 refine ⟨Hp, _, _, _, rfl, rfl, fun h => h, ?_, rfl, by simp, ?_⟩
 ·intro o ho
  have : o = oid Hp.length 2 := by simpa using ho
  subst this
  rw [get_oid]
  rfl
 rw [show (x.kids.map trimE).take x.kids.length = x.kids.map trimE from List.take_of_length_le (by simp)]
 refine Z17 ?_;refine Z11 ?_;refine Z139 ?_;refine Z332 ?_;refine R.call Tryz.call46 (c46 ((x.kids.map trimE).getD 0 nullX) _) ?_;refine R.fin [2, 3, 34] ?_
 refine W.cond (fun ht34 => ?_) (fun ht34 => ?_)
 ·refine Z7 ?_;refine R.call Tryz.call67 (c67 (Expr.mk x.op x.text noV (x.kids.map trimE)) hk0 hy3 hy2 _) ?_;refine Z112 ?_;refine R.fin [2, 3, 5, 6] ?_;refine Z0 ?_;refine R.fin [2, 3, 5, 40] ?_
  refine W.cond (fun ht40 => ?_) (fun ht40 => ?_)
  ·have hc : (chosenM x.op x.text (x.kids.map trimE)) = some ((chosenM x.op x.text (x.kids.map trimE)).getD nullX) := opt_some ht40
   refine Z7 ?_;refine Z133 ?_;exact K.fin (V.one (V.cellN jA jS)) ⟨by rw [hte, tN_1 ht34 hc]; simp only [exprA_eq]; try rfl, rfl⟩ (hlow := by simp [exprA_low])
  have hc : (chosenM x.op x.text (x.kids.map trimE)) = none := opt_none ht40
  refine Z2 ?_;refine W.seq ?_;refine Z7 ?_;refine Z303 ?_;refine R.fin [2, 3, 7, 8] ?_;refine Z0 ?_;refine R.fin [2, 3, 7, 47] ?_
  refine W.cond (fun ht47 => ?_) (fun ht47 => ?_)
  ·have hr : (reckM (Expr.mk x.op x.text noV (x.kids.map trimE))) = some ((reckM (Expr.mk x.op x.text noV (x.kids.map trimE))).getD nullX) := opt_some ht47
   refine Z7 ?_;refine Z133 ?_;exact K.fin (V.one (V.cellN jA jS)) ⟨by rw [hte, tN_2 ht34 hc hr]; simp only [exprA_eq]; try rfl, rfl⟩ (hlow := by simp [exprA_low])
  have hr : (reckM (Expr.mk x.op x.text noV (x.kids.map trimE))) = none := opt_none ht47
  refine Z154 ?_;refine Z34 ?_;exact K.fin (V.one (V.cellN jA jS)) ⟨by rw [hte, tN_3 ht34 hc hr]; simp only [exprA_eq]; try rfl, rfl⟩ (hlow := by simp [exprA_low])
 refine Z2 ?_;refine W.seq ?_;refine Z7 ?_;refine Z303 ?_;refine R.fin [2, 3, 7, 8] ?_;refine Z0 ?_;refine R.fin [2, 3, 7, 47] ?_
 refine W.cond (fun ht47 => ?_) (fun ht47 => ?_)
 ·have hr : (reckM (Expr.mk x.op x.text noV (x.kids.map trimE))) = some ((reckM (Expr.mk x.op x.text noV (x.kids.map trimE))).getD nullX) := opt_some ht47
  refine Z7 ?_;refine Z133 ?_;exact K.fin (V.one (V.cellN jA jS)) ⟨by rw [hte, tN_4 ht34 hr]; simp only [exprA_eq]; try rfl, rfl⟩ (hlow := by simp [exprA_low])
 have hr : (reckM (Expr.mk x.op x.text noV (x.kids.map trimE))) = none := opt_none ht47
 refine Z154 ?_;refine Z34 ?_;exact K.fin (V.one (V.cellN jA jS)) ⟨by rw [hte, tN_5 ht34 hr]; simp only [exprA_eq]; try rfl, rfl⟩ (hlow := by simp [exprA_low])

/-- trim.Trim: the tree and the error. -/
def trimM (x : Expr) : Expr × Int := if exprRightM x = true then (trimE x, 0) else (nullX, 1)
theorem trimM_1 {x : Expr} (h : exprRightM x = true) : trimM x = (trimE x, 0) := if_pos h
theorem trimM_0 {x : Expr} (h : exprRightM x = false) : trimM x = (nullX, 1) := if_neg (by rw [h]; simp)
theorem trimM_ok {n : Nat} {x : Expr} (hok : okE n x) (hg : allE rngN x = true) : okE n (trimM x).1 ∧ sizeE (trimM x).1 ≤ sizeE x ∧ allE rngN (trimM x).1 = true := by
 cases h : exprRightM x with
 | false =>
  rw [trimM_0 h]
  refine ⟨nullX_ok ?_, ?_, by kernel_rfl⟩
  ·cases n with
   | zero => exact hok.elim
   | succ n => omega
  rw [sizeE_eq x]; show 1 ≤ _; omega
 | true =>
  rw [trimM_1 h]
  have t := trim_ok (c := []) (l := []) (fun v hv => by cases hv) _ x (Nat.le_refl _) (rightE_node h) hg
  exact ⟨node_okT n _ (Nat.le_trans t.depth (okE_depth _ _ hok)) t.node, t.size, t.rng⟩
def savedM (x : Expr) : Int := if exprRightM x = true then (sizeE x : Int) - sizeE (trimM x).1 else 0
theorem trimM_err {x : Expr} (h : ((trimM x).2 != 0) = true) : exprRightM x = false := by
 cases hr : exprRightM x with
 | false => rfl
 | true => rw [trimM_1 hr] at h; cases h
theorem trimM_fine {x : Expr} (h : ((trimM x).2 != 0) = false) : exprRightM x = true := by
 cases hr : exprRightM x with
 | true => rfl
 | false => rw [trimM_0 hr] at h; cases h
theorem c17 (n : Nat) (x : Expr) (hok : okE n x) (hn : n ≤ 1000000) (hg : allE rngN x = true) (Hp : List AObj) : AFun Tryz.prog 17 [exprA x] Hp (.tup [exprA (trimM x).1, intA (trimM x).2]) := by
 refine ACall.body [.cell 2 26, .tmp 3] [0] Tryz.func17 Tryz.ntmps17 (fun d => ?_)
 refine Z339 ?_;refine Z314 ?_;refine R.call Tryz.call27 (c27 n x hok (by omega) _) ?_;refine R.not ?_;refine R.fin [1, 2, 6] ?_
 refine W.cond (fun ht6 => ?_) (fun ht6 => ?_)
 ·have hr : exprRightM x = false := by simpa using ht6
  refine Z81 ?_;refine R.wk 7 _ nullX_le ?_;refine Z118 ?_;refine K.thR ?_;exact K.fin (V.two (V.cellN jA jS) V.tmp) ⟨by rw [trimM_0 hr]; simp only [exprA_eq]; try rfl, rfl⟩ (hlow := by simp [exprA_low])
 have hr : exprRightM x = true := by simpa using ht6
 refine Z211 ?_;refine R.call Tryz.call45 (c45 n x hok hn (rightE_node hr) hg _) ?_;refine Z118 ?_;exact K.fin (V.two (V.cellN jA jS) V.tmp) ⟨by rw [trimM_1 hr]; simp only [exprA_eq]; try rfl, rfl⟩ (hlow := by simp [exprA_low])

theorem c19s (n : Nat) (x : Expr) (hok : okE n x) (hn : n ≤ 1000000) (hs : sizeE x ≤ 1048576) (hg : allE rngN x = true) (Hp : List AObj) : AFun Tryz.prog 19 [exprA x] Hp (intA (savedM x)) := by
 obtain ⟨hyo, hys, hyg⟩ := trimM_ok hok hg
 refine ACall.body [.tmp 2] [0] Tryz.func19 Tryz.ntmps19 (fun d => ?_)
 refine Z156 ?_;refine Z55 ?_;refine R.call Tryz.call17 (c17 n x hok hn hg _) ?_;refine Z112 ?_;refine R.fin [1, 3, 4] ?_;refine Z98 ?_;refine R.fin [1, 3, 11] ?_
 refine W.cond (fun ht11 => ?_) (fun ht11 => ?_)
 ·have hm : savedM x = 0 := if_neg (by rw [trimM_err ht11]; simp)
  refine Z39 ?_;exact Z46
 have hm : savedM x = (sizeE x : Int) - sizeE (trimM x).1 := if_pos (trimM_fine ht11)
 refine Z2 ?_;refine Z393 ?_;refine D.call Tryz.call47 (c47 n x hok (by omega) hs _) ?_;refine Z343 ?_;refine R.call Tryz.call47 (c47 n (trimM x).1 hyo (by omega) (by omega) _) ?_;refine R.sub64 ?_;exact Z236

def tS : Str := [105, 102, 40, 49, 32, 60, 32, 50, 44, 32, 97, 44, 32, 49, 32, 47, 32, 48, 41]
def tX : Expr := .mk 6 ifW noV [binX [60] (valX ⟨1, 1, []⟩) (valX ⟨1, 2, []⟩), nameE [97], wD]
theorem t_parse : parseM tS = (tX, 0, 0) := by kernel_rfl
theorem t_trim : trimM tX = (nameE [97], 0) := by kernel_rfl
theorem t_saved : savedM tX = 7 := by kernel_rfl
theorem t_ok : okE 30 tX := by
 have h : refRightM tX = true := by kernel_rfl
 unfold refRightM at h
 simp only [Bool.and_eq_true, decide_eq_true_eq] at h
 exact node_okT 30 tX h.1.1 h.2
theorem t_p (Hp : List AObj) : AFun Tryz.prog 25 [strA tS] Hp (.tup [exprA tX, .agg [intA 0, intA 0]]) := by
 have := c87p tS (by decide) Hp
 rw [t_parse] at this
 exact this
theorem t_t (Hp : List AObj) : AFun Tryz.prog 17 [exprA tX] Hp (.tup [exprA (nameE [97]), intA 0]) := by
 have := c17 30 tX t_ok (by decide) (by kernel_rfl) Hp
 rw [t_trim] at this
 exact this
theorem t_s (Hp : List AObj) : AFun Tryz.prog 19 [exprA tX] Hp (intA 7) := by
 have := c19s 30 tX t_ok (by decide) (by decide) (by kernel_rfl) Hp
 rw [t_saved] at this
 exact this
theorem c16 (Hp : List AObj) : AFun Tryz.prog 16 [] Hp (boolA true) := by
 refine ACall.body [.tmp 0] [] Tryz.func16 Tryz.ntmps16 (fun d => ?_)
 refine Z3 ?_;refine R.fin [] ?_;refine Z396 ?_;refine R.call Tryz.call25 (t_p _) ?_;refine Z60 ?_;refine Z333 ?_;refine R.fin [1, 2] ?_;refine Z7 ?_;refine R.call Tryz.call17 (t_t _) ?_;refine Z112 ?_;refine R.fin [1, 2, 3, 4] ?_;refine Z396 ?_;refine Z266 ?_;refine Z181 ?_;refine G.eql ?_;refine Z95 ?_;refine Z142 ?_;refine Z95 ?_;refine Z143 ?_;refine G.seql ?_;refine Z95 ?_;refine G.loadOwnN jA jS ?_;refine G.call Tryz.call19 (fun hB => t_s _) ?_;refine Z94 ?_;refine R.fin [0] ?_;refine AW.ret ?_;exact Z403

theorem c4 (x : Expr) (gx : allE rngN x = true) (c : List Col) (l : List Val) (hlr : ∀ v ∈ l, -9223372036854775808 ≤ v.n ∧ v.n ≤ 9223372036854775807) (Hp : List AObj) : AFun Tryz.prog 4 [exprA x, colsA c, valsA l] Hp (boolA true) := by
 refine ACall.body [.tmp 6] [0, 1, 2] Tryz.func4 Tryz.ntmps4 (fun d => ?_)
 refine Z391 ?_;refine R.fin [1, 2, 3] ?_;refine Z11 ?_;refine R.call Tryz.call16 (c16 _) ?_;refine R.not ?_;refine R.fin [1, 2, 3, 14] ?_
 refine W.cond (fun ht14 => ?_) (fun ht14 => ?_)
 ·cases ht14
 refine Z50 ?_;refine Z407 ?_;refine R.call Tryz.call7 (c7 x _) ?_;refine Z21 ?_;refine G.call Tryz.call8 (fun hB => c21u c _) ?_;refine R.pickOr ?_;refine Z21 ?_;refine G.call Tryz.call9 (fun hB => c9 l _) ?_;refine R.pickOr ?_;refine R.fin [1, 2, 3, 24] ?_
 refine W.cond (fun ht24 => ?_) (fun ht24 => ?_)
 ·refine Z3 ?_;refine Z129 ?_;refine K.thR ?_;exact Z403
 simp only [Bool.or_eq_false_iff] at ht24
 obtain ⟨⟨hwx, hmc⟩, hlg⟩ := ht24
 have hs := slim_of hwx
 have hc := many_ok hmc
 have hl1 := long_len hlg
 have hz : sizeE x ≤ 1048576 := by have := hs.size; omega
 obtain ⟨hyo, hys, hyg⟩ := trimM_ok hs.ok gx
 refine Z211 ?_;refine R.call Tryz.call17 (c17 61 x hs.ok (by decide) gx _) ?_;refine Z112 ?_;refine R.fin [1, 2, 3, 7, 8] ?_;refine Z98 ?_;refine R.fin [1, 2, 3, 7, 31] ?_
 refine W.cond (fun ht31 => ?_) (fun ht31 => ?_)
 ·have hr := trimM_err ht31
  rw [exprRight_eq] at hr
  refine Z55 ?_;refine R.call Tryz.call14 (c14 61 x hs.ok (by decide) hz _) ?_;refine Z364 ?_;refine Z129 ?_;refine K.thR ?_;exact K.fin (V.one V.tmp) ⟨by rw [hr]; rfl, rfl⟩
 have hr := trimM_fine ht31
 have hlaw : evalM (trimM x).1 c l = evalM x c l := by
  rw [trimM_1 hr]
  exact (trim_keeps (by rw [exprRight_eq] at hr; exact hr) gx c l hlr).2.2
 refine Z211 ?_;refine Z56 ?_;refine R.call Tryz.call10 (c10 61 x hs.ok (by decide) gx c hc l hl1 hlr _) ?_;refine Z112 ?_;refine R.fin [1, 2, 7, 9, 10] ?_;refine Z7 ?_;refine Z56 ?_;refine R.call Tryz.call10 (c10 61 (trimM x).1 hyo (by decide) hyg c hc l hl1 hlr _) ?_;refine Z112 ?_;refine R.fin [9, 10, 11, 12] ?_;refine Z396 ?_
 generalize evalM x c l = ra at hlaw ⊢
 generalize evalM (trimM x).1 c l = rb at hlaw ⊢
 refine Z430 ?_;refine Z430 ?_;refine R.eqlAgg eg23 (fun w => equal23 ra.1.kind ra.1.n rb.1.kind rb.1.n ra.1.s rb.1.s w) ?_;refine Z114 ?_;refine Z94 ?_;refine Z129 ?_;exact K.fin (V.one V.tmp) ⟨by rw [hlaw]; simp, rfl⟩

set_option maxRecDepth 8000
/-! What the signs of bits tell. -/
theorem wrap_toNat (x : BitVec 64) : IntKind.i64.wrap (x.toNat : Int) = x.toInt := by
 rw [IntKind.wrap_i64, BitVec.toInt_eq_toNat_cond]
 have := x.isLt
 split <;> omega
theorem msb_ofInt {m : Int} (h0 : -9223372036854775808 ≤ m) (h1 : m ≤ 9223372036854775807) : (BitVec.ofInt 64 m).msb = decide (m < 0) := by
 rw [BitVec.msb_eq_toInt, BitVec.toInt_ofInt]
 congr 1
 have : m.bmod (2 ^ 64) = m := by
  rw [Int.bmod_eq_of_le] <;> omega
 rw [this]
theorem band_neg {m n : Int} (m0 : -9223372036854775808 ≤ m) (m1 : m ≤ 9223372036854775807) (n0 : -9223372036854775808 ≤ n) (n1 : n ≤ 9223372036854775807) : decide (bandI .i64 m n < 0) = (decide (m < 0) && decide (n < 0)) := by
 have e : bandI .i64 m n = (BitVec.ofInt 64 m &&& BitVec.ofInt 64 n).toInt := wrap_toNat _
 rw [e, ← BitVec.msb_eq_toInt, BitVec.msb_and, msb_ofInt m0 m1, msb_ofInt n0 n1]
theorem bxor_neg {m n : Int} (m0 : -9223372036854775808 ≤ m) (m1 : m ≤ 9223372036854775807) (n0 : -9223372036854775808 ≤ n) (n1 : n ≤ 9223372036854775807) : decide (bxorI .i64 m n < 0) = (decide (m < 0) ^^ decide (n < 0)) := by
 have e : bxorI .i64 m n = (BitVec.ofInt 64 m ^^^ BitVec.ofInt 64 n).toInt := wrap_toNat _
 rw [e, ← BitVec.msb_eq_toInt, BitVec.msb_xor, msb_ofInt m0 m1, msb_ofInt n0 n1]
theorem bxor_rng (m n : Int) : -9223372036854775808 ≤ bxorI .i64 m n ∧ bxorI .i64 m n ≤ 9223372036854775807 := wrap_lo _
/-- num.Add: the sum, where 64 bits hold it. -/
theorem addI_eq {a b : Int} (a0 : -9223372036854775808 ≤ a) (a1 : a ≤ 9223372036854775807) (b0 : -9223372036854775808 ≤ b) (b1 : b ≤ 9223372036854775807) : addI a b = if -9223372036854775808 ≤ a + b ∧ a + b ≤ 9223372036854775807 then (a + b, 0) else (0, 4) := by
 have hw := IntKind.wrap_i64 (a + b)
 have hc := wrap_lo (a + b)
 unfold addI
 generalize IntKind.i64.wrap (a + b) = c at hw hc ⊢
 rw [band_neg (bxor_rng _ _).1 (bxor_rng _ _).2 (bxor_rng _ _).1 (bxor_rng _ _).2, bxor_neg a0 a1 hc.1 hc.2, bxor_neg b0 b1 hc.1 hc.2]
 by_cases ha : a < 0 <;> by_cases hb : b < 0 <;> by_cases hcn : c < 0 <;> simp [ha, hb, hcn] <;> (try split) <;> (try simp) <;> omega
/-- num.Sub. -/
theorem subI_eq {a b : Int} (a0 : -9223372036854775808 ≤ a) (a1 : a ≤ 9223372036854775807) (b0 : -9223372036854775808 ≤ b) (b1 : b ≤ 9223372036854775807) : subI a b = if -9223372036854775808 ≤ a - b ∧ a - b ≤ 9223372036854775807 then (a - b, 0) else (0, 4) := by
 have hw := IntKind.wrap_i64 (a - b)
 have hc := wrap_lo (a - b)
 unfold subI
 generalize IntKind.i64.wrap (a - b) = c at hw hc ⊢
 rw [band_neg (bxor_rng _ _).1 (bxor_rng _ _).2 (bxor_rng _ _).1 (bxor_rng _ _).2, bxor_neg a0 a1 b0 b1, bxor_neg a0 a1 hc.1 hc.2]
 by_cases ha : a < 0 <;> by_cases hb : b < 0 <;> by_cases hcn : c < 0 <;> simp [ha, hb, hcn] <;> (try split) <;> (try simp) <;> omega
theorem size_abs {a : Int} (a0 : -9223372036854775808 ≤ a) (a1 : a ≤ 9223372036854775807) : sizeI a = (a.natAbs : Int) := by
 have h1 := IntKind.wrap_u64 a
 have h2 := IntKind.wrap_u64 (0 - IntKind.u64.wrap a)
 unfold sizeI
 split
 ·rename_i h
  have h : a < 0 := by simpa using h
  omega
 rename_i h
 have h : ¬ a < 0 := by simpa using h
 omega
/-- num.Mul. -/
theorem mulI_eq {a b : Int} (a0 : -9223372036854775808 ≤ a) (a1 : a ≤ 9223372036854775807) (b0 : -9223372036854775808 ≤ b) (b1 : b ≤ 9223372036854775807) : mulI a b = if -9223372036854775808 ≤ a * b ∧ a * b ≤ 9223372036854775807 then (a * b, 0) else (0, 4) := by
 have hs : ((a < 0 ↔ b < 0) → a * b = (a.natAbs : Int) * (b.natAbs : Int)) ∧ (¬ (a < 0 ↔ b < 0) → a * b = -((a.natAbs : Int) * (b.natAbs : Int))) := by
  rcases Int.natAbs_eq a with ha | ha <;> rcases Int.natAbs_eq b with hb | hb
  ·refine ⟨fun _ => by rw [← ha, ← hb], fun h => ?_⟩
   exfalso
   omega
  ·refine ⟨fun h => ?_, fun _ => by rw [Int.neg_mul_eq_mul_neg, ← hb, ← ha]⟩
   have hz : b.natAbs = 0 := by omega
   have : b = 0 := by omega
   subst this
   simp
  ·refine ⟨fun h => ?_, fun _ => by rw [← Int.neg_mul, ← hb, ← ha]⟩
   have : a = 0 := by omega
   subst this
   simp
  refine ⟨fun _ => ?_, fun h => ?_⟩
  ·have := Int.neg_mul_neg (a.natAbs : Int) (b.natAbs : Int)
   rw [← ha, ← hb] at this
   exact this
  by_cases hz : a = 0
  ·subst hz; simp
  have : b = 0 := by omega
  subst this
  simp
 unfold mulI
 simp only [size_abs a0 a1, size_abs b0 b1]
 have hp : 0 ≤ (a.natAbs : Int) * (b.natAbs : Int) := Int.mul_nonneg (Int.natCast_nonneg _) (Int.natCast_nonneg _)
 generalize hP : (a.natAbs : Int) * (b.natAbs : Int) = p at hs hp ⊢
 generalize hQ : a * b = q at hs ⊢
 have hu := IntKind.wrap_u64 (0 - p % 18446744073709551616)
 have hi := IntKind.wrap_i64 (IntKind.u64.wrap (0 - p % 18446744073709551616))
 have hj := IntKind.wrap_i64 (p % 18446744073709551616)
 by_cases hab : (a < 0 ↔ b < 0)
 ·have hq := hs.1 hab
  have hbl : (decide (a < 0) != decide (b < 0)) = false := by simp [hab]
  rw [hbl]
  simp only [Bool.false_eq_true, if_false]
  subst hq
  by_cases hc : (decide (0 < q / 18446744073709551616) || decide (9223372036854775807 < q % 18446744073709551616)) = true
  ·rw [if_pos hc, if_neg]
   simp only [Bool.or_eq_true, decide_eq_true_eq] at hc
   omega
  rw [if_neg hc]
  simp only [Bool.or_eq_true, decide_eq_true_eq, not_or, Int.not_lt] at hc
  rw [if_pos (by omega)]
  congr 1
  omega
 have hq := hs.2 hab
 have hbl : (decide (a < 0) != decide (b < 0)) = true := by
  by_cases h1 : a < 0 <;> by_cases h2 : b < 0 <;> simp_all
 rw [hbl]
 simp only [if_true]
 subst hq
 by_cases hc : (decide (0 < p / 18446744073709551616) || decide (9223372036854775808 < p % 18446744073709551616)) = true
 ·rw [if_pos hc, if_neg]
  simp only [Bool.or_eq_true, decide_eq_true_eq] at hc
  omega
 rw [if_neg hc]
 simp only [Bool.or_eq_true, decide_eq_true_eq, not_or, Int.not_lt] at hc
 rw [if_pos (by omega)]
 congr 1
 omega
/-! Sizes in digits to the base of 2^32. -/
abbrev B32 : Nat := 4294967296
def dig (m i : Nat) : Nat := m / B32 ^ i % B32
theorem dig_lt (m i : Nat) : dig m i < 4294967296 := Nat.mod_lt _ (by decide)
theorem pw (i : Nat) : 0 < B32 ^ i := Nat.pow_pos (by decide)
theorem mod_next (m i : Nat) : m % B32 ^ (i + 1) = m % B32 ^ i + B32 ^ i * dig m i := Nat.mod_pow_succ
theorem div_next (m i : Nat) : m / B32 ^ (i + 1) = m / B32 ^ i / B32 := by rw [Nat.pow_succ, Nat.div_div_eq_div_mul]
def car (a b i : Nat) : Nat := (a % B32 ^ i + b % B32 ^ i) / B32 ^ i
theorem car_zero (a b : Nat) : car a b 0 = 0 := by simp [car, Nat.mod_one]
theorem car_le (a b i : Nat) : car a b i ≤ 1 := by
 have h1 := Nat.mod_lt a (pw i)
 have h2 := Nat.mod_lt b (pw i)
 have : car a b i < 2 := by
  unfold car
  rw [Nat.div_lt_iff_lt_mul (pw i)]
  omega
 omega
theorem step_add (P x y da db : Nat) (hP : 0 < P) : (da + db + (x + y) / P) / B32 = (x + P * da + (y + P * db)) / (P * B32) := by
 have e : x + P * da + (y + P * db) = (x + y) + P * (da + db) := by rw [Nat.mul_add]; omega
 rw [e, ← Nat.div_div_eq_div_mul, Nat.add_mul_div_left _ _ hP, Nat.add_comm]
theorem car_step (a b i : Nat) : (dig a i + dig b i + car a b i) / 4294967296 = car a b (i + 1) := by
 unfold car
 rw [mod_next, mod_next, Nat.pow_succ]
 exact step_add _ _ _ _ _ (pw i)
theorem div_add (P a b : Nat) (hP : 0 < P) : (a + b) / P = a / P + b / P + (a % P + b % P) / P := by
 have ha := Nat.mod_add_div a P
 have hb := Nat.mod_add_div b P
 have e : a + b = (a % P + b % P) + P * (a / P + b / P) := by rw [Nat.mul_add]; omega
 calc (a + b) / P = ((a % P + b % P) + P * (a / P + b / P)) / P := by rw [← e]
  _ = (a % P + b % P) / P + (a / P + b / P) := Nat.add_mul_div_left _ _ hP
  _ = _ := Nat.add_comm _ _
theorem dig_add (a b i : Nat) : (dig a i + dig b i + car a b i) % 4294967296 = dig (a + b) i := by
 unfold dig
 rw [div_add _ a b (pw i)]
 unfold car
 generalize (a % B32 ^ i + b % B32 ^ i) / B32 ^ i = c
 generalize a / B32 ^ i = x
 generalize b / B32 ^ i = y
 show (x % 4294967296 + y % 4294967296 + c) % 4294967296 = (x + y + c) % 4294967296
 omega
def bor (a b i : Nat) : Nat := if a % B32 ^ i < b % B32 ^ i then 1 else 0
theorem bor_zero (a b : Nat) : bor a b 0 = 0 := by simp [bor, Nat.mod_one]
theorem bor_le (a b i : Nat) : bor a b i ≤ 1 := by unfold bor; split <;> omega
theorem lt_digits (P x y da db : Nat) (hx : x < P) (hy : y < P) : (x + P * da < y + P * db) ↔ (da < db ∨ (da = db ∧ x < y)) := by
 constructor
 ·intro h
  rcases Nat.lt_trichotomy da db with h1 | h1 | h1
  ·exact .inl h1
  ·subst h1; exact .inr ⟨rfl, by omega⟩
  exfalso
  have : P * (db + 1) ≤ P * da := Nat.mul_le_mul_left P h1
  rw [Nat.mul_add] at this
  omega
 rintro (h | ⟨rfl, h⟩)
 ·have : P * (da + 1) ≤ P * db := Nat.mul_le_mul_left P h
  rw [Nat.mul_add] at this
  omega
 omega
theorem bor_step (a b i : Nat) : 1 - (4294967296 + dig a i - dig b i - bor a b i) / 4294967296 = bor a b (i + 1) := by
 have hd := lt_digits (B32 ^ i) (a % B32 ^ i) (b % B32 ^ i) (dig a i) (dig b i) (Nat.mod_lt _ (pw i)) (Nat.mod_lt _ (pw i))
 have h1 := dig_lt a i
 have h2 := dig_lt b i
 have hb : bor a b (i + 1) = if (dig a i < dig b i ∨ (dig a i = dig b i ∧ a % B32 ^ i < b % B32 ^ i)) then 1 else 0 := by
  unfold bor
  rw [mod_next, mod_next]
  by_cases h : a % B32 ^ i + B32 ^ i * dig a i < b % B32 ^ i + B32 ^ i * dig b i
  ·rw [if_pos h, if_pos (hd.1 h)]
  rw [if_neg h, if_neg fun h' => h (hd.2 h')]
 rw [hb]
 unfold bor
 by_cases hlt : a % B32 ^ i < b % B32 ^ i
 ·rw [if_pos hlt]
  by_cases hc : dig a i < dig b i ∨ dig a i = dig b i ∧ a % B32 ^ i < b % B32 ^ i
  ·rw [if_pos hc]
   have : dig a i ≤ dig b i := by rcases hc with h | h; omega; omega
   omega
  rw [if_neg hc]
  have : dig b i < dig a i := by
   rcases Nat.lt_trichotomy (dig a i) (dig b i) with h | h | h
   ·exact absurd (.inl h) hc
   ·exact absurd (.inr ⟨h, hlt⟩) hc
   exact h
  omega
 rw [if_neg hlt]
 by_cases hc : dig a i < dig b i ∨ dig a i = dig b i ∧ a % B32 ^ i < b % B32 ^ i
 ·rw [if_pos hc]
  have : dig a i < dig b i := by
   rcases hc with h | h
   ·exact h
   exact absurd h.2 hlt
  omega
 rw [if_neg hc]
 have : dig b i ≤ dig a i := by
  rcases Nat.lt_or_ge (dig a i) (dig b i) with h | h
  ·exact absurd (.inl h) hc
  exact h
 omega
theorem div_sub (P a b : Nat) (hP : 0 < P) (h : b ≤ a) : (a - b) / P + (if a % P < b % P then 1 else 0) + b / P = a / P := by
 have ha := Nat.mod_add_div a P
 have hb := Nat.mod_add_div b P
 have hm1 := Nat.mod_lt a hP
 have hm2 := Nat.mod_lt b hP
 have hq : b / P ≤ a / P := Nat.div_le_div_right h
 obtain ⟨t, ht⟩ : ∃ t, a / P = b / P + t := ⟨a / P - b / P, by omega⟩
 rw [ht, Nat.mul_add] at ha
 by_cases hlt : a % P < b % P
 ·rw [if_pos hlt]
  cases t with
  | zero => rw [Nat.mul_zero] at ha; omega
  | succ t =>
   rw [Nat.mul_add, Nat.mul_one] at ha
   have e : a - b = (P + a % P - b % P) + P * t := by omega
   rw [e, Nat.add_mul_div_left _ _ hP, Nat.div_eq_of_lt (by omega), ht]
   omega
 rw [if_neg hlt]
 have e : a - b = (a % P - b % P) + P * t := by omega
 rw [e, Nat.add_mul_div_left _ _ hP, Nat.div_eq_of_lt (by omega), ht]
 omega
theorem dig_sub {a b : Nat} (h : b ≤ a) (i : Nat) : (4294967296 + dig a i - dig b i - bor a b i) % 4294967296 = dig (a - b) i := by
 have hd := div_sub (B32 ^ i) a b (pw i) h
 have hb := bor_le a b i
 unfold bor at hb ⊢
 unfold dig
 generalize (if a % B32 ^ i < b % B32 ^ i then 1 else 0) = c at *
 generalize (a - b) / B32 ^ i = z at *
 generalize a / B32 ^ i = x at *
 generalize b / B32 ^ i = y at *
 show (4294967296 + x % 4294967296 - y % 4294967296 - c) % 4294967296 = z % 4294967296
 omega
/-- Which of two sizes is smaller, digit by digit from above. -/
theorem less_eq {a b n : Nat} (h : a / B32 ^ (n + 1) = b / B32 ^ (n + 1)) (hd : dig a n ≠ dig b n) : decide (a < b) = decide (dig a n < dig b n) := by
 rw [div_next, div_next] at h
 have e : a / B32 ^ n < b / B32 ^ n ↔ dig a n < dig b n := by
  unfold dig at hd ⊢
  generalize a / B32 ^ n = x at *
  generalize b / B32 ^ n = y at *
  have h' : x / 4294967296 = y / 4294967296 := h
  show x < y ↔ x % 4294967296 < y % 4294967296
  omega
 have hne : a / B32 ^ n ≠ b / B32 ^ n := fun e' => hd (by unfold dig; rw [e'])
 rw [decide_eq_decide, ← e]
 constructor
 ·intro hl
  have := Nat.div_le_div_right (c := B32 ^ n) (Nat.le_of_lt hl)
  omega
 intro hl
 rcases Nat.lt_or_ge a b with h1 | h1
 ·exact h1
 have := Nat.div_le_div_right (c := B32 ^ n) h1
 omega
theorem less_next {a b n : Nat} (h : a / B32 ^ (n + 1) = b / B32 ^ (n + 1)) (hd : dig a n = dig b n) : a / B32 ^ n = b / B32 ^ n := by
 rw [div_next, div_next] at h
 unfold dig at hd
 generalize a / B32 ^ n = x at *
 generalize b / B32 ^ n = y at *
 have h' : x / 4294967296 = y / 4294967296 := h
 have hd' : x % 4294967296 = y % 4294967296 := hd
 omega
set_option maxRecDepth 4000
/-! A wide number: a sign and five digits to the base of 2^32. -/
abbrev wF (s : Bool) (f : Nat → Nat) : List AV := [boolA s, u64A (f 0 : Nat), u64A (f 1 : Nat), u64A (f 2 : Nat), u64A (f 3 : Nat), u64A (f 4 : Nat)]
abbrev pF (f : Nat → Nat) : List AV := [u64A (f 0 : Nat), u64A (f 1 : Nat), u64A (f 2 : Nat), u64A (f 3 : Nat), u64A (f 4 : Nat)]
theorem pF_at {f : Nat → Nat} {k : Nat} (h : k < 5) : (pF f).drop (k * 1) = u64A (f k : Nat) :: (pF f).drop (k + 1) := by
 rcases k with _ | _ | _ | _ | _ | k
 all_goals first | rfl | omega
theorem wF_at {s : Bool} {f : Nat → Nat} {k : Nat} (h : k < 5) : (wF s f)[1 + k * 1]? = some (u64A (f k : Nat)) := by
 rcases k with _ | _ | _ | _ | _ | k
 all_goals first | rfl | omega
def uptoD (m k i : Nat) : Nat := if i < k then dig m i else 0
theorem wF_put {s : Bool} {f g : Nat → Nat} {k v : Nat} (h : k < 5) (hg : g k = v) (he : ∀ i, i ≠ k → g i = f i) : putCells (wF s f) (1 + k * 1) [u64A (v : Nat)] = wF s g := by
 subst hg
 rcases k with _ | _ | _ | _ | _ | k
 ·rw [wF, wF, he 1 (by decide), he 2 (by decide), he 3 (by decide), he 4 (by decide)]; rfl
 ·rw [wF, wF, he 0 (by decide), he 2 (by decide), he 3 (by decide), he 4 (by decide)]; rfl
 ·rw [wF, wF, he 0 (by decide), he 1 (by decide), he 3 (by decide), he 4 (by decide)]; rfl
 ·rw [wF, wF, he 0 (by decide), he 1 (by decide), he 2 (by decide), he 4 (by decide)]; rfl
 ·rw [wF, wF, he 0 (by decide), he 1 (by decide), he 2 (by decide), he 3 (by decide)]; rfl
 omega
theorem uptoD_put {s : Bool} {m k : Nat} (h : k < 5) : putCells (wF s (uptoD m k)) (1 + k * 1) [u64A (dig m k : Nat)] = wF s (uptoD m (k + 1)) := by
 refine wF_put h (by unfold uptoD; rw [if_pos (by omega)]) fun i hi => ?_
 unfold uptoD
 by_cases h1 : i < k
 ·rw [if_pos h1, if_pos (by omega)]
 rw [if_neg h1, if_neg (by omega)]
theorem uptoD_all (m : Nat) (s : Bool) : wF s (uptoD m 5) = wF s (dig m) := rfl
theorem wsum {x y z : Nat} (h : x + y + z < 18446744073709551616) : IntKind.u64.wrap (IntKind.u64.wrap ((x : Int) + (y : Int)) + (z : Int)) = ((x + y + z : Nat) : Int) := by
 simp only [IntKind.wrap_u64]; omega
theorem wrem (x : Nat) : (x : Int).tmod 4294967296 = ((x % 4294967296 : Nat) : Int) := by
 rw [Int.tmod_eq_emod_of_nonneg (by omega)]; omega
theorem wquo {x : Nat} (h : x < 18446744073709551616) : IntKind.u64.wrap ((x : Int).tdiv 4294967296) = ((x / 4294967296 : Nat) : Int) := by
 rw [Int.tdiv_eq_ediv_of_nonneg (by omega), IntKind.wrap_u64]; omega
theorem dig_small {m i : Nat} (h : m < B32 ^ i) : dig m i = 0 := by unfold dig; rw [Nat.div_eq_of_lt h]; rfl
theorem dig_0 (m : Nat) : dig m 0 = m % 4294967296 := by unfold dig; simp
theorem dig_1 (m : Nat) : dig m 1 = m / 4294967296 % 4294967296 := by unfold dig; simp [B32]
/-- A number's halves. -/
abbrev wideC (a : Int) : List AV := [boolA (decide (a < 0)), u64A ((sizeI a).tmod 4294967296), u64A (IntKind.u64.wrap ((sizeI a).tdiv 4294967296)), u64A 0, u64A 0, u64A 0]
theorem wide_of {a : Int} (h0 : -9223372036854775808 ≤ a) (h1 : a ≤ 9223372036854775807) : wideC a = wF (decide (a < 0)) (dig a.natAbs) := by
 have hs := size_abs h0 h1
 have hb : a.natAbs < 18446744073709551616 := by omega
 unfold wideC wF
 rw [hs, wrem, wquo hb, dig_0, dig_1, Nat.mod_eq_of_lt (show a.natAbs / 4294967296 < 4294967296 by omega)]
 have e2 : dig a.natAbs 2 = 0 := dig_small (Nat.lt_of_lt_of_le hb (by decide))
 have e3 : dig a.natAbs 3 = 0 := dig_small (Nat.lt_of_lt_of_le hb (by decide))
 have e4 : dig a.natAbs 4 = 0 := dig_small (Nat.lt_of_lt_of_le hb (by decide))
 rw [e2, e3, e4]
 rfl
theorem c42 (a : Int) (Hp : List AObj) : AFun Tryz.prog 42 [intA a] Hp (.agg (wideC a)) := by
 refine ACall.body [.cell 2 71] [0] Tryz.func42 Tryz.ntmps42 (fun d => ?_)
 refine Z116 ?_;refine Z0 ?_;refine R.lss ?_;refine Z86 ?_;refine Z246 ?_;refine Z408 ?_;refine Z404 ?_;refine R.fin [0, 2, 3, 4] ?_;refine Z151 ?_;refine R.fin [2, 3, 4, 11] ?_
 refine W.cond (fun ht11 => ?_) (fun ht11 => ?_)
 ·have hm : sizeI a = IntKind.u64.wrap (0 - IntKind.u64.wrap a) := if_pos ht11
  refine Z31 ?_;refine R.sub ?_;refine Z404 ?_;refine R.fin [2, 3, 4] ?_;refine K.thN ?_;refine Z0 ?_;refine R.rem ?_;refine Z61 ?_;refine Z409 ?_;refine R.fin [2, 3, 4] ?_;refine Z0 ?_;refine R.quo ?_;refine Z394 ?_;refine R.fin [2, 3] ?_;refine Z7 ?_;exact Z264
 have hm : sizeI a = IntKind.u64.wrap a := if_neg (by rw [ht11]; simp)
 refine Z149 ?_;refine R.rem ?_;refine Z61 ?_;refine Z409 ?_;refine R.fin [2, 3, 4] ?_;refine Z0 ?_;refine R.quo ?_;refine Z394 ?_;refine R.fin [2, 3] ?_;refine Z7 ?_;exact Z264

theorem c42w (a : Int) (h0 : -9223372036854775808 ≤ a) (h1 : a ≤ 9223372036854775807) (Hp : List AObj) : AFun Tryz.prog 42 [intA a] Hp (.agg (wF (decide (a < 0)) (dig a.natAbs))) := by
 rw [← wide_of h0 h1]
 exact c42 a Hp
theorem c41 (s : Bool) (f : Nat → Nat) (Hp : List AObj) : AFun Tryz.prog 41 [.agg (wF s f)] Hp (.agg (wF (!s) f)) := by
 refine ACall.body [.cell 2 71] [0] Tryz.func41 Tryz.ntmps41 (fun d => ?_)
 refine Z396 ?_;refine R.box ?_;refine Z359 ?_;refine Z396 ?_;refine Z77 ?_;refine R.not ?_;refine Z183 ?_;refine R.fin [1, 2] ?_;refine Z7 ?_;exact Z293

theorem c87 (a b : Nat) (ha : a < B32 ^ 5) (hb : b < B32 ^ 5) (Hp : List AObj) : AFun Tryz.prog 87 [.agg (pF (dig a)), .agg (pF (dig b))] Hp (boolA (decide (a < b))) := by
 refine ACall.body [.tmp 4] [0, 1] Tryz.func87 Tryz.ntmps87 (fun d => ?_)
 refine Z165 ?_;refine Z372 ?_;refine Z97 ?_;refine R.fin [2, 3, 5] ?_
 refine AW.loopC (α := Nat) (fun k => ⟨24, setF 2 (.ro (pF (dig a))) (setF 3 (.ro (pF (dig b))) (setF 5 (intA ((k : Nat) - 1)) (fun _ => .any))), Hp, [], [], none⟩) (fun k => k ≤ 5 ∧ a / B32 ^ k = b / B32 ^ k) (fun k => k) (5) ⟨Nat.le_refl _, by rw [Nat.div_eq_of_lt ha, Nat.div_eq_of_lt hb]⟩ (StLe.of_eq rfl) rfl (fun k hx => ?_)
 refine Z14 ?_;refine R.geq ?_;refine R.fin [2, 3, 5, 7] ?_
 refine W.cond (fun ht7 => ?_) (fun ht7 => ?_)
 ·have hk0 : 1 ≤ k := by simp only [decide_eq_true_eq] at ht7; omega
  have hq : a / B32 ^ (k - 1 + 1) = b / B32 ^ (k - 1 + 1) := by rw [Nat.sub_add_cancel hk0]; exact hx.2
  refine Z88 ?_;refine W.draw [0, 1, 3, 0, 8, 24, 63] 6 Tryzmixed (by kernel_rfl) ?_;refine Z415 ?_;refine Z110 ?_;refine Z415 ?_;refine Z110 ?_;refine D.tail ?_;refine R.neq ?_;refine R.fin [2, 3, 5, 16] ?_
  refine W.cond (fun ht16 => ?_) (fun ht16 => ?_)
  ·have hl := less_eq hq (fun e => by rw [e] at ht16; simp at ht16)
   refine W.draw [0, 1, 3, 0, 8, 24, 63, 127] 6 Tryzmixed (by kernel_rfl) ?_;refine Z415 ?_;refine Z110 ?_;refine Z415 ?_;refine Z110 ?_;refine D.tail ?_;refine R.lss ?_;refine Z147 ?_;refine Z123 ?_;exact K.fin (V.one V.tmp) ⟨by rw [hl]; simp, rfl⟩
  have hn := less_next hq (by have : ((dig a (k - 1) : Nat) : Int) = ((dig b (k - 1) : Nat) : Int) := (by simpa using ht16); omega)
  refine Z30 ?_;refine Z31 ?_;refine R.sub64 ?_;refine Z404 ?_;refine R.fin [2, 3, 5] ?_
  rw [show ((k : Int) - 1 - 1) = (((k - 1 : Nat) : Int) - 1) by omega]
  exact K.lpN (k - 1) ⟨by omega, hn⟩ (by omega) (StCut.of_eq rfl)
 have hk0 : k = 0 := by simp only [decide_eq_false_iff_not] at ht7; omega
 have hab : a = b := by have := hx.2; rw [hk0] at this; simpa using this
 refine Z90 ?_;refine Z113 ?_;exact K.fin (V.one V.tmp) ⟨by rw [hab]; simp, rfl⟩

theorem wsub {x y z : Nat} (hx : x < 4294967296) (hy : y < 4294967296) (hz : z ≤ 1) : IntKind.u64.wrap (IntKind.u64.wrap (IntKind.u64.wrap (4294967296 + (x : Int)) - (y : Int)) - (z : Int)) = ((4294967296 + x - y - z : Nat) : Int) := by
 simp only [IntKind.wrap_u64]; omega
theorem w1sub {q : Nat} (h : q ≤ 1) : IntKind.u64.wrap (1 - (q : Int)) = ((1 - q : Nat) : Int) := by
 simp only [IntKind.wrap_u64]; omega
section
variable (sa : Bool) (a : Nat) (sb : Bool) (b : Nat)
/-- The greater one, and the other. -/
def hiW : Bool × Nat := if decide (a < b) = true then (sb, b) else (sa, a)
def loW : Bool × Nat := if decide (a < b) = true then (sa, a) else (sb, b)
def addW : Bool × Nat := if (sa == sb) = true then (sa, a + b) else ((hiW sa a sb b).1, (hiW sa a sb b).2 - (loW sa a sb b).2)
end
theorem lo_le {sa : Bool} {a : Nat} {sb : Bool} {b : Nat} : (loW sa a sb b).2 ≤ (hiW sa a sb b).2 := by
 unfold loW hiW
 split
 ·rename_i h; have := of_decide_eq_true h; simp only; omega
 rename_i h; simp only [decide_eq_true_eq] at h; simp only; omega
theorem c62 (sa : Bool) (a : Nat) (sb : Bool) (b : Nat) (ha : a < B32 ^ 5) (hb : b < B32 ^ 5) (Hp : List AObj) : AFun Tryz.prog 62 [.agg (wF sa (dig a)), .agg (wF sb (dig b))] Hp (.agg (wF (addW sa a sb b).1 (dig (addW sa a sb b).2))) := by
 refine ACall.body [.cell 4 71] [0, 1] Tryz.func62 Tryz.ntmps62 (fun d => ?_)
 refine Z396 ?_;refine R.box ?_;refine R.box ?_;refine Z420 ?_;refine R.fin [2, 3, 4] ?_;refine Z396 ?_;refine Z77 ?_;refine Z86 ?_;refine Z426 ?_;refine Z11 ?_;refine Z77 ?_;refine Z77 ?_;refine R.beql jU ?_;refine R.fin [2, 3, 4, 5, 19] ?_
 refine W.cond (fun ht19 => ?_) (fun ht19 => ?_)
 ·have had : addW sa a sb b = (sa, a + b) := if_pos ht19
  refine Z3 ?_;refine R.fin [2, 3, 4, 5, 6] ?_;refine Z97 ?_;refine Z433 ?_
  refine AW.loopC (α := Nat) (fun k => ⟨78, setF 2 (.ptr (oid Hp.length 0) 0) (setF 3 (.ptr (oid Hp.length 1) 0) (setF 4 (.ptr (oid Hp.length 2) 0) (setF 5 (.ptr (oid Hp.length 3) 0) (setF 6 (u64A (car a b k : Nat)) (setF 7 (intA (k : Nat)) (fun _ => .any)))))), Hp, [.cells 71 (wF sa (dig a)), .cells 71 (wF sb (dig b)), .cells 71 [boolA false, u64A 0, u64A 0, u64A 0, u64A 0, u64A 0], .cells 71 (wF sa (uptoD (a + b) k))], [], none⟩) (fun k => k ≤ 5) (fun k => 5 - k) (0) (Nat.zero_le _) (StLe.of_eq (by rw [car_zero]; rfl)) rfl (fun k hx => ?_)
  refine Z151 ?_;refine R.fin [2, 3, 4, 5, 6, 7, 21] ?_
  refine W.cond (fun ht21 => ?_) (fun ht21 => ?_)
  ·have hk : k < 5 := by simp at ht21; omega
   refine Z88 ?_;refine W.draw [0, 0, 3, 7, 0, 0, 48, 112, 255, 0, 1023, 2047] 10 Tryzmixed (by kernel_rfl) ?_;refine Z320 ?_;refine Z320 ?_;refine D.add ?_;refine Z415 ?_;refine D.tail ?_;refine Z350 ?_;refine R.fin [2, 3, 4, 5, 7, 8] ?_;refine Z396 ?_
   rw [wsum (by have := dig_lt a k; have := dig_lt b k; have := car_le a b k; omega)]
   refine Z56 ?_;refine R.rem ?_
   rw [wrem, dig_add]
   refine Z194 ?_
   refine R.storeOwn jS (hput := uptoD_put hk) (hfit := by simp; omega) ?_
   refine R.fin [2, 3, 4, 5, 7, 8] ?_;refine Z351 ?_
   rw [wquo (by have := dig_lt a k; have := dig_lt b k; have := car_le a b k; omega), car_step]
   refine Z404 ?_;refine Z433 ?_;refine Z141 ?_;refine Z433 ?_;exact Z441
  have hke : k = 5 := by simp at ht21; omega
  refine Z347 ?_
  rw [hke, uptoD_all]
  refine Z176 ?_;refine Z36 ?_;refine K.thR ?_;exact Z442
 have had : addW sa a sb b = ((hiW sa a sb b).1, (hiW sa a sb b).2 - (loW sa a sb b).2) := if_neg (by rw [ht19]; simp)
 refine Z50 ?_;refine Z443 ?_;refine Z430 ?_;refine Z443 ?_;refine Z430 ?_;refine R.call Tryz.call87 (c87 a b ha hb _) ?_;refine R.fin [2, 3, 4, 5, 47] ?_
 refine W.cond (fun ht47 => ?_) (fun ht47 => ?_)
 ·have hhi : (hiW sa a sb b) = (sb, b) := if_pos ht47
  have hlo : (loW sa a sb b) = (sa, a) := if_pos ht47
  refine Z7 ?_;refine Z176 ?_;refine Z409 ?_;refine Z426 ?_;refine Z411 ?_;refine Z77 ?_;refine Z183 ?_;refine Z426 ?_;refine K.thN ?_;refine Z3 ?_;refine R.fin [2, 3, 4, 5, 9] ?_;refine Z97 ?_;refine Z444 ?_
  refine AW.loopC (α := Nat) (fun k => ⟨78, setF 2 (.ptr (oid Hp.length 0) 0) (setF 3 (.ptr (oid Hp.length 1) 0) (setF 4 (.ptr (oid Hp.length 2) 0) (setF 5 (.ptr (oid Hp.length 3) 0) (setF 9 (u64A (bor (hiW sa a sb b).2 (loW sa a sb b).2 k : Nat)) (setF 10 (intA (k : Nat)) (fun _ => .any)))))), Hp, [.cells 71 (wF (hiW sa a sb b).1 (dig (hiW sa a sb b).2)), .cells 71 (wF (loW sa a sb b).1 (dig (loW sa a sb b).2)), .cells 71 [boolA false, u64A 0, u64A 0, u64A 0, u64A 0, u64A 0], .cells 71 (wF (hiW sa a sb b).1 (uptoD ((hiW sa a sb b).2 - (loW sa a sb b).2) k))], [], none⟩) (fun k => k ≤ 5) (fun k => 5 - k) (0) (Nat.zero_le _) (StLe.of_eq (by rw [bor_zero, hhi, hlo]; rfl)) rfl (fun k hx => ?_)
  refine Z151 ?_;refine R.fin [2, 3, 4, 5, 9, 10, 54] ?_
  refine W.cond (fun ht54 => ?_) (fun ht54 => ?_)
  ·have hk : k < 5 := by simp at ht54; omega
   refine Z88 ?_;refine Z327 ?_;refine D.add ?_;refine Z320 ?_;refine D.sub ?_;refine Z415 ?_;refine D.tail ?_;refine R.sub ?_;refine Z404 ?_;refine R.fin [2, 3, 4, 5, 10, 11] ?_;refine Z396 ?_
   rw [wsub (dig_lt _ k) (dig_lt _ k) (bor_le _ _ k)]
   refine Z56 ?_;refine R.rem ?_
   rw [wrem, dig_sub lo_le]
   refine Z194 ?_
   refine R.storeOwn jS (hput := uptoD_put hk) (hfit := by simp; omega) ?_
   refine R.fin [2, 3, 4, 5, 10, 11] ?_;refine Z351 ?_
   rw [wquo (by have := dig_lt (hiW sa a sb b).2 k; omega)]
   refine R.sub ?_
   rw [w1sub (by have := dig_lt (hiW sa a sb b).2 k; omega), bor_step]
   refine Z404 ?_;refine Z444 ?_;refine Z141 ?_;exact Z295
  have hke : k = 5 := by simp at ht54; omega
  refine Z347 ?_
  rw [hke, uptoD_all]
  refine Z176 ?_;exact Z341
 have hhi : (hiW sa a sb b) = (sa, a) := if_neg (by rw [ht47]; simp)
 have hlo : (loW sa a sb b) = (sb, b) := if_neg (by rw [ht47]; simp)
 refine Z2 ?_;refine Z3 ?_;refine R.fin [2, 3, 4, 5, 9] ?_;refine Z97 ?_;refine Z444 ?_
 refine AW.loopC (α := Nat) (fun k => ⟨78, setF 2 (.ptr (oid Hp.length 0) 0) (setF 3 (.ptr (oid Hp.length 1) 0) (setF 4 (.ptr (oid Hp.length 2) 0) (setF 5 (.ptr (oid Hp.length 3) 0) (setF 9 (u64A (bor (hiW sa a sb b).2 (loW sa a sb b).2 k : Nat)) (setF 10 (intA (k : Nat)) (fun _ => .any)))))), Hp, [.cells 71 (wF (hiW sa a sb b).1 (dig (hiW sa a sb b).2)), .cells 71 (wF (loW sa a sb b).1 (dig (loW sa a sb b).2)), .cells 71 [boolA false, u64A 0, u64A 0, u64A 0, u64A 0, u64A 0], .cells 71 (wF (hiW sa a sb b).1 (uptoD ((hiW sa a sb b).2 - (loW sa a sb b).2) k))], [], none⟩) (fun k => k ≤ 5) (fun k => 5 - k) (0) (Nat.zero_le _) (StLe.of_eq (by rw [bor_zero, hhi, hlo]; rfl)) rfl (fun k hx => ?_)
 refine Z151 ?_;refine R.fin [2, 3, 4, 5, 9, 10, 54] ?_
 refine W.cond (fun ht54 => ?_) (fun ht54 => ?_)
 ·have hk : k < 5 := by simp at ht54; omega
  refine Z88 ?_;refine Z327 ?_;refine D.add ?_;refine Z320 ?_;refine D.sub ?_;refine Z415 ?_;refine D.tail ?_;refine R.sub ?_;refine Z404 ?_;refine R.fin [2, 3, 4, 5, 10, 11] ?_;refine Z396 ?_
  rw [wsub (dig_lt _ k) (dig_lt _ k) (bor_le _ _ k)]
  refine Z56 ?_;refine R.rem ?_
  rw [wrem, dig_sub lo_le]
  refine Z194 ?_
  refine R.storeOwn jS (hput := uptoD_put hk) (hfit := by simp; omega) ?_
  refine R.fin [2, 3, 4, 5, 10, 11] ?_;refine Z351 ?_
  rw [wquo (by have := dig_lt (hiW sa a sb b).2 k; omega)]
  refine R.sub ?_
  rw [w1sub (by have := dig_lt (hiW sa a sb b).2 k; omega), bor_step]
  refine Z404 ?_;refine Z444 ?_;refine Z141 ?_;exact Z295
 have hke : k = 5 := by simp at ht54; omega
 refine Z347 ?_
 rw [hke, uptoD_all]
 refine Z176 ?_;exact Z341

set_option maxRecDepth 8000
/-! Multiplied digit by digit. -/
def valF (F : Nat → Nat) : Nat := F 0 + 4294967296 * (F 1 + 4294967296 * (F 2 + 4294967296 * (F 3 + 4294967296 * F 4)))
def updF (F : Nat → Nat) (p v j : Nat) : Nat := if j = p then v else F j
theorem dig_next (x y j : Nat) (hx : x < 4294967296) : dig (x + 4294967296 * y) (j + 1) = dig y j := by
 unfold dig
 rw [Nat.pow_succ, Nat.mul_comm (B32 ^ j), ← Nat.div_div_eq_div_mul, show (x + 4294967296 * y) / B32 = y by show (x + 4294967296 * y) / 4294967296 = y; omega]
theorem dig_here (x y : Nat) (hx : x < 4294967296) : dig (x + 4294967296 * y) 0 = x := by
 unfold dig
 simp only [Nat.pow_zero, Nat.div_one]
 show (x + 4294967296 * y) % 4294967296 = x
 omega
theorem dig_val {F : Nat → Nat} (h : ∀ j, F j < 4294967296) : ∀ j, j < 5 → dig (valF F) j = F j := by
 intro j hj
 unfold valF
 rcases j with _ | _ | _ | _ | _ | j
 ·exact dig_here _ _ (h 0)
 ·rw [dig_next _ _ _ (h 0)]; exact dig_here _ _ (h 1)
 ·rw [dig_next _ _ _ (h 0), dig_next _ _ _ (h 1)]; exact dig_here _ _ (h 2)
 ·rw [dig_next _ _ _ (h 0), dig_next _ _ _ (h 1), dig_next _ _ _ (h 2)]; exact dig_here _ _ (h 3)
 ·rw [dig_next _ _ _ (h 0), dig_next _ _ _ (h 1), dig_next _ _ _ (h 2), dig_next _ _ _ (h 3)]
  have := dig_here (F 4) 0 (h 4)
  simpa using this
 omega
theorem val_upd (F : Nat → Nat) (x c p : Nat) (hp : p < 5) : valF (updF F p ((F p + x % 4294967296 + c % 4294967296) % 4294967296)) + ((F p + x % 4294967296 + c % 4294967296) / 4294967296 + x / 4294967296 + c / 4294967296) * B32 ^ (p + 1) = valF F + (x + c) * B32 ^ p := by
 unfold valF updF B32
 rcases p with _ | _ | _ | _ | _ | p
 ·simp only [Nat.reduceEqDiff, if_true, if_false, Nat.reducePow, Nat.reduceAdd, Nat.zero_add]; simp; omega
 ·simp only [Nat.reduceEqDiff, if_true, if_false, Nat.reducePow, Nat.reduceAdd, Nat.zero_add]; simp; omega
 ·simp only [Nat.reduceEqDiff, if_true, if_false, Nat.reducePow, Nat.reduceAdd, Nat.zero_add]; simp; omega
 ·simp only [Nat.reduceEqDiff, if_true, if_false, Nat.reducePow, Nat.reduceAdd, Nat.zero_add]; simp; omega
 ·simp only [Nat.reduceEqDiff, if_true, if_false, Nat.reducePow, Nat.reduceAdd, Nat.zero_add]; simp; omega
 omega
def mulT (a b i k : Nat) : Nat := (a % B32 ^ i) * b + dig a i * (b % B32 ^ k) * B32 ^ i
structure MulAt (F : Nat → Nat) (c a b i k : Nat) : Prop where
 dg : ∀ j, F j < 4294967296
 c2 : c < 8589934592
 eq : valF F + c * B32 ^ (i + k) = mulT a b i k
theorem mulT_next (a b i k : Nat) : mulT a b i (k + 1) = mulT a b i k + dig a i * dig b k * B32 ^ (i + k) := by
 unfold mulT
 rw [mod_next b k, Nat.mul_add, Nat.add_mul, Nat.pow_add]
 have : dig a i * (B32 ^ k * dig b k) * B32 ^ i = dig a i * dig b k * (B32 ^ i * B32 ^ k) := by simp only [Nat.mul_comm, Nat.mul_left_comm, Nat.mul_assoc]
 omega
theorem mulT_le (a b i k : Nat) : mulT a b i k ≤ a * b := by
 have h1 : mulT a b i k ≤ (a % B32 ^ (i + 1)) * b := by
  unfold mulT
  rw [mod_next a i, Nat.add_mul]
  have : dig a i * (b % B32 ^ k) * B32 ^ i ≤ B32 ^ i * dig a i * b := by
   rw [Nat.mul_right_comm, Nat.mul_comm (dig a i)]
   exact Nat.mul_le_mul_left _ (Nat.mod_le _ _)
  omega
 exact Nat.le_trans h1 (Nat.mul_le_mul_right _ (Nat.mod_le _ _))
theorem MulAt.start (a b : Nat) : MulAt (fun _ => 0) 0 a b 0 0 := ⟨fun _ => by decide, by decide, by unfold mulT; simp [valF, Nat.mod_one]⟩
theorem prod_lt {x y : Nat} (hx : x < 4294967296) (hy : y < 4294967296) : x * y / 4294967296 ≤ 4294967294 ∧ x * y < 18446744073709551616 := by
 have : x * y ≤ 4294967295 * 4294967295 := Nat.mul_le_mul (by omega) (by omega)
 omega
theorem MulAt.step {F : Nat → Nat} {c a b i k : Nat} (h : MulAt F c a b i k) (hp : i + k < 5) : MulAt (updF F (i + k) ((F (i + k) + dig a i * dig b k % 4294967296 + c % 4294967296) % 4294967296)) ((F (i + k) + dig a i * dig b k % 4294967296 + c % 4294967296) / 4294967296 + dig a i * dig b k / 4294967296 + c / 4294967296) a b i (k + 1) := by
 have hx := prod_lt (dig_lt a i) (dig_lt b k)
 have hf := h.dg (i + k)
 have hc := h.c2
 refine ⟨fun j => ?_, by omega, ?_⟩
 ·unfold updF
  split
  ·exact Nat.mod_lt _ (by decide)
  exact h.dg j
 have := val_upd F (dig a i * dig b k) c (i + k) hp
 rw [mulT_next, ← h.eq]
 rw [show i + (k + 1) = i + k + 1 by omega, this, Nat.add_mul]
 omega
theorem MulAt.idx {F : Nat → Nat} {c a b i k : Nat} (h : MulAt F c a b i k) (ha : a < B32 ^ 2) (hb : b < B32 ^ 2) (hi : i < 2) (hc : k < 2 ∨ 0 < c) : i + k < 4 := by
 rcases Nat.lt_or_ge (i + k) 4 with h1 | h1
 ·exact h1
 exfalso
 have hk : 0 < c := by omega
 have h2 : B32 ^ 4 ≤ B32 ^ (i + k) := Nat.pow_le_pow_right (by decide) h1
 have h3 : B32 ^ (i + k) ≤ c * B32 ^ (i + k) := Nat.le_mul_of_pos_left _ hk
 have h4 := mulT_le a b i k
 have h5 : a * b < B32 ^ 2 * B32 ^ 2 := Nat.mul_lt_mul'' ha hb
 rw [← Nat.pow_add] at h5
 have h6 := h.eq
 have : B32 ^ (2 + 2) = B32 ^ 4 := rfl
 omega
theorem MulAt.next {F : Nat → Nat} {a b i k : Nat} (h : MulAt F 0 a b i k) (hb : b < B32 ^ 2) (hk : 2 ≤ k) : MulAt F 0 a b (i + 1) 0 := by
 refine ⟨h.dg, by decide, ?_⟩
 have h1 := h.eq
 rw [Nat.zero_mul] at h1 ⊢
 rw [h1]
 unfold mulT
 have h2 : b % B32 ^ k = b := Nat.mod_eq_of_lt (Nat.lt_of_lt_of_le hb (Nat.pow_le_pow_right (by decide) hk))
 rw [h2, mod_next a i, Nat.pow_zero, Nat.mod_one, Nat.mul_zero, Nat.zero_mul, Nat.add_zero, Nat.add_mul]
 have : dig a i * b * B32 ^ i = B32 ^ i * dig a i * b := by rw [Nat.mul_right_comm, Nat.mul_comm (dig a i)]
 omega
theorem MulAt.done {F : Nat → Nat} {a b : Nat} (h : MulAt F 0 a b 2 0) (ha : a < B32 ^ 2) : ∀ j, j < 5 → F j = dig (a * b) j := by
 intro j hj
 have h1 := h.eq
 have h2 : mulT a b 2 0 = a * b := by
  unfold mulT
  rw [Nat.mod_eq_of_lt ha, Nat.pow_zero, Nat.mod_one]
  simp
 rw [h2, Nat.zero_mul, Nat.add_zero] at h1
 rw [← h1]
 exact (dig_val h.dg j hj).symm
set_option maxRecDepth 4000
theorem wmul {x y : Nat} (hx : x < 4294967296) (hy : y < 4294967296) : IntKind.u64.wrap ((x : Int) * (y : Int)) = ((x * y : Nat) : Int) := by
 have := prod_lt hx hy
 rw [IntKind.wrap_u64, show (x : Int) * (y : Int) = ((x * y : Nat) : Int) by simp]
 omega
theorem rem_0 {x : Nat} (h : x = 0) : (0 : Int).tmod 4294967296 = ((x % 4294967296 : Nat) : Int) := by subst h; rfl
theorem quo_0 {x : Nat} (h : x = 0) : IntKind.u64.wrap ((0 : Int).tdiv 4294967296) = ((x / 4294967296 : Nat) : Int) := by subst h; rfl
theorem dig_above {b k : Nat} (hb : b < B32 ^ 2) (hk : 2 ≤ k) : dig b k = 0 := dig_small (Nat.lt_of_lt_of_le hb (Nat.pow_le_pow_right (by decide) hk))
theorem c63 (sa : Bool) (a : Nat) (sb : Bool) (b : Nat) (ha : a < B32 ^ 2) (hb : b < B32 ^ 2) (Hp : List AObj) : AFun Tryz.prog 63 [.agg (wF sa (dig a)), .agg (wF sb (dig b))] Hp (.agg (wF (sa != sb) (dig (a * b)))) := by
 refine ACall.body [.cell 4 71] [0, 1] Tryz.func63 Tryz.ntmps63 (fun d => ?_)
 refine Z165 ?_;refine Z420 ?_;refine R.fin [2, 3, 4] ?_;refine Z396 ?_;refine Z193 ?_;refine Z193 ?_;refine R.bneq jU ?_;refine Z86 ?_;refine Z426 ?_;refine Z97 ?_;refine R.fin [2, 3, 4, 5, 6] ?_
 refine AW.loopC (α := Nat × (Nat → Nat)) (fun x => ⟨68, setF 2 (.ro (wF sa (dig a))) (setF 3 (.ro (wF sb (dig b))) (setF 4 (.ptr (oid Hp.length 0) 0) (setF 5 (.ptr (oid Hp.length 1) 0) (setF 6 (intA (x.1 : Nat)) (fun _ => .any))))), Hp, [.cells 71 [boolA false, u64A 0, u64A 0, u64A 0, u64A 0, u64A 0], .cells 71 (wF (sa != sb) (x.2))], [], none⟩) (fun x => x.1 ≤ 2 ∧ MulAt x.2 0 a b x.1 0) (fun x => 2 - x.1) ((0, fun _ => 0)) ⟨Nat.zero_le _, .start a b⟩ (StLe.of_eq rfl) rfl (fun x hx => ?_)
 obtain ⟨i, F0⟩ := x
 simp only at hx ⊢
 refine Z151 ?_;refine R.fin [2, 3, 4, 5, 6, 18] ?_
 refine W.cond (fun ht18 => ?_) (fun ht18 => ?_)
 ·have hi : i < 2 := by simp at ht18; omega
  refine Z88 ?_;refine Z3 ?_;refine Z433 ?_;refine Z3 ?_;refine Z445 ?_
  refine AW.loopC (α := Nat × Nat × (Nat → Nat)) (fun y => ⟨68, setF 2 (.ro (wF sa (dig a))) (setF 3 (.ro (wF sb (dig b))) (setF 4 (.ptr (oid Hp.length 0) 0) (setF 5 (.ptr (oid Hp.length 1) 0) (setF 6 (intA (i : Nat)) (setF 7 (u64A (y.2.1 : Nat)) (setF 8 (intA (y.1 : Nat)) (fun _ => .any))))))), Hp, [.cells 71 [boolA false, u64A 0, u64A 0, u64A 0, u64A 0, u64A 0], .cells 71 (wF (sa != sb) (y.2.2))], [], none⟩) (fun y => MulAt y.2.2 y.2.1 a b i y.1) (fun y => 5 - (i + y.1)) ((0, 0, F0)) hx.2 (StLe.of_eq rfl) rfl (fun y hm => ?_)
  obtain ⟨k, c, F⟩ := y
  simp only at hm ⊢
  refine Z151 ?_;refine Z21 ?_;refine Z127 ?_;refine R.fin [2, 3, 4, 5, 6, 7, 8, 26] ?_
  refine W.cond (fun ht26 => ?_) (fun ht26 => ?_)
  ·have hp4 := hm.idx ha hb hi (by have h26 := ht26; simp at h26; omega)
   refine Z88 ?_;refine Z3 ?_;refine R.fin [2, 3, 4, 5, 6, 7, 8, 9] ?_;refine Z151 ?_;refine R.fin [2, 3, 4, 5, 6, 7, 8, 9, 30] ?_
   refine W.cond (fun ht30 => ?_) (fun ht30 => ?_)
   ·have hk2 : k < 2 := by simp at ht30; omega
    refine W.draw0 [0, 0, 3, 7, 0, 0, 48, 112, 255, 511] 8 Tryzmixed (by kernel_rfl) ?_;refine Z415 ?_;refine D.fieldAddrRo (off := 1) jU Tryz.sizeOf69 ?_;refine D.indexArrRo (i) jU Tryz.sizeOf68 (by omega) (hoff := pF_at (by omega)) ?_;refine D.loadRo jA ?_;refine Z415 ?_;refine D.fieldAddrRo (off := 1) jU Tryz.sizeOf69 ?_;refine D.indexArrRo (k) jU Tryz.sizeOf68 (by omega) (hoff := pF_at (by omega)) ?_;refine D.loadRo jA ?_;refine D.tail ?_;refine R.mul ?_;refine Z404 ?_;refine R.fin [2, 3, 4, 5, 6, 7, 8, 9] ?_;refine K.thN ?_;refine Z396 ?_
    first | rw [wmul (dig_lt a i) (dig_lt b k)] | skip
    refine Z56 ?_;refine R.add64 ?_;refine Z103 ?_;refine R.loadOwn jA (hy := wF_at (by omega)) ?_;refine Z405 ?_;refine R.rem ?_
    first | rw [wrem (dig a i * dig b k)] | rw [rem_0 hz]
    refine R.add ?_;refine Z405 ?_;refine R.rem ?_
    rw [wrem c]
    refine Z350 ?_;refine Z446 ?_;refine Z396 ?_
    rw [wsum (by have := prod_lt (dig_lt a i) (dig_lt b k); have := hm.dg (i + k); have := hm.c2; omega)]
    refine Z56 ?_;refine Z126 ?_;refine R.rem ?_
    rw [wrem (F (i + k) + dig a i * dig b k % 4294967296 + c % 4294967296)]
    refine Z103 ?_
    refine R.storeOwn jS (hput := wF_put (g := updF F (i + k) ((F (i + k) + dig a i * dig b k % 4294967296 + c % 4294967296) % 4294967296)) (by omega) (if_pos rfl) (fun j hj => if_neg hj)) (hfit := by simp; omega) ?_
    refine Z446 ?_;refine Z351 ?_
    rw [wquo (x := (F (i + k) + dig a i * dig b k % 4294967296 + c % 4294967296)) (by have := prod_lt (dig_lt a i) (dig_lt b k); have := hm.dg (i + k); have := hm.c2; omega)]
    refine Z308 ?_
    first | rw [wquo (x := dig a i * dig b k) (prod_lt (dig_lt a i) (dig_lt b k)).2] | rw [quo_0 hz]
    refine R.add ?_;refine Z308 ?_
    rw [wquo (x := c) (by have := prod_lt (dig_lt a i) (dig_lt b k); have := hm.dg (i + k); have := hm.c2; omega)]
    refine R.add ?_
    rw [wsum (by have := prod_lt (dig_lt a i) (dig_lt b k); have := hm.dg (i + k); have := hm.c2; omega)]
    refine Z404 ?_;refine Z445 ?_;refine Z141 ?_;refine Z445 ?_
    refine K.lpN (k + 1, _, _) (hm.step (by omega)) (by show 5 - (i + (k + 1)) < 5 - (i + k); omega) (StCut.of_eq rfl)
   have hk2 : 2 ≤ k := by simp at ht30; omega
   have hz : dig a i * dig b k = 0 := by rw [dig_above hb hk2, Nat.mul_zero]
   refine Z38 ?_
   first | rw [wmul (dig_lt a i) (dig_lt b k)] | skip
   refine Z56 ?_;refine R.add64 ?_;refine Z103 ?_;refine R.loadOwn jA (hy := wF_at (by omega)) ?_;refine Z405 ?_;refine R.rem ?_
   first | rw [wrem (dig a i * dig b k)] | rw [rem_0 hz]
   refine R.add ?_;refine Z405 ?_;refine R.rem ?_
   rw [wrem c]
   refine Z350 ?_;refine Z446 ?_;refine Z396 ?_
   rw [wsum (by have := prod_lt (dig_lt a i) (dig_lt b k); have := hm.dg (i + k); have := hm.c2; omega)]
   refine Z56 ?_;refine Z126 ?_;refine R.rem ?_
   rw [wrem (F (i + k) + dig a i * dig b k % 4294967296 + c % 4294967296)]
   refine Z103 ?_
   refine R.storeOwn jS (hput := wF_put (g := updF F (i + k) ((F (i + k) + dig a i * dig b k % 4294967296 + c % 4294967296) % 4294967296)) (by omega) (if_pos rfl) (fun j hj => if_neg hj)) (hfit := by simp; omega) ?_
   refine Z446 ?_;refine Z351 ?_
   rw [wquo (x := (F (i + k) + dig a i * dig b k % 4294967296 + c % 4294967296)) (by have := prod_lt (dig_lt a i) (dig_lt b k); have := hm.dg (i + k); have := hm.c2; omega)]
   refine Z308 ?_
   first | rw [wquo (x := dig a i * dig b k) (prod_lt (dig_lt a i) (dig_lt b k)).2] | rw [quo_0 hz]
   refine R.add ?_;refine Z308 ?_
   rw [wquo (x := c) (by have := prod_lt (dig_lt a i) (dig_lt b k); have := hm.dg (i + k); have := hm.c2; omega)]
   refine R.add ?_
   rw [wsum (by have := prod_lt (dig_lt a i) (dig_lt b k); have := hm.dg (i + k); have := hm.c2; omega)]
   refine Z404 ?_;refine Z445 ?_;refine Z141 ?_;refine Z445 ?_
   refine K.lpN (k + 1, _, _) (hm.step (by omega)) (by show 5 - (i + (k + 1)) < 5 - (i + k); omega) (StCut.of_eq rfl)
  have hkc : 2 ≤ k ∧ c = 0 := by simp at ht26; omega
  obtain ⟨hk2, hc0⟩ := hkc
  subst hc0
  refine Z53 ?_;refine K.lpE ?_;refine Z141 ?_;refine R.fin [2, 3, 4, 5, 6] ?_
  refine K.lpN (i + 1, F) ⟨hi, hm.next hb hk2⟩ (by show 2 - (i + 1) < 2 - i; omega) (StCut.of_eq rfl)
 have hie : i = 2 := by have := hx.1; simp at ht18; omega
 have hF := MulAt.done (hie ▸ hx.2) ha
 refine Z90 ?_;refine Z7 ?_;refine Z409 ?_;refine Z36 ?_;exact K.fin (V.one (V.cellN jA jS)) ⟨by rw [hF 0 (by decide), hF 1 (by decide), hF 2 (by decide), hF 3 (by decide), hF 4 (by decide)], rfl⟩

/-- A wide number as a number of 64 bits. -/
def smallW (s : Bool) (m : Nat) : Int × Int := if (s && decide (m ≤ 9223372036854775808)) = true then (-(m : Int), 0) else if ((!s) && decide (m ≤ 9223372036854775807)) = true then ((m : Int), 0) else (0, 4)
def wideI (s : Bool) (m : Nat) : Int := if s then -(m : Int) else m
theorem smallW_eq (s : Bool) (m : Nat) : smallW s m = if -9223372036854775808 ≤ wideI s m ∧ wideI s m ≤ 9223372036854775807 then (wideI s m, 0) else (0, 4) := by
 unfold smallW wideI
 cases s
 ·simp only [Bool.false_and, Bool.not_false, Bool.true_and, Bool.false_eq_true, if_false]
  by_cases h : m ≤ 9223372036854775807
  ·rw [if_pos (by simpa using h), if_pos ⟨by omega, by omega⟩]
  rw [if_neg (by simpa using h), if_neg (by omega)]
 simp only [Bool.true_and, Bool.not_true, Bool.false_and, Bool.false_eq_true, if_false, if_true]
 by_cases h : m ≤ 9223372036854775808
 ·rw [if_pos (by simpa using h), if_pos ⟨by omega, by omega⟩]
 rw [if_neg (by simpa using h), if_neg (by omega)]
theorem w_halves {x y : Nat} (hx : x < 4294967296) (hy : y < 4294967296) : IntKind.u64.wrap (IntKind.u64.wrap ((y : Int) * 4294967296) + (x : Int)) = ((x + 4294967296 * y : Nat) : Int) := by
 simp only [IntKind.wrap_u64]; omega
theorem small_big {m : Nat} (hm : m < B32 ^ 5) (h : (decide (0 < ((dig m 2 + dig m 3 + dig m 4 : Nat) : Int)) || decide (4294967296 ≤ ((dig m 1 : Nat) : Int))) = true) : 18446744073709551616 ≤ m := by
 rcases Nat.lt_or_ge m 18446744073709551616 with h1 | h1
 ·exfalso
  have e2 : dig m 2 = 0 := dig_small (Nat.lt_of_lt_of_le h1 (by decide))
  have e3 : dig m 3 = 0 := dig_small (Nat.lt_of_lt_of_le h1 (by decide))
  have e4 : dig m 4 = 0 := dig_small (Nat.lt_of_lt_of_le h1 (by decide))
  have := dig_lt m 1
  rw [e2, e3, e4] at h
  simp at h
  omega
 exact h1
theorem small_low {m : Nat} (hm : m < B32 ^ 5) (h : (decide (0 < ((dig m 2 + dig m 3 + dig m 4 : Nat) : Int)) || decide (4294967296 ≤ ((dig m 1 : Nat) : Int))) = false) : dig m 0 + 4294967296 * dig m 1 = m := by
 simp only [Bool.or_eq_false_iff, decide_eq_false_iff_not] at h
 have h2 : dig m 2 = 0 := by omega
 have h3 : dig m 3 = 0 := by omega
 have h4 : dig m 4 = 0 := by omega
 have e := dig_val (F := dig m) (fun j => dig_lt m j)
 have m0 := Nat.mod_add_div m 4294967296
 have m1 := Nat.mod_add_div (m / 4294967296) 4294967296
 unfold dig at *
 simp only [B32, Nat.reducePow, Nat.div_one, Nat.pow_zero, Nat.pow_one] at *
 omega
theorem small_1 {s : Bool} {m : Nat} (h : 18446744073709551616 ≤ m) : smallW s m = (0, 4) := by
 unfold smallW
 rw [if_neg (by simp; omega), if_neg (by simp; omega)]
theorem neg_w {u : Nat} (h : u ≤ 9223372036854775808) : IntKind.i64.wrap (IntKind.u64.wrap (0 - (u : Int))) = -(u : Int) := by
 simp only [IntKind.wrap_u64, IntKind.wrap_i64]; omega
theorem pos_w {u : Nat} (h : u ≤ 9223372036854775807) : IntKind.i64.wrap (u : Int) = (u : Int) := by
 simp only [IntKind.wrap_i64]; omega
theorem c65 (s : Bool) (m : Nat) (hm : m < B32 ^ 5) (Hp : List AObj) : AFun Tryz.prog 65 [.agg (wF s (dig m))] Hp (.tup [intA (smallW s m).1, intA (smallW s m).2]) := by
 refine ACall.body [.tmp 2, .tmp 3] [0] Tryz.func65 Tryz.ntmps65 (fun d => ?_)
 refine Z37 ?_;refine Z23 ?_;refine R.fin [1] ?_;refine Z396 ?_;refine Z447 ?_;refine R.indexArrRo (1) jU Tryz.sizeOf68 (by decide) (hoff := pF_at (by decide)) ?_;refine Z402 ?_;refine R.mul ?_;refine Z447 ?_;refine R.indexArrRo (0) jU Tryz.sizeOf68 (by decide) (hoff := pF_at (by decide)) ?_;refine Z402 ?_;refine R.add ?_
 rw [w_halves (dig_lt m 0) (dig_lt m 1)]
 refine Z404 ?_;refine R.fin [1, 4] ?_;refine Z11 ?_;refine Z447 ?_;refine R.indexArrRo (2) jU Tryz.sizeOf68 (by decide) (hoff := pF_at (by decide)) ?_;refine Z402 ?_;refine Z447 ?_;refine R.indexArrRo (3) jU Tryz.sizeOf68 (by decide) (hoff := pF_at (by decide)) ?_;refine Z402 ?_;refine R.add ?_;refine Z447 ?_;refine R.indexArrRo (4) jU Tryz.sizeOf68 (by decide) (hoff := pF_at (by decide)) ?_;refine Z402 ?_;refine R.add ?_
 rw [wsum (by have := dig_lt m 2; have := dig_lt m 3; have := dig_lt m 4; omega)]
 refine R.gtr ?_;refine Z405 ?_;refine G.fieldAddrRo (off := 1) jU Tryz.sizeOf69 ?_;refine G.indexArrRo (1) jU Tryz.sizeOf68 (by decide) (hoff := pF_at (by decide)) ?_;refine G.loadRo jA ?_;refine G.geq ?_;refine R.pickOr ?_;refine R.fin [1, 4, 30] ?_
 refine W.cond (fun ht30 => ?_) (fun ht30 => ?_)
 ·have hw := small_1 (s := s) (small_big hm ht30)
  refine Z64 ?_;exact Z218
 have hu := small_low hm ht30
 rw [hu]
 refine Z50 ?_;refine Z193 ?_;refine Z21 ?_;refine G.leq ?_;refine Z398 ?_;refine R.fin [1, 4, 36] ?_
 refine W.cond (fun ht36 => ?_) (fun ht36 => ?_)
 ·have hw : smallW s m = (-(m : Int), 0) := if_pos (by simp at ht36 ⊢; exact ⟨ht36.1, by omega⟩)
  refine Z0 ?_;refine R.sub ?_;refine Z408 ?_
  rw [neg_w (by simp at ht36; omega)]
  refine Z23 ?_;exact Z218
 refine Z50 ?_;refine Z193 ?_;refine R.not ?_;refine Z21 ?_;refine G.leq ?_;refine Z398 ?_;refine R.fin [4, 46] ?_
 refine W.cond (fun ht46 => ?_) (fun ht46 => ?_)
 ·have hw : smallW s m = ((m : Int), 0) := by
   unfold smallW
   rw [if_neg (by simp at ht46 ⊢; simp [ht46.1]), if_pos (by simp at ht46 ⊢; exact ⟨ht46.1, by omega⟩)]
  refine Z0 ?_;refine Z408 ?_
  rw [pos_w (by simp at ht46; omega)]
  refine Z23 ?_;exact Z218
 have hw : smallW s m = (0, 4) := by
  unfold smallW
  rw [if_neg (by simp at ht36 ⊢; intro hs; have := ht36 hs; omega), if_neg (by simp at ht46 ⊢; intro hs; have := ht46 hs; omega)]
 refine Z2 ?_;refine Z64 ?_;refine Z27 ?_;exact K.fin (V.two V.tmp V.tmp) ⟨by rw [hw], rfl⟩

/-- ref16.num -/
def numW (s : Bool) (m : Nat) : Rs := if ((smallW s m).2 != 0) = true then (noV, (smallW s m).2) else (⟨1, (smallW s m).1, []⟩, 0)
theorem c40 (s : Bool) (m : Nat) (hm : m < B32 ^ 5) (Hp : List AObj) : AFun Tryz.prog 40 [.agg (wF s (dig m))] Hp (resA (numW s m)) := by
 refine ACall.body [.cell 2 23, .tmp 3] [0] Tryz.func40 Tryz.ntmps40 (fun d => ?_)
 refine Z339 ?_;refine Z55 ?_;refine R.call Tryz.call65 (c65 s m hm _) ?_;refine Z252 ?_;refine R.fin [2, 4, 5] ?_;refine Z98 ?_;refine R.fin [2, 4, 5, 12] ?_
 refine W.cond (fun ht12 => ?_) (fun ht12 => ?_)
 ·have hw : numW s m = (noV, (smallW s m).2) := if_pos ht12
  refine Z71 ?_;refine Z405 ?_;refine Z118 ?_;exact Z294
 have hw : numW s m = (⟨1, (smallW s m).1, []⟩, 0) := if_neg (by rw [ht12]; simp)
 refine Z149 ?_;refine Z9 ?_;refine Z27 ?_;exact Z435

theorem c38 (b : Bool) (Hp : List AObj) : AFun Tryz.prog 38 [boolA b] Hp (valA (boolV b)) := by
 refine ACall.body [.cell 2 23] [0] Tryz.func38 Tryz.ntmps38 (fun d => ?_)
 refine Z116 ?_;refine Z14 ?_;refine R.fin [2, 3] ?_
 refine W.cond (fun ht3 => ?_) (fun ht3 => ?_)
 ·have hb : b = true := ht3
  refine Z71 ?_;refine Z133 ?_;exact Z448
 have hb : b = false := ht3
 refine Z38 ?_;refine Z209 ?_;exact Z448

theorem wquoN {x y : Nat} (h : x < 18446744073709551616) : IntKind.u64.wrap ((x : Int).tdiv (y : Int)) = ((x / y : Nat) : Int) := by
 have : x / y ≤ x := Nat.div_le_self x y
 rw [Int.tdiv_eq_ediv_of_nonneg (by omega), IntKind.wrap_u64, ← Int.natCast_ediv]
 generalize x / y = z at *
 omega
theorem wremN (x y : Nat) : (x : Int).tmod (y : Int) = ((x % y : Nat) : Int) := by
 rw [Int.tmod_eq_emod_of_nonneg (by omega), ← Int.natCast_emod]
theorem wide_two {s : Bool} {q : Nat} (h : q < 18446744073709551616) : [boolA s, u64A (q % 4294967296 : Nat), u64A (q / 4294967296 : Nat), u64A 0, u64A 0, u64A 0] = wF s (dig q) := by
 have e2 : dig q 2 = 0 := dig_small (Nat.lt_of_lt_of_le h (by decide))
 have e3 : dig q 3 = 0 := dig_small (Nat.lt_of_lt_of_le h (by decide))
 have e4 : dig q 4 = 0 := dig_small (Nat.lt_of_lt_of_le h (by decide))
 unfold wF
 rw [dig_0, dig_1, e2, e3, e4, Nat.mod_eq_of_lt (show q / 4294967296 < 4294967296 by omega)]
 rfl
theorem halves_of {m : Nat} (h : m < 18446744073709551616) : dig m 0 + 4294967296 * dig m 1 = m := by
 rw [dig_0, dig_1]
 omega
theorem c64 (a b : Int) (a0 : -9223372036854775808 ≤ a) (a1 : a ≤ 9223372036854775807) (b0 : -9223372036854775808 ≤ b) (b1 : b ≤ 9223372036854775807) (hb : b ≠ 0) (Hp : List AObj) : AFun Tryz.prog 64 [intA a, intA b] Hp (.tup [.agg (wF (decide (a < 0) != decide (b < 0)) (dig (a.natAbs / b.natAbs))), .agg (wF (decide (a < 0)) (dig (a.natAbs % b.natAbs)))]) := by
 have hA : a.natAbs < 18446744073709551616 := by omega
 have hB : b.natAbs < 18446744073709551616 := by omega
 have hB0 : ((b.natAbs : Nat) : Int) ≠ 0 := by omega
 have hq : (a.natAbs / b.natAbs) < 18446744073709551616 := Nat.lt_of_le_of_lt (Nat.div_le_self _ _) hA
 have hr : (a.natAbs % b.natAbs) < 18446744073709551616 := Nat.lt_of_le_of_lt (Nat.mod_le _ _) hA
 refine ACall.body [.cell 4 71, .cell 5 71] [0, 1] Tryz.func64 Tryz.ntmps64 (fun d => ?_)
 refine Z47 ?_;refine Z420 ?_;refine R.fin [0, 1, 4, 5] ?_;refine Z0 ?_;refine R.call Tryz.call42 (c42w a a0 a1 _) ?_;refine Z405 ?_;refine R.call Tryz.call42 (c42w b b0 b1 _) ?_;refine Z420 ?_;refine Z333 ?_;refine R.fin [4, 5, 6, 7] ?_;refine W.draw [0, 1, 3, 7, 0, 16, 48, 127, 0, 256, 768, 1792, 0, 4096, 12288, 32512, 255, 131071] 17 Tryzmixed (by kernel_rfl) ?_;refine Z352 ?_;refine D.loadOwn jA ?_;refine D.mul ?_;refine Z353 ?_;refine D.loadOwn jA ?_;refine D.add ?_;refine Z352 ?_;refine D.loadOwn jA ?_;refine D.mul ?_;refine Z353 ?_;refine D.loadOwn jA ?_;refine D.add ?_;refine Z290 ?_;refine Z404 ?_;refine R.fin [4, 5, 6, 7, 8, 9] ?_;refine W.draw [0, 0, 3, 0, 0, 24, 7, 127] 7 Tryzmixed (by kernel_rfl) ?_
 rw [w_halves (dig_lt a.natAbs 0) (dig_lt a.natAbs 1), w_halves (dig_lt b.natAbs 0) (dig_lt b.natAbs 1), halves_of hA, halves_of hB]
 refine Z240 ?_;refine D.quo (h0 := hB0) ?_;refine Z240 ?_;refine D.rem (h0 := hB0) ?_;refine Z290 ?_;refine Z404 ?_;refine R.fin [4, 5, 6, 7, 10, 11] ?_;refine Z396 ?_
 rw [wquoN hA, wremN]
 refine Z77 ?_;refine Z77 ?_;refine R.bneq jU ?_;refine Z86 ?_;refine R.fin [4, 5, 6, 10, 11, 12] ?_;refine Z0 ?_;refine R.rem ?_;refine Z308 ?_
 rw [wrem (a.natAbs / b.natAbs), wquo hq]
 refine Z61 ?_;refine Z409 ?_;refine Z394 ?_;refine R.fin [4, 5, 6, 11, 12] ?_;refine Z396 ?_;refine Z77 ?_;refine Z86 ?_;refine R.fin [4, 5, 11, 12, 13] ?_;refine Z0 ?_;refine R.rem ?_;refine Z308 ?_
 rw [wrem (a.natAbs % b.natAbs), wquo hr]
 refine Z61 ?_;refine Z409 ?_;refine Z394 ?_;refine R.fin [4, 5, 12, 13] ?_
 refine W.drawY [0, 0, 1, 7] [2] [.q 2 [] [], .s [] (some 0) [] []] (fun _ => Hp) (fun B => [.cells 71 (if B 0 = true then [boolA (decide (a < 0) != decide (b < 0)), u64A ((a.natAbs / b.natAbs) % 4294967296 : Nat), u64A ((a.natAbs / b.natAbs) / 4294967296 : Nat), u64A 0, u64A 0, u64A 0] else [boolA false, u64A 0, u64A 0, u64A 0, u64A 0, u64A 0]), .cells 71 [boolA false, u64A 0, u64A 0, u64A 0, u64A 0, u64A 0], .cells 71 (wF (decide (a < 0)) (dig a.natAbs)), .cells 71 (wF (decide (b < 0)) (dig b.natAbs)), .cells 71 [boolA (decide (a < 0) != decide (b < 0)), u64A ((a.natAbs / b.natAbs) % 4294967296 : Nat), u64A ((a.natAbs / b.natAbs) / 4294967296 : Nat), u64A 0, u64A 0, u64A 0], .cells 71 [boolA (decide (a < 0)), u64A ((a.natAbs % b.natAbs) % 4294967296 : Nat), u64A ((a.natAbs % b.natAbs) / 4294967296 : Nat), u64A 0, u64A 0, u64A 0]]) Tryzmixed (by kernel_rfl) rfl rfl (fun _ => rfl) ?_
 apply Y.q
 case h1 =>
  intro B hT hF
  refine Z429 ?_;exact Z222
 case hTF => decide
 refine Y.storeOwn (u := Hp.length) (n := 0) (t' := 71) (cs := [boolA false, u64A 0, u64A 0, u64A 0, u64A 0, u64A 0]) (cs' := [boolA (decide (a < 0) != decide (b < 0)), u64A ((a.natAbs / b.natAbs) % 4294967296 : Nat), u64A ((a.natAbs / b.natAbs) / 4294967296 : Nat), u64A 0, u64A 0, u64A 0]) Tryz.sizeOf71 (fun B hB => ⟨rfl, by simp only [hB]; rfl, by simp [upd], rfl⟩) ?_
 refine Y.tail (tn := [2]) (O := [.cells 71 [boolA (decide (a < 0) != decide (b < 0)), u64A ((a.natAbs / b.natAbs) % 4294967296 : Nat), u64A ((a.natAbs / b.natAbs) / 4294967296 : Nat), u64A 0, u64A 0, u64A 0], .cells 71 [boolA false, u64A 0, u64A 0, u64A 0, u64A 0, u64A 0], .cells 71 (wF (decide (a < 0)) (dig a.natAbs)), .cells 71 (wF (decide (b < 0)) (dig b.natAbs)), .cells 71 [boolA (decide (a < 0) != decide (b < 0)), u64A ((a.natAbs / b.natAbs) % 4294967296 : Nat), u64A ((a.natAbs / b.natAbs) / 4294967296 : Nat), u64A 0, u64A 0, u64A 0], .cells 71 [boolA (decide (a < 0)), u64A ((a.natAbs % b.natAbs) % 4294967296 : Nat), u64A ((a.natAbs % b.natAbs) / 4294967296 : Nat), u64A 0, u64A 0, u64A 0]]) ?_;refine Z409 ?_;refine Z20 ?_;exact K.fin (V.two (V.cellN jA jS) (V.cellN jA jS)) ⟨by rw [wide_two hq, wide_two hr], rfl⟩

/-- ref04.Before -/
def beforeM (a b : Val) : Bool := if (a.kind != b.kind) = true then decide (a.kind < b.kind) else if (a.kind != 2) = true then decide (a.n < b.n) else decide (Lib.compareBytes a.s b.s < 0)
theorem cb_step {s t : Str} {k : Nat} (hs : k < s.length) (ht : k < t.length) (he : s[k] = t[k]) : Lib.compareBytes (s.drop k) (t.drop k) = Lib.compareBytes (s.drop (k + 1)) (t.drop (k + 1)) := by
 rw [List.drop_eq_getElem_cons hs, List.drop_eq_getElem_cons ht, Lib.compareBytes, he, if_neg (by simp), if_neg (by simp)]
theorem cb_diff {s t : Str} {k : Nat} (hs : k < s.length) (ht : k < t.length) (he : s[k] ≠ t[k]) : decide (Lib.compareBytes (s.drop k) (t.drop k) < 0) = decide ((s[k].toNat : Int) < (t[k].toNat : Int)) := by
 rw [List.drop_eq_getElem_cons hs, List.drop_eq_getElem_cons ht, Lib.compareBytes]
 have e1 : s[k] < t[k] ↔ s[k].toNat < t[k].toNat := UInt8.lt_iff_toNat_lt
 have e2 : t[k] < s[k] ↔ t[k].toNat < s[k].toNat := UInt8.lt_iff_toNat_lt
 have e3 : s[k].toNat ≠ t[k].toNat := fun e => he (UInt8.toNat_inj.1 e)
 by_cases h : s[k] < t[k]
 ·rw [if_pos h, decide_eq_true (show (-1 : Int) < 0 by decide), decide_eq_true (by have := e1.1 h; omega)]
 have hnl : ¬ s[k].toNat < t[k].toNat := fun h' => h (e1.2 h')
 rw [if_neg h, if_pos (e2.2 (by omega)), decide_eq_false (show ¬ (1 : Int) < 0 by decide), decide_eq_false (by omega)]
theorem cb_end {s t : Str} {k : Nat} (hs : k ≤ s.length) (ht : k ≤ t.length) (h : ¬ (k < s.length ∧ k < t.length)) : decide (Lib.compareBytes (s.drop k) (t.drop k) < 0) = decide ((s.length : Int) < (t.length : Int)) := by
 by_cases h1 : k < s.length
 ·have h2 : t.length = k := by omega
  rw [List.drop_of_length_le (l := t) (by omega), List.drop_eq_getElem_cons h1]
  rw [decide_eq_false (show ¬ Lib.compareBytes _ _ < 0 by rw [Lib.compareBytes]; decide), decide_eq_false (by omega)]
 rw [List.drop_of_length_le (l := s) (by omega)]
 by_cases h2 : k < t.length
 ·rw [List.drop_eq_getElem_cons h2]
  rw [decide_eq_true (show Lib.compareBytes _ _ < 0 by rw [Lib.compareBytes]; decide), decide_eq_true (by omega)]
 rw [List.drop_of_length_le (l := t) (by omega)]
 rw [decide_eq_false (show ¬ Lib.compareBytes _ _ < 0 by rw [Lib.compareBytes]; decide), decide_eq_false (by omega)]
theorem c61 (a b : Val) (ha : a.s.length ≤ 1048576) (Hp : List AObj) : AFun Tryz.prog 61 [valA a, valA b] Hp (boolA (beforeM a b)) := by
 refine ACall.body [.tmp 4] [0, 1] Tryz.func61 Tryz.ntmps61 (fun d => ?_)
 refine Z165 ?_;refine Z372 ?_;refine Z337 ?_;refine Z8 ?_;refine R.neq ?_;refine R.fin [2, 3, 10] ?_
 refine W.cond (fun ht10 => ?_) (fun ht10 => ?_)
 ·have hm : beforeM a b = decide (a.kind < b.kind) := if_pos ht10
  refine Z109 ?_;refine Z8 ?_;refine R.lss ?_;refine Z147 ?_;exact Z46
 have e1 : ¬ (a.kind != b.kind) = true := by rw [ht10]; simp
 refine Z157 ?_;refine R.neq ?_;refine R.fin [2, 3, 18] ?_
 refine W.cond (fun ht18 => ?_) (fun ht18 => ?_)
 ·have hm : beforeM a b = decide (a.n < b.n) := by unfold beforeM; rw [if_neg e1, if_pos ht18]
  refine Z396 ?_;refine Z67 ?_;refine Z67 ?_;refine R.lss ?_;refine Z147 ?_;exact Z46
 have hm : beforeM a b = decide (Lib.compareBytes a.s b.s < 0) := by unfold beforeM; rw [if_neg e1, if_neg (by rw [ht18]; simp)]
 refine Z379 ?_;refine R.fin [2, 3, 5] ?_
 refine AW.loopC (α := Nat) (fun k => ⟨63, setF 2 (.ro [intA a.kind, intA a.n, strA a.s]) (setF 3 (.ro [intA b.kind, intA b.n, strA b.s]) (setF 5 (intA (k : Nat)) (fun _ => .any))), Hp, [], [], none⟩) (fun k => k ≤ a.s.length ∧ k ≤ b.s.length ∧ Lib.compareBytes a.s b.s = Lib.compareBytes (a.s.drop k) (b.s.drop k)) (fun k => a.s.length - k) (0) ⟨Nat.zero_le _, Nat.zero_le _, rfl⟩ (StLe.of_eq rfl) rfl (fun k hx => ?_)
 refine Z14 ?_;refine Z58 ?_;refine Z184 ?_;refine Z21 ?_;refine G.fieldAddrRo (off := 2) jU Tryz.sizeOf9 ?_;refine G.loadRo jA ?_;refine G.slen jU ?_;refine G.lss ?_;refine Z398 ?_;refine R.fin [2, 3, 5, 35] ?_
 refine W.cond (fun ht35 => ?_) (fun ht35 => ?_)
 ·have hk : k < a.s.length ∧ k < b.s.length := by have h35 := ht35; simp at h35; exact h35
  refine Z88 ?_;refine W.draw [0, 1, 0, 7, 0, 16, 0, 112, 255] 8 Tryzmixed (by kernel_rfl) ?_;refine Z59 ?_;refine Z415 ?_
  refine D.sindex k a.s[k] jU (List.getElem?_eq_getElem hk.1)  ?_
  refine Z59 ?_;refine Z415 ?_
  refine D.sindex k b.s[k] jU (List.getElem?_eq_getElem hk.2)  ?_
  refine D.tail ?_;refine R.neq ?_;refine R.fin [2, 3, 5, 46] ?_
  refine W.cond (fun ht46 => ?_) (fun ht46 => ?_)
  ·have hd : a.s[k] ≠ b.s[k] := fun e => by rw [e] at ht46; simp at ht46
   refine W.draw [0, 1, 0, 7, 0, 16, 0, 112, 255, 511] 8 Tryzmixed (by kernel_rfl) ?_;refine Z59 ?_;refine Z415 ?_
   refine D.sindex k a.s[k] jU (List.getElem?_eq_getElem hk.1)  ?_
   refine Z59 ?_;refine Z415 ?_
   refine D.sindex k b.s[k] jU (List.getElem?_eq_getElem hk.2)  ?_
   refine D.tail ?_;refine R.lss ?_;refine Z147 ?_;refine Z123 ?_;exact K.fin (V.one V.tmp) ⟨by rw [hm, hx.2.2, cb_diff hk.1 hk.2 hd], rfl⟩
  have hd : a.s[k] = b.s[k] := UInt8.toNat_inj.1 (by have h46 : ((a.s[k].toNat : Nat) : Int) = (b.s[k].toNat : Int) := (by simpa using ht46); omega)
  refine Z177 ?_;refine R.fin [2, 3, 5] ?_;exact K.lpN (k + 1) ⟨hk.1, hk.2, by rw [hx.2.2]; exact cb_step hk.1 hk.2 hd⟩ (by omega) (StCut.of_eq rfl)
 have hk : ¬ (k < a.s.length ∧ k < b.s.length) := by have h35 := ht35; simp at h35; omega
 refine Z347 ?_;refine Z58 ?_;refine Z397 ?_;refine Z58 ?_;refine Z184 ?_;refine Z147 ?_;exact K.fin (V.one V.tmp) ⟨by rw [hm, hx.2.2, cb_end hx.1 hx.2.1 hk], rfl⟩

set_option maxRecDepth 8000
/-! The reference's Bin is the program's. -/
theorem lev3 (t : Str) (c : Int) : (levelM t == 3) = (comparedM t c).2 := by
 unfold comparedM
 by_cases h1 : (t == [61]) = true
 ·rw [if_pos h1, eq_of_beq h1]; kernel_rfl
 rw [if_neg h1]
 by_cases h2 : (t == [33, 61]) = true
 ·rw [if_pos h2, eq_of_beq h2]; kernel_rfl
 rw [if_neg h2]
 by_cases h3 : (t == [60]) = true
 ·rw [if_pos h3, eq_of_beq h3]; kernel_rfl
 rw [if_neg h3]
 by_cases h4 : (t == [60, 61]) = true
 ·rw [if_pos h4, eq_of_beq h4]; kernel_rfl
 rw [if_neg h4]
 by_cases h5 : (t == [62]) = true
 ·rw [if_pos h5, eq_of_beq h5]; kernel_rfl
 rw [if_neg h5]
 by_cases h6 : (t == [62, 61]) = true
 ·rw [if_pos h6, eq_of_beq h6]; kernel_rfl
 rw [if_neg h6]
 show (levelM t == 3) = false
 cases h : levelM t == 3 with
 | false => rfl
 | true =>
  exfalso
  have h' : levelM t = 3 := by simpa using h
  unfold levelM at h'
  split at h'
  ·rename_i i hi
   have e : i = 3 := by omega
   subst e
   obtain ⟨hl, hp, _⟩ := List.findIdx?_eq_some_iff_getElem.1 hi
   have hm : t ∈ levels[3] := by simpa using hp
   have : t ∈ ([[61], [33, 61], [60], [60, 61], [62], [62, 61]] : List Str) := hm
   simp only [List.mem_cons, List.not_mem_nil, or_false] at this
   rcases this with rfl | rfl | rfl | rfl | rfl | rfl
   ·exact h1 rfl
   ·exact h2 rfl
   ·exact h3 rfl
   ·exact h4 rfl
   ·exact h5 rfl
   exact h6 rfl
  cases h'
def cmpW (lt gt : Bool) (t : Str) : Bool := if t == [61] then !lt && !gt else if t == [33, 61] then lt || gt else if t == [60] then lt else if t == [60, 61] then !gt else if t == [62] then gt else !lt
theorem cmp_tab {t : Str} {c : Int} (h : (comparedM t c).2 = true) : (comparedM t c).1 = cmpW (decide (c < 0)) (decide (0 < c)) t := by
 unfold comparedM at h ⊢
 unfold cmpW
 split
 ·rw [Bool.eq_iff_iff]; simp; omega
 rename_i h1
 rw [if_neg h1] at h
 split
 ·rw [Bool.eq_iff_iff]; simp; omega
 rename_i h2
 rw [if_neg h2] at h
 split
 ·rfl
 rename_i h3
 rw [if_neg h3] at h
 split
 ·rw [Bool.eq_iff_iff]; simp
 rename_i h4
 rw [if_neg h4] at h
 split
 ·rfl
 rename_i h5
 rw [if_neg h5] at h
 split
 ·rw [Bool.eq_iff_iff]; simp
 rename_i h6
 rw [if_neg h6] at h
 cases h
theorem cb_swap : ∀ s t : Str, Lib.compareBytes t s = -Lib.compareBytes s t
 | [], [] => rfl
 | [], b :: r => rfl
 | a :: r, [] => rfl
 | a :: r, b :: q => by
  rw [Lib.compareBytes, Lib.compareBytes]
  by_cases h1 : a < b
  ·rw [if_neg (by have := UInt8.lt_iff_toNat_lt.1 h1; rw [UInt8.lt_iff_toNat_lt]; omega), if_pos h1, if_pos h1]; rfl
  rw [if_neg h1, if_neg h1]
  by_cases h2 : b < a
  ·rw [if_pos h2, if_pos h2]
  rw [if_neg h2, if_neg h2]; exact cb_swap r q
theorem cmp_of {a b : Val} (ha : plainM a = true) (hb : plainM b = true) (hk : a.kind = b.kind) : cmpV a b = if a.kind = 2 then Lib.compareBytes a.s b.s else cmpI a.n b.n := by
 obtain ⟨k, n, s⟩ := a
 obtain ⟨k', n', s'⟩ := b
 simp only at hk
 subst hk
 unfold cmpV
 rw [ha, hb, if_neg (by simp)]
 have e0 : cmpI k k = 0 := by simp [cmpI]
 simp only [orI, e0]
 unfold plainM at ha hb
 simp only at ha hb
 by_cases h2 : k = 2
 ·subst h2
  simp at ha hb
  rw [ha.1, hb.1]
  simp [cmpI]
  intro h; exact h.symm
 have hs : s = [] ∧ s' = [] := by
  split at ha
  ·rename_i h; rw [if_pos h] at hb; simp at ha hb; exact ⟨ha.2, hb.2⟩
  rename_i h
  rw [if_neg h] at hb
  split at ha
  ·rename_i h; rw [if_pos h] at hb; simp at ha hb; exact ⟨ha, hb⟩
  rename_i h
  rw [if_neg h] at hb
  rw [if_neg (by simpa using h2)] at ha hb
  simp at ha hb
  exact ⟨ha.1.1.2, hb.1.1.2⟩
 rw [hs.1, hs.2, if_neg h2]
 simp [Lib.compareBytes]
 intro h; exact h.symm
theorem before_lt {a b : Val} (ha : plainM a = true) (hb : plainM b = true) (hk : a.kind = b.kind) : beforeM a b = decide (cmpV a b < 0) := by
 rw [cmp_of ha hb hk]
 unfold beforeM
 rw [if_neg (by simp [hk])]
 by_cases h2 : a.kind = 2
 ·rw [if_pos h2, if_neg (by simp [h2])]
 rw [if_neg h2, if_pos (by simp [h2])]
 unfold cmpI
 rw [decide_eq_decide]
 split
 ·rename_i h; simp at h; omega
 rename_i h
 simp at h
 split <;> omega
theorem before_gt {a b : Val} (ha : plainM a = true) (hb : plainM b = true) (hk : a.kind = b.kind) : beforeM b a = decide (0 < cmpV a b) := by
 rw [cmp_of ha hb hk]
 unfold beforeM
 rw [if_neg (by simp [hk])]
 by_cases h2 : a.kind = 2
 ·rw [if_pos h2, if_neg (by rw [← hk]; simp [h2]), cb_swap a.s b.s, decide_eq_decide]
  omega
 rw [if_neg h2, if_pos (by rw [← hk]; simp [h2])]
 unfold cmpI
 rw [decide_eq_decide]
 split
 ·rename_i h; simp at h; omega
 rename_i h
 simp at h
 split
 ·rename_i h'; simp at h'; omega
 rename_i h'; simp at h'; omega
theorem bin_cmp {t : Str} {a b : Val} (ha : plainM a = true) (hb : plainM b = true) (h3 : (levelM t == 3) = true) (hk : (a.kind != b.kind) = false) : binM t a b = (boolV (cmpW (beforeM a b) (beforeM b a) t), 0) := by
 have hk' : a.kind = b.kind := by simpa using hk
 rw [before_lt ha hb hk', before_gt ha hb hk']
 have h := h3
 rw [lev3 t (cmpV a b)] at h
 unfold binM
 rw [if_pos h, if_neg (by rw [hk]; simp), cmp_tab h]
theorem bin_kind {t : Str} {a b : Val} (h3 : (levelM t == 3) = true) (hk : (a.kind != b.kind) = true) : binM t a b = (noV, 10) := by
 rw [lev3 t (cmpV a b)] at h3
 unfold binM
 rw [if_pos h3, if_pos hk]
 rfl
theorem bin_rest {t : Str} {a b : Val} (h3 : (levelM t == 3) = false) : binM t a b = if t == [38] then joinR a b else if !kindsM [a, b] [1, 1] then wrongR 10 else wholeR (arithI t a.n b.n) := by
 rw [lev3 t (cmpV a b)] at h3
 unfold binM
 rw [if_neg (by rw [h3]; simp)]
/-! Numbers. -/
theorem num_whole (s : Bool) (m : Nat) : numW s m = wholeR (smallW s m) := rfl
section
variable {a b : Int}
theorem wide_add (s : Bool) (m : Nat) (s' : Bool) (m' : Nat) : wideI (addW s m s' m').1 (addW s m s' m').2 = wideI s m + wideI s' m' := by
 unfold addW hiW loW wideI
 by_cases h : m < m'
 ·cases s <;> cases s' <;> simp [h] <;> omega
 cases s <;> cases s' <;> simp [h] <;> omega
theorem wide_abs (a : Int) : wideI (decide (a < 0)) a.natAbs = a := by
 unfold wideI
 by_cases h : a < 0
 ·rw [if_pos (by simpa using h)]; omega
 rw [if_neg (by simpa using h)]; omega
theorem wide_neg (s : Bool) (m : Nat) : wideI (!s) m = -wideI s m := by
 unfold wideI
 cases s <;> simp
theorem small_add (a0 : -9223372036854775808 ≤ a) (a1 : a ≤ 9223372036854775807) (b0 : -9223372036854775808 ≤ b) (b1 : b ≤ 9223372036854775807) : smallW (addW (decide (a < 0)) a.natAbs (decide (b < 0)) b.natAbs).1 (addW (decide (a < 0)) a.natAbs (decide (b < 0)) b.natAbs).2 = addI a b := by
 rw [smallW_eq, wide_add, wide_abs, wide_abs, addI_eq a0 a1 b0 b1]
theorem small_sub (a0 : -9223372036854775808 ≤ a) (a1 : a ≤ 9223372036854775807) (b0 : -9223372036854775808 ≤ b) (b1 : b ≤ 9223372036854775807) : smallW (addW (decide (a < 0)) a.natAbs (!decide (b < 0)) b.natAbs).1 (addW (decide (a < 0)) a.natAbs (!decide (b < 0)) b.natAbs).2 = subI a b := by
 rw [smallW_eq, wide_add, wide_neg, wide_abs, wide_abs, subI_eq a0 a1 b0 b1, Int.sub_eq_add_neg]
theorem wide_mul : wideI (decide (a < 0) != decide (b < 0)) (a.natAbs * b.natAbs) = a * b := by
 have h1 := Int.natAbs_mul a b
 unfold wideI
 rw [← h1]
 by_cases ha : a < 0 <;> by_cases hb : b < 0
 ·have := Int.mul_pos_of_neg_of_neg ha hb
  simp [ha, hb]; omega
 ·have : a * b ≤ 0 := Int.mul_nonpos_of_nonpos_of_nonneg (by omega) (by omega)
  simp [ha, hb]; omega
 ·have : a * b ≤ 0 := Int.mul_nonpos_of_nonneg_of_nonpos (by omega) (by omega)
  simp [ha, hb]; omega
 have : 0 ≤ a * b := Int.mul_nonneg (by omega) (by omega)
 simp [ha, hb]; omega
theorem small_mul (a0 : -9223372036854775808 ≤ a) (a1 : a ≤ 9223372036854775807) (b0 : -9223372036854775808 ≤ b) (b1 : b ≤ 9223372036854775807) : smallW (decide (a < 0) != decide (b < 0)) (a.natAbs * b.natAbs) = mulI a b := by
 rw [smallW_eq, wide_mul, mulI_eq a0 a1 b0 b1]
end
/-! Divided. -/
theorem abs_cases (a : Int) : (a < 0 ∧ a = -(a.natAbs : Int)) ∨ (¬ a < 0 ∧ a = (a.natAbs : Int)) := by omega
theorem wide_div (a b : Int) : wideI (decide (a < 0) != decide (b < 0)) (a.natAbs / b.natAbs) = a.tdiv b := by
 have key : ((a.natAbs / b.natAbs : Nat) : Int) = (a.natAbs : Int).tdiv (b.natAbs : Int) := by
  rw [Int.tdiv_eq_ediv_of_nonneg (by omega), Int.natCast_ediv]
 unfold wideI
 rcases abs_cases a with ⟨ha, ea⟩ | ⟨ha, ea⟩ <;> rcases abs_cases b with ⟨hb, eb⟩ | ⟨hb, eb⟩
 ·rw [show (decide (a < 0) != decide (b < 0)) = false by simp [ha, hb]]
  conv => rhs; rw [ea, eb, Int.neg_tdiv, Int.tdiv_neg, Int.neg_neg]
  exact key
 ·rw [show (decide (a < 0) != decide (b < 0)) = true by simp [ha, hb]]
  conv => rhs; rw [ea, eb, Int.neg_tdiv]
  rw [if_pos rfl, key]
 ·rw [show (decide (a < 0) != decide (b < 0)) = true by simp [ha, hb]]
  conv => rhs; rw [ea, eb, Int.tdiv_neg]
  rw [if_pos rfl, key]
 rw [show (decide (a < 0) != decide (b < 0)) = false by simp [ha, hb]]
 conv => rhs; rw [ea, eb]
 exact key
theorem wide_rem (a b : Int) : wideI (decide (a < 0)) (a.natAbs % b.natAbs) = a.tmod b := by
 have key : ((a.natAbs % b.natAbs : Nat) : Int) = (a.natAbs : Int).tmod (b.natAbs : Int) := by
  rw [Int.tmod_eq_emod_of_nonneg (by omega), Int.natCast_emod]
 unfold wideI
 rcases abs_cases a with ⟨ha, ea⟩ | ⟨ha, ea⟩ <;> rcases abs_cases b with ⟨hb, eb⟩ | ⟨hb, eb⟩
 ·rw [show decide (a < 0) = true by simp [ha]]
  conv => rhs; rw [ea, eb, Int.neg_tmod, Int.tmod_neg]
  rw [if_pos rfl, key]
 ·rw [show decide (a < 0) = true by simp [ha]]
  conv => rhs; rw [ea, eb, Int.neg_tmod]
  rw [if_pos rfl, key]
 ·rw [show decide (a < 0) = false by simp [ha]]
  conv => rhs; rw [ea, eb, Int.tmod_neg]
  exact key
 rw [show decide (a < 0) = false by simp [ha]]
 conv => rhs; rw [ea, eb]
 exact key
section
variable {a b : Int}
theorem small_div (a0 : -9223372036854775808 ≤ a) (a1 : a ≤ 9223372036854775807) (b0 : -9223372036854775808 ≤ b) (b1 : b ≤ 9223372036854775807) (hb : (b == 0) = false) : smallW (decide (a < 0) != decide (b < 0)) (a.natAbs / b.natAbs) = divI a b := by
 have hb' : b ≠ 0 := by simpa using hb
 have e1 : divI a b = if ((a == -9223372036854775808) && (b == -1)) = true then (0, 4) else (IntKind.i64.wrap (a.tdiv b), 0) := by
  unfold divI
  rw [if_neg (by rw [hb]; simp)]
 rw [smallW_eq, wide_div, e1]
 by_cases h : a = -9223372036854775808 ∧ b = -1
 ·obtain ⟨rfl, rfl⟩ := h
  rfl
 have e2 : ¬ ((a == -9223372036854775808) && (b == -1)) = true := by simpa using h
 rw [if_neg e2]
 have hw := wide_div a b
 have hle : a.natAbs / b.natAbs ≤ a.natAbs := Nat.div_le_self _ _
 have h2 : 2 ≤ b.natAbs → a.natAbs / b.natAbs ≤ a.natAbs / 2 := fun h => Nat.div_le_div_left h (by decide)
 have hr : -9223372036854775808 ≤ a.tdiv b ∧ a.tdiv b ≤ 9223372036854775807 := by
  unfold wideI at hw
  generalize a.tdiv b = q at *
  generalize a.natAbs / b.natAbs = z at *
  by_cases ha : a < 0 <;> by_cases hbn : b < 0 <;> simp [ha, hbn] at hw <;> omega
 rw [if_pos hr]
 congr 1
 rw [IntKind.wrap_i64]
 omega
theorem small_rem (a0 : -9223372036854775808 ≤ a) (a1 : a ≤ 9223372036854775807) (b0 : -9223372036854775808 ≤ b) (b1 : b ≤ 9223372036854775807) (hb : (b == 0) = false) : smallW (decide (a < 0)) (a.natAbs % b.natAbs) = remI a b := by
 have hb' : b ≠ 0 := by simpa using hb
 have e1 : remI a b = if (b == -1) = true then (0, 0) else (IntKind.i64.wrap (a.tmod b), 0) := by
  unfold remI
  rw [if_neg (by rw [hb]; simp)]
 rw [smallW_eq, wide_rem, e1]
 have hw := wide_rem a b
 have hlt : a.natAbs % b.natAbs < b.natAbs := Nat.mod_lt _ (by omega)
 have hr : -9223372036854775808 ≤ a.tmod b ∧ a.tmod b ≤ 9223372036854775807 := by
  unfold wideI at hw
  generalize a.tmod b = q at *
  generalize a.natAbs % b.natAbs = z at *
  by_cases ha : a < 0 <;> simp [ha] at hw <;> omega
 rw [if_pos hr]
 by_cases h : b = -1
 ·rw [if_pos (by simp [h]), h]
  congr 1
  simp [Int.tmod_neg]
 rw [if_neg (by simpa using h)]
 congr 1
 rw [IntKind.wrap_i64]
 omega
end
theorem add_lt {a b : Int} {s s' : Bool} (a0 : -9223372036854775808 ≤ a) (a1 : a ≤ 9223372036854775807) (b0 : -9223372036854775808 ≤ b) (b1 : b ≤ 9223372036854775807) : (addW s a.natAbs s' b.natAbs).2 < B32 ^ 5 := by
 have : (addW s a.natAbs s' b.natAbs).2 ≤ a.natAbs + b.natAbs := by
  unfold addW hiW loW
  split
  ·exact Nat.le_refl _
  simp only
  split <;> simp only <;> omega
 have h2 : (36893488147419103232 : Nat) ≤ B32 ^ 5 := by decide
 omega
end Go.SX.Nb
namespace Go.SX
variable [GI : GlobInv]
open Classical
@[simp] theorem low_sl {n o k m c : Nat} : Low n (.sl o k m c) ↔ o < n := ⟨fun h => by cases h; assumption, fun h => .sl o k m c h⟩
@[simp] theorem low_cellp {n k : Nat} : Low n (.cellp k) := .cellp k
/-- The cells of elements, one behind the other. -/
abbrev flatA (xs : List AV) : List AV := xs.flatMap AV.cells
section
variable {P : Program} {d : Nat} {st : St} {dst : Option Tmp} {ty : TypeId} {pos : String} {aft : Array Edge} {gd : Option (Nat × Bool)}
end
section
variable {P : Program} {d : Nat} {ops : Array Oper}
variable {sz : Nat} {fr : Nat → AV} {up own own' : List AObj} {dfs : List Nat} {rnd : Option Nat} {Q : St → Prop} {rest : List Oper} {s : Nat} {ty : TypeId} {pos : String} {aft : Array Edge}
end
end Go.SX
namespace Go.SX
variable [GI : GlobInv]
open Classical
section
variable {P : Program} {d : Nat} {st : St} {ty : TypeId} {pos : String} {aft : Array Edge} {gd : Option (Nat × Bool)}
/-- A variable of its own, not laid yet. -/
theorem AOp.allocP {t : TypeId} {z : Value} {k s : Nat} (hz : ∀ w, (zeroValue t).run P w = .ok z w) (hk : z.cells.size = k) (hs : s < st.sz) :
  AOp P d ⟨some s, .alloc t, ty, pos, aft, gd⟩ st (· = st.set s (.cellp k)) := by
 subst hk
 intro G a w h Q'
 let G' : Gh := { G with tag := fun b o => if b = w.heap.size ∧ o < z.cells.size then .tail (.slot d s) else G.tag b o }
 have hfree : ∀ o, G.tag w.heap.size o = .free := fun o => tag_free_new h.tags _ o (Nat.le_refl _)
 have hne : ∀ b o, G.tag b o ≠ .free → ¬ (b = w.heap.size ∧ o < z.cells.size) := fun b o hb hc => by rw [hc.1] at hb; exact hb (hfree o)
 have hkeep : ∀ b o, G.tag b o ≠ .free → G'.tag b o = G.tag b o := fun b o hb => by simp only [G']; rw [if_neg (hne b o hb)]
 have hcell : ∀ b o, G.tag b o ≠ .free → (w.alloc (.cells z.cells t)).cell? ⟨b, o, none⟩ = w.cell? ⟨b, o, none⟩ := fun b o hb => by
  refine World.cell?_alloc_old _ _ _ ?_
  show b ≠ w.heap.size
  rintro rfl
  exact hb (hfree o)
 have T : Turn G w G' (w.alloc (.cells z.cells t)) := by
  refine ⟨fun b o hb => ⟨by rw [hkeep b o (by rw [hb]; simp)]; exact hb, hcell b o (by rw [hb]; simp)⟩, fun b o L hb => by rw [hkeep b o (by rw [hb]; simp)]; exact hb, fun b o i hb => by rw [hkeep b o (by rw [hb]; simp)]; exact hb, Nat.le_refl _, fun o ho => rfl, rfl, rfl, rfl, by simp, Still.alloc _ (fun b o hb => .inl (by simp only [G']; rw [if_neg (by omega)])) (fun i hi => .inl ⟨hi, rfl⟩)⟩
 have h1 : StRel d G' st a (w.alloc (.cells z.cells t)) := by
  refine h.turn (U := st.up) (O := st.own) T ⟨fun i x hx => T.objRel ?_ ?_ (h.heap.obj i x hx) (fun b hb => ?_), h.heap.n, h.heap.inj⟩ rfl h.defsAt ⟨fun b o hb => ?_, fun b o i hb => ?_, fun b o L hb => ?_, h.tags.globKeep T.old⟩ h.low
  ·rw [h.heap.n]; exact (List.getElem?_eq_some_iff.1 hx).1
  ·have := (h.heap.obj i x hx).blt
   show (w.heap.push _)[G.blk i]? = _
   rw [Array.getElem?_push, if_neg (by omega)]
  ·have := hb.lt
   show (w.heap.push _)[b]? = _
   rw [Array.getElem?_push, if_neg (by omega)]
  ·simp only [G'] at hb
   split at hb
   ·rename_i hc
    obtain ⟨rfl, hlt⟩ := hc
    exact ⟨z.cells[o], by rw [World.cell?_alloc_new]; exact Array.getElem?_eq_getElem hlt⟩
   rw [hcell b o hb]
   exact h.tags.ex b o hb
  ·simp only [G'] at hb
   split at hb
   ·cases hb
   rw [World.frozen?_alloc_old]
   ·exact h.tags.obj b o i hb
   show b ≠ w.heap.size
   rintro rfl
   rw [hfree] at hb; cases hb
  simp only [G'] at hb
  split at hb
  ·rename_i hc
   obtain ⟨rfl, hlt⟩ := hc
   exact World.frozen?_alloc_new _ _ _ _
  rw [World.frozen?_alloc_old]
  ·exact h.tags.tail b o L hb
  show b ≠ w.heap.size
  rintro rfl
  rw [hfree] at hb; cases hb
 have hrun : (execOp a.eval (⟨some s, .alloc t, ty, pos, aft, gd⟩ : Oper)).run P w = .ok (.value (.pointer (some ⟨w.heap.size, 0, none⟩))) (w.alloc (.cells z.cells t)) := by
  simp [execOp, Instr.alloc, hz, newVar, newRow]
 refine wpIn_value (by intro c h; cases h) hrun ⟨G', _, h1.put (s := s) (y := .cellp z.cells.size) hs ?_, T.keep d, rfl, rfl, rfl, rfl⟩
 exact .cellp _ _ _ ⟨_, rfl, fun o ho => by simp [G', ho]⟩

/-- It is laid: from now on nobody writes it. -/
theorem AOp.storeP {t : TypeId} {x : Operand} {r k : Nat} {y : AV} (hsz : ∀ w, (sizeOf t).run P w = .ok k w) (hf : st.fr r = .cellp k) (hx : st.ev x = y) (hk : y.cells.length = k) (hk0 : 0 < k) (h1 : y.cells.all AV.one = true) :
  AOp P d ⟨none, .store t (.tmp r) x, ty, pos, aft, gd⟩ st (· = st.set r (.ro y.cells)) := by
 intro G a w h Q'
 have hone : ∀ c ∈ y.cells, c.one = true := fun c hc => List.all_eq_true.1 h1 c hc
 obtain ⟨hc, hcc⟩ := (hx ▸ h.eval x).cells hone
 have hsl := h.slots r
 rw [hf] at hsl
 generalize hv : a.tmps.getD r undef = v at hsl
 cases hsl with
 | cellp l k b ho =>
  obtain ⟨L, hL, ht⟩ := ho
  injection hL with hL
  subst hL
  let us := (a.eval x).cells.toList
  have hul : us.length = k := by simp only [us, Array.length_toList]; omega
  have huone : ∀ u ∈ us, u.oneCell' = true := fun u hu => by
   obtain ⟨j, hj⟩ := List.getElem?_of_mem hu
   have hj' : (a.eval x).cells[j]? = some u := by rw [← Array.getElem?_toList]; exact hj
   have hlt : j < y.cells.length := by rw [← hc]; exact (Array.getElem?_eq_some_iff.1 hj').1
   exact (hcc j _ u (List.getElem?_eq_getElem hlt) hj').one (hone _ (List.getElem_mem hlt))
  have hrun0 := run_storeCells_cells (P := P) b 0 us 0 w (fun j hj => by
    obtain ⟨u, hu⟩ := h.tags.ex b j (by rw [ht j (by omega)]; simp)
    simp only [Nat.add_zero, Nat.zero_add]; rw [hu]; rfl) (fun j hj => by simpa using h.tags.tail _ _ _ (ht j (by omega))) huone
  simp only [Nat.add_zero] at hrun0
  let W := w.setCells b 0 us
  let G' : Gh := { G with tag := fun b' o => if b' = b ∧ o < k then .fix else G.tag b' o }
  have htag : ∀ b' o, G.tag b' o ≠ .tail (.slot d r) → G'.tag b' o = G.tag b' o := fun b' o hb => by
   simp only [G']
   rw [if_neg]
   rintro ⟨rfl, ho⟩
   exact hb (ht o ho)
  have hout : ∀ b' o, ¬ (b' = b ∧ o < k) → W.cell? ⟨b', o, none⟩ = w.cell? ⟨b', o, none⟩ := fun b' o hn =>
   World.cell?_setCells_out _ us 0 w ⟨b', o, none⟩ (fun hb _ => by
    simp only at hb ⊢
    exact .inr (Nat.le_of_not_lt fun h'' => hn ⟨hb, by omega⟩))
  have hcell : ∀ b' o, G.tag b' o ≠ .tail (.slot d r) → W.cell? ⟨b', o, none⟩ = w.cell? ⟨b', o, none⟩ := fun b' o hb => hout b' o (fun hn => hb (by rw [hn.1]; exact ht o hn.2))
  have hnb : ∀ i, i < G.n → G.blk i ≠ b := heap_ne_of_tail h.heap h.tags (ht 0 hk0)
  have hheap : ∀ b', b' ≠ b → W.heap[b']? = w.heap[b']? := fun b' hb => setCells_heap _ _ _ _ _ hb
  have hsize : W.heap.size = w.heap.size := setCells_size _ _ _ _
  have hstill : Still G w G' W := Still.tags (fun b' hb' => hheap b' (fun e => not_virgin_tail (ht 0 hk0) (e ▸ hb'))) (Nat.le_of_eq hsize.symm) (fun b' o _ => by
   by_cases hc : b' = b ∧ o < k
   ·exact .inr ⟨_, by rw [hc.1]; exact ht o hc.2⟩
   exact .inl (by simp only [G']; rw [if_neg hc])) (fun i hi => .inl ⟨hi, rfl⟩)
  have hfix : ∀ b' o, G.tag b' o = .fix → G'.tag b' o = .fix ∧ W.cell? ⟨b', o, none⟩ = w.cell? ⟨b', o, none⟩ := fun b' o hb => ⟨by rw [htag b' o (by rw [hb]; simp)]; exact hb, hcell b' o (by rw [hb]; simp)⟩
  have htail : ∀ b' o L, L ≠ .slot d r → G.tag b' o = .tail L → G'.tag b' o = .tail L := fun b' o L hL hb => by
   rw [htag b' o (by rw [hb]; intro e; injection e with e; exact hL e)]; exact hb
  have hobj : ∀ b' o i, G.tag b' o = .obj i → G'.tag b' o = .obj i := fun b' o i hb => by rw [htag b' o (by rw [hb]; simp)]; exact hb
  have hrep : ∀ {l : Option Loc} {z : AV} {u : Value}, l ≠ some (.slot d r) → Rep G w l z u → Rep G' W l z u := fun hl hz =>
   hz.mono (G' := G') hfix (Nat.le_refl _) (fun _ _ => rfl) (fun L hL b' o ht' => htail b' o L (fun e => hl (by rw [hL, e])) ht')
  have hkeep : Keep d G w G' W := ⟨hfix, fun b' o e s he ht' => htail b' o _ (by rintro ⟨⟩; omega) ht', Nat.le_refl _, fun _ _ => rfl, setCells_os _ _ _ _, setCells_tape _ _ _ _, setCells_output _ _ _ _, Nat.le_of_eq hsize.symm, hstill⟩
  have hvec : ∀ j u, us[j]? = some u → W.cell? ⟨b, j, none⟩ = some u := fun j u hu => by
   have hj := (List.getElem?_eq_some_iff.1 hu).1
   have hex : ∃ u', w.cell? ⟨b, j, none⟩ = some u' := h.tags.ex b j (by rw [ht j (by omega)]; simp)
   obtain ⟨u', hu'⟩ := hex
   have hbk : ∃ vs e fz, w.heap[b]? = some (.cells vs e fz) := by
    simp only [World.cell?] at hu'
    split at hu'
    ·rename_i vs e fz hb; exact ⟨vs, e, fz, hb⟩
    cases hu'
   obtain ⟨vs, e, fz, hbk⟩ := hbk
   have hlen : 0 + us.length ≤ vs.size := by
    rw [hul, Nat.zero_add]
    rcases Nat.lt_or_ge vs.size k with h' | h'
    ·exfalso
     obtain ⟨u2, hu2⟩ := h.tags.ex b vs.size (by rw [ht _ h']; simp)
     simp [World.cell?, hbk] at hu2
    exact h'
   obtain ⟨vs', b1, b2, b3⟩ := setCells_cells b e fz us 0 w vs hbk hlen
   have b3' := b3 j
   rw [if_pos (by omega)] at b3'
   show (w.setCells b 0 us).cell? ⟨b, j, none⟩ = some u
   simp only [World.cell?, b1]
   rw [b3', Nat.sub_zero]
   exact hu
  have hst : StRel d G' (st.set r (.ro y.cells)) a W := by
   refine ⟨h.size, fun s => ?_, ⟨fun i z hz => ?_, h.heap.n, h.heap.inj⟩, h.defs, h.defsAt, h.defsNodup, h.defsGe, ⟨fun b' o hb => ?_, fun b' o i hb => ?_, fun b' o L hb => ?_, h.tags.globKeep hstill⟩, h.rnd, h.low⟩
   ·show Rep G' W _ (setF r (.ro y.cells) st.fr s) _
    unfold setF
    by_cases hs : s = r
    ·subst hs
     rw [if_pos rfl, hv]
     refine .ro _ _ ⟨b, 0, none⟩ (fun j => (a.eval x).cells.getD j undef) rfl hone (fun j c hj => ?_) (fun j c hj => ?_)
     all_goals
      have hlt : j < y.cells.length := (List.getElem?_eq_some_iff.1 hj).1
      have hu : (a.eval x).cells[j]? = some ((a.eval x).cells[j]'(by omega)) := Array.getElem?_eq_getElem _
      have e1 : (a.eval x).cells.getD j undef = (a.eval x).cells[j]'(by omega) := by rw [Array.getD_eq_getD_getElem?, hu]; rfl
      rw [e1]
     ·refine ⟨by simp only [G', Nat.zero_add]; rw [if_pos ⟨trivial, by omega⟩], ?_⟩
      rw [Nat.zero_add]
      exact hvec j _ (by simp only [us]; rw [Array.getElem?_toList]; exact hu)
     exact hrep (by simp) (hcc j c _ hj hu)
    rw [if_neg hs]
    exact hrep (by simp; exact fun e => hs e) (h.slots s)
   ·have hob := h.heap.obj i z hz
    have hi : i < G.n := by rw [h.heap.n]; exact (List.getElem?_eq_some_iff.1 hz).1
    have hb := hheap (G.blk i) (hnb i hi)
    cases z with
    | cells t cs =>
     obtain ⟨vs, a1, a2, a3, a4⟩ := hob
     exact ⟨vs, hb.trans a1, a2, fun j y u p q => hrep (by simp) (a3 j y u p q), fun j hj => hobj _ _ _ (a4 j hj)⟩
    | loop sta pd fr sz ps asg bd df =>
     obtain ⟨fn, tmps, a1, a2, a3, a4⟩ := hob
     exact ⟨fn, tmps, hb.trans a1, a2, fun s => hrep (by simp) (a3 s), a4⟩
    | defs => exact hb.trans hob
    | dead => exact hb.trans hob
    | bld t e bs => exact BldRel.turn hob rfl (fun b' o ho => hobj b' o i ho) hb (fun b' ha => hheap b' (fun e => by
      have := ha.tag h.tags (o := 0) (by rw [e, ht 0 hk0]; simp)
      rw [e, ht 0 hk0] at this; cases this))
    | gone =>
     obtain ⟨vs, t, fz, a1, a2⟩ := hob
     exact ⟨vs, t, fz, hb.trans a1, fun j hj => (hfix _ _ (a2 j hj)).1⟩
   ·by_cases hc : b' = b ∧ o < k
    ·obtain ⟨rfl, ho⟩ := hc
     exact ⟨us[o]'(by omega), hvec o _ (List.getElem?_eq_getElem _)⟩
    rw [hout b' o hc]
    simp only [G', if_neg hc] at hb
    exact h.tags.ex b' o hb
   ·rw [World.frozen?_setCells]
    simp only [G'] at hb
    split at hb
    ·cases hb
    exact h.tags.obj b' o i hb
   rw [World.frozen?_setCells]
   simp only [G'] at hb
   split at hb
   ·cases hb
   exact h.tags.tail b' o L hb
  have hrun : (execOp a.eval (⟨none, .store t (.tmp r) x, ty, pos, aft, gd⟩ : Oper)).run P w = .ok .skip W :=
   run_storeAt hsz (show a.eval (.tmp r) = _ from hv) (by omega) hrun0
  exact wpIn_skipped (by intro c h; cases h) hrun ⟨G', _, hst, hkeep, rfl, rfl, rfl, rfl⟩
end
section
variable {P : Program} {d : Nat} {sz : Nat} {dfs : List Nat} {rnd : Option Nat} {l0 : List Oper} {up own : (Nat → Bool) → List AObj} {E : List Oper → (Nat → AV) → Prop} {S : List SegY} {l : List Oper} {fr : Nat → AV} {ty : TypeId} {pos : String} {aft : Array Edge} {s : Nat} {T F : List Nat}
theorem Y.allocP {t : TypeId} {z : Value} {k : Nat} (hz : ∀ w, (zeroValue t).run P w = .ok z w) (h : ChainY P d l0 sz up own dfs rnd E S l (setF s (.cellp k) fr)) (hk : z.cells.size = k := by rfl) (hs : Nat.blt s sz = true := by rfl) :
  ChainY P d l0 sz up own dfs rnd E (.s [s] none T F :: S) (⟨some s, .alloc t, ty, pos, aft, none⟩ :: l) fr := by
 refine ⟨_, l, [(s, .cellp k)], rfl, ⟨rfl, rfl, fun B f _ _ _ hf => ?_⟩, h⟩
 exact AOp.allocP (st := ⟨sz, f, up B, own B, dfs, rnd⟩) hz hk (by simpa using hs)
theorem Y.storeP {t : TypeId} {x : Operand} {r k : Nat} {y : AV} {ys : List AV} (hsz : ∀ w, (Go.sizeOf t).run P w = .ok k w) (h : ChainY P d l0 sz up own dfs rnd E S l (setF r (.ro ys) fr))
  (hf : fr r = .cellp k := by exact sL0) (hx : frEv fr x = y := by exact sL0) (hc : y.cells = ys := by exact sL0)
  (hk : ys.length = k := by rfl) (hk0 : 0 < k := by decide) (h1 : ys.all AV.one = true := by exact sL4) :
  ChainY P d l0 sz up own dfs rnd E (.s [r] none T F :: S) (⟨none, .store t (.tmp r) x, ty, pos, aft, none⟩ :: l) fr := by
 subst hc
 refine ⟨_, l, [(r, .ro y.cells)], rfl, ⟨rfl, rfl, fun B f _ _ _ hfr => ?_⟩, h⟩
 have e : f r = fr r := hfr r (by simp [lk, tmpsOf, Op.operands])
 have ex : frEv f x = y := by rw [agr hfr (by simp [Op.operands])]; exact hx
 exact AOp.storeP (st := ⟨sz, f, up B, own B, dfs, rnd⟩) hsz (e.trans hf) ex hk hk0 h1
end
end Go.SX
