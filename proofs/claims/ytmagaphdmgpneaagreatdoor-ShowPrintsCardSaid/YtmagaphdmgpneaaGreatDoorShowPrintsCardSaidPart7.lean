/- Texts on the way to this: ShowPrints answers true for whatever it is handed: any tree that is right has the print that the chapter says, and is parsed from it as it was, unless brackets nest too deep. (part 7) -/
import Derived.Test.YtmagaphdmgpneaaGreatDoorShowPrintsCardSaidPart6
set_option linter.all false
namespace Go.SX.Nb
open Go Go.SX Go.Proofs
variable [ErrAt]
set_option maxRecDepth 4000
/-- within, with the function that gathers a call's kids. -/
theorem c227c (l : List Tok) (S : PS) (a : Int) (t : Str) (Dv : Fam) (o : Nat) (Hp : List AObj) (A0 A1 : AObj) (l0 : ObjLow 0 A0) (ho : Hp[o]? = some (pr l S)) (hi : S.i < l.length) (hl : TokEnd l) (hll : l.length ≤ 1048576) (hnl : S.nest ≤ 30) (hd : DeepC l Dv S.nest) :
  ACall Tryz.prog 116 [.ptr o 0, intA a, .fn (.func 213) [] [.ptr (oid Hp.length 2) 0, .ro [.ptr o 0]]] (Hp ++ [A0, A1, xo true t []]) (fun r H' => r = exprA (if S.nest = 30 then nullX else .mk 6 t noV (kidsM l a Dv.ei S).1) ∧ H' = Hp.set o (pr l (kidsM l a Dv.ei S).2) ++ [A0, A1, xo true t (kidsM l a Dv.ei S).1]) := by
 have hlt := (List.getElem?_eq_some_iff.1 ho).1
 have ho' : (Hp ++ [A0, A1, xo true t []])[o]? = some (pr l S) := get_up ho
 by_cases h30 : S.nest = 30
 ·refine (c116 l S a 213 [] [.ptr (oid Hp.length 2) 0, .ro [.ptr o 0]] nullX (deepM S) o (Hp ++ [A0, A1, xo true t []]) ((Hp ++ [A0, A1, xo true t []]).set o (pr l (deepM S))) ho' (by omega) Tryz.call213 (by simp) (getset ho') rfl (fun h => h) (fun h => absurd h30 h)).mono fun r H' h => ?_
  have e : kidsM l a Dv.ei S = ([], failM 18 a S) := if_pos (by rw [h30]; rfl)
  rw [e, if_pos h30]
  obtain ⟨h1, h2⟩ := h.1 h30
  exact ⟨h1, by rw [h2, List.set_append_left _ _ hlt]⟩
 ·have hq := argsM_fact (S := deepM S) hl hi (hd.ei h30).1
  refine (c116 l S a 213 [] [.ptr (oid Hp.length 2) 0, .ro [.ptr o 0]] (.mk 6 t noV (argsM l Dv.ei (deepM S)).1) (argsM l Dv.ei (deepM S)).2 o (Hp ++ [A0, A1, xo true t []]) (Hp.set o (pr l (argsM l Dv.ei (deepM S)).2) ++ [A0, A1, xo true t (argsM l Dv.ei (deepM S)).1]) ho' (by omega) Tryz.call213 (by simp) (get_up (getset ho)) hq.nest (fun h y hy => ?_) (fun _ own => ?_)).mono fun r H' h => ?_
  ·rw [List.set_append_left _ _ hlt] at h
   rcases List.mem_append.1 hy with hy | hy
   ·rcases List.mem_or_eq_of_mem_set hy with h1 | h1
    ·obtain ⟨i, hi', rfl⟩ := List.getElem_of_mem h1
     by_cases hio : i = o
     ·subst hio
      have : Hp[i] = pr l S := by rw [List.getElem?_eq_getElem hi'] at ho; injection ho
      rw [this]; exact low_pr
     ·refine h _ (List.mem_append_left _ ?_)
      rw [List.mem_iff_getElem?]
      exact ⟨i, by rw [List.getElem?_set_ne (Ne.symm hio), List.getElem?_eq_getElem hi']⟩
    ·rw [h1]; exact low_pr
   ·simp only [List.mem_cons, List.not_mem_nil, or_false] at hy
    rcases hy with rfl | rfl | rfl
    ·exact h _ (List.mem_append_right _ (by simp))
    ·exact h _ (List.mem_append_right _ (by simp))
    ·exact low_xo
  ·have hoid : oid Hp.length 2 ≠ o := by unfold oid; omega
   have e1 : (Hp ++ [A0, A1, xo true t []]).set o (pr l (deepM S)) ++ own = (Hp.set o (pr l (deepM S)) ++ [A0, A1, xo true t []]) ++ own := by rw [List.set_append_left _ _ hlt]
   rw [e1]
   have g1 : ((Hp.set o (pr l (deepM S)) ++ [A0, A1, xo true t []]) ++ own)[o]? = some (pr l (deepM S)) := get_up (get_up (getset ho))
   have g2 : ((Hp.set o (pr l (deepM S)) ++ [A0, A1, xo true t []]) ++ own)[oid Hp.length 2]? = some (xo true t []) := get_up (by
    have := get_oid (U := Hp.set o (pr l (deepM S))) (O := [A0, A1, xo true t []]) (n := 2)
    rw [List.length_set] at this
    exact this)
   refine (c213 l (deepM S) t Dv o (oid Hp.length 2) _ hoid g1 g2 hi hl hll (hd.ei h30).1 (hd.ei h30).2).mono fun r H' h => ⟨h.1, h.2.trans ?_⟩
   rw [List.append_assoc, List.set_append_left _ _ (by simpa using hlt), List.set_set]
   have := set_oid (U := Hp.set o (pr l (argsM l Dv.ei (deepM S)).2)) (O := [A0, A1, xo true t []] ++ own) (n := 2) (x := xo true t (argsM l Dv.ei (deepM S)).1)
   rw [List.length_set] at this
   rw [this]
   simp
  ·have e : kidsM l a Dv.ei S = ((argsM l Dv.ei (deepM S)).1, riseM (argsM l Dv.ei (deepM S)).2) := if_neg (by
    show ¬ (((S.nest : Int) == 30) = true)
    simp
    omega)
   rw [e, if_neg h30]
   obtain ⟨h1, h2⟩ := h.2 h30
   exact ⟨h1, by rw [h2, List.set_append_left _ _ (by simpa using hlt), List.set_set]⟩
theorem c210 (l : List Tok) (S : PS) (Dv : Fam) (t : Tok) (o : Nat) (Hp : List AObj) (ho : Hp[o]? = some (pr l S)) (hi : (nextM S).i < l.length) (hl : TokEnd l) (hll : l.length ≤ 1048576) (hnl : S.nest ≤ 30) (hd : DeepC l Dv S.nest) : ACall Tryz.prog 210 [.ptr o 0, tokA t] Hp (fun r H' => r = exprA (callM l Dv t S).1 ∧ H' = Hp.set o (pr l (callM l Dv t S).2)) := by
 have hi0 : S.i < l.length := by have : S.i + 1 < l.length := hi; omega
 have hol := (List.getElem?_eq_some_iff.1 ho).1
 have hkf : KFact l (nextM S) (callKM l Dv S) := kidsM_fact hl _ hi (fun h => (hd.ei h).1)
 refine ACall.body [.cell 4 27] [0, 1] Tryz.func210 Tryz.ntmps210 (fun d => ?_)
 refine AW.seqR ?_
 refine R.boxRo ?_
 refine R.boxRo ?_
 refine R.alloc Tryz.zeroValue27 ?_
 refine R.fin [2, 3, 4] ?_
 refine AW.seqR ?_
 refine R.fieldAddrRo (off := 1) Tryz.underlying66 Tryz.sizeOf9 ?_
 refine R.loadRo Tryz.isAgg9 ?_
 refine R.call Tryz.call73 (c73 t.text _) ?_
 refine R.assign ?_
 refine R.fin [2, 3, 4, 5] ?_
 refine W.seq ?_
 refine AW.seqR ?_
 refine R.move ?_
 refine R.lss ?_
 refine R.fin [2, 3, 4, 5, 12] ?_
 refine W.cond (fun ht12 => ?_) (fun ht12 => ?_)
 ·skip
  have hlt0 : arityM t.text < 0 := by simpa using ht12
  have e : callM l Dv t S = (nullX, failM 9 t.at_ S) := if_pos hlt0
  refine AW.seqR ?_
  refine R.loadRo Tryz.isAgg88 ?_
  refine R.fieldAddrRo (off := 2) Tryz.underlying66 Tryz.sizeOf3 ?_
  refine R.loadRo Tryz.isAgg3 ?_
  refine R.callUp Tryz.call48 ho (by simp) low_pr (c48 l S 9 t.at_ o _ (get_up ho)) ?_
  refine R.storeOwn Tryz.sizeOf27 ?_
  refine R.fin [4] ?_
  refine AW.ret ?_
  refine K.thR ?_
  exact K.fin (V.one (V.cellN Tryz.isAgg27 Tryz.sizeOf27)) ⟨by rw [e, exprA_eq], by rw [e]⟩ (hlow := low_agg _)
 ·skip
  have hge : ¬ arityM t.text < 0 := by simpa using ht12
  refine AW.skip ?_
  refine K.thN ?_
  refine AW.seqR ?_
  refine R.loadRo Tryz.isAgg88 ?_
  refine R.callUp Tryz.call93 ho (by simp) low_pr (c93 l S o _ (get_up ho) hi0 hll) ?_
  refine R.alloc Tryz.zeroValue66 ?_
  refine R.storeOwn Tryz.sizeOf66 ?_
  refine R.fin [2, 3, 4, 5, 6] ?_
  refine AW.seqR ?_
  refine R.fieldAddrRo (off := 1) Tryz.underlying66 Tryz.sizeOf9 ?_
  refine R.loadRo Tryz.isAgg9 ?_
  refine R.build (places := #[(0, 1), (1, 1), (2, 3), (5, 1)]) Tryz.underlying27 (fun w => by simp) Tryz.zeroValue27 ?_
  refine R.alloc Tryz.zeroValue27 ?_
  refine R.storeOwn Tryz.sizeOf27 ?_
  refine R.fin [2, 3, 4, 5, 6, 7] ?_
  refine AW.seqR ?_
  refine R.nilCell 2 5 6 ?_
  refine R.loadRo Tryz.isAgg88 ?_
  refine R.fieldAddrPtr (fo := 2) Tryz.underlying66 Tryz.sizeOf3 ?_
  refine R.loadOwn Tryz.isAgg3 ?_
  refine R.makeFunc ?_
  refine R.callX (up' := (Hp.set o (pr l (nextM S))).set o (pr l (callKM l Dv S).2)) (own' := [zero69, .cells 66 [intA (tokAt l S.i).kind, strA (tokAt l S.i).text, intA (tokAt l S.i).at_], xo true t.text (callKM l Dv S).1]) Tryz.call116 (by have := c227c l (nextM S) (tokAt l S.i).at_ t.text Dv o (Hp.set o (pr l (nextM S))) zero69 (.cells 66 [intA (tokAt l S.i).kind, strA (tokAt l S.i).text, intA (tokAt l S.i).at_]) low_z69 (getset ho) hi hl hll hnl hd; rw [List.length_set] at this; exact this) (by simp) (fun h => low_set h low_pr) ?_
  refine R.fin [2, 3, 4, 5, 7] ?_
  refine AW.seqR ?_
  refine R.loadRo Tryz.isAgg88 ?_
  refine R.callUp Tryz.call211 (getset (getset ho)) (by simp) low_pr (c211 l (callKM l Dv S).2 closeT o _ (get_up (getset (getset ho))) hkf.lt hll) ?_
  refine R.fin [2, 3, 4, 5, 7] ?_
  refine W.seq ?_
  refine AW.seqR ?_
  refine R.loadRo Tryz.isAgg88 ?_
  refine R.nilPtr ?_
  refine R.fieldAddrPtr (fo := 3) Tryz.underlying90 Tryz.sizeOf30 ?_
  refine R.fieldAddrPtr (fo := 0) Tryz.underlying30 Tryz.sizeOf28 ?_
  refine R.loadUp Tryz.isAgg28 (getset (getset (getset ho))) ?_
  refine R.eql ?_
  refine R.move ?_
  refine G.fieldAddrPtr (fo := 5) Tryz.underlying27 Tryz.sizeOf25 ?_
  refine G.loadOwn Tryz.isAgg25 ?_
  refine G.len Tryz.underlying25 ?_
  refine G.move ?_
  refine G.neq ?_
  refine R.pickAnd ?_
  refine R.fin [2, 3, 4, 7, 41] ?_
  refine W.cond (fun ht41 => ?_) (fun ht41 => ?_)
  ·skip
   have e : callM l Dv t S = (nullX, failM 8 t.at_ (wantM l closeT (callKM l Dv S).2)) := by
    unfold callM
    rw [if_neg hge, if_pos (by have := ht41; simp only [List.length_map] at this; exact this)]
   refine AW.seqR ?_
   refine R.loadRo Tryz.isAgg88 ?_
   refine R.fieldAddrRo (off := 2) Tryz.underlying66 Tryz.sizeOf3 ?_
   refine R.loadRo Tryz.isAgg3 ?_
   refine R.callUp Tryz.call48 (getset (getset (getset ho))) (by simp) low_pr (c48 l (wantM l closeT (callKM l Dv S).2) 8 t.at_ o _ (get_up (getset (getset (getset ho))))) ?_
   refine R.storeOwn Tryz.sizeOf27 ?_
   refine R.fin [4] ?_
   refine AW.ret ?_
   refine K.thR ?_
   exact K.fin (V.one (V.cellN Tryz.isAgg27 Tryz.sizeOf27)) ⟨by rw [e, exprA_eq], by rw [e, List.set_set, List.set_set, List.set_set]⟩ (hlow := low_agg _)
  ·skip
   have e : callM l Dv t S = (.mk 6 t.text noV (callKM l Dv S).1, (wantM l closeT (callKM l Dv S).2)) := by
    unfold callM
    rw [if_neg hge, if_neg (by have := ht41; simp only [List.length_map] at this; rw [Bool.eq_false_iff] at this; exact this)]
   refine AW.skip ?_
   refine K.thN ?_
   refine AW.seqR ?_
   refine R.loadOwnN Tryz.isAgg27 Tryz.sizeOf27 ?_
   refine R.storeOwn Tryz.sizeOf27 ?_
   refine R.fin [4] ?_
   refine AW.ret ?_
   exact K.fin (V.one (V.cellN Tryz.isAgg27 Tryz.sizeOf27)) ⟨by rw [e, mk_agg]; rfl, by rw [e, List.set_set, List.set_set]⟩ (hlow := by have := exprA_low Hp.length (.mk 6 t.text noV (callKM l Dv S).1); rw [mk_agg] at this; simpa using this)

theorem pcall_all {l : List Tok} (hl : TokEnd l) (hll : l.length ≤ 1048576) (n : Nat) (Dv : Fam) (hn : n ≤ 30) (hd : DeepC l Dv n) : PCall l Dv n := fun o Hp S t ho hi hS _ _ => by
 subst hS
 exact c210 l S Dv t o Hp ho hi hl hll hn hd
/-- expr.Parse. -/
theorem c87p (s : Str) (hs : s.length ≤ 1048576) (Hp : List AObj) : AFun Tryz.prog 10 [strA s] Hp (.tup [exprA (parseM s).1, .agg [intA (parseM s).2.1, intA (parseM s).2.2]]) := by
 by_cases h : (lexM s).2.1 = 0
 ·exact c10 s hs (fun n Dv hn hd => pcall_all (lex_end h) (by have := lex_len h; omega) n Dv hn hd) Hp
 ·refine c10 s hs (fun n Dv hn hd => ?_) Hp
  intro o Hp S t ho hi hS ht hop
  have : (lexM s).1 = [] := by
   unfold lexM at h ⊢
   split
   ·rfl
   ·rename_i h4
    rw [if_neg h4] at h
    cases hf : (itemsT s).find? (fun it => it.2 != 0) with
    | some it => rfl
    | none => rw [hf] at h; exact absurd rfl h
  rw [this] at hi
  cases hi
end Go.SX.Nb
namespace Go.SX.Nb
open Go Go.SX Go.Proofs
variable [ErrAt]
set_option maxRecDepth 4000
def longM (l : List Val) : Bool := decide ((50 : Int) < (l.length : Int)) || l.any fun v => decide ((400 : Int) < (v.s.length : Int))
structure RowAt (c : List Col) (l : List Val) (x : Nat) : Prop where
 le : x ≤ l.length
 ok : ∀ (i : Nat) (v : Val) (y : Col), i < x → l[i]? = some v → c[i]? = some y → plainM v = true ∧ (v.kind = 0 ∨ v.kind = y.kind)
theorem RowAt.next {c : List Col} {l : List Val} {x : Nat} (h : RowAt c l x) (hl : x < l.length) (hc : x < c.length) (hb : ((!(plainM l[x])) || ((l[x].kind != 0) && (l[x].kind != c[x].kind))) = false) : RowAt c l (x + 1) := ⟨hl, fun i v y hi hv hy => by
 rcases Nat.lt_or_ge i x with h' | h'
 ·exact h.ok i v y h' hv hy
 ·have e : i = x := by omega
  subst e
  rw [List.getElem?_eq_getElem hl] at hv
  rw [List.getElem?_eq_getElem hc] at hy
  injection hv with hv
  injection hy with hy
  subst hv
  subst hy
  simp only [Bool.or_eq_false_iff, Bool.not_eq_false', Bool.and_eq_false_iff, bne_eq_false_iff_eq] at hb
  exact ⟨hb.1, hb.2⟩⟩
theorem RowAt.bad {c : List Col} {l : List Val} {x : Nat} (hl : x < l.length) (hc : x < c.length) (hb : ((!(plainM l[x])) || ((l[x].kind != 0) && (l[x].kind != c[x].kind))) = true) : rowP c l = false := by
 cases h : rowP c l with
 | false => rfl
 | true =>
  obtain ⟨h1, h2⟩ := (row_iff.1 h).2.2 x l[x] c[x] (List.getElem?_eq_getElem hl) (List.getElem?_eq_getElem hc)
  rw [h1] at hb
  simp only [Bool.not_true, Bool.false_or, Bool.and_eq_true, bne_iff_ne] at hb
  omega
def wS1 : Str := [105, 102, 40, 116, 114, 117, 101, 44, 32, 49, 44, 32, 49, 32, 47, 32, 48, 41]
def wS2 : Str := [110, 118, 108, 40, 49, 32, 47, 32, 48, 44, 32, 49, 41]
def wD : Expr := binX [47] (valX ⟨1, 1, []⟩) (valX ⟨1, 0, []⟩)
def wX1 : Expr := .mk 6 ifW noV [valX ⟨3, 1, []⟩, valX ⟨1, 1, []⟩, wD]
def wX2 : Expr := .mk 6 nvlW noV [wD, valX ⟨1, 1, []⟩]
end Go.SX.Nb
namespace Go.SX.Nb
open Go Go.SX Go.Proofs
variable [ErrAt]
set_option maxRecDepth 4000
theorem node_sizes {e : Expr} (h : nodeM e = true) : e.text.length ≤ 16 ∧ e.kids.length ≤ 8 := by
 cases node_cases h with
 | val v hp h0 => exact ⟨by simp [valX, Expr.text], by simp [valX, Expr.kids]⟩
 | name t ht =>
  refine ⟨?_, by simp [nameE, Expr.kids]⟩
  show t.length ≤ 16
  cases t with
  | nil => simp
  | cons c r =>
   simp only [nameM, Bool.and_eq_true, decide_eq_true_eq] at ht
   exact ht.1.1.1
 | neg a => exact ⟨by simp [oneX, Expr.text], by simp [oneX, Expr.kids]⟩
 | no a => exact ⟨by simp [oneX, Expr.text], by simp [oneX, Expr.kids]⟩
 | bin t a b ht => exact ⟨by have := mark_len ht; show t.length ≤ 16; omega, by simp [binX, Expr.kids]⟩
 | call t k ha =>
  refine ⟨by have := arityT_len ha; show t.length ≤ 16; omega, ?_⟩
  show k.length ≤ 8
  rcases call_names ha with ⟨_, e⟩ | ⟨_, e⟩ | ⟨_, e⟩ | ⟨_, e⟩ | ⟨_, e⟩ | ⟨_, e⟩ | ⟨_, e⟩ | ⟨_, e⟩ <;> omega
theorem depth_mem : ∀ {l : List Expr} {y : Expr}, y ∈ l → depthE y ≤ depthL l
 | a :: r, y, h => by
  rw [depthL]
  rcases List.mem_cons.1 h with rfl | h
  ·omega
  ·have := depth_mem h
   omega
theorem node_ok : ∀ (n : Nat) (e : Expr), depthE e ≤ n → allE nodeM e = true → okE n e
 | 0, e, h, _ => by rw [depthE_eq] at h; omega
 | n + 1, e, h, hn => by
  rw [allE_eq, Bool.and_eq_true] at hn
  rw [depthE_eq] at h
  have hs := node_sizes hn.1
  refine ⟨by omega, by omega, fun y hy => node_ok n y (by have := depth_mem hy; omega) ((allL_iff _ _).1 hn.2 y hy)⟩
theorem right_okE {e : Expr} (h : refRightM e = true) : okE 30 e ∧ sizeE e ≤ 300 := by
 have h1 := right_node h
 unfold refRightM at h
 simp only [Bool.and_eq_true, decide_eq_true_eq] at h
 exact ⟨node_ok 30 e h.1.1 h1, h.1.2⟩
def shortM (e : Expr) (most : Int) : Str := if (showM e).2 != 0 then [63] else if decide (((showM e).1.length : Int) ≤ most) then (showM e).1 else (showM e).1.take most.toNat ++ [46, 46, 46]
theorem c11 (n : Nat) (e : Expr) (hok : okE n e) (hn : n ≤ 1048576) (hg : allE rngN e = true) (Hp : List AObj) : AFun Tryz.prog 11 [exprA e] Hp (.tup [strA (showM e).1, intA (showM e).2]) := by
 refine ACall.body [.tmp 2, .tmp 3] [0] Tryz.func11 Tryz.ntmps11 (fun d => ?_)
 refine AW.seqR ?_
 refine R.boxRo ?_
 refine R.assign ?_
 refine R.assign ?_
 refine R.fin [1] ?_
 refine W.seq ?_
 refine AW.seqR ?_
 refine R.loadRoN Tryz.isAgg27 Tryz.sizeOf27 ?_
 refine R.call Tryz.call30 (c30 n e hok hn _) ?_
 refine R.not ?_
 refine R.fin [1, 7] ?_
 refine W.cond (fun ht7 => ?_) (fun ht7 => ?_)
 ·skip
  have hsh : showM e = ([], 1) := if_pos ht7
  refine AW.seqR ?_
  refine R.assign ?_
  refine R.assign ?_
  refine R.fin [2, 3] ?_
  refine AW.ret ?_
  refine K.thR ?_
  exact K.fin (V.two V.tmp V.tmp) ⟨by rw [hsh] <;> rfl, rfl⟩
 ·skip
  have hnr : ¬ (!(exprRightM e)) = true := by rw [ht7]; simp
  have hr : refRightM e = true := by rw [← exprRight_eq]; simpa using ht7
  have hps := print_short hr hg
  refine AW.skip ?_
  refine K.thN ?_
  refine AW.seqR ?_
  refine R.build (places := #[(0, 2)]) Tryz.underlying73 (fun w => by simp) Tryz.zeroValue73 ?_
  refine R.box ?_
  refine R.assign ?_
  refine R.fin [1, 4] ?_
  refine AW.seqR ?_
  refine R.toBld 0 73 5 ?_
  refine R.move ?_
  refine R.loadRoN Tryz.isAgg27 Tryz.sizeOf27 ?_
  refine R.callOwn (n := 0) (x := bldA (printE e)) Tryz.call31 (c31 n e hok (right_node hr) hg (oid Hp.length 0) [] _ (by rw [get_oid]; rfl) (by simp only [tops, List.length_nil]; omega)) ?_
  refine R.fin [4] ?_
  refine W.seq ?_
  refine AW.seqR ?_
  refine R.move ?_
  refine R.nilPtr ?_
  refine R.fieldAddrPtr (fo := 0) Tryz.underlying73 Tryz.sizeOf71 ?_
  refine R.call Tryz.call32 (c32 (printE e) (oid Hp.length 0) _ (by rw [get_oid]; rfl)) ?_
  refine R.gtr ?_
  refine R.fin [4, 17] ?_
  refine W.cond (fun ht17 => ?_) (fun ht17 => ?_)
  ·skip
   have hsh : showM e = ([], 3) := by unfold showM; rw [if_neg hnr, if_pos ht17]
   refine AW.seqR ?_
   refine R.assign ?_
   refine R.assign ?_
   refine R.fin [2, 3] ?_
   refine AW.ret ?_
   refine K.thR ?_
   exact K.fin (V.two V.tmp V.tmp) ⟨by rw [hsh] <;> rfl, rfl⟩
  ·skip
   have hsh : showM e = (printE e, 0) := by unfold showM; rw [if_neg hnr, if_neg (by rw [ht17]; simp)]
   refine AW.skip ?_
   refine K.thN ?_
   refine AW.seqR ?_
   refine R.move ?_
   refine R.nilPtr ?_
   refine R.fieldAddrPtr (fo := 0) Tryz.underlying73 Tryz.sizeOf71 ?_
   refine R.callOwn (n := 0) (x := .cells 73 [.any, .any]) Tryz.call33 (c33 (printE e) (oid Hp.length 0) _ (by rw [get_oid]; rfl)) ?_
   refine R.assign ?_
   refine R.assign ?_
   refine R.fin [2, 3] ?_
   refine AW.ret ?_
   exact K.fin (V.two V.tmp V.tmp) ⟨by rw [hsh] <;> rfl, rfl⟩

theorem c18 (n : Nat) (e : Expr) (hok : okE n e) (hn : n ≤ 1048576) (hg : allE rngN e = true) (most : Int) (Hp : List AObj) : AFun Tryz.prog 18 [exprA e, intA most] Hp (strA (shortM e most)) := by
 have hlen : (showM e).1.length ≤ 4000 := by
  by_cases h : (showM e).2 = 0
  ·obtain ⟨_, h2, h3⟩ := show_ok h
   rw [h3]; exact h2
  ·unfold showM at h ⊢
   split
   ·simp
   ·split
    ·simp
    ·rename_i h1 h2; rw [if_neg h1, if_neg h2] at h; exact absurd rfl h
 refine ACall.body [.tmp 4] [0, 1] Tryz.func18 Tryz.ntmps18 (fun d => ?_)
 refine AW.seqR ?_
 refine R.boxRo ?_
 refine R.assign ?_
 refine R.fin [1, 2] ?_
 refine AW.seqR ?_
 refine R.loadRoN Tryz.isAgg27 Tryz.sizeOf27 ?_
 refine R.call Tryz.call11 (c11 n e hok hn hg _) ?_
 refine R.move ?_
 refine R.extract ?_
 refine R.extract ?_
 refine R.assign ?_
 refine R.assign ?_
 refine R.fin [1, 5, 6] ?_
 refine W.seq ?_
 refine AW.block ?_
 refine AW.seqR ?_
 refine R.move ?_
 refine R.neq ?_
 refine R.assign ?_
 refine R.fin [1, 5, 12] ?_
 refine W.cond (fun ht12 => ?_) (fun ht12 => ?_)
 ·skip
  have hsm : shortM e most = [63] := if_pos ht12
  refine AW.seqR ?_
  refine R.assign ?_
  refine R.fin [4] ?_
  refine AW.ret ?_
  refine K.blR ?_
  refine K.thR ?_
  exact K.fin (V.one V.tmp) ⟨by rw [hsm] <;> rfl, rfl⟩
 ·skip
  have hs0 : ¬ ((showM e).2 != 0) = true := by rw [ht12]; simp
  refine AW.seqR ?_
  refine R.move ?_
  refine R.slen Tryz.underlying9 ?_
  refine R.move ?_
  refine R.leq ?_
  refine R.assign ?_
  refine R.fin [1, 5, 15] ?_
  refine W.cond (fun ht15 => ?_) (fun ht15 => ?_)
  ·skip
   have hsm : shortM e most = (showM e).1 := by unfold shortM; rw [if_neg hs0, if_pos ht15]
   refine AW.seqR ?_
   refine R.move ?_
   refine R.assign ?_
   refine R.fin [4] ?_
   refine AW.ret ?_
   refine K.blR ?_
   refine K.thR ?_
   exact K.fin (V.one V.tmp) ⟨by rw [hsm] <;> rfl, rfl⟩
  ·skip
   have hsm : shortM e most = (showM e).1.take most.toNat ++ [46, 46, 46] := by unfold shortM; rw [if_neg hs0, if_neg (by rw [ht15]; simp)]
   have hlm : most < ((showM e).1.length : Int) := by simpa using ht15
   refine AW.skip ?_
   refine K.blN ?_
   refine K.thN ?_
   refine AW.seqR ?_
   refine R.move ?_
   refine R.move ?_
   refine R.maxI ?_
   have hmx : (if most < 0 then (0 : Int) else most) = (most.toNat : Int) := by split <;> omega
   rw [hmx]
   refine R.scutH (l := (showM e).1) (most.toNat) Tryz.underlying9 (Nat.zero_le _) (by omega) ?_
   refine R.sadd (hl := by simp only [List.length_take, List.length_cons, List.length_nil]; omega) ?_
   refine R.assign ?_
   refine R.fin [4] ?_
   refine AW.ret ?_
   exact K.fin (V.one V.tmp) ⟨by rw [hsm] <;> rfl, rfl⟩

/-! The chapter's example. -/
def awS : Str := [40, 40, 97, 43, 98, 41, 41, 42, 99]
def awX2 : Expr := binX [42] (binX [43] (nameE [97]) (nameE [98])) (nameE [99])
def awT : Str := [40, 97, 32, 43, 32, 98, 41, 32, 42, 32, 99]
theorem aw_parse : parseM awS = (awX2, 0, 0) := by kernel_rfl
theorem aw_print : printE awX2 = awT := by kernel_rfl
theorem aw_right : refRightM awX2 = true := by kernel_rfl
theorem aw_show : showM awX2 = (awT, 0) := by
 unfold showM
 rw [exprRight_eq, aw_right, aw_print]
 rfl
theorem aw_rng : allE rngN awX2 = true := by kernel_rfl
theorem aw_lev : levI awX2 = 5 := by kernel_rfl
theorem c9 (Hp : List AObj) : AFun Tryz.prog 9 [] Hp (boolA true) := by
 refine ACall.body [.tmp 0] [] Tryz.func9 Tryz.ntmps9 (fun d => ?_)
 refine AW.seqR ?_
 refine R.assign ?_
 refine R.fin [] ?_
 refine AW.seqR ?_
 refine R.call Tryz.call10 (c87p awS (by decide) _) ?_
 rw [aw_parse]
 refine R.move ?_
 refine R.extract ?_
 refine R.extract ?_
 refine R.alloc Tryz.zeroValue27 ?_
 refine R.alloc Tryz.zeroValue30 ?_
 refine R.storeOwn Tryz.sizeOf27 ?_
 refine R.storeOwn Tryz.sizeOf30 ?_
 refine R.fin [1, 2] ?_
 refine AW.seqR ?_
 refine R.loadOwnN Tryz.isAgg27 Tryz.sizeOf27 ?_
 refine R.call Tryz.call11 (c11 30 awX2 (right_okE aw_right).1 (by decide) aw_rng _) ?_
 rw [aw_show]
 refine R.move ?_
 refine R.extract ?_
 refine R.extract ?_
 refine R.assign ?_
 refine R.assign ?_
 refine R.fin [1, 2, 3, 4] ?_
 refine AW.seqR ?_
 refine R.fieldAddrPtr (fo := 0) Tryz.underlying30 Tryz.sizeOf28 ?_
 refine R.loadOwn Tryz.isAgg28 ?_
 refine R.eql ?_
 refine R.move ?_
 refine G.move ?_
 refine G.eql ?_
 refine R.pickAnd ?_
 refine R.move ?_
 refine G.move ?_
 refine G.seql ?_
 refine R.pickAnd ?_
 refine R.move ?_
 refine G.loadOwnN Tryz.isAgg27 Tryz.sizeOf27 ?_
 refine G.call Tryz.call15 (fun hB => c15 awX2 _) ?_
 rw [aw_lev]
 refine G.eql ?_
 refine R.pickAnd ?_
 refine R.assign ?_
 refine R.fin [0] ?_
 refine AW.ret ?_
 exact K.fin (V.one V.tmp) ⟨by kernel_rfl, rfl⟩

end Go.SX.Nb
namespace Go.SX.Nb
open Go Go.SX Go.Proofs
variable [ErrAt]
set_option maxRecDepth 4000
theorem c3 (s : Str) (Hp : List AObj) : AFun Tryz.prog 3 [strA s] Hp (boolA true) := by
 refine ACall.body [.tmp 2] [0] Tryz.func3 Tryz.ntmps3 (fun d => ?_)
 refine AW.seqR ?_
 refine R.assign ?_
 refine R.fin [0] ?_
 refine W.seq ?_
 refine AW.seqR ?_
 refine R.call Tryz.call9 (c9 _) ?_
 refine R.not ?_
 refine R.fin [0, 12] ?_
 refine W.cond (fun ht12 => ?_) (fun ht12 => ?_)
 ·skip
  cases ht12
 ·skip
  refine AW.skip ?_
  refine K.thN ?_
  refine W.seq ?_
  refine AW.seqR ?_
  refine R.move ?_
  refine R.slen Tryz.underlying9 ?_
  refine R.gtr ?_
  refine R.fin [0, 15] ?_
  refine W.cond (fun ht15 => ?_) (fun ht15 => ?_)
  ·skip
   refine AW.seqR ?_
   refine R.assign ?_
   refine R.fin [2] ?_
   refine AW.ret ?_
   refine K.thR ?_
   exact K.fin (V.one V.tmp)
  ·skip
   have hl0 : s.length ≤ 1048576 := by simp at ht15; omega
   refine AW.skip ?_
   refine K.thN ?_
   refine AW.seqR ?_
   refine R.move ?_
   refine R.call Tryz.call10 (c87p s (by omega) _) ?_
   refine R.move ?_
   refine R.extract ?_
   refine R.extract ?_
   refine R.alloc Tryz.zeroValue27 ?_
   refine R.alloc Tryz.zeroValue30 ?_
   refine R.storeOwn Tryz.sizeOf27 ?_
   refine R.storeOwn Tryz.sizeOf30 ?_
   refine R.fin [3, 4] ?_
   refine W.seq ?_
   refine AW.seqR ?_
   refine R.fieldAddrPtr (fo := 0) Tryz.underlying30 Tryz.sizeOf28 ?_
   refine R.loadOwn Tryz.isAgg28 ?_
   refine R.neq ?_
   refine R.fin [3, 23] ?_
   refine W.cond (fun ht23 => ?_) (fun ht23 => ?_)
   ·skip
    refine AW.seqR ?_
    refine R.assign ?_
    refine R.fin [2] ?_
    refine AW.ret ?_
    refine K.thR ?_
    exact K.fin (V.one V.tmp)
   ·skip
    have hz : (parseM s).2.1 = 0 := by simpa using ht23
    have hr := parse_right hz
    have hol := once_law hz
    refine AW.skip ?_
    refine K.thN ?_
    refine AW.seqR ?_
    refine R.loadOwnN Tryz.isAgg27 Tryz.sizeOf27 ?_
    refine R.call Tryz.call11 (c11 30 (parseM s).1 (right_okE hr.1).1 (by decide) hr.2 _) ?_
    refine R.move ?_
    refine R.extract ?_
    refine R.extract ?_
    refine R.assign ?_
    refine R.assign ?_
    refine R.fin [3, 5, 6] ?_
    refine W.seq ?_
    refine AW.seqR ?_
    refine R.move ?_
    refine R.eql ?_
    refine R.fin [3, 5, 6, 30] ?_
    refine W.cond (fun ht30 => ?_) (fun ht30 => ?_)
    ·skip
     have h3 : (showM (parseM s).1).2 = 3 := by simpa using ht30
     have hlt : 4000 < (printE (parseM s).1).length := by
      rcases hol with h | h
      ·exact h.2
      ·rw [h.1] at h3; cases h3
     refine AW.seqR ?_
     refine R.loadOwnN Tryz.isAgg27 Tryz.sizeOf27 ?_
     refine R.call Tryz.call12 (c12 30 (parseM s).1 (right_okE hr.1).1 (by have := (right_okE hr.1).2; omega) (right_node hr.1) hr.2 _) ?_
     refine R.slen Tryz.underlying9 ?_
     refine R.gtr ?_
     refine R.assign ?_
     refine R.fin [2] ?_
     refine AW.ret ?_
     refine K.thR ?_
     exact K.fin (V.one V.tmp) ⟨by simp [hlt] <;> omega, rfl⟩
    ·skip
     have hsh : showM (parseM s).1 = (printE (parseM s).1, 0) := by
      rcases hol with h | h
      ·rw [h.1] at ht30; cases ht30
      ·exact h.1
     have hpp : parseM (printE (parseM s).1) = ((parseM s).1, 0, 0) := by
      rcases hol with h | h
      ·rw [h.1] at ht30; cases ht30
      ·exact h.2
     have hll : (printE (parseM s).1).length ≤ 4000 := by
      have := show_ok (x := (parseM s).1) (by rw [hsh])
      exact this.2.1
     rw [hsh]
     refine AW.skip ?_
     refine K.thN ?_
     refine AW.seqR ?_
     refine R.move ?_
     refine R.call Tryz.call10 (c87p (printE (parseM s).1) (by omega) _) ?_
     refine R.move ?_
     refine R.extract ?_
     refine R.extract ?_
     refine R.alloc Tryz.zeroValue27 ?_
     refine R.alloc Tryz.zeroValue30 ?_
     refine R.storeOwn Tryz.sizeOf27 ?_
     refine R.storeOwn Tryz.sizeOf30 ?_
     refine R.fin [3, 5, 6, 7, 8] ?_
     refine AW.seqR ?_
     rw [hpp]
     refine R.loadOwnN Tryz.isAgg27 Tryz.sizeOf27 ?_
     refine R.call Tryz.call11 (c11 30 (parseM s).1 (right_okE hr.1).1 (by decide) hr.2 _) ?_
     rw [hsh]
     refine R.move ?_
     refine R.extract ?_
     refine R.extract ?_
     refine R.assign ?_
     refine R.assign ?_
     refine R.fin [3, 5, 6, 7, 8, 9, 10] ?_
     refine AW.seqR ?_
     refine R.move ?_
     refine R.eql ?_
     refine R.move ?_
     refine G.fieldAddrPtr (fo := 0) Tryz.underlying30 Tryz.sizeOf28 ?_
     refine G.loadOwn Tryz.isAgg28 ?_
     refine G.eql ?_
     refine R.pickAnd ?_
     refine R.move ?_
     refine G.move ?_
     refine G.eql ?_
     refine R.pickAnd ?_
     refine R.move ?_
     refine G.loadOwnN Tryz.isAgg27 Tryz.sizeOf27 ?_
     refine G.loadOwnN Tryz.isAgg27 Tryz.sizeOf27 ?_
     refine G.call Tryz.call13 (fun hB => c13 30 (parseM s).1 (right_okE hr.1).1 (parseM s).1 _) ?_
     refine R.pickAnd ?_
     refine R.move ?_
     refine G.move ?_
     refine G.move ?_
     refine G.seql ?_
     refine R.pickAnd ?_
     refine R.assign ?_
     refine R.fin [2] ?_
     refine AW.ret ?_
     exact K.fin (V.one V.tmp) ⟨by simp [eqE_refl], rfl⟩

theorem apart_fin {x y : Expr} (gx : allE rngN x = true) (gy : allE rngN y = true) : ((((showM x).2 != 0) || ((showM y).2 != 0)) || (((showM x).1 == (showM y).1) == eqE x y)) = true := by
 by_cases h1 : (showM x).2 = 0
 ·by_cases h2 : (showM y).2 = 0
  ·have h := apart_law gx gy h1 h2
   have e : ((showM x).1 == (showM y).1) = eqE x y := by
    rw [Bool.eq_iff_iff, eqE_iff, beq_iff_eq]
    exact h
   rw [e]
   simp
  ·simp [h2]
 ·simp [h1]
theorem wide_or {x y : Expr} (h : (wideM x || wideM y) = false) : Slim x ∧ Slim y := by
 rw [Bool.or_eq_false_iff] at h
 exact ⟨slim_of h.1, slim_of h.2⟩
theorem c4 (x y : Expr) (gx : allE rngN x = true) (gy : allE rngN y = true) (Hp : List AObj) : AFun Tryz.prog 4 [exprA x, exprA y] Hp (boolA true) := by
 refine ACall.body [.tmp 4] [0, 1] Tryz.func4 Tryz.ntmps4 (fun d => ?_)
 refine AW.seqR ?_
 refine R.boxRo ?_
 refine R.boxRo ?_
 refine R.assign ?_
 refine R.fin [2, 3] ?_
 refine W.seq ?_
 refine AW.seqR ?_
 refine R.call Tryz.call9 (c9 _) ?_
 refine R.not ?_
 refine R.fin [2, 3, 10] ?_
 refine W.cond (fun ht10 => ?_) (fun ht10 => ?_)
 ·skip
  cases ht10
 ·skip
  refine AW.skip ?_
  refine K.thN ?_
  refine W.seq ?_
  refine AW.seqR ?_
  refine R.loadRoN Tryz.isAgg27 Tryz.sizeOf27 ?_
  refine R.call Tryz.call14 (c14 x _) ?_
  refine R.move ?_
  refine G.loadRoN Tryz.isAgg27 Tryz.sizeOf27 ?_
  refine G.call Tryz.call14 (fun hB => c14 y _) ?_
  refine R.pickOr ?_
  refine R.fin [2, 3, 16] ?_
  refine W.cond (fun ht16 => ?_) (fun ht16 => ?_)
  ·skip
   refine AW.seqR ?_
   refine R.assign ?_
   refine R.fin [4] ?_
   refine AW.ret ?_
   refine K.thR ?_
   exact K.fin (V.one V.tmp)
  ·skip
   have hs := wide_or ht16
   refine AW.skip ?_
   refine K.thN ?_
   refine AW.seqR ?_
   refine R.loadRoN Tryz.isAgg27 Tryz.sizeOf27 ?_
   refine R.call Tryz.call11 (c11 61 x hs.1.ok (by decide) gx _) ?_
   refine R.move ?_
   refine R.extract ?_
   refine R.extract ?_
   refine R.assign ?_
   refine R.assign ?_
   refine R.fin [2, 3, 5, 6] ?_
   refine AW.seqR ?_
   refine R.loadRoN Tryz.isAgg27 Tryz.sizeOf27 ?_
   refine R.call Tryz.call11 (c11 61 y hs.2.ok (by decide) gy _) ?_
   refine R.move ?_
   refine R.extract ?_
   refine R.extract ?_
   refine R.assign ?_
   refine R.assign ?_
   refine R.fin [2, 3, 5, 6, 7, 8] ?_
   refine AW.seqR ?_
   refine R.move ?_
   refine R.neq ?_
   refine R.move ?_
   refine G.move ?_
   refine G.neq ?_
   refine R.pickOr ?_
   refine R.move ?_
   refine G.move ?_
   refine G.move ?_
   refine G.seql ?_
   refine G.loadRoN Tryz.isAgg27 Tryz.sizeOf27 ?_
   refine G.loadRoN Tryz.isAgg27 Tryz.sizeOf27 ?_
   refine G.call Tryz.call13 (fun hB => c13 61 x hs.1.ok y _) ?_
   refine G.beql Tryz.underlying4 ?_
   refine R.pickOr ?_
   refine R.assign ?_
   refine R.fin [4] ?_
   refine AW.ret ?_
   have hfin := apart_fin gx gy
   exact K.fin (V.one V.tmp) ⟨by rw [hfin], rfl⟩

end Go.SX.Nb
namespace Go.SX.Nb
open Go Go.SX Go.Proofs
variable [ErrAt]
set_option maxRecDepth 4000
/-- The short print, as the law reckons it. -/
theorem short_bad {e : Expr} (h : (showM e).2 ≠ 0) (most : Int) : shortM e most = [63] := if_pos (by simpa using h)
theorem short_cut {e : Expr} {w : Str} (h : showM e = (w, 0)) (most : Int) : shortM e most = if decide (most < (w.length : Int)) then w.take most.toNat ++ [46, 46, 46] else w := by
 unfold shortM
 rw [h]
 simp only [bne_self_eq_false, Bool.false_eq_true, if_false]
 by_cases hm : most < (w.length : Int)
 ·rw [if_neg (by simpa using hm), if_pos (by simpa using hm)]
 ·rw [if_pos (by simp; omega), if_neg (by simpa using hm)]
theorem prints_fin {x : Expr} (hr : refRightM x = true) (hg : allE rngN x = true) (hl : (printE x).length ≤ 4000) : (((parseM (printE x)).2.1 == 18) || (((parseM (printE x)).2.1 == 0) && eqE x (parseM (printE x)).1)) = true := by
 rcases prints_law hr hg hl with h | h
 ·rw [h]; rfl
 ·rw [h]; simp [eqE_refl]
theorem c5 (x : Expr) (hg : allE rngN x = true) (most : Int) (Hp : List AObj) : AFun Tryz.prog 5 [exprA x, intA most] Hp (boolA true) := by
 refine ACall.body [.tmp 4] [0, 1] Tryz.func5 Tryz.ntmps5 (fun d => ?_)
 refine AW.seqR ?_
 refine R.boxRo ?_
 refine R.assign ?_
 refine R.fin [1, 2] ?_
 refine W.seq ?_
 refine AW.seqR ?_
 refine R.call Tryz.call9 (c9 _) ?_
 refine R.not ?_
 refine R.fin [1, 2, 13] ?_
 refine W.cond (fun ht13 => ?_) (fun ht13 => ?_)
 ·skip
  cases ht13
 ·skip
  refine AW.skip ?_
  refine K.thN ?_
  refine W.seq ?_
  refine AW.seqR ?_
  refine R.loadRoN Tryz.isAgg27 Tryz.sizeOf27 ?_
  refine R.call Tryz.call14 (c14 x _) ?_
  refine R.fin [1, 2, 15] ?_
  refine W.cond (fun ht15 => ?_) (fun ht15 => ?_)
  ·skip
   refine AW.seqR ?_
   refine R.assign ?_
   refine R.fin [4] ?_
   refine AW.ret ?_
   refine K.thR ?_
   exact K.fin (V.one V.tmp)
  ·skip
   have hs := slim_of ht15
   have hz : sizeE x ≤ 1048576 := by have := hs.size; omega
   refine AW.skip ?_
   refine K.thN ?_
   refine AW.seqR ?_
   refine R.loadRoN Tryz.isAgg27 Tryz.sizeOf27 ?_
   refine R.call Tryz.call11 (c11 61 x hs.ok (by decide) hg _) ?_
   refine R.move ?_
   refine R.extract ?_
   refine R.extract ?_
   refine R.assign ?_
   refine R.assign ?_
   refine R.fin [1, 2, 5, 6] ?_
   refine W.seq ?_
   refine W.draw [0, 1, 0, 7, 15] 3 Tryzmixed (by kernel_rfl) ?_
   refine D.loadRoN Tryz.isAgg27 Tryz.sizeOf27 ?_
   refine D.call Tryz.call15 (c15 x _) ?_
   refine D.loadRoN Tryz.isAgg27 Tryz.sizeOf27 ?_
   refine D.tail ?_
   refine R.call Tryz.call16 (c16 x _) ?_
   refine R.neq ?_
   refine R.fin [1, 2, 5, 6, 25] ?_
   refine W.cond (fun ht25 => ?_) (fun ht25 => ?_)
   ·skip
    simp at ht25
   ·skip
    refine AW.skip ?_
    refine K.thN ?_
    refine W.seq ?_
    refine AW.seqR ?_
    refine R.loadRoN Tryz.isAgg27 Tryz.sizeOf27 ?_
    refine R.call Tryz.call17 (c17 61 x hs.ok (by decide) hz _) ?_
    refine R.not ?_
    refine R.fin [1, 2, 5, 6, 28] ?_
    refine W.cond (fun ht28 => ?_) (fun ht28 => ?_)
    ·skip
     have hr : refRightM x = false := by simpa using ht28
     have hsh : showM x = ([], 1) := by unfold showM; rw [exprRight_eq, hr]; rfl
     have hsm := short_bad (e := x) (by rw [hsh]; decide) most
     rw [hsh]
     refine AW.seqR ?_
     refine R.move ?_
     refine R.seql ?_
     refine R.move ?_
     refine G.move ?_
     refine G.eql ?_
     refine R.pickAnd ?_
     refine R.move ?_
     refine G.loadRoN Tryz.isAgg27 Tryz.sizeOf27 ?_
     refine G.move ?_
     refine G.call Tryz.call18 (fun hB => c18 61 x hs.ok (by decide) hg most _) ?_
     refine G.seql ?_
     refine R.pickAnd ?_
     refine R.assign ?_
     refine R.fin [4] ?_
     refine AW.ret ?_
     refine K.thR ?_
     exact K.fin (V.one V.tmp) ⟨by rw [hsm] <;> rfl, rfl⟩
    ·skip
     have hr : refRightM x = true := by simpa using ht28
     refine AW.skip ?_
     refine K.thN ?_
     refine AW.seqR ?_
     refine R.loadRoN Tryz.isAgg27 Tryz.sizeOf27 ?_
     refine R.call Tryz.call12 (c12 61 x hs.ok hz (right_node hr) hg _) ?_
     refine R.assign ?_
     refine R.fin [1, 2, 5, 6, 7] ?_
     refine W.seq ?_
     refine AW.seqR ?_
     refine R.move ?_
     refine R.slen Tryz.underlying9 ?_
     refine R.gtr ?_
     refine R.fin [1, 2, 5, 6, 7, 45] ?_
     refine W.cond (fun ht45 => ?_) (fun ht45 => ?_)
     ·skip
      have hsh : showM x = ([], 3) := by
       rcases show_of hr with h | h
       ·exact h.1
       ·simp at ht45; omega
      have hsm := short_bad (e := x) (by rw [hsh]; decide) most
      rw [hsh]
      refine AW.seqR ?_
      refine R.move ?_
      refine R.seql ?_
      refine R.move ?_
      refine G.move ?_
      refine G.eql ?_
      refine R.pickAnd ?_
      refine R.move ?_
      refine G.loadRoN Tryz.isAgg27 Tryz.sizeOf27 ?_
      refine G.move ?_
      refine G.call Tryz.call18 (fun hB => c18 61 x hs.ok (by decide) hg most _) ?_
      refine G.seql ?_
      refine R.pickAnd ?_
      refine R.assign ?_
      refine R.fin [4] ?_
      refine AW.ret ?_
      refine K.thR ?_
      exact K.fin (V.one V.tmp) ⟨by rw [hsm] <;> rfl, rfl⟩
     ·skip
      have hll : (printE x).length ≤ 4000 := by simp at ht45; omega
      have hsh : showM x = (printE x, 0) := by
       rcases show_of hr with h | h
       ·omega
       ·exact h.1
      have hsm := short_cut hsh most
      rw [hsh]
      refine AW.skip ?_
      refine K.thN ?_
      refine AW.seqR ?_
      refine R.move ?_
      refine R.assign ?_
      refine R.fin [1, 2, 5, 6, 7, 8] ?_
      refine W.join ⟨102, setF 1 (intA most) (setF 2 (.ro (exprC x)) (setF 5 (strA (printE x)) (setF 6 (intA 0) (setF 7 (strA (printE x)) (setF 8 (strA (shortM x most)) (fun _ => .any)))))), Hp, [], [], none⟩ ?_ ?_
      ·skip
       refine AW.seqR ?_
       refine R.move ?_
       refine R.move ?_
       refine R.slen Tryz.underlying9 ?_
       refine R.lss ?_
       refine R.fin [1, 2, 5, 6, 7, 8, 62] ?_
       refine W.cond (fun ht62 => ?_) (fun ht62 => ?_)
       ·skip
        have hml : most < ((printE x).length : Int) := by simpa using ht62
        rw [if_pos ht62] at hsm
        refine AW.seqR ?_
        refine R.move ?_
        refine R.assign ?_
        refine R.fin [1, 2, 5, 6, 7, 9] ?_
        refine W.seq ?_
        refine AW.seqR ?_
        refine R.move ?_
        refine R.lss ?_
        refine R.fin [1, 2, 5, 6, 7, 9, 65] ?_
        refine W.cond (fun ht65 => ?_) (fun ht65 => ?_)
        ·skip
         have hm0 : most.toNat = 0 := by simp at ht65; omega
         refine AW.region ?_
         refine R.assign ?_
         refine R.fin [1, 2, 5, 6, 7, 9] ?_
         refine K.thN ?_
         refine AW.region ?_
         refine R.move ?_
         refine R.move ?_
         try rw [show (0 : Int) = (most.toNat : Int) by rw [hm0]; rfl]
         refine R.scutH (l := printE x) (most.toNat) Tryz.underlying9 (Nat.zero_le _) (by omega) ?_
         refine R.sadd (hl := by simp only [List.length_take, List.length_cons, List.length_nil]; omega) ?_
         refine R.assign ?_
         refine R.fin [1, 2, 5, 6, 7, 8] ?_
         refine K.thJ ?_
         exact StLe.of_eq (by rw [hsm] <;> rfl)
        ·skip
         have hm0 : most = (most.toNat : Int) := by simp at ht65; omega
         refine AW.skip ?_
         refine K.thN ?_
         refine AW.region ?_
         refine R.move ?_
         refine R.move ?_
         try rw [show (0 : Int) = (most.toNat : Int) by rw [hm0]; rfl]
         refine R.scutH (l := printE x) (most.toNat) Tryz.underlying9 (Nat.zero_le _) (by omega) ?_
         refine R.sadd (hl := by simp only [List.length_take, List.length_cons, List.length_nil]; omega) ?_
         refine R.assign ?_
         refine R.fin [1, 2, 5, 6, 7, 8] ?_
         refine K.thJ ?_
         exact StLe.of_eq (by rw [hsm] <;> rfl)
       ·skip
        rw [if_neg (by rw [ht62]; simp)] at hsm
        refine W.keep [1, 2, 5, 6, 7, 8] ?_
        refine AW.skip ?_
        refine K.thJ ?_
        exact StLe.of_eq (by rw [hsm] <;> rfl)
      ·skip
       refine AW.seqR ?_
       refine R.move ?_
       refine R.call Tryz.call10 (c87p (printE x) (by omega) _) ?_
       refine R.move ?_
       refine R.extract ?_
       refine R.extract ?_
       refine R.alloc Tryz.zeroValue27 ?_
       refine R.alloc Tryz.zeroValue30 ?_
       refine R.storeOwn Tryz.sizeOf27 ?_
       refine R.storeOwn Tryz.sizeOf30 ?_
       refine R.fin [1, 2, 5, 6, 7, 8, 10, 11] ?_
       refine W.seq ?_
       refine AW.seqR ?_
       refine R.move ?_
       refine R.move ?_
       refine R.sneq ?_
       refine R.move ?_
       refine G.move ?_
       refine G.neq ?_
       refine R.pickOr ?_
       refine R.move ?_
       refine G.loadRoN Tryz.isAgg27 Tryz.sizeOf27 ?_
       refine G.move ?_
       refine G.call Tryz.call18 (fun hB => c18 61 x hs.ok (by decide) hg most _) ?_
       refine G.move ?_
       refine G.sneq ?_
       refine R.pickOr ?_
       refine R.fin [2, 10, 11, 88] ?_
       refine W.cond (fun ht88 => ?_) (fun ht88 => ?_)
       ·skip
        simp [hsm] at ht88
       ·skip
        refine AW.skip ?_
        refine K.thN ?_
        refine AW.seqR ?_
        refine R.fieldAddrPtr (fo := 0) Tryz.underlying30 Tryz.sizeOf28 ?_
        refine R.loadOwn Tryz.isAgg28 ?_
        refine R.eql ?_
        refine R.move ?_
        refine G.fieldAddrPtr (fo := 0) Tryz.underlying30 Tryz.sizeOf28 ?_
        refine G.loadOwn Tryz.isAgg28 ?_
        refine G.eql ?_
        refine G.move ?_
        refine G.loadRoN Tryz.isAgg27 Tryz.sizeOf27 ?_
        refine G.loadOwnN Tryz.isAgg27 Tryz.sizeOf27 ?_
        refine G.call Tryz.call13 (fun hB => c13 61 x hs.ok (parseM (printE x)).1 _) ?_
        refine G.pickAnd ?_
        refine R.pickOr ?_
        refine R.assign ?_
        refine R.fin [4] ?_
        refine AW.ret ?_
        have hfin := prints_fin hr hg hll
        exact K.fin (V.one V.tmp) ⟨by rw [hfin], rfl⟩

end Go.SX.Nb
