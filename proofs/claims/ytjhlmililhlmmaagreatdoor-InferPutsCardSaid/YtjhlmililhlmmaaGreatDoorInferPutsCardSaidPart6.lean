/- Texts on the way to this: Whatever the trees, the columns and the place, the law of putting answers true. (part 6) -/
import Derived.Test.YtjhlmililhlmmaaGreatDoorInferPutsCardSaidPart5
set_option linter.all false
namespace Go.SX.Nb
open Go Go.SX Go.Proofs
variable [ErrAt]
set_option maxRecDepth 4000
/-- within, with the function that gathers a call's kids. -/
theorem c227c (l : List Tok) (S : PS) (a : Int) (t : Str) (Dv : Fam) (o : Nat) (Hp : List AObj) (A0 A1 : AObj) (l0 : ObjLow 0 A0) (ho : Hp[o]? = some (pr l S)) (hi : S.i < l.length) (hl : TokEnd l) (hll : l.length ≤ 1048576) (hnl : S.nest ≤ 30) (hd : DeepC l Dv S.nest) :
    ACall Tryz.prog 80 [.ptr o 0, intA a, .fn (.func 159) [] [.ptr (oid Hp.length 2) 0, .ro [.ptr o 0]]] (Hp ++ [A0, A1, xo true t []]) (fun r H' => r = exprA (if S.nest = 30 then nullX else .mk 6 t noV (kidsM l a Dv.ei S).1) ∧ H' = Hp.set o (pr l (kidsM l a Dv.ei S).2) ++ [A0, A1, xo true t (kidsM l a Dv.ei S).1]) := by
  have hlt := (List.getElem?_eq_some_iff.1 ho).1
  have ho' : (Hp ++ [A0, A1, xo true t []])[o]? = some (pr l S) := get_up ho
  by_cases h30 : S.nest = 30
  · refine (c80 l S a 159 [] [.ptr (oid Hp.length 2) 0, .ro [.ptr o 0]] nullX (deepM S) o (Hp ++ [A0, A1, xo true t []]) ((Hp ++ [A0, A1, xo true t []]).set o (pr l (deepM S))) ho' (by omega) Tryz.call159 (by simp) (getset ho') rfl (fun h => h) (fun h => absurd h30 h)).mono fun r H' h => ?_
    have e : kidsM l a Dv.ei S = ([], failM 18 a S) := if_pos (by rw [h30]; rfl)
    rw [e, if_pos h30]
    obtain ⟨h1, h2⟩ := h.1 h30
    exact ⟨h1, by rw [h2, List.set_append_left _ _ hlt]⟩
  · have hq := argsM_fact (S := deepM S) hl hi (hd.ei h30).1
    refine (c80 l S a 159 [] [.ptr (oid Hp.length 2) 0, .ro [.ptr o 0]] (.mk 6 t noV (argsM l Dv.ei (deepM S)).1) (argsM l Dv.ei (deepM S)).2 o (Hp ++ [A0, A1, xo true t []]) (Hp.set o (pr l (argsM l Dv.ei (deepM S)).2) ++ [A0, A1, xo true t (argsM l Dv.ei (deepM S)).1]) ho' (by omega) Tryz.call159 (by simp) (get_up (getset ho)) hq.nest (fun h y hy => ?_) (fun _ own => ?_)).mono fun r H' h => ?_
    · rw [List.set_append_left _ _ hlt] at h
      rcases List.mem_append.1 hy with hy | hy
      · rcases List.mem_or_eq_of_mem_set hy with h1 | h1
        · obtain ⟨i, hi', rfl⟩ := List.getElem_of_mem h1
          by_cases hio : i = o
          · subst hio
            have : Hp[i] = pr l S := by rw [List.getElem?_eq_getElem hi'] at ho; injection ho
            rw [this]; exact low_pr
          · refine h _ (List.mem_append_left _ ?_)
            rw [List.mem_iff_getElem?]
            exact ⟨i, by rw [List.getElem?_set_ne (Ne.symm hio), List.getElem?_eq_getElem hi']⟩
        · rw [h1]; exact low_pr
      · simp only [List.mem_cons, List.not_mem_nil, or_false] at hy
        rcases hy with rfl | rfl | rfl
        · exact h _ (List.mem_append_right _ (by simp))
        · exact h _ (List.mem_append_right _ (by simp))
        · exact low_xo
    · have hoid : oid Hp.length 2 ≠ o := by unfold oid; omega
      have e1 : (Hp ++ [A0, A1, xo true t []]).set o (pr l (deepM S)) ++ own = (Hp.set o (pr l (deepM S)) ++ [A0, A1, xo true t []]) ++ own := by rw [List.set_append_left _ _ hlt]
      rw [e1]
      have g1 : ((Hp.set o (pr l (deepM S)) ++ [A0, A1, xo true t []]) ++ own)[o]? = some (pr l (deepM S)) := get_up (get_up (getset ho))
      have g2 : ((Hp.set o (pr l (deepM S)) ++ [A0, A1, xo true t []]) ++ own)[oid Hp.length 2]? = some (xo true t []) := get_up (by
        have := get_oid (U := Hp.set o (pr l (deepM S))) (O := [A0, A1, xo true t []]) (n := 2)
        rw [List.length_set] at this
        exact this)
      refine (c159 l (deepM S) t Dv o (oid Hp.length 2) _ hoid g1 g2 hi hl hll (hd.ei h30).1 (hd.ei h30).2).mono fun r H' h => ⟨h.1, h.2.trans ?_⟩
      rw [List.append_assoc, List.set_append_left _ _ (by simpa using hlt), List.set_set]
      have := set_oid (U := Hp.set o (pr l (argsM l Dv.ei (deepM S)).2)) (O := [A0, A1, xo true t []] ++ own) (n := 2) (x := xo true t (argsM l Dv.ei (deepM S)).1)
      rw [List.length_set] at this
      rw [this]
      simp
    · have e : kidsM l a Dv.ei S = ((argsM l Dv.ei (deepM S)).1, riseM (argsM l Dv.ei (deepM S)).2) := if_neg (by
        show ¬ (((S.nest : Int) == 30) = true)
        simp
        omega)
      rw [e, if_neg h30]
      obtain ⟨h1, h2⟩ := h.2 h30
      exact ⟨h1, by rw [h2, List.set_append_left _ _ (by simpa using hlt), List.set_set]⟩
theorem c150 (l : List Tok) (S : PS) (Dv : Fam) (t : Tok) (o : Nat) (Hp : List AObj) (ho : Hp[o]? = some (pr l S)) (hi : (nextM S).i < l.length) (hl : TokEnd l) (hll : l.length ≤ 1048576) (hnl : S.nest ≤ 30) (hd : DeepC l Dv S.nest) : ACall Tryz.prog 150 [.ptr o 0, tokA t] Hp (fun r H' => r = exprA (callM l Dv t S).1 ∧ H' = Hp.set o (pr l (callM l Dv t S).2)) := by
  have hi0 : S.i < l.length := by have : S.i + 1 < l.length := hi; omega
  have hol := (List.getElem?_eq_some_iff.1 ho).1
  have hkf : KFact l (nextM S) (callKM l Dv S) := kidsM_fact hl _ hi (fun h => (hd.ei h).1)
  refine ACall.body [.cell 4 26] [0, 1] Tryz.func150 Tryz.ntmps150 (fun d => ?_)
  refine AW.seqR ?_
  refine R.boxRo ?_
  refine R.boxRo ?_
  refine R.alloc Tryz.zeroValue26 ?_
  refine R.fin [2, 3, 4] ?_
  refine AW.seqR ?_
  refine R.fieldAddrRo (off := 1) Tryz.underlying54 Tryz.sizeOf9 ?_
  refine R.loadRo Tryz.isAgg9 ?_
  refine R.call Tryz.call44 (c44 t.text _) ?_
  refine R.assign ?_
  refine R.fin [2, 3, 4, 5] ?_
  refine W.seq ?_
  refine AW.seqR ?_
  refine R.move ?_
  refine R.lss ?_
  refine R.fin [2, 3, 4, 5, 12] ?_
  refine W.cond (fun ht12 => ?_) (fun ht12 => ?_)
  · skip
    have hlt0 : arityM t.text < 0 := by simpa using ht12
    have e : callM l Dv t S = (nullX, failM 9 t.at_ S) := if_pos hlt0
    refine AW.seqR ?_
    refine R.loadRo Tryz.isAgg68 ?_
    refine R.fieldAddrRo (off := 2) Tryz.underlying54 Tryz.sizeOf3 ?_
    refine R.loadRo Tryz.isAgg3 ?_
    refine R.callUp Tryz.call37 ho (by simp) low_pr (c37 l S 9 t.at_ o _ (get_up ho)) ?_
    refine R.storeOwn Tryz.sizeOf26 ?_
    refine R.fin [4] ?_
    refine AW.ret ?_
    refine K.thR ?_
    exact K.fin (V.one (V.cellN Tryz.isAgg26 Tryz.sizeOf26)) ⟨by rw [e, exprA_eq], by rw [e]⟩ (hlow := low_agg _)
  · skip
    have hge : ¬ arityM t.text < 0 := by simpa using ht12
    refine AW.skip ?_
    refine K.thN ?_
    refine AW.seqR ?_
    refine R.loadRo Tryz.isAgg68 ?_
    refine R.callUp Tryz.call69 ho (by simp) low_pr (c69 l S o _ (get_up ho) hi0 hll) ?_
    refine R.alloc Tryz.zeroValue54 ?_
    refine R.storeOwn Tryz.sizeOf54 ?_
    refine R.fin [2, 3, 4, 5, 6] ?_
    refine AW.seqR ?_
    refine R.fieldAddrRo (off := 1) Tryz.underlying54 Tryz.sizeOf9 ?_
    refine R.loadRo Tryz.isAgg9 ?_
    refine R.build (places := #[(0, 1), (1, 1), (2, 3), (5, 1)]) Tryz.underlying26 (fun w => by simp) Tryz.zeroValue26 ?_
    refine R.alloc Tryz.zeroValue26 ?_
    refine R.storeOwn Tryz.sizeOf26 ?_
    refine R.fin [2, 3, 4, 5, 6, 7] ?_
    refine AW.seqR ?_
    refine R.nilCell 2 5 6 ?_
    refine R.loadRo Tryz.isAgg68 ?_
    refine R.fieldAddrPtr (fo := 2) Tryz.underlying54 Tryz.sizeOf3 ?_
    refine R.loadOwn Tryz.isAgg3 ?_
    refine R.makeFunc ?_
    refine R.callX (up' := (Hp.set o (pr l (nextM S))).set o (pr l (callKM l Dv S).2)) (own' := [zero69, .cells 54 [intA (tokAt l S.i).kind, strA (tokAt l S.i).text, intA (tokAt l S.i).at_], xo true t.text (callKM l Dv S).1]) Tryz.call80 (by have := c227c l (nextM S) (tokAt l S.i).at_ t.text Dv o (Hp.set o (pr l (nextM S))) zero69 (.cells 54 [intA (tokAt l S.i).kind, strA (tokAt l S.i).text, intA (tokAt l S.i).at_]) low_z69 (getset ho) hi hl hll hnl hd; rw [List.length_set] at this; exact this) (by simp) (fun h => low_set h low_pr) ?_
    refine R.fin [2, 3, 4, 5, 7] ?_
    refine AW.seqR ?_
    refine R.loadRo Tryz.isAgg68 ?_
    refine R.callUp Tryz.call151 (getset (getset ho)) (by simp) low_pr (c151 l (callKM l Dv S).2 closeT o _ (get_up (getset (getset ho))) hkf.lt hll) ?_
    refine R.fin [2, 3, 4, 5, 7] ?_
    refine W.seq ?_
    refine AW.seqR ?_
    refine R.loadRo Tryz.isAgg68 ?_
    refine R.nilPtr ?_
    refine R.fieldAddrPtr (fo := 3) Tryz.underlying70 Tryz.sizeOf41 ?_
    refine R.fieldAddrPtr (fo := 0) Tryz.underlying41 Tryz.sizeOf33 ?_
    refine R.loadUp Tryz.isAgg33 (getset (getset (getset ho))) ?_
    refine R.eql ?_
    refine R.move ?_
    refine G.fieldAddrPtr (fo := 5) Tryz.underlying26 Tryz.sizeOf24 ?_
    refine G.loadOwn Tryz.isAgg24 ?_
    refine G.len Tryz.underlying24 ?_
    refine G.move ?_
    refine G.neq ?_
    refine R.pickAnd ?_
    refine R.fin [2, 3, 4, 7, 41] ?_
    refine W.cond (fun ht41 => ?_) (fun ht41 => ?_)
    · skip
      have e : callM l Dv t S = (nullX, failM 8 t.at_ (wantM l closeT (callKM l Dv S).2)) := by
        unfold callM
        rw [if_neg hge, if_pos (by have := ht41; simp only [List.length_map] at this; exact this)]
      refine AW.seqR ?_
      refine R.loadRo Tryz.isAgg68 ?_
      refine R.fieldAddrRo (off := 2) Tryz.underlying54 Tryz.sizeOf3 ?_
      refine R.loadRo Tryz.isAgg3 ?_
      refine R.callUp Tryz.call37 (getset (getset (getset ho))) (by simp) low_pr (c37 l (wantM l closeT (callKM l Dv S).2) 8 t.at_ o _ (get_up (getset (getset (getset ho))))) ?_
      refine R.storeOwn Tryz.sizeOf26 ?_
      refine R.fin [4] ?_
      refine AW.ret ?_
      refine K.thR ?_
      exact K.fin (V.one (V.cellN Tryz.isAgg26 Tryz.sizeOf26)) ⟨by rw [e, exprA_eq], by rw [e, List.set_set, List.set_set, List.set_set]⟩ (hlow := low_agg _)
    · skip
      have e : callM l Dv t S = (.mk 6 t.text noV (callKM l Dv S).1, (wantM l closeT (callKM l Dv S).2)) := by
        unfold callM
        rw [if_neg hge, if_neg (by have := ht41; simp only [List.length_map] at this; rw [Bool.eq_false_iff] at this; exact this)]
      refine AW.skip ?_
      refine K.thN ?_
      refine AW.seqR ?_
      refine R.loadOwnN Tryz.isAgg26 Tryz.sizeOf26 ?_
      refine R.storeOwn Tryz.sizeOf26 ?_
      refine R.fin [4] ?_
      refine AW.ret ?_
      exact K.fin (V.one (V.cellN Tryz.isAgg26 Tryz.sizeOf26)) ⟨by rw [e, mk_agg]; rfl, by rw [e, List.set_set, List.set_set]⟩ (hlow := by have := exprA_low Hp.length (.mk 6 t.text noV (callKM l Dv S).1); rw [mk_agg] at this; simpa using this)

theorem pcall_all {l : List Tok} (hl : TokEnd l) (hll : l.length ≤ 1048576) (n : Nat) (Dv : Fam) (hn : n ≤ 30) (hd : DeepC l Dv n) : PCall l Dv n := fun o Hp S t ho hi hS _ _ => by
  subst hS
  exact c150 l S Dv t o Hp ho hi hl hll hn hd
/-- expr.Parse. -/
theorem c87p (s : Str) (hs : s.length ≤ 1048576) (Hp : List AObj) : AFun Tryz.prog 12 [strA s] Hp (.tup [exprA (parseM s).1, .agg [intA (parseM s).2.1, intA (parseM s).2.2]]) := by
  by_cases h : (lexM s).2.1 = 0
  · exact c12 s hs (fun n Dv hn hd => pcall_all (lex_end h) (by have := lex_len h; omega) n Dv hn hd) Hp
  · refine c12 s hs (fun n Dv hn hd => ?_) Hp
    intro o Hp S t ho hi hS ht hop
    have : (lexM s).1 = [] := by
      unfold lexM at h ⊢
      split
      · rfl
      · rename_i h4
        rw [if_neg h4] at h
        cases hf : (itemsT s).find? (fun it => it.2 != 0) with
        | some it => rfl
        | none => rw [hf] at h; exact absurd rfl h
    rw [this] at hi
    cases hi
end Go.SX.Nb
namespace Go.SX.Nb
open Go Go.SX Go.Proofs
variable [ErrAt]
set_option maxRecDepth 4000
def takenAt (c : List Col) (take : List Str) (j : Nat) (nm : Str) : Bool := !(decide (findM nm c < 0) || (idxM nm take != (j : Int)))
def takenM (c : List Col) (take : List Str) : Bool := take.zipIdx.all fun x => takenAt c take x.2 x.1
def namedAt (c : List Col) (x : Nat) (y : Col) : Bool := !((!nameM y.name) || (findM y.name c != (x : Int)))
def namedC (c : List Col) : Bool := c.zipIdx.all fun x => namedAt c x.2 x.1
def stayM (c : List Col) (take : List Str) : List Col := c.filter fun y => !take.contains y.name
def turnM (c : List Col) (take : List Str) (give : List Col) : List Col × Int :=
  if rightM c = false then ([], 1) else if takenM c take = false then ([], 9) else if namedC (stayM c take ++ give) = false then ([], 9)
  else if colsM (stayM c take ++ give) = false then ([], 10) else if 12 < (stayM c take ++ give).length then ([], 3) else (stayM c take ++ give, 0)
end Go.SX.Nb
namespace Go.SX.Nb
open Go Go.SX Go.Proofs
variable [ErrAt]
set_option maxRecDepth 4000
def kindOk (y : Col) : Bool := !(decide (y.kind < 1) || decide ((3 : Int) < y.kind))
end Go.SX.Nb
namespace Go.SX.Nb
open Go Go.SX Go.Proofs
variable [ErrAt]
set_option maxRecDepth 4000
/-! What went and came, taken back: the same columns. -/
theorem nodup_at {α β : Type} {f : α → β} {c : List α} (h : (c.map f).Nodup) {i j : Nat} {y z : α} (hi : c[i]? = some y) (hj : c[j]? = some z) (e : f y = f z) : i = j := by
  obtain ⟨hi', ei⟩ := List.getElem?_eq_some_iff.1 hi
  obtain ⟨hj', ej⟩ := List.getElem?_eq_some_iff.1 hj
  have h' : List.Pairwise (· ≠ ·) (c.map f) := h
  rw [List.pairwise_iff_getElem] at h'
  rcases Nat.lt_trichotomy i j with hlt | rfl | hlt
  · have h2 := h' i j (by simpa using hi') (by simpa using hj') hlt
    rw [List.getElem_map, List.getElem_map, ei, ej] at h2
    exact absurd e h2
  · rfl
  · have h2 := h' j i (by simpa using hj') (by simpa using hi') hlt
    rw [List.getElem_map, List.getElem_map, ei, ej] at h2
    exact absurd e.symm h2
theorem find_nodup {c : List Col} (h : (c.map (·.name)).Nodup) {j : Nat} {y : Col} (hj : c[j]? = some y) : findM y.name c = (j : Int) := by
  obtain ⟨hj', ej⟩ := List.getElem?_eq_some_iff.1 hj
  exact findM_at hj' (by rw [ej]) (fun k z hk hz e => by have := nodup_at h hz hj e; omega)
theorem ok_colsM {c : List Col} (h : ∀ y ∈ c, ColOk y) (hn : (c.map (·.name)).Nodup) : colsM c = true := by
  rw [colsM_true]
  intro j y hj
  have ho := h y (List.mem_of_getElem? hj)
  have h1 := ho.lo
  have h3 := ho.hi
  unfold colAt
  rw [find_nodup hn hj, ← lexName_eq, ho.name]
  have e1 : decide (y.kind < 1) = false := decide_eq_false (by omega)
  have e3 : decide ((3 : Int) < y.kind) = false := decide_eq_false (by omega)
  rw [e1, e3]
  simp
theorem find_mem {nm : Str} {c : List Col} : ¬ (findM nm c < 0) ↔ ∃ (j : Nat) (y : Col), c[j]? = some y ∧ y.name = nm ∧ findM nm c = (j : Int) := by
  unfold findM
  cases h : c.findIdx? (fun y => y.name == nm) with
  | none =>
    constructor
    · intro h'; exact absurd (by decide) h'
    · rintro ⟨j, y, _, _, e⟩
      exact absurd (show (-1 : Int) = (j : Int) from e) (by omega)
  | some i =>
    rw [List.findIdx?_eq_some_iff_getElem] at h
    obtain ⟨hi, e, _⟩ := h
    constructor
    · intro _; exact ⟨i, c[i], List.getElem?_eq_getElem hi, by simpa using e, rfl⟩
    · intro _ h'
      have : (i : Int) < 0 := h'
      omega
def lookM (c : List Col) (t : Str) : Col := c.getD (findM t c).toNat ⟨[], 0⟩
end Go.SX.Nb
namespace Go.SX.Nb
open Go Go.SX Go.Proofs
variable [ErrAt]
set_option maxRecDepth 8000
/-- What a node asks of its kids, and what it is. -/
structure Sign where
  kids : List Int
  own : Int
def markedM (s : Str) : Sign := if (s == [111, 114]) || (s == [97, 110, 100]) then ⟨[3, 3], 3⟩ else if (((((s == [61]) || (s == [33, 61])) || (s == [60])) || (s == [60, 61])) || (s == [62])) || (s == [62, 61]) then ⟨[-1, -1], 3⟩ else if s == [38] then ⟨[2, 2], 2⟩ else ⟨[1, 1], 1⟩
def calledM (s : Str) : Sign := if (s == [108, 101, 110]) || (s == [110, 117, 109]) then ⟨[2], 1⟩ else if s == [115, 116, 114] then ⟨[1], 2⟩ else if (s == [108, 101, 102, 116]) || (s == [114, 105, 103, 104, 116]) then ⟨[2, 1], 2⟩ else if s == [105, 115, 110, 117, 108, 108] then ⟨[-2], 3⟩ else if s == [110, 118, 108] then ⟨[-1, -1], -1⟩ else ⟨[3, -1, -1], -1⟩
def signN (o : Int) (t : Str) : Sign := if o == 3 then ⟨[1], 1⟩ else if o == 4 then ⟨[3], 3⟩ else if o == 5 then markedM t else calledM t
def meetM (a b : Int) : Int × Bool := if a == 0 then (b, true) else if (b == 0) || (a == b) then (a, true) else (0, false)
def fitK : List Int → List Int → Int → Option Int
  | _, [], c => some c
  | [], _ :: _, _ => none
  | w :: ws, k :: ks, c => if w == -2 then fitK ws ks c else if w == -1 then (if (meetM c k).2 then fitK ws ks (meetM c k).1 else none) else if (meetM w k).2 then fitK ws ks c else none
def fitM (s : Sign) (ks : List Int) : Int × Int := match fitK s.kids ks 0 with | none => (0, 10) | some c => if s.own == -1 then (c, 0) else (s.own, 0)
def nameK (c : List Col) (t : Str) : Int × Int := if findM t c < 0 then (0, 9) else ((c.getD (findM t c).toNat ⟨[], 0⟩).kind, 0)
def kindN (c : List Col) (o : Int) (t : Str) (v : Val) (ks : List (Int × Int)) : Int × Int :=
  if o == 1 then (v.kind, 0) else if o == 2 then nameK c t else match ks.find? (fun q => q.2 != 0) with | some q => (0, q.2) | none => fitM (signN o t) (ks.map (·.1))
mutual
def kindE (c : List Col) : Expr → Int × Int
  | .mk o t v k => kindN c o t v (kindL c k)
def kindL (c : List Col) : List Expr → List (Int × Int)
  | [] => []
  | e :: r => kindE c e :: kindL c r
 end
theorem kindL_map (c : List Col) : ∀ l, kindL c l = l.map (kindE c)
  | [] => rfl
  | e :: r => by rw [kindL, kindL_map c r]; rfl
theorem kindE_eq (c : List Col) (e : Expr) : kindE c e = kindN c e.op e.text e.val (e.kids.map (kindE c)) := by cases e; rw [kindE, kindL_map]; rfl
/-- infer.Kind. -/
def kindR (e : Expr) (c : List Col) : Int × Int := if (!(exprRightM e)) || !(colsP c) then (0, 1) else kindE c e
/-! The signs have as many as the nodes have kids. -/
theorem marked_len (s : Str) : (markedM s).kids.length = 2 := by unfold markedM; repeat' split
                                                                 all_goals rfl
theorem called_len {t : Str} {n : Nat} (h : arityM t = (n : Int)) : (calledM t).kids.length = n := by
  rw [show arityM t = arityM t from rfl] at h
  by_cases hm : t ∈ arityList.map (·.1)
  · have : ((arityList.map (·.1)).all fun s => decide (((calledM s).kids.length : Int) = arityM s)) = true := by kernel_rfl
    have := of_decide_eq_true (List.all_eq_true.1 this t hm)
    omega
  · have h1 : arityM t = -1 := by
      unfold arityM
      rw [List.find?_eq_none.2 fun p hp => by
        simp only [beq_iff_eq]
        rintro rfl
        exact hm (List.mem_map.2 ⟨p, hp, rfl⟩)]
    omega
theorem sign_len {e : Expr} (h : nodeM e = true) (h1 : (e.op == 1) = false) (h2 : (e.op == 2) = false) : (signN e.op e.text).kids.length = e.kids.length := by
  unfold nodeM at h
  rw [h1, h2] at h
  simp only [Bool.false_eq_true, if_false] at h
  unfold signN
  by_cases h3 : (e.op == 3) = true
  · rw [h3] at h
    simp only [Bool.true_or, if_true, Bool.and_eq_true, beq_iff_eq] at h
    rw [if_pos h3]
    show 1 = _
    omega
  · have h3' : (e.op == 3) = false := by simpa using h3
    rw [if_neg h3]
    rw [h3'] at h
    by_cases h4 : (e.op == 4) = true
    · rw [h4] at h
      simp only [Bool.false_or, if_true, Bool.and_eq_true, beq_iff_eq] at h
      rw [if_pos h4]
      show 1 = _
      omega
    · have h4' : (e.op == 4) = false := by simpa using h4
      rw [if_neg h4]
      rw [h4'] at h
      simp only [Bool.or_false, Bool.false_eq_true, if_false] at h
      by_cases h5 : (e.op == 5) = true
      · rw [h5] at h
        simp only [if_true, Bool.and_eq_true, beq_iff_eq] at h
        rw [if_pos h5, marked_len]
        omega
      · have h5' : (e.op == 5) = false := by simpa using h5
        rw [if_neg h5]
        rw [h5'] at h
        simp only [Bool.false_eq_true, if_false] at h
        by_cases h6 : (e.op == 6) = true
        · rw [h6] at h
          simp only [if_true, Bool.and_eq_true, beq_iff_eq] at h
          exact called_len h.2
        · have h6' : (e.op == 6) = false := by simpa using h6
          rw [h6'] at h
          cases h
/-! More columns. -/
/-- Columns that know more. -/
def Knows (c c' : List Col) : Prop := ∀ t, (nameK c t).2 = 0 → nameK c' t = nameK c t
theorem kindN_ok {c : List Col} {o : Int} {t : Str} {v : Val} {ks : List (Int × Int)} (h : (kindN c o t v ks).2 = 0) (h1 : (o == 1) = false) (h2 : (o == 2) = false) : ∀ q ∈ ks, q.2 = 0 := by
  unfold kindN at h
  rw [h1, h2] at h
  simp only [Bool.false_eq_true, if_false] at h
  cases hf : ks.find? (fun q => q.2 != 0) with
  | some q =>
    rw [hf] at h
    have := List.find?_some hf
    simp only [bne_iff_ne] at this
    exact absurd h this
  | none =>
    intro q hq
    have := List.find?_eq_none.1 hf q hq
    simpa using this
mutual
theorem kind_more {c c' : List Col} (hk : Knows c c') : ∀ e : Expr, (kindE c e).2 = 0 → kindE c' e = kindE c e
  | .mk o t v k, h => by
    rw [kindE] at h ⊢
    rw [kindE]
    by_cases h1 : (o == 1) = true
    · unfold kindN; rw [if_pos h1, if_pos h1]
    · have h1' : (o == 1) = false := by simpa using h1
      by_cases h2 : (o == 2) = true
      · unfold kindN at h ⊢
        rw [if_neg h1, if_pos h2] at h ⊢
        rw [if_neg h1, if_pos h2]
        exact hk t h
      · have h2' : (o == 2) = false := by simpa using h2
        rw [kindL_more hk k (kindN_ok h h1' h2')]
        unfold kindN
        rw [h1', h2']
        rfl
theorem kindL_more {c c' : List Col} (hk : Knows c c') : ∀ l : List Expr, (∀ q ∈ kindL c l, q.2 = 0) → kindL c' l = kindL c l
  | [], _ => rfl
  | e :: r, h => by
    rw [kindL] at h ⊢
    rw [kindL, kind_more hk e (h _ (by simp)), kindL_more hk r (fun q hq => h q (by simp [hq]))]
 end
theorem kind_err (c : List Col) (e : Expr) (h : (kindE c e).2 ≠ 0) : (kindE c e).1 = 0 := by
  rw [kindE_eq] at h ⊢
  unfold kindN at h ⊢
  split
  · rename_i h1; rw [if_pos h1] at h; exact absurd rfl h
  · rename_i h1
    rw [if_neg h1] at h
    split
    · rename_i h2
      rw [if_pos h2] at h
      unfold nameK at h ⊢
      split
      · rfl
      · rename_i h3; rw [if_neg h3] at h; exact absurd rfl h
    · rename_i h2
      rw [if_neg h2] at h
      cases hf : (e.kids.map (kindE c)).find? (fun q => q.2 != 0) with
      | some q => rfl
      | none =>
        rw [hf] at h
        simp only at h ⊢
        unfold fitM at h ⊢
        cases hk : fitK (signN e.op e.text).kids ((e.kids.map (kindE c)).map (·.1)) 0 with
        | none => rfl
        | some m =>
          rw [hk] at h
          simp only at h
          split at h <;> exact absurd rfl h
theorem kindR_err (c : List Col) (e : Expr) (h : (kindR e c).2 ≠ 0) : (kindR e c).1 = 0 := by
  unfold kindR at h ⊢
  split
  · rfl
  · rename_i h1; rw [if_neg h1] at h; exact kind_err c e h
/-- What a name's kind is. -/
theorem nameK_some {c : List Col} {t : Str} (hn : (c.map (·.name)).Nodup) {y : Col} (hy : y ∈ c) (h : y.name = t) : nameK c t = (y.kind, 0) := by
  obtain ⟨j, hj⟩ := List.getElem?_of_mem hy
  have hf := find_nodup hn hj
  rw [h] at hf
  unfold nameK
  rw [hf, if_neg (by omega)]
  have : (c.getD ((j : Int)).toNat ⟨[], 0⟩) = y := by
    rw [Int.toNat_natCast, List.getD_eq_getElem?_getD, hj]
    rfl
  rw [this]
theorem nameK_ok {c : List Col} {t : Str} (h : (nameK c t).2 = 0) : ∃ y ∈ c, y.name = t := by
  unfold nameK at h
  split at h
  · cases h
  · rename_i h1
    obtain ⟨j, y, h2, h3, _⟩ := find_mem.1 h1
    exact ⟨y, List.mem_of_getElem? h2, h3⟩
theorem knows_of {c c' : List Col} (h1 : (c.map (·.name)).Nodup) (h2 : (c'.map (·.name)).Nodup) (hs : ∀ y ∈ c, y ∈ c') : Knows c c' := fun t h => by
  obtain ⟨y, hy, ht⟩ := nameK_ok h
  rw [nameK_some h1 hy ht, nameK_some h2 (hs y hy) ht]
/-! A tree in a column's place. -/
mutual
theorem kind_put {c : List Col} {s : Str} {y : Expr} (hy : kindE c y = nameK c s) : ∀ x : Expr, kindE c (putE s y x) = kindE c x
  | .mk o t v k => by
    rw [putE]
    split
    · rename_i h
      rw [Bool.and_eq_true, beq_iff_eq, beq_iff_eq] at h
      obtain ⟨rfl, rfl⟩ := h
      rw [hy, kindE]
      rfl
    · rw [kindE, kindE, kindL_put hy k]
theorem kindL_put {c : List Col} {s : Str} {y : Expr} (hy : kindE c y = nameK c s) : ∀ l : List Expr, kindL c (putL s y l) = kindL c l
  | [] => rfl
  | e :: r => by rw [putL, kindL, kindL, kind_put hy e, kindL_put hy r]
 end
end Go.SX.Nb
namespace Go.SX.Nb
open Go Go.SX Go.Proofs
variable [ErrAt]
set_option maxRecDepth 4000
end Go.SX.Nb
namespace Go.SX.Nb
open Go Go.SX Go.Proofs
variable [ErrAt]
set_option maxRecDepth 4000
abbrev signA (s : Sign) : AV := .agg [.slice false 1 (s.kids.map intA), intA s.own]
theorem low_sign {n : Nat} (s : Sign) : Low n (signA s) := by simp [or_imp, forall_and]
theorem c48 (s : Str) (Hp : List AObj) : AFun Tryz.prog 48 [strA s] Hp (signA (markedM s)) := by
  refine ACall.body [.cell 2 61] [0] Tryz.func48 Tryz.ntmps48 (fun d => ?_)
  refine AW.seqR ?_
  refine R.alloc Tryz.zeroValue61 ?_
  refine R.fin [0, 2] ?_
  refine W.seq ?_
  refine AW.seqR ?_
  refine R.move ?_
  refine R.fin [2, 3] ?_
  refine AW.block ?_
  refine W.seq ?_
  refine AW.seqR ?_
  refine R.seql ?_
  refine R.assign ?_
  refine R.fin [2, 3, 4] ?_
  refine W.cond (fun ht4 => ?_) (fun ht4 => ?_)
  · skip
    refine AW.skip ?_
    refine K.thN ?_
    refine W.cond (fun ht4 => ?_) (fun ht4 => ?_)
    · skip
      refine AW.seqR ?_
      refine R.buildSlice Tryz.underlying59 Tryz.sizeOf3 Tryz.zeroValue3 ?_
      refine R.build (places := #[(0, 1), (1, 1)]) Tryz.underlying61 (fun w => by simp) Tryz.zeroValue61 ?_
      refine R.storeOwn Tryz.sizeOf61 ?_
      refine R.fin [2] ?_
      refine AW.ret ?_
      refine K.blR ?_
      refine K.thR ?_
      first | (by_cases e0 : markedM s = ⟨[3, 3], 3⟩; exact K.fin (V.one (V.cellN Tryz.isAgg61 Tryz.sizeOf61)) ⟨by rw [e0]; rfl, rfl⟩; exfalso; apply e0; simp_all [markedM]; done) | (by_cases e0 : markedM s = ⟨[-1, -1], 3⟩; exact K.fin (V.one (V.cellN Tryz.isAgg61 Tryz.sizeOf61)) ⟨by rw [e0]; rfl, rfl⟩; exfalso; apply e0; simp_all [markedM]; done) | (by_cases e0 : markedM s = ⟨[2, 2], 2⟩; exact K.fin (V.one (V.cellN Tryz.isAgg61 Tryz.sizeOf61)) ⟨by rw [e0]; rfl, rfl⟩; exfalso; apply e0; simp_all [markedM]; done) | (by_cases e0 : markedM s = ⟨[1, 1], 1⟩; exact K.fin (V.one (V.cellN Tryz.isAgg61 Tryz.sizeOf61)) ⟨by rw [e0]; rfl, rfl⟩; exfalso; apply e0; simp_all [markedM]; done)
    · skip
      refine W.seq ?_
      refine AW.seqR ?_
      refine R.seql ?_
      refine R.assign ?_
      refine R.fin [2, 3, 9] ?_
      refine W.cond (fun ht9 => ?_) (fun ht9 => ?_)
      · skip
        refine AW.skip ?_
        refine K.thN ?_
        refine W.cond (fun ht9 => ?_) (fun ht9 => ?_)
        · skip
          refine AW.seqR ?_
          refine R.buildSlice Tryz.underlying59 Tryz.sizeOf3 Tryz.zeroValue3 ?_
          refine R.build (places := #[(0, 1), (1, 1)]) Tryz.underlying61 (fun w => by simp) Tryz.zeroValue61 ?_
          refine R.storeOwn Tryz.sizeOf61 ?_
          refine R.fin [2] ?_
          refine AW.ret ?_
          refine K.blR ?_
          refine K.thR ?_
          first | (by_cases e0 : markedM s = ⟨[3, 3], 3⟩; exact K.fin (V.one (V.cellN Tryz.isAgg61 Tryz.sizeOf61)) ⟨by rw [e0]; rfl, rfl⟩; exfalso; apply e0; simp_all [markedM]; done) | (by_cases e0 : markedM s = ⟨[-1, -1], 3⟩; exact K.fin (V.one (V.cellN Tryz.isAgg61 Tryz.sizeOf61)) ⟨by rw [e0]; rfl, rfl⟩; exfalso; apply e0; simp_all [markedM]; done) | (by_cases e0 : markedM s = ⟨[2, 2], 2⟩; exact K.fin (V.one (V.cellN Tryz.isAgg61 Tryz.sizeOf61)) ⟨by rw [e0]; rfl, rfl⟩; exfalso; apply e0; simp_all [markedM]; done) | (by_cases e0 : markedM s = ⟨[1, 1], 1⟩; exact K.fin (V.one (V.cellN Tryz.isAgg61 Tryz.sizeOf61)) ⟨by rw [e0]; rfl, rfl⟩; exfalso; apply e0; simp_all [markedM]; done)
        · skip
          refine AW.seqR ?_
          refine R.seql ?_
          refine R.assign ?_
          refine R.fin [2, 18] ?_
          refine W.cond (fun ht18 => ?_) (fun ht18 => ?_)
          · skip
            refine AW.seqR ?_
            refine R.buildSlice Tryz.underlying59 Tryz.sizeOf3 Tryz.zeroValue3 ?_
            refine R.build (places := #[(0, 1), (1, 1)]) Tryz.underlying61 (fun w => by simp) Tryz.zeroValue61 ?_
            refine R.storeOwn Tryz.sizeOf61 ?_
            refine R.fin [2] ?_
            refine AW.ret ?_
            refine K.blR ?_
            refine K.thR ?_
            first | (by_cases e0 : markedM s = ⟨[3, 3], 3⟩; exact K.fin (V.one (V.cellN Tryz.isAgg61 Tryz.sizeOf61)) ⟨by rw [e0]; rfl, rfl⟩; exfalso; apply e0; simp_all [markedM]; done) | (by_cases e0 : markedM s = ⟨[-1, -1], 3⟩; exact K.fin (V.one (V.cellN Tryz.isAgg61 Tryz.sizeOf61)) ⟨by rw [e0]; rfl, rfl⟩; exfalso; apply e0; simp_all [markedM]; done) | (by_cases e0 : markedM s = ⟨[2, 2], 2⟩; exact K.fin (V.one (V.cellN Tryz.isAgg61 Tryz.sizeOf61)) ⟨by rw [e0]; rfl, rfl⟩; exfalso; apply e0; simp_all [markedM]; done) | (by_cases e0 : markedM s = ⟨[1, 1], 1⟩; exact K.fin (V.one (V.cellN Tryz.isAgg61 Tryz.sizeOf61)) ⟨by rw [e0]; rfl, rfl⟩; exfalso; apply e0; simp_all [markedM]; done)
          · skip
            refine AW.skip ?_
            refine K.blN ?_
            refine K.thN ?_
            refine AW.seqR ?_
            refine R.buildSlice Tryz.underlying59 Tryz.sizeOf3 Tryz.zeroValue3 ?_
            refine R.build (places := #[(0, 1), (1, 1)]) Tryz.underlying61 (fun w => by simp) Tryz.zeroValue61 ?_
            refine R.storeOwn Tryz.sizeOf61 ?_
            refine R.fin [2] ?_
            refine AW.ret ?_
            first | (by_cases e0 : markedM s = ⟨[3, 3], 3⟩; exact K.fin (V.one (V.cellN Tryz.isAgg61 Tryz.sizeOf61)) ⟨by rw [e0]; rfl, rfl⟩; exfalso; apply e0; simp_all [markedM]; done) | (by_cases e0 : markedM s = ⟨[-1, -1], 3⟩; exact K.fin (V.one (V.cellN Tryz.isAgg61 Tryz.sizeOf61)) ⟨by rw [e0]; rfl, rfl⟩; exfalso; apply e0; simp_all [markedM]; done) | (by_cases e0 : markedM s = ⟨[2, 2], 2⟩; exact K.fin (V.one (V.cellN Tryz.isAgg61 Tryz.sizeOf61)) ⟨by rw [e0]; rfl, rfl⟩; exfalso; apply e0; simp_all [markedM]; done) | (by_cases e0 : markedM s = ⟨[1, 1], 1⟩; exact K.fin (V.one (V.cellN Tryz.isAgg61 Tryz.sizeOf61)) ⟨by rw [e0]; rfl, rfl⟩; exfalso; apply e0; simp_all [markedM]; done)
      · skip
        refine AW.seqR ?_
        refine R.seql ?_
        refine R.assign ?_
        refine R.fin [2, 3, 9] ?_
        refine W.cond (fun ht9 => ?_) (fun ht9 => ?_)
        · skip
          refine AW.skip ?_
          refine K.thN ?_
          refine W.cond (fun ht9 => ?_) (fun ht9 => ?_)
          · skip
            refine AW.seqR ?_
            refine R.buildSlice Tryz.underlying59 Tryz.sizeOf3 Tryz.zeroValue3 ?_
            refine R.build (places := #[(0, 1), (1, 1)]) Tryz.underlying61 (fun w => by simp) Tryz.zeroValue61 ?_
            refine R.storeOwn Tryz.sizeOf61 ?_
            refine R.fin [2] ?_
            refine AW.ret ?_
            refine K.blR ?_
            refine K.thR ?_
            first | (by_cases e0 : markedM s = ⟨[3, 3], 3⟩; exact K.fin (V.one (V.cellN Tryz.isAgg61 Tryz.sizeOf61)) ⟨by rw [e0]; rfl, rfl⟩; exfalso; apply e0; simp_all [markedM]; done) | (by_cases e0 : markedM s = ⟨[-1, -1], 3⟩; exact K.fin (V.one (V.cellN Tryz.isAgg61 Tryz.sizeOf61)) ⟨by rw [e0]; rfl, rfl⟩; exfalso; apply e0; simp_all [markedM]; done) | (by_cases e0 : markedM s = ⟨[2, 2], 2⟩; exact K.fin (V.one (V.cellN Tryz.isAgg61 Tryz.sizeOf61)) ⟨by rw [e0]; rfl, rfl⟩; exfalso; apply e0; simp_all [markedM]; done) | (by_cases e0 : markedM s = ⟨[1, 1], 1⟩; exact K.fin (V.one (V.cellN Tryz.isAgg61 Tryz.sizeOf61)) ⟨by rw [e0]; rfl, rfl⟩; exfalso; apply e0; simp_all [markedM]; done)
          · skip
            refine AW.seqR ?_
            refine R.seql ?_
            refine R.assign ?_
            refine R.fin [2, 18] ?_
            refine W.cond (fun ht18 => ?_) (fun ht18 => ?_)
            · skip
              refine AW.seqR ?_
              refine R.buildSlice Tryz.underlying59 Tryz.sizeOf3 Tryz.zeroValue3 ?_
              refine R.build (places := #[(0, 1), (1, 1)]) Tryz.underlying61 (fun w => by simp) Tryz.zeroValue61 ?_
              refine R.storeOwn Tryz.sizeOf61 ?_
              refine R.fin [2] ?_
              refine AW.ret ?_
              refine K.blR ?_
              refine K.thR ?_
              first | (by_cases e0 : markedM s = ⟨[3, 3], 3⟩; exact K.fin (V.one (V.cellN Tryz.isAgg61 Tryz.sizeOf61)) ⟨by rw [e0]; rfl, rfl⟩; exfalso; apply e0; simp_all [markedM]; done) | (by_cases e0 : markedM s = ⟨[-1, -1], 3⟩; exact K.fin (V.one (V.cellN Tryz.isAgg61 Tryz.sizeOf61)) ⟨by rw [e0]; rfl, rfl⟩; exfalso; apply e0; simp_all [markedM]; done) | (by_cases e0 : markedM s = ⟨[2, 2], 2⟩; exact K.fin (V.one (V.cellN Tryz.isAgg61 Tryz.sizeOf61)) ⟨by rw [e0]; rfl, rfl⟩; exfalso; apply e0; simp_all [markedM]; done) | (by_cases e0 : markedM s = ⟨[1, 1], 1⟩; exact K.fin (V.one (V.cellN Tryz.isAgg61 Tryz.sizeOf61)) ⟨by rw [e0]; rfl, rfl⟩; exfalso; apply e0; simp_all [markedM]; done)
            · skip
              refine AW.skip ?_
              refine K.blN ?_
              refine K.thN ?_
              refine AW.seqR ?_
              refine R.buildSlice Tryz.underlying59 Tryz.sizeOf3 Tryz.zeroValue3 ?_
              refine R.build (places := #[(0, 1), (1, 1)]) Tryz.underlying61 (fun w => by simp) Tryz.zeroValue61 ?_
              refine R.storeOwn Tryz.sizeOf61 ?_
              refine R.fin [2] ?_
              refine AW.ret ?_
              first | (by_cases e0 : markedM s = ⟨[3, 3], 3⟩; exact K.fin (V.one (V.cellN Tryz.isAgg61 Tryz.sizeOf61)) ⟨by rw [e0]; rfl, rfl⟩; exfalso; apply e0; simp_all [markedM]; done) | (by_cases e0 : markedM s = ⟨[-1, -1], 3⟩; exact K.fin (V.one (V.cellN Tryz.isAgg61 Tryz.sizeOf61)) ⟨by rw [e0]; rfl, rfl⟩; exfalso; apply e0; simp_all [markedM]; done) | (by_cases e0 : markedM s = ⟨[2, 2], 2⟩; exact K.fin (V.one (V.cellN Tryz.isAgg61 Tryz.sizeOf61)) ⟨by rw [e0]; rfl, rfl⟩; exfalso; apply e0; simp_all [markedM]; done) | (by_cases e0 : markedM s = ⟨[1, 1], 1⟩; exact K.fin (V.one (V.cellN Tryz.isAgg61 Tryz.sizeOf61)) ⟨by rw [e0]; rfl, rfl⟩; exfalso; apply e0; simp_all [markedM]; done)
        · skip
          refine AW.seqR ?_
          refine R.seql ?_
          refine R.assign ?_
          refine R.fin [2, 3, 9] ?_
          refine W.cond (fun ht9 => ?_) (fun ht9 => ?_)
          · skip
            refine AW.skip ?_
            refine K.thN ?_
            refine W.cond (fun ht9 => ?_) (fun ht9 => ?_)
            · skip
              refine AW.seqR ?_
              refine R.buildSlice Tryz.underlying59 Tryz.sizeOf3 Tryz.zeroValue3 ?_
              refine R.build (places := #[(0, 1), (1, 1)]) Tryz.underlying61 (fun w => by simp) Tryz.zeroValue61 ?_
              refine R.storeOwn Tryz.sizeOf61 ?_
              refine R.fin [2] ?_
              refine AW.ret ?_
              refine K.blR ?_
              refine K.thR ?_
              first | (by_cases e0 : markedM s = ⟨[3, 3], 3⟩; exact K.fin (V.one (V.cellN Tryz.isAgg61 Tryz.sizeOf61)) ⟨by rw [e0]; rfl, rfl⟩; exfalso; apply e0; simp_all [markedM]; done) | (by_cases e0 : markedM s = ⟨[-1, -1], 3⟩; exact K.fin (V.one (V.cellN Tryz.isAgg61 Tryz.sizeOf61)) ⟨by rw [e0]; rfl, rfl⟩; exfalso; apply e0; simp_all [markedM]; done) | (by_cases e0 : markedM s = ⟨[2, 2], 2⟩; exact K.fin (V.one (V.cellN Tryz.isAgg61 Tryz.sizeOf61)) ⟨by rw [e0]; rfl, rfl⟩; exfalso; apply e0; simp_all [markedM]; done) | (by_cases e0 : markedM s = ⟨[1, 1], 1⟩; exact K.fin (V.one (V.cellN Tryz.isAgg61 Tryz.sizeOf61)) ⟨by rw [e0]; rfl, rfl⟩; exfalso; apply e0; simp_all [markedM]; done)
            · skip
              refine AW.seqR ?_
              refine R.seql ?_
              refine R.assign ?_
              refine R.fin [2, 18] ?_
              refine W.cond (fun ht18 => ?_) (fun ht18 => ?_)
              · skip
                refine AW.seqR ?_
                refine R.buildSlice Tryz.underlying59 Tryz.sizeOf3 Tryz.zeroValue3 ?_
                refine R.build (places := #[(0, 1), (1, 1)]) Tryz.underlying61 (fun w => by simp) Tryz.zeroValue61 ?_
                refine R.storeOwn Tryz.sizeOf61 ?_
                refine R.fin [2] ?_
                refine AW.ret ?_
                refine K.blR ?_
                refine K.thR ?_
                first | (by_cases e0 : markedM s = ⟨[3, 3], 3⟩; exact K.fin (V.one (V.cellN Tryz.isAgg61 Tryz.sizeOf61)) ⟨by rw [e0]; rfl, rfl⟩; exfalso; apply e0; simp_all [markedM]; done) | (by_cases e0 : markedM s = ⟨[-1, -1], 3⟩; exact K.fin (V.one (V.cellN Tryz.isAgg61 Tryz.sizeOf61)) ⟨by rw [e0]; rfl, rfl⟩; exfalso; apply e0; simp_all [markedM]; done) | (by_cases e0 : markedM s = ⟨[2, 2], 2⟩; exact K.fin (V.one (V.cellN Tryz.isAgg61 Tryz.sizeOf61)) ⟨by rw [e0]; rfl, rfl⟩; exfalso; apply e0; simp_all [markedM]; done) | (by_cases e0 : markedM s = ⟨[1, 1], 1⟩; exact K.fin (V.one (V.cellN Tryz.isAgg61 Tryz.sizeOf61)) ⟨by rw [e0]; rfl, rfl⟩; exfalso; apply e0; simp_all [markedM]; done)
              · skip
                refine AW.skip ?_
                refine K.blN ?_
                refine K.thN ?_
                refine AW.seqR ?_
                refine R.buildSlice Tryz.underlying59 Tryz.sizeOf3 Tryz.zeroValue3 ?_
                refine R.build (places := #[(0, 1), (1, 1)]) Tryz.underlying61 (fun w => by simp) Tryz.zeroValue61 ?_
                refine R.storeOwn Tryz.sizeOf61 ?_
                refine R.fin [2] ?_
                refine AW.ret ?_
                first | (by_cases e0 : markedM s = ⟨[3, 3], 3⟩; exact K.fin (V.one (V.cellN Tryz.isAgg61 Tryz.sizeOf61)) ⟨by rw [e0]; rfl, rfl⟩; exfalso; apply e0; simp_all [markedM]; done) | (by_cases e0 : markedM s = ⟨[-1, -1], 3⟩; exact K.fin (V.one (V.cellN Tryz.isAgg61 Tryz.sizeOf61)) ⟨by rw [e0]; rfl, rfl⟩; exfalso; apply e0; simp_all [markedM]; done) | (by_cases e0 : markedM s = ⟨[2, 2], 2⟩; exact K.fin (V.one (V.cellN Tryz.isAgg61 Tryz.sizeOf61)) ⟨by rw [e0]; rfl, rfl⟩; exfalso; apply e0; simp_all [markedM]; done) | (by_cases e0 : markedM s = ⟨[1, 1], 1⟩; exact K.fin (V.one (V.cellN Tryz.isAgg61 Tryz.sizeOf61)) ⟨by rw [e0]; rfl, rfl⟩; exfalso; apply e0; simp_all [markedM]; done)
          · skip
            refine AW.seqR ?_
            refine R.seql ?_
            refine R.assign ?_
            refine R.fin [2, 3, 9] ?_
            refine W.cond (fun ht9 => ?_) (fun ht9 => ?_)
            · skip
              refine AW.skip ?_
              refine K.thN ?_
              refine W.cond (fun ht9 => ?_) (fun ht9 => ?_)
              · skip
                refine AW.seqR ?_
                refine R.buildSlice Tryz.underlying59 Tryz.sizeOf3 Tryz.zeroValue3 ?_
                refine R.build (places := #[(0, 1), (1, 1)]) Tryz.underlying61 (fun w => by simp) Tryz.zeroValue61 ?_
                refine R.storeOwn Tryz.sizeOf61 ?_
                refine R.fin [2] ?_
                refine AW.ret ?_
                refine K.blR ?_
                refine K.thR ?_
                first | (by_cases e0 : markedM s = ⟨[3, 3], 3⟩; exact K.fin (V.one (V.cellN Tryz.isAgg61 Tryz.sizeOf61)) ⟨by rw [e0]; rfl, rfl⟩; exfalso; apply e0; simp_all [markedM]; done) | (by_cases e0 : markedM s = ⟨[-1, -1], 3⟩; exact K.fin (V.one (V.cellN Tryz.isAgg61 Tryz.sizeOf61)) ⟨by rw [e0]; rfl, rfl⟩; exfalso; apply e0; simp_all [markedM]; done) | (by_cases e0 : markedM s = ⟨[2, 2], 2⟩; exact K.fin (V.one (V.cellN Tryz.isAgg61 Tryz.sizeOf61)) ⟨by rw [e0]; rfl, rfl⟩; exfalso; apply e0; simp_all [markedM]; done) | (by_cases e0 : markedM s = ⟨[1, 1], 1⟩; exact K.fin (V.one (V.cellN Tryz.isAgg61 Tryz.sizeOf61)) ⟨by rw [e0]; rfl, rfl⟩; exfalso; apply e0; simp_all [markedM]; done)
              · skip
                refine AW.seqR ?_
                refine R.seql ?_
                refine R.assign ?_
                refine R.fin [2, 18] ?_
                refine W.cond (fun ht18 => ?_) (fun ht18 => ?_)
                · skip
                  refine AW.seqR ?_
                  refine R.buildSlice Tryz.underlying59 Tryz.sizeOf3 Tryz.zeroValue3 ?_
                  refine R.build (places := #[(0, 1), (1, 1)]) Tryz.underlying61 (fun w => by simp) Tryz.zeroValue61 ?_
                  refine R.storeOwn Tryz.sizeOf61 ?_
                  refine R.fin [2] ?_
                  refine AW.ret ?_
                  refine K.blR ?_
                  refine K.thR ?_
                  first | (by_cases e0 : markedM s = ⟨[3, 3], 3⟩; exact K.fin (V.one (V.cellN Tryz.isAgg61 Tryz.sizeOf61)) ⟨by rw [e0]; rfl, rfl⟩; exfalso; apply e0; simp_all [markedM]; done) | (by_cases e0 : markedM s = ⟨[-1, -1], 3⟩; exact K.fin (V.one (V.cellN Tryz.isAgg61 Tryz.sizeOf61)) ⟨by rw [e0]; rfl, rfl⟩; exfalso; apply e0; simp_all [markedM]; done) | (by_cases e0 : markedM s = ⟨[2, 2], 2⟩; exact K.fin (V.one (V.cellN Tryz.isAgg61 Tryz.sizeOf61)) ⟨by rw [e0]; rfl, rfl⟩; exfalso; apply e0; simp_all [markedM]; done) | (by_cases e0 : markedM s = ⟨[1, 1], 1⟩; exact K.fin (V.one (V.cellN Tryz.isAgg61 Tryz.sizeOf61)) ⟨by rw [e0]; rfl, rfl⟩; exfalso; apply e0; simp_all [markedM]; done)
                · skip
                  refine AW.skip ?_
                  refine K.blN ?_
                  refine K.thN ?_
                  refine AW.seqR ?_
                  refine R.buildSlice Tryz.underlying59 Tryz.sizeOf3 Tryz.zeroValue3 ?_
                  refine R.build (places := #[(0, 1), (1, 1)]) Tryz.underlying61 (fun w => by simp) Tryz.zeroValue61 ?_
                  refine R.storeOwn Tryz.sizeOf61 ?_
                  refine R.fin [2] ?_
                  refine AW.ret ?_
                  first | (by_cases e0 : markedM s = ⟨[3, 3], 3⟩; exact K.fin (V.one (V.cellN Tryz.isAgg61 Tryz.sizeOf61)) ⟨by rw [e0]; rfl, rfl⟩; exfalso; apply e0; simp_all [markedM]; done) | (by_cases e0 : markedM s = ⟨[-1, -1], 3⟩; exact K.fin (V.one (V.cellN Tryz.isAgg61 Tryz.sizeOf61)) ⟨by rw [e0]; rfl, rfl⟩; exfalso; apply e0; simp_all [markedM]; done) | (by_cases e0 : markedM s = ⟨[2, 2], 2⟩; exact K.fin (V.one (V.cellN Tryz.isAgg61 Tryz.sizeOf61)) ⟨by rw [e0]; rfl, rfl⟩; exfalso; apply e0; simp_all [markedM]; done) | (by_cases e0 : markedM s = ⟨[1, 1], 1⟩; exact K.fin (V.one (V.cellN Tryz.isAgg61 Tryz.sizeOf61)) ⟨by rw [e0]; rfl, rfl⟩; exfalso; apply e0; simp_all [markedM]; done)
            · skip
              refine AW.seqR ?_
              refine R.seql ?_
              refine R.assign ?_
              refine R.fin [2, 3, 9] ?_
              refine W.cond (fun ht9 => ?_) (fun ht9 => ?_)
              · skip
                refine AW.skip ?_
                refine K.thN ?_
                refine W.cond (fun ht9 => ?_) (fun ht9 => ?_)
                · skip
                  refine AW.seqR ?_
                  refine R.buildSlice Tryz.underlying59 Tryz.sizeOf3 Tryz.zeroValue3 ?_
                  refine R.build (places := #[(0, 1), (1, 1)]) Tryz.underlying61 (fun w => by simp) Tryz.zeroValue61 ?_
                  refine R.storeOwn Tryz.sizeOf61 ?_
                  refine R.fin [2] ?_
                  refine AW.ret ?_
                  refine K.blR ?_
                  refine K.thR ?_
                  first | (by_cases e0 : markedM s = ⟨[3, 3], 3⟩; exact K.fin (V.one (V.cellN Tryz.isAgg61 Tryz.sizeOf61)) ⟨by rw [e0]; rfl, rfl⟩; exfalso; apply e0; simp_all [markedM]; done) | (by_cases e0 : markedM s = ⟨[-1, -1], 3⟩; exact K.fin (V.one (V.cellN Tryz.isAgg61 Tryz.sizeOf61)) ⟨by rw [e0]; rfl, rfl⟩; exfalso; apply e0; simp_all [markedM]; done) | (by_cases e0 : markedM s = ⟨[2, 2], 2⟩; exact K.fin (V.one (V.cellN Tryz.isAgg61 Tryz.sizeOf61)) ⟨by rw [e0]; rfl, rfl⟩; exfalso; apply e0; simp_all [markedM]; done) | (by_cases e0 : markedM s = ⟨[1, 1], 1⟩; exact K.fin (V.one (V.cellN Tryz.isAgg61 Tryz.sizeOf61)) ⟨by rw [e0]; rfl, rfl⟩; exfalso; apply e0; simp_all [markedM]; done)
                · skip
                  refine AW.seqR ?_
                  refine R.seql ?_
                  refine R.assign ?_
                  refine R.fin [2, 18] ?_
                  refine W.cond (fun ht18 => ?_) (fun ht18 => ?_)
                  · skip
                    refine AW.seqR ?_
                    refine R.buildSlice Tryz.underlying59 Tryz.sizeOf3 Tryz.zeroValue3 ?_
                    refine R.build (places := #[(0, 1), (1, 1)]) Tryz.underlying61 (fun w => by simp) Tryz.zeroValue61 ?_
                    refine R.storeOwn Tryz.sizeOf61 ?_
                    refine R.fin [2] ?_
                    refine AW.ret ?_
                    refine K.blR ?_
                    refine K.thR ?_
                    first | (by_cases e0 : markedM s = ⟨[3, 3], 3⟩; exact K.fin (V.one (V.cellN Tryz.isAgg61 Tryz.sizeOf61)) ⟨by rw [e0]; rfl, rfl⟩; exfalso; apply e0; simp_all [markedM]; done) | (by_cases e0 : markedM s = ⟨[-1, -1], 3⟩; exact K.fin (V.one (V.cellN Tryz.isAgg61 Tryz.sizeOf61)) ⟨by rw [e0]; rfl, rfl⟩; exfalso; apply e0; simp_all [markedM]; done) | (by_cases e0 : markedM s = ⟨[2, 2], 2⟩; exact K.fin (V.one (V.cellN Tryz.isAgg61 Tryz.sizeOf61)) ⟨by rw [e0]; rfl, rfl⟩; exfalso; apply e0; simp_all [markedM]; done) | (by_cases e0 : markedM s = ⟨[1, 1], 1⟩; exact K.fin (V.one (V.cellN Tryz.isAgg61 Tryz.sizeOf61)) ⟨by rw [e0]; rfl, rfl⟩; exfalso; apply e0; simp_all [markedM]; done)
                  · skip
                    refine AW.skip ?_
                    refine K.blN ?_
                    refine K.thN ?_
                    refine AW.seqR ?_
                    refine R.buildSlice Tryz.underlying59 Tryz.sizeOf3 Tryz.zeroValue3 ?_
                    refine R.build (places := #[(0, 1), (1, 1)]) Tryz.underlying61 (fun w => by simp) Tryz.zeroValue61 ?_
                    refine R.storeOwn Tryz.sizeOf61 ?_
                    refine R.fin [2] ?_
                    refine AW.ret ?_
                    first | (by_cases e0 : markedM s = ⟨[3, 3], 3⟩; exact K.fin (V.one (V.cellN Tryz.isAgg61 Tryz.sizeOf61)) ⟨by rw [e0]; rfl, rfl⟩; exfalso; apply e0; simp_all [markedM]; done) | (by_cases e0 : markedM s = ⟨[-1, -1], 3⟩; exact K.fin (V.one (V.cellN Tryz.isAgg61 Tryz.sizeOf61)) ⟨by rw [e0]; rfl, rfl⟩; exfalso; apply e0; simp_all [markedM]; done) | (by_cases e0 : markedM s = ⟨[2, 2], 2⟩; exact K.fin (V.one (V.cellN Tryz.isAgg61 Tryz.sizeOf61)) ⟨by rw [e0]; rfl, rfl⟩; exfalso; apply e0; simp_all [markedM]; done) | (by_cases e0 : markedM s = ⟨[1, 1], 1⟩; exact K.fin (V.one (V.cellN Tryz.isAgg61 Tryz.sizeOf61)) ⟨by rw [e0]; rfl, rfl⟩; exfalso; apply e0; simp_all [markedM]; done)
              · skip
                refine AW.region ?_
                refine R.seql ?_
                refine R.assign ?_
                refine R.fin [2, 3, 9] ?_
                refine K.thN ?_
                refine W.cond (fun ht9 => ?_) (fun ht9 => ?_)
                · skip
                  refine AW.seqR ?_
                  refine R.buildSlice Tryz.underlying59 Tryz.sizeOf3 Tryz.zeroValue3 ?_
                  refine R.build (places := #[(0, 1), (1, 1)]) Tryz.underlying61 (fun w => by simp) Tryz.zeroValue61 ?_
                  refine R.storeOwn Tryz.sizeOf61 ?_
                  refine R.fin [2] ?_
                  refine AW.ret ?_
                  refine K.blR ?_
                  refine K.thR ?_
                  first | (by_cases e0 : markedM s = ⟨[3, 3], 3⟩; exact K.fin (V.one (V.cellN Tryz.isAgg61 Tryz.sizeOf61)) ⟨by rw [e0]; rfl, rfl⟩; exfalso; apply e0; simp_all [markedM]; done) | (by_cases e0 : markedM s = ⟨[-1, -1], 3⟩; exact K.fin (V.one (V.cellN Tryz.isAgg61 Tryz.sizeOf61)) ⟨by rw [e0]; rfl, rfl⟩; exfalso; apply e0; simp_all [markedM]; done) | (by_cases e0 : markedM s = ⟨[2, 2], 2⟩; exact K.fin (V.one (V.cellN Tryz.isAgg61 Tryz.sizeOf61)) ⟨by rw [e0]; rfl, rfl⟩; exfalso; apply e0; simp_all [markedM]; done) | (by_cases e0 : markedM s = ⟨[1, 1], 1⟩; exact K.fin (V.one (V.cellN Tryz.isAgg61 Tryz.sizeOf61)) ⟨by rw [e0]; rfl, rfl⟩; exfalso; apply e0; simp_all [markedM]; done)
                · skip
                  refine AW.seqR ?_
                  refine R.seql ?_
                  refine R.assign ?_
                  refine R.fin [2, 18] ?_
                  refine W.cond (fun ht18 => ?_) (fun ht18 => ?_)
                  · skip
                    refine AW.seqR ?_
                    refine R.buildSlice Tryz.underlying59 Tryz.sizeOf3 Tryz.zeroValue3 ?_
                    refine R.build (places := #[(0, 1), (1, 1)]) Tryz.underlying61 (fun w => by simp) Tryz.zeroValue61 ?_
                    refine R.storeOwn Tryz.sizeOf61 ?_
                    refine R.fin [2] ?_
                    refine AW.ret ?_
                    refine K.blR ?_
                    refine K.thR ?_
                    first | (by_cases e0 : markedM s = ⟨[3, 3], 3⟩; exact K.fin (V.one (V.cellN Tryz.isAgg61 Tryz.sizeOf61)) ⟨by rw [e0]; rfl, rfl⟩; exfalso; apply e0; simp_all [markedM]; done) | (by_cases e0 : markedM s = ⟨[-1, -1], 3⟩; exact K.fin (V.one (V.cellN Tryz.isAgg61 Tryz.sizeOf61)) ⟨by rw [e0]; rfl, rfl⟩; exfalso; apply e0; simp_all [markedM]; done) | (by_cases e0 : markedM s = ⟨[2, 2], 2⟩; exact K.fin (V.one (V.cellN Tryz.isAgg61 Tryz.sizeOf61)) ⟨by rw [e0]; rfl, rfl⟩; exfalso; apply e0; simp_all [markedM]; done) | (by_cases e0 : markedM s = ⟨[1, 1], 1⟩; exact K.fin (V.one (V.cellN Tryz.isAgg61 Tryz.sizeOf61)) ⟨by rw [e0]; rfl, rfl⟩; exfalso; apply e0; simp_all [markedM]; done)
                  · skip
                    refine AW.skip ?_
                    refine K.blN ?_
                    refine K.thN ?_
                    refine AW.seqR ?_
                    refine R.buildSlice Tryz.underlying59 Tryz.sizeOf3 Tryz.zeroValue3 ?_
                    refine R.build (places := #[(0, 1), (1, 1)]) Tryz.underlying61 (fun w => by simp) Tryz.zeroValue61 ?_
                    refine R.storeOwn Tryz.sizeOf61 ?_
                    refine R.fin [2] ?_
                    refine AW.ret ?_
                    first | (by_cases e0 : markedM s = ⟨[3, 3], 3⟩; exact K.fin (V.one (V.cellN Tryz.isAgg61 Tryz.sizeOf61)) ⟨by rw [e0]; rfl, rfl⟩; exfalso; apply e0; simp_all [markedM]; done) | (by_cases e0 : markedM s = ⟨[-1, -1], 3⟩; exact K.fin (V.one (V.cellN Tryz.isAgg61 Tryz.sizeOf61)) ⟨by rw [e0]; rfl, rfl⟩; exfalso; apply e0; simp_all [markedM]; done) | (by_cases e0 : markedM s = ⟨[2, 2], 2⟩; exact K.fin (V.one (V.cellN Tryz.isAgg61 Tryz.sizeOf61)) ⟨by rw [e0]; rfl, rfl⟩; exfalso; apply e0; simp_all [markedM]; done) | (by_cases e0 : markedM s = ⟨[1, 1], 1⟩; exact K.fin (V.one (V.cellN Tryz.isAgg61 Tryz.sizeOf61)) ⟨by rw [e0]; rfl, rfl⟩; exfalso; apply e0; simp_all [markedM]; done)
  · skip
    refine AW.region ?_
    refine R.seql ?_
    refine R.assign ?_
    refine R.fin [2, 3, 4] ?_
    refine K.thN ?_
    refine W.cond (fun ht4 => ?_) (fun ht4 => ?_)
    · skip
      refine AW.seqR ?_
      refine R.buildSlice Tryz.underlying59 Tryz.sizeOf3 Tryz.zeroValue3 ?_
      refine R.build (places := #[(0, 1), (1, 1)]) Tryz.underlying61 (fun w => by simp) Tryz.zeroValue61 ?_
      refine R.storeOwn Tryz.sizeOf61 ?_
      refine R.fin [2] ?_
      refine AW.ret ?_
      refine K.blR ?_
      refine K.thR ?_
      first | (by_cases e0 : markedM s = ⟨[3, 3], 3⟩; exact K.fin (V.one (V.cellN Tryz.isAgg61 Tryz.sizeOf61)) ⟨by rw [e0]; rfl, rfl⟩; exfalso; apply e0; simp_all [markedM]; done) | (by_cases e0 : markedM s = ⟨[-1, -1], 3⟩; exact K.fin (V.one (V.cellN Tryz.isAgg61 Tryz.sizeOf61)) ⟨by rw [e0]; rfl, rfl⟩; exfalso; apply e0; simp_all [markedM]; done) | (by_cases e0 : markedM s = ⟨[2, 2], 2⟩; exact K.fin (V.one (V.cellN Tryz.isAgg61 Tryz.sizeOf61)) ⟨by rw [e0]; rfl, rfl⟩; exfalso; apply e0; simp_all [markedM]; done) | (by_cases e0 : markedM s = ⟨[1, 1], 1⟩; exact K.fin (V.one (V.cellN Tryz.isAgg61 Tryz.sizeOf61)) ⟨by rw [e0]; rfl, rfl⟩; exfalso; apply e0; simp_all [markedM]; done)
    · skip
      refine W.seq ?_
      refine AW.seqR ?_
      refine R.seql ?_
      refine R.assign ?_
      refine R.fin [2, 3, 9] ?_
      refine W.cond (fun ht9 => ?_) (fun ht9 => ?_)
      · skip
        refine AW.skip ?_
        refine K.thN ?_
        refine W.cond (fun ht9 => ?_) (fun ht9 => ?_)
        · skip
          refine AW.seqR ?_
          refine R.buildSlice Tryz.underlying59 Tryz.sizeOf3 Tryz.zeroValue3 ?_
          refine R.build (places := #[(0, 1), (1, 1)]) Tryz.underlying61 (fun w => by simp) Tryz.zeroValue61 ?_
          refine R.storeOwn Tryz.sizeOf61 ?_
          refine R.fin [2] ?_
          refine AW.ret ?_
          refine K.blR ?_
          refine K.thR ?_
          first | (by_cases e0 : markedM s = ⟨[3, 3], 3⟩; exact K.fin (V.one (V.cellN Tryz.isAgg61 Tryz.sizeOf61)) ⟨by rw [e0]; rfl, rfl⟩; exfalso; apply e0; simp_all [markedM]; done) | (by_cases e0 : markedM s = ⟨[-1, -1], 3⟩; exact K.fin (V.one (V.cellN Tryz.isAgg61 Tryz.sizeOf61)) ⟨by rw [e0]; rfl, rfl⟩; exfalso; apply e0; simp_all [markedM]; done) | (by_cases e0 : markedM s = ⟨[2, 2], 2⟩; exact K.fin (V.one (V.cellN Tryz.isAgg61 Tryz.sizeOf61)) ⟨by rw [e0]; rfl, rfl⟩; exfalso; apply e0; simp_all [markedM]; done) | (by_cases e0 : markedM s = ⟨[1, 1], 1⟩; exact K.fin (V.one (V.cellN Tryz.isAgg61 Tryz.sizeOf61)) ⟨by rw [e0]; rfl, rfl⟩; exfalso; apply e0; simp_all [markedM]; done)
        · skip
          refine AW.seqR ?_
          refine R.seql ?_
          refine R.assign ?_
          refine R.fin [2, 18] ?_
          refine W.cond (fun ht18 => ?_) (fun ht18 => ?_)
          · skip
            refine AW.seqR ?_
            refine R.buildSlice Tryz.underlying59 Tryz.sizeOf3 Tryz.zeroValue3 ?_
            refine R.build (places := #[(0, 1), (1, 1)]) Tryz.underlying61 (fun w => by simp) Tryz.zeroValue61 ?_
            refine R.storeOwn Tryz.sizeOf61 ?_
            refine R.fin [2] ?_
            refine AW.ret ?_
            refine K.blR ?_
            refine K.thR ?_
            first | (by_cases e0 : markedM s = ⟨[3, 3], 3⟩; exact K.fin (V.one (V.cellN Tryz.isAgg61 Tryz.sizeOf61)) ⟨by rw [e0]; rfl, rfl⟩; exfalso; apply e0; simp_all [markedM]; done) | (by_cases e0 : markedM s = ⟨[-1, -1], 3⟩; exact K.fin (V.one (V.cellN Tryz.isAgg61 Tryz.sizeOf61)) ⟨by rw [e0]; rfl, rfl⟩; exfalso; apply e0; simp_all [markedM]; done) | (by_cases e0 : markedM s = ⟨[2, 2], 2⟩; exact K.fin (V.one (V.cellN Tryz.isAgg61 Tryz.sizeOf61)) ⟨by rw [e0]; rfl, rfl⟩; exfalso; apply e0; simp_all [markedM]; done) | (by_cases e0 : markedM s = ⟨[1, 1], 1⟩; exact K.fin (V.one (V.cellN Tryz.isAgg61 Tryz.sizeOf61)) ⟨by rw [e0]; rfl, rfl⟩; exfalso; apply e0; simp_all [markedM]; done)
          · skip
            refine AW.skip ?_
            refine K.blN ?_
            refine K.thN ?_
            refine AW.seqR ?_
            refine R.buildSlice Tryz.underlying59 Tryz.sizeOf3 Tryz.zeroValue3 ?_
            refine R.build (places := #[(0, 1), (1, 1)]) Tryz.underlying61 (fun w => by simp) Tryz.zeroValue61 ?_
            refine R.storeOwn Tryz.sizeOf61 ?_
            refine R.fin [2] ?_
            refine AW.ret ?_
            first | (by_cases e0 : markedM s = ⟨[3, 3], 3⟩; exact K.fin (V.one (V.cellN Tryz.isAgg61 Tryz.sizeOf61)) ⟨by rw [e0]; rfl, rfl⟩; exfalso; apply e0; simp_all [markedM]; done) | (by_cases e0 : markedM s = ⟨[-1, -1], 3⟩; exact K.fin (V.one (V.cellN Tryz.isAgg61 Tryz.sizeOf61)) ⟨by rw [e0]; rfl, rfl⟩; exfalso; apply e0; simp_all [markedM]; done) | (by_cases e0 : markedM s = ⟨[2, 2], 2⟩; exact K.fin (V.one (V.cellN Tryz.isAgg61 Tryz.sizeOf61)) ⟨by rw [e0]; rfl, rfl⟩; exfalso; apply e0; simp_all [markedM]; done) | (by_cases e0 : markedM s = ⟨[1, 1], 1⟩; exact K.fin (V.one (V.cellN Tryz.isAgg61 Tryz.sizeOf61)) ⟨by rw [e0]; rfl, rfl⟩; exfalso; apply e0; simp_all [markedM]; done)
      · skip
        refine AW.seqR ?_
        refine R.seql ?_
        refine R.assign ?_
        refine R.fin [2, 3, 9] ?_
        refine W.cond (fun ht9 => ?_) (fun ht9 => ?_)
        · skip
          refine AW.skip ?_
          refine K.thN ?_
          refine W.cond (fun ht9 => ?_) (fun ht9 => ?_)
          · skip
            refine AW.seqR ?_
            refine R.buildSlice Tryz.underlying59 Tryz.sizeOf3 Tryz.zeroValue3 ?_
            refine R.build (places := #[(0, 1), (1, 1)]) Tryz.underlying61 (fun w => by simp) Tryz.zeroValue61 ?_
            refine R.storeOwn Tryz.sizeOf61 ?_
            refine R.fin [2] ?_
            refine AW.ret ?_
            refine K.blR ?_
            refine K.thR ?_
            first | (by_cases e0 : markedM s = ⟨[3, 3], 3⟩; exact K.fin (V.one (V.cellN Tryz.isAgg61 Tryz.sizeOf61)) ⟨by rw [e0]; rfl, rfl⟩; exfalso; apply e0; simp_all [markedM]; done) | (by_cases e0 : markedM s = ⟨[-1, -1], 3⟩; exact K.fin (V.one (V.cellN Tryz.isAgg61 Tryz.sizeOf61)) ⟨by rw [e0]; rfl, rfl⟩; exfalso; apply e0; simp_all [markedM]; done) | (by_cases e0 : markedM s = ⟨[2, 2], 2⟩; exact K.fin (V.one (V.cellN Tryz.isAgg61 Tryz.sizeOf61)) ⟨by rw [e0]; rfl, rfl⟩; exfalso; apply e0; simp_all [markedM]; done) | (by_cases e0 : markedM s = ⟨[1, 1], 1⟩; exact K.fin (V.one (V.cellN Tryz.isAgg61 Tryz.sizeOf61)) ⟨by rw [e0]; rfl, rfl⟩; exfalso; apply e0; simp_all [markedM]; done)
          · skip
            refine AW.seqR ?_
            refine R.seql ?_
            refine R.assign ?_
            refine R.fin [2, 18] ?_
            refine W.cond (fun ht18 => ?_) (fun ht18 => ?_)
            · skip
              refine AW.seqR ?_
              refine R.buildSlice Tryz.underlying59 Tryz.sizeOf3 Tryz.zeroValue3 ?_
              refine R.build (places := #[(0, 1), (1, 1)]) Tryz.underlying61 (fun w => by simp) Tryz.zeroValue61 ?_
              refine R.storeOwn Tryz.sizeOf61 ?_
              refine R.fin [2] ?_
              refine AW.ret ?_
              refine K.blR ?_
              refine K.thR ?_
              first | (by_cases e0 : markedM s = ⟨[3, 3], 3⟩; exact K.fin (V.one (V.cellN Tryz.isAgg61 Tryz.sizeOf61)) ⟨by rw [e0]; rfl, rfl⟩; exfalso; apply e0; simp_all [markedM]; done) | (by_cases e0 : markedM s = ⟨[-1, -1], 3⟩; exact K.fin (V.one (V.cellN Tryz.isAgg61 Tryz.sizeOf61)) ⟨by rw [e0]; rfl, rfl⟩; exfalso; apply e0; simp_all [markedM]; done) | (by_cases e0 : markedM s = ⟨[2, 2], 2⟩; exact K.fin (V.one (V.cellN Tryz.isAgg61 Tryz.sizeOf61)) ⟨by rw [e0]; rfl, rfl⟩; exfalso; apply e0; simp_all [markedM]; done) | (by_cases e0 : markedM s = ⟨[1, 1], 1⟩; exact K.fin (V.one (V.cellN Tryz.isAgg61 Tryz.sizeOf61)) ⟨by rw [e0]; rfl, rfl⟩; exfalso; apply e0; simp_all [markedM]; done)
            · skip
              refine AW.skip ?_
              refine K.blN ?_
              refine K.thN ?_
              refine AW.seqR ?_
              refine R.buildSlice Tryz.underlying59 Tryz.sizeOf3 Tryz.zeroValue3 ?_
              refine R.build (places := #[(0, 1), (1, 1)]) Tryz.underlying61 (fun w => by simp) Tryz.zeroValue61 ?_
              refine R.storeOwn Tryz.sizeOf61 ?_
              refine R.fin [2] ?_
              refine AW.ret ?_
              first | (by_cases e0 : markedM s = ⟨[3, 3], 3⟩; exact K.fin (V.one (V.cellN Tryz.isAgg61 Tryz.sizeOf61)) ⟨by rw [e0]; rfl, rfl⟩; exfalso; apply e0; simp_all [markedM]; done) | (by_cases e0 : markedM s = ⟨[-1, -1], 3⟩; exact K.fin (V.one (V.cellN Tryz.isAgg61 Tryz.sizeOf61)) ⟨by rw [e0]; rfl, rfl⟩; exfalso; apply e0; simp_all [markedM]; done) | (by_cases e0 : markedM s = ⟨[2, 2], 2⟩; exact K.fin (V.one (V.cellN Tryz.isAgg61 Tryz.sizeOf61)) ⟨by rw [e0]; rfl, rfl⟩; exfalso; apply e0; simp_all [markedM]; done) | (by_cases e0 : markedM s = ⟨[1, 1], 1⟩; exact K.fin (V.one (V.cellN Tryz.isAgg61 Tryz.sizeOf61)) ⟨by rw [e0]; rfl, rfl⟩; exfalso; apply e0; simp_all [markedM]; done)
        · skip
          refine AW.seqR ?_
          refine R.seql ?_
          refine R.assign ?_
          refine R.fin [2, 3, 9] ?_
          refine W.cond (fun ht9 => ?_) (fun ht9 => ?_)
          · skip
            refine AW.skip ?_
            refine K.thN ?_
            refine W.cond (fun ht9 => ?_) (fun ht9 => ?_)
            · skip
              refine AW.seqR ?_
              refine R.buildSlice Tryz.underlying59 Tryz.sizeOf3 Tryz.zeroValue3 ?_
              refine R.build (places := #[(0, 1), (1, 1)]) Tryz.underlying61 (fun w => by simp) Tryz.zeroValue61 ?_
              refine R.storeOwn Tryz.sizeOf61 ?_
              refine R.fin [2] ?_
              refine AW.ret ?_
              refine K.blR ?_
              refine K.thR ?_
              first | (by_cases e0 : markedM s = ⟨[3, 3], 3⟩; exact K.fin (V.one (V.cellN Tryz.isAgg61 Tryz.sizeOf61)) ⟨by rw [e0]; rfl, rfl⟩; exfalso; apply e0; simp_all [markedM]; done) | (by_cases e0 : markedM s = ⟨[-1, -1], 3⟩; exact K.fin (V.one (V.cellN Tryz.isAgg61 Tryz.sizeOf61)) ⟨by rw [e0]; rfl, rfl⟩; exfalso; apply e0; simp_all [markedM]; done) | (by_cases e0 : markedM s = ⟨[2, 2], 2⟩; exact K.fin (V.one (V.cellN Tryz.isAgg61 Tryz.sizeOf61)) ⟨by rw [e0]; rfl, rfl⟩; exfalso; apply e0; simp_all [markedM]; done) | (by_cases e0 : markedM s = ⟨[1, 1], 1⟩; exact K.fin (V.one (V.cellN Tryz.isAgg61 Tryz.sizeOf61)) ⟨by rw [e0]; rfl, rfl⟩; exfalso; apply e0; simp_all [markedM]; done)
            · skip
              refine AW.seqR ?_
              refine R.seql ?_
              refine R.assign ?_
              refine R.fin [2, 18] ?_
              refine W.cond (fun ht18 => ?_) (fun ht18 => ?_)
              · skip
                refine AW.seqR ?_
                refine R.buildSlice Tryz.underlying59 Tryz.sizeOf3 Tryz.zeroValue3 ?_
                refine R.build (places := #[(0, 1), (1, 1)]) Tryz.underlying61 (fun w => by simp) Tryz.zeroValue61 ?_
                refine R.storeOwn Tryz.sizeOf61 ?_
                refine R.fin [2] ?_
                refine AW.ret ?_
                refine K.blR ?_
                refine K.thR ?_
                first | (by_cases e0 : markedM s = ⟨[3, 3], 3⟩; exact K.fin (V.one (V.cellN Tryz.isAgg61 Tryz.sizeOf61)) ⟨by rw [e0]; rfl, rfl⟩; exfalso; apply e0; simp_all [markedM]; done) | (by_cases e0 : markedM s = ⟨[-1, -1], 3⟩; exact K.fin (V.one (V.cellN Tryz.isAgg61 Tryz.sizeOf61)) ⟨by rw [e0]; rfl, rfl⟩; exfalso; apply e0; simp_all [markedM]; done) | (by_cases e0 : markedM s = ⟨[2, 2], 2⟩; exact K.fin (V.one (V.cellN Tryz.isAgg61 Tryz.sizeOf61)) ⟨by rw [e0]; rfl, rfl⟩; exfalso; apply e0; simp_all [markedM]; done) | (by_cases e0 : markedM s = ⟨[1, 1], 1⟩; exact K.fin (V.one (V.cellN Tryz.isAgg61 Tryz.sizeOf61)) ⟨by rw [e0]; rfl, rfl⟩; exfalso; apply e0; simp_all [markedM]; done)
              · skip
                refine AW.skip ?_
                refine K.blN ?_
                refine K.thN ?_
                refine AW.seqR ?_
                refine R.buildSlice Tryz.underlying59 Tryz.sizeOf3 Tryz.zeroValue3 ?_
                refine R.build (places := #[(0, 1), (1, 1)]) Tryz.underlying61 (fun w => by simp) Tryz.zeroValue61 ?_
                refine R.storeOwn Tryz.sizeOf61 ?_
                refine R.fin [2] ?_
                refine AW.ret ?_
                first | (by_cases e0 : markedM s = ⟨[3, 3], 3⟩; exact K.fin (V.one (V.cellN Tryz.isAgg61 Tryz.sizeOf61)) ⟨by rw [e0]; rfl, rfl⟩; exfalso; apply e0; simp_all [markedM]; done) | (by_cases e0 : markedM s = ⟨[-1, -1], 3⟩; exact K.fin (V.one (V.cellN Tryz.isAgg61 Tryz.sizeOf61)) ⟨by rw [e0]; rfl, rfl⟩; exfalso; apply e0; simp_all [markedM]; done) | (by_cases e0 : markedM s = ⟨[2, 2], 2⟩; exact K.fin (V.one (V.cellN Tryz.isAgg61 Tryz.sizeOf61)) ⟨by rw [e0]; rfl, rfl⟩; exfalso; apply e0; simp_all [markedM]; done) | (by_cases e0 : markedM s = ⟨[1, 1], 1⟩; exact K.fin (V.one (V.cellN Tryz.isAgg61 Tryz.sizeOf61)) ⟨by rw [e0]; rfl, rfl⟩; exfalso; apply e0; simp_all [markedM]; done)
          · skip
            refine AW.seqR ?_
            refine R.seql ?_
            refine R.assign ?_
            refine R.fin [2, 3, 9] ?_
            refine W.cond (fun ht9 => ?_) (fun ht9 => ?_)
            · skip
              refine AW.skip ?_
              refine K.thN ?_
              refine W.cond (fun ht9 => ?_) (fun ht9 => ?_)
              · skip
                refine AW.seqR ?_
                refine R.buildSlice Tryz.underlying59 Tryz.sizeOf3 Tryz.zeroValue3 ?_
                refine R.build (places := #[(0, 1), (1, 1)]) Tryz.underlying61 (fun w => by simp) Tryz.zeroValue61 ?_
                refine R.storeOwn Tryz.sizeOf61 ?_
                refine R.fin [2] ?_
                refine AW.ret ?_
                refine K.blR ?_
                refine K.thR ?_
                first | (by_cases e0 : markedM s = ⟨[3, 3], 3⟩; exact K.fin (V.one (V.cellN Tryz.isAgg61 Tryz.sizeOf61)) ⟨by rw [e0]; rfl, rfl⟩; exfalso; apply e0; simp_all [markedM]; done) | (by_cases e0 : markedM s = ⟨[-1, -1], 3⟩; exact K.fin (V.one (V.cellN Tryz.isAgg61 Tryz.sizeOf61)) ⟨by rw [e0]; rfl, rfl⟩; exfalso; apply e0; simp_all [markedM]; done) | (by_cases e0 : markedM s = ⟨[2, 2], 2⟩; exact K.fin (V.one (V.cellN Tryz.isAgg61 Tryz.sizeOf61)) ⟨by rw [e0]; rfl, rfl⟩; exfalso; apply e0; simp_all [markedM]; done) | (by_cases e0 : markedM s = ⟨[1, 1], 1⟩; exact K.fin (V.one (V.cellN Tryz.isAgg61 Tryz.sizeOf61)) ⟨by rw [e0]; rfl, rfl⟩; exfalso; apply e0; simp_all [markedM]; done)
              · skip
                refine AW.seqR ?_
                refine R.seql ?_
                refine R.assign ?_
                refine R.fin [2, 18] ?_
                refine W.cond (fun ht18 => ?_) (fun ht18 => ?_)
                · skip
                  refine AW.seqR ?_
                  refine R.buildSlice Tryz.underlying59 Tryz.sizeOf3 Tryz.zeroValue3 ?_
                  refine R.build (places := #[(0, 1), (1, 1)]) Tryz.underlying61 (fun w => by simp) Tryz.zeroValue61 ?_
                  refine R.storeOwn Tryz.sizeOf61 ?_
                  refine R.fin [2] ?_
                  refine AW.ret ?_
                  refine K.blR ?_
                  refine K.thR ?_
                  first | (by_cases e0 : markedM s = ⟨[3, 3], 3⟩; exact K.fin (V.one (V.cellN Tryz.isAgg61 Tryz.sizeOf61)) ⟨by rw [e0]; rfl, rfl⟩; exfalso; apply e0; simp_all [markedM]; done) | (by_cases e0 : markedM s = ⟨[-1, -1], 3⟩; exact K.fin (V.one (V.cellN Tryz.isAgg61 Tryz.sizeOf61)) ⟨by rw [e0]; rfl, rfl⟩; exfalso; apply e0; simp_all [markedM]; done) | (by_cases e0 : markedM s = ⟨[2, 2], 2⟩; exact K.fin (V.one (V.cellN Tryz.isAgg61 Tryz.sizeOf61)) ⟨by rw [e0]; rfl, rfl⟩; exfalso; apply e0; simp_all [markedM]; done) | (by_cases e0 : markedM s = ⟨[1, 1], 1⟩; exact K.fin (V.one (V.cellN Tryz.isAgg61 Tryz.sizeOf61)) ⟨by rw [e0]; rfl, rfl⟩; exfalso; apply e0; simp_all [markedM]; done)
                · skip
                  refine AW.skip ?_
                  refine K.blN ?_
                  refine K.thN ?_
                  refine AW.seqR ?_
                  refine R.buildSlice Tryz.underlying59 Tryz.sizeOf3 Tryz.zeroValue3 ?_
                  refine R.build (places := #[(0, 1), (1, 1)]) Tryz.underlying61 (fun w => by simp) Tryz.zeroValue61 ?_
                  refine R.storeOwn Tryz.sizeOf61 ?_
                  refine R.fin [2] ?_
                  refine AW.ret ?_
                  first | (by_cases e0 : markedM s = ⟨[3, 3], 3⟩; exact K.fin (V.one (V.cellN Tryz.isAgg61 Tryz.sizeOf61)) ⟨by rw [e0]; rfl, rfl⟩; exfalso; apply e0; simp_all [markedM]; done) | (by_cases e0 : markedM s = ⟨[-1, -1], 3⟩; exact K.fin (V.one (V.cellN Tryz.isAgg61 Tryz.sizeOf61)) ⟨by rw [e0]; rfl, rfl⟩; exfalso; apply e0; simp_all [markedM]; done) | (by_cases e0 : markedM s = ⟨[2, 2], 2⟩; exact K.fin (V.one (V.cellN Tryz.isAgg61 Tryz.sizeOf61)) ⟨by rw [e0]; rfl, rfl⟩; exfalso; apply e0; simp_all [markedM]; done) | (by_cases e0 : markedM s = ⟨[1, 1], 1⟩; exact K.fin (V.one (V.cellN Tryz.isAgg61 Tryz.sizeOf61)) ⟨by rw [e0]; rfl, rfl⟩; exfalso; apply e0; simp_all [markedM]; done)
            · skip
              refine AW.seqR ?_
              refine R.seql ?_
              refine R.assign ?_
              refine R.fin [2, 3, 9] ?_
              refine W.cond (fun ht9 => ?_) (fun ht9 => ?_)
              · skip
                refine AW.skip ?_
                refine K.thN ?_
                refine W.cond (fun ht9 => ?_) (fun ht9 => ?_)
                · skip
                  refine AW.seqR ?_
                  refine R.buildSlice Tryz.underlying59 Tryz.sizeOf3 Tryz.zeroValue3 ?_
                  refine R.build (places := #[(0, 1), (1, 1)]) Tryz.underlying61 (fun w => by simp) Tryz.zeroValue61 ?_
                  refine R.storeOwn Tryz.sizeOf61 ?_
                  refine R.fin [2] ?_
                  refine AW.ret ?_
                  refine K.blR ?_
                  refine K.thR ?_
                  first | (by_cases e0 : markedM s = ⟨[3, 3], 3⟩; exact K.fin (V.one (V.cellN Tryz.isAgg61 Tryz.sizeOf61)) ⟨by rw [e0]; rfl, rfl⟩; exfalso; apply e0; simp_all [markedM]; done) | (by_cases e0 : markedM s = ⟨[-1, -1], 3⟩; exact K.fin (V.one (V.cellN Tryz.isAgg61 Tryz.sizeOf61)) ⟨by rw [e0]; rfl, rfl⟩; exfalso; apply e0; simp_all [markedM]; done) | (by_cases e0 : markedM s = ⟨[2, 2], 2⟩; exact K.fin (V.one (V.cellN Tryz.isAgg61 Tryz.sizeOf61)) ⟨by rw [e0]; rfl, rfl⟩; exfalso; apply e0; simp_all [markedM]; done) | (by_cases e0 : markedM s = ⟨[1, 1], 1⟩; exact K.fin (V.one (V.cellN Tryz.isAgg61 Tryz.sizeOf61)) ⟨by rw [e0]; rfl, rfl⟩; exfalso; apply e0; simp_all [markedM]; done)
                · skip
                  refine AW.seqR ?_
                  refine R.seql ?_
                  refine R.assign ?_
                  refine R.fin [2, 18] ?_
                  refine W.cond (fun ht18 => ?_) (fun ht18 => ?_)
                  · skip
                    refine AW.seqR ?_
                    refine R.buildSlice Tryz.underlying59 Tryz.sizeOf3 Tryz.zeroValue3 ?_
                    refine R.build (places := #[(0, 1), (1, 1)]) Tryz.underlying61 (fun w => by simp) Tryz.zeroValue61 ?_
                    refine R.storeOwn Tryz.sizeOf61 ?_
                    refine R.fin [2] ?_
                    refine AW.ret ?_
                    refine K.blR ?_
                    refine K.thR ?_
                    first | (by_cases e0 : markedM s = ⟨[3, 3], 3⟩; exact K.fin (V.one (V.cellN Tryz.isAgg61 Tryz.sizeOf61)) ⟨by rw [e0]; rfl, rfl⟩; exfalso; apply e0; simp_all [markedM]; done) | (by_cases e0 : markedM s = ⟨[-1, -1], 3⟩; exact K.fin (V.one (V.cellN Tryz.isAgg61 Tryz.sizeOf61)) ⟨by rw [e0]; rfl, rfl⟩; exfalso; apply e0; simp_all [markedM]; done) | (by_cases e0 : markedM s = ⟨[2, 2], 2⟩; exact K.fin (V.one (V.cellN Tryz.isAgg61 Tryz.sizeOf61)) ⟨by rw [e0]; rfl, rfl⟩; exfalso; apply e0; simp_all [markedM]; done) | (by_cases e0 : markedM s = ⟨[1, 1], 1⟩; exact K.fin (V.one (V.cellN Tryz.isAgg61 Tryz.sizeOf61)) ⟨by rw [e0]; rfl, rfl⟩; exfalso; apply e0; simp_all [markedM]; done)
                  · skip
                    refine AW.skip ?_
                    refine K.blN ?_
                    refine K.thN ?_
                    refine AW.seqR ?_
                    refine R.buildSlice Tryz.underlying59 Tryz.sizeOf3 Tryz.zeroValue3 ?_
                    refine R.build (places := #[(0, 1), (1, 1)]) Tryz.underlying61 (fun w => by simp) Tryz.zeroValue61 ?_
                    refine R.storeOwn Tryz.sizeOf61 ?_
                    refine R.fin [2] ?_
                    refine AW.ret ?_
                    first | (by_cases e0 : markedM s = ⟨[3, 3], 3⟩; exact K.fin (V.one (V.cellN Tryz.isAgg61 Tryz.sizeOf61)) ⟨by rw [e0]; rfl, rfl⟩; exfalso; apply e0; simp_all [markedM]; done) | (by_cases e0 : markedM s = ⟨[-1, -1], 3⟩; exact K.fin (V.one (V.cellN Tryz.isAgg61 Tryz.sizeOf61)) ⟨by rw [e0]; rfl, rfl⟩; exfalso; apply e0; simp_all [markedM]; done) | (by_cases e0 : markedM s = ⟨[2, 2], 2⟩; exact K.fin (V.one (V.cellN Tryz.isAgg61 Tryz.sizeOf61)) ⟨by rw [e0]; rfl, rfl⟩; exfalso; apply e0; simp_all [markedM]; done) | (by_cases e0 : markedM s = ⟨[1, 1], 1⟩; exact K.fin (V.one (V.cellN Tryz.isAgg61 Tryz.sizeOf61)) ⟨by rw [e0]; rfl, rfl⟩; exfalso; apply e0; simp_all [markedM]; done)
              · skip
                refine AW.region ?_
                refine R.seql ?_
                refine R.assign ?_
                refine R.fin [2, 3, 9] ?_
                refine K.thN ?_
                refine W.cond (fun ht9 => ?_) (fun ht9 => ?_)
                · skip
                  refine AW.seqR ?_
                  refine R.buildSlice Tryz.underlying59 Tryz.sizeOf3 Tryz.zeroValue3 ?_
                  refine R.build (places := #[(0, 1), (1, 1)]) Tryz.underlying61 (fun w => by simp) Tryz.zeroValue61 ?_
                  refine R.storeOwn Tryz.sizeOf61 ?_
                  refine R.fin [2] ?_
                  refine AW.ret ?_
                  refine K.blR ?_
                  refine K.thR ?_
                  first | (by_cases e0 : markedM s = ⟨[3, 3], 3⟩; exact K.fin (V.one (V.cellN Tryz.isAgg61 Tryz.sizeOf61)) ⟨by rw [e0]; rfl, rfl⟩; exfalso; apply e0; simp_all [markedM]; done) | (by_cases e0 : markedM s = ⟨[-1, -1], 3⟩; exact K.fin (V.one (V.cellN Tryz.isAgg61 Tryz.sizeOf61)) ⟨by rw [e0]; rfl, rfl⟩; exfalso; apply e0; simp_all [markedM]; done) | (by_cases e0 : markedM s = ⟨[2, 2], 2⟩; exact K.fin (V.one (V.cellN Tryz.isAgg61 Tryz.sizeOf61)) ⟨by rw [e0]; rfl, rfl⟩; exfalso; apply e0; simp_all [markedM]; done) | (by_cases e0 : markedM s = ⟨[1, 1], 1⟩; exact K.fin (V.one (V.cellN Tryz.isAgg61 Tryz.sizeOf61)) ⟨by rw [e0]; rfl, rfl⟩; exfalso; apply e0; simp_all [markedM]; done)
                · skip
                  refine AW.seqR ?_
                  refine R.seql ?_
                  refine R.assign ?_
                  refine R.fin [2, 18] ?_
                  refine W.cond (fun ht18 => ?_) (fun ht18 => ?_)
                  · skip
                    refine AW.seqR ?_
                    refine R.buildSlice Tryz.underlying59 Tryz.sizeOf3 Tryz.zeroValue3 ?_
                    refine R.build (places := #[(0, 1), (1, 1)]) Tryz.underlying61 (fun w => by simp) Tryz.zeroValue61 ?_
                    refine R.storeOwn Tryz.sizeOf61 ?_
                    refine R.fin [2] ?_
                    refine AW.ret ?_
                    refine K.blR ?_
                    refine K.thR ?_
                    first | (by_cases e0 : markedM s = ⟨[3, 3], 3⟩; exact K.fin (V.one (V.cellN Tryz.isAgg61 Tryz.sizeOf61)) ⟨by rw [e0]; rfl, rfl⟩; exfalso; apply e0; simp_all [markedM]; done) | (by_cases e0 : markedM s = ⟨[-1, -1], 3⟩; exact K.fin (V.one (V.cellN Tryz.isAgg61 Tryz.sizeOf61)) ⟨by rw [e0]; rfl, rfl⟩; exfalso; apply e0; simp_all [markedM]; done) | (by_cases e0 : markedM s = ⟨[2, 2], 2⟩; exact K.fin (V.one (V.cellN Tryz.isAgg61 Tryz.sizeOf61)) ⟨by rw [e0]; rfl, rfl⟩; exfalso; apply e0; simp_all [markedM]; done) | (by_cases e0 : markedM s = ⟨[1, 1], 1⟩; exact K.fin (V.one (V.cellN Tryz.isAgg61 Tryz.sizeOf61)) ⟨by rw [e0]; rfl, rfl⟩; exfalso; apply e0; simp_all [markedM]; done)
                  · skip
                    refine AW.skip ?_
                    refine K.blN ?_
                    refine K.thN ?_
                    refine AW.seqR ?_
                    refine R.buildSlice Tryz.underlying59 Tryz.sizeOf3 Tryz.zeroValue3 ?_
                    refine R.build (places := #[(0, 1), (1, 1)]) Tryz.underlying61 (fun w => by simp) Tryz.zeroValue61 ?_
                    refine R.storeOwn Tryz.sizeOf61 ?_
                    refine R.fin [2] ?_
                    refine AW.ret ?_
                    first | (by_cases e0 : markedM s = ⟨[3, 3], 3⟩; exact K.fin (V.one (V.cellN Tryz.isAgg61 Tryz.sizeOf61)) ⟨by rw [e0]; rfl, rfl⟩; exfalso; apply e0; simp_all [markedM]; done) | (by_cases e0 : markedM s = ⟨[-1, -1], 3⟩; exact K.fin (V.one (V.cellN Tryz.isAgg61 Tryz.sizeOf61)) ⟨by rw [e0]; rfl, rfl⟩; exfalso; apply e0; simp_all [markedM]; done) | (by_cases e0 : markedM s = ⟨[2, 2], 2⟩; exact K.fin (V.one (V.cellN Tryz.isAgg61 Tryz.sizeOf61)) ⟨by rw [e0]; rfl, rfl⟩; exfalso; apply e0; simp_all [markedM]; done) | (by_cases e0 : markedM s = ⟨[1, 1], 1⟩; exact K.fin (V.one (V.cellN Tryz.isAgg61 Tryz.sizeOf61)) ⟨by rw [e0]; rfl, rfl⟩; exfalso; apply e0; simp_all [markedM]; done)

theorem c49 (s : Str) (Hp : List AObj) : AFun Tryz.prog 49 [strA s] Hp (signA (calledM s)) := by
  refine ACall.body [.cell 2 61] [0] Tryz.func49 Tryz.ntmps49 (fun d => ?_)
  refine AW.seqR ?_
  refine R.alloc Tryz.zeroValue61 ?_
  refine R.fin [0, 2] ?_
  refine W.seq ?_
  refine AW.seqR ?_
  refine R.move ?_
  refine R.fin [2, 3] ?_
  refine AW.block ?_
  refine W.seq ?_
  refine AW.seqR ?_
  refine R.seql ?_
  refine R.assign ?_
  refine R.fin [2, 3, 4] ?_
  refine W.cond (fun ht4 => ?_) (fun ht4 => ?_)
  · skip
    refine AW.skip ?_
    refine K.thN ?_
    refine W.cond (fun ht4 => ?_) (fun ht4 => ?_)
    · skip
      refine AW.seqR ?_
      refine R.buildSlice Tryz.underlying59 Tryz.sizeOf3 Tryz.zeroValue3 ?_
      refine R.build (places := #[(0, 1), (1, 1)]) Tryz.underlying61 (fun w => by simp) Tryz.zeroValue61 ?_
      refine R.storeOwn Tryz.sizeOf61 ?_
      refine R.fin [2] ?_
      refine AW.ret ?_
      refine K.blR ?_
      refine K.thR ?_
      first | (by_cases e0 : calledM s = ⟨[2], 1⟩; exact K.fin (V.one (V.cellN Tryz.isAgg61 Tryz.sizeOf61)) ⟨by rw [e0]; rfl, rfl⟩; exfalso; apply e0; simp_all [calledM]; done) | (by_cases e0 : calledM s = ⟨[1], 2⟩; exact K.fin (V.one (V.cellN Tryz.isAgg61 Tryz.sizeOf61)) ⟨by rw [e0]; rfl, rfl⟩; exfalso; apply e0; simp_all [calledM]; done) | (by_cases e0 : calledM s = ⟨[2, 1], 2⟩; exact K.fin (V.one (V.cellN Tryz.isAgg61 Tryz.sizeOf61)) ⟨by rw [e0]; rfl, rfl⟩; exfalso; apply e0; simp_all [calledM]; done) | (by_cases e0 : calledM s = ⟨[-2], 3⟩; exact K.fin (V.one (V.cellN Tryz.isAgg61 Tryz.sizeOf61)) ⟨by rw [e0]; rfl, rfl⟩; exfalso; apply e0; simp_all [calledM]; done) | (by_cases e0 : calledM s = ⟨[-1, -1], -1⟩; exact K.fin (V.one (V.cellN Tryz.isAgg61 Tryz.sizeOf61)) ⟨by rw [e0]; rfl, rfl⟩; exfalso; apply e0; simp_all [calledM]; done) | (by_cases e0 : calledM s = ⟨[3, -1, -1], -1⟩; exact K.fin (V.one (V.cellN Tryz.isAgg61 Tryz.sizeOf61)) ⟨by rw [e0]; rfl, rfl⟩; exfalso; apply e0; simp_all [calledM]; done)
    · skip
      refine AW.seqR ?_
      refine R.seql ?_
      refine R.assign ?_
      refine R.fin [2, 3, 9] ?_
      refine W.cond (fun ht9 => ?_) (fun ht9 => ?_)
      · skip
        refine AW.seqR ?_
        refine R.buildSlice Tryz.underlying59 Tryz.sizeOf3 Tryz.zeroValue3 ?_
        refine R.build (places := #[(0, 1), (1, 1)]) Tryz.underlying61 (fun w => by simp) Tryz.zeroValue61 ?_
        refine R.storeOwn Tryz.sizeOf61 ?_
        refine R.fin [2] ?_
        refine AW.ret ?_
        refine K.blR ?_
        refine K.thR ?_
        first | (by_cases e0 : calledM s = ⟨[2], 1⟩; exact K.fin (V.one (V.cellN Tryz.isAgg61 Tryz.sizeOf61)) ⟨by rw [e0]; rfl, rfl⟩; exfalso; apply e0; simp_all [calledM]; done) | (by_cases e0 : calledM s = ⟨[1], 2⟩; exact K.fin (V.one (V.cellN Tryz.isAgg61 Tryz.sizeOf61)) ⟨by rw [e0]; rfl, rfl⟩; exfalso; apply e0; simp_all [calledM]; done) | (by_cases e0 : calledM s = ⟨[2, 1], 2⟩; exact K.fin (V.one (V.cellN Tryz.isAgg61 Tryz.sizeOf61)) ⟨by rw [e0]; rfl, rfl⟩; exfalso; apply e0; simp_all [calledM]; done) | (by_cases e0 : calledM s = ⟨[-2], 3⟩; exact K.fin (V.one (V.cellN Tryz.isAgg61 Tryz.sizeOf61)) ⟨by rw [e0]; rfl, rfl⟩; exfalso; apply e0; simp_all [calledM]; done) | (by_cases e0 : calledM s = ⟨[-1, -1], -1⟩; exact K.fin (V.one (V.cellN Tryz.isAgg61 Tryz.sizeOf61)) ⟨by rw [e0]; rfl, rfl⟩; exfalso; apply e0; simp_all [calledM]; done) | (by_cases e0 : calledM s = ⟨[3, -1, -1], -1⟩; exact K.fin (V.one (V.cellN Tryz.isAgg61 Tryz.sizeOf61)) ⟨by rw [e0]; rfl, rfl⟩; exfalso; apply e0; simp_all [calledM]; done)
      · skip
        refine W.seq ?_
        refine AW.seqR ?_
        refine R.seql ?_
        refine R.assign ?_
        refine R.fin [2, 3, 13] ?_
        refine W.cond (fun ht13 => ?_) (fun ht13 => ?_)
        · skip
          refine AW.skip ?_
          refine K.thN ?_
          refine W.cond (fun ht13 => ?_) (fun ht13 => ?_)
          · skip
            refine AW.seqR ?_
            refine R.buildSlice Tryz.underlying59 Tryz.sizeOf3 Tryz.zeroValue3 ?_
            refine R.build (places := #[(0, 1), (1, 1)]) Tryz.underlying61 (fun w => by simp) Tryz.zeroValue61 ?_
            refine R.storeOwn Tryz.sizeOf61 ?_
            refine R.fin [2] ?_
            refine AW.ret ?_
            refine K.blR ?_
            refine K.thR ?_
            first | (by_cases e0 : calledM s = ⟨[2], 1⟩; exact K.fin (V.one (V.cellN Tryz.isAgg61 Tryz.sizeOf61)) ⟨by rw [e0]; rfl, rfl⟩; exfalso; apply e0; simp_all [calledM]; done) | (by_cases e0 : calledM s = ⟨[1], 2⟩; exact K.fin (V.one (V.cellN Tryz.isAgg61 Tryz.sizeOf61)) ⟨by rw [e0]; rfl, rfl⟩; exfalso; apply e0; simp_all [calledM]; done) | (by_cases e0 : calledM s = ⟨[2, 1], 2⟩; exact K.fin (V.one (V.cellN Tryz.isAgg61 Tryz.sizeOf61)) ⟨by rw [e0]; rfl, rfl⟩; exfalso; apply e0; simp_all [calledM]; done) | (by_cases e0 : calledM s = ⟨[-2], 3⟩; exact K.fin (V.one (V.cellN Tryz.isAgg61 Tryz.sizeOf61)) ⟨by rw [e0]; rfl, rfl⟩; exfalso; apply e0; simp_all [calledM]; done) | (by_cases e0 : calledM s = ⟨[-1, -1], -1⟩; exact K.fin (V.one (V.cellN Tryz.isAgg61 Tryz.sizeOf61)) ⟨by rw [e0]; rfl, rfl⟩; exfalso; apply e0; simp_all [calledM]; done) | (by_cases e0 : calledM s = ⟨[3, -1, -1], -1⟩; exact K.fin (V.one (V.cellN Tryz.isAgg61 Tryz.sizeOf61)) ⟨by rw [e0]; rfl, rfl⟩; exfalso; apply e0; simp_all [calledM]; done)
          · skip
            refine AW.seqR ?_
            refine R.seql ?_
            refine R.assign ?_
            refine R.fin [2, 3, 18] ?_
            refine W.cond (fun ht18 => ?_) (fun ht18 => ?_)
            · skip
              refine AW.seqR ?_
              refine R.buildSlice Tryz.underlying59 Tryz.sizeOf3 Tryz.zeroValue3 ?_
              refine R.build (places := #[(0, 1), (1, 1)]) Tryz.underlying61 (fun w => by simp) Tryz.zeroValue61 ?_
              refine R.storeOwn Tryz.sizeOf61 ?_
              refine R.fin [2] ?_
              refine AW.ret ?_
              refine K.blR ?_
              refine K.thR ?_
              first | (by_cases e0 : calledM s = ⟨[2], 1⟩; exact K.fin (V.one (V.cellN Tryz.isAgg61 Tryz.sizeOf61)) ⟨by rw [e0]; rfl, rfl⟩; exfalso; apply e0; simp_all [calledM]; done) | (by_cases e0 : calledM s = ⟨[1], 2⟩; exact K.fin (V.one (V.cellN Tryz.isAgg61 Tryz.sizeOf61)) ⟨by rw [e0]; rfl, rfl⟩; exfalso; apply e0; simp_all [calledM]; done) | (by_cases e0 : calledM s = ⟨[2, 1], 2⟩; exact K.fin (V.one (V.cellN Tryz.isAgg61 Tryz.sizeOf61)) ⟨by rw [e0]; rfl, rfl⟩; exfalso; apply e0; simp_all [calledM]; done) | (by_cases e0 : calledM s = ⟨[-2], 3⟩; exact K.fin (V.one (V.cellN Tryz.isAgg61 Tryz.sizeOf61)) ⟨by rw [e0]; rfl, rfl⟩; exfalso; apply e0; simp_all [calledM]; done) | (by_cases e0 : calledM s = ⟨[-1, -1], -1⟩; exact K.fin (V.one (V.cellN Tryz.isAgg61 Tryz.sizeOf61)) ⟨by rw [e0]; rfl, rfl⟩; exfalso; apply e0; simp_all [calledM]; done) | (by_cases e0 : calledM s = ⟨[3, -1, -1], -1⟩; exact K.fin (V.one (V.cellN Tryz.isAgg61 Tryz.sizeOf61)) ⟨by rw [e0]; rfl, rfl⟩; exfalso; apply e0; simp_all [calledM]; done)
            · skip
              refine AW.seqR ?_
              refine R.seql ?_
              refine R.assign ?_
              refine R.fin [2, 22] ?_
              refine W.cond (fun ht22 => ?_) (fun ht22 => ?_)
              · skip
                refine AW.seqR ?_
                refine R.buildSlice Tryz.underlying59 Tryz.sizeOf3 Tryz.zeroValue3 ?_
                refine R.build (places := #[(0, 1), (1, 1)]) Tryz.underlying61 (fun w => by simp) Tryz.zeroValue61 ?_
                refine R.storeOwn Tryz.sizeOf61 ?_
                refine R.fin [2] ?_
                refine AW.ret ?_
                refine K.blR ?_
                refine K.thR ?_
                first | (by_cases e0 : calledM s = ⟨[2], 1⟩; exact K.fin (V.one (V.cellN Tryz.isAgg61 Tryz.sizeOf61)) ⟨by rw [e0]; rfl, rfl⟩; exfalso; apply e0; simp_all [calledM]; done) | (by_cases e0 : calledM s = ⟨[1], 2⟩; exact K.fin (V.one (V.cellN Tryz.isAgg61 Tryz.sizeOf61)) ⟨by rw [e0]; rfl, rfl⟩; exfalso; apply e0; simp_all [calledM]; done) | (by_cases e0 : calledM s = ⟨[2, 1], 2⟩; exact K.fin (V.one (V.cellN Tryz.isAgg61 Tryz.sizeOf61)) ⟨by rw [e0]; rfl, rfl⟩; exfalso; apply e0; simp_all [calledM]; done) | (by_cases e0 : calledM s = ⟨[-2], 3⟩; exact K.fin (V.one (V.cellN Tryz.isAgg61 Tryz.sizeOf61)) ⟨by rw [e0]; rfl, rfl⟩; exfalso; apply e0; simp_all [calledM]; done) | (by_cases e0 : calledM s = ⟨[-1, -1], -1⟩; exact K.fin (V.one (V.cellN Tryz.isAgg61 Tryz.sizeOf61)) ⟨by rw [e0]; rfl, rfl⟩; exfalso; apply e0; simp_all [calledM]; done) | (by_cases e0 : calledM s = ⟨[3, -1, -1], -1⟩; exact K.fin (V.one (V.cellN Tryz.isAgg61 Tryz.sizeOf61)) ⟨by rw [e0]; rfl, rfl⟩; exfalso; apply e0; simp_all [calledM]; done)
              · skip
                refine AW.skip ?_
                refine K.blN ?_
                refine K.thN ?_
                refine AW.seqR ?_
                refine R.buildSlice Tryz.underlying59 Tryz.sizeOf3 Tryz.zeroValue3 ?_
                refine R.build (places := #[(0, 1), (1, 1)]) Tryz.underlying61 (fun w => by simp) Tryz.zeroValue61 ?_
                refine R.storeOwn Tryz.sizeOf61 ?_
                refine R.fin [2] ?_
                refine AW.ret ?_
                first | (by_cases e0 : calledM s = ⟨[2], 1⟩; exact K.fin (V.one (V.cellN Tryz.isAgg61 Tryz.sizeOf61)) ⟨by rw [e0]; rfl, rfl⟩; exfalso; apply e0; simp_all [calledM]; done) | (by_cases e0 : calledM s = ⟨[1], 2⟩; exact K.fin (V.one (V.cellN Tryz.isAgg61 Tryz.sizeOf61)) ⟨by rw [e0]; rfl, rfl⟩; exfalso; apply e0; simp_all [calledM]; done) | (by_cases e0 : calledM s = ⟨[2, 1], 2⟩; exact K.fin (V.one (V.cellN Tryz.isAgg61 Tryz.sizeOf61)) ⟨by rw [e0]; rfl, rfl⟩; exfalso; apply e0; simp_all [calledM]; done) | (by_cases e0 : calledM s = ⟨[-2], 3⟩; exact K.fin (V.one (V.cellN Tryz.isAgg61 Tryz.sizeOf61)) ⟨by rw [e0]; rfl, rfl⟩; exfalso; apply e0; simp_all [calledM]; done) | (by_cases e0 : calledM s = ⟨[-1, -1], -1⟩; exact K.fin (V.one (V.cellN Tryz.isAgg61 Tryz.sizeOf61)) ⟨by rw [e0]; rfl, rfl⟩; exfalso; apply e0; simp_all [calledM]; done) | (by_cases e0 : calledM s = ⟨[3, -1, -1], -1⟩; exact K.fin (V.one (V.cellN Tryz.isAgg61 Tryz.sizeOf61)) ⟨by rw [e0]; rfl, rfl⟩; exfalso; apply e0; simp_all [calledM]; done)
        · skip
          refine AW.region ?_
          refine R.seql ?_
          refine R.assign ?_
          refine R.fin [2, 3, 13] ?_
          refine K.thN ?_
          refine W.cond (fun ht13 => ?_) (fun ht13 => ?_)
          · skip
            refine AW.seqR ?_
            refine R.buildSlice Tryz.underlying59 Tryz.sizeOf3 Tryz.zeroValue3 ?_
            refine R.build (places := #[(0, 1), (1, 1)]) Tryz.underlying61 (fun w => by simp) Tryz.zeroValue61 ?_
            refine R.storeOwn Tryz.sizeOf61 ?_
            refine R.fin [2] ?_
            refine AW.ret ?_
            refine K.blR ?_
            refine K.thR ?_
            first | (by_cases e0 : calledM s = ⟨[2], 1⟩; exact K.fin (V.one (V.cellN Tryz.isAgg61 Tryz.sizeOf61)) ⟨by rw [e0]; rfl, rfl⟩; exfalso; apply e0; simp_all [calledM]; done) | (by_cases e0 : calledM s = ⟨[1], 2⟩; exact K.fin (V.one (V.cellN Tryz.isAgg61 Tryz.sizeOf61)) ⟨by rw [e0]; rfl, rfl⟩; exfalso; apply e0; simp_all [calledM]; done) | (by_cases e0 : calledM s = ⟨[2, 1], 2⟩; exact K.fin (V.one (V.cellN Tryz.isAgg61 Tryz.sizeOf61)) ⟨by rw [e0]; rfl, rfl⟩; exfalso; apply e0; simp_all [calledM]; done) | (by_cases e0 : calledM s = ⟨[-2], 3⟩; exact K.fin (V.one (V.cellN Tryz.isAgg61 Tryz.sizeOf61)) ⟨by rw [e0]; rfl, rfl⟩; exfalso; apply e0; simp_all [calledM]; done) | (by_cases e0 : calledM s = ⟨[-1, -1], -1⟩; exact K.fin (V.one (V.cellN Tryz.isAgg61 Tryz.sizeOf61)) ⟨by rw [e0]; rfl, rfl⟩; exfalso; apply e0; simp_all [calledM]; done) | (by_cases e0 : calledM s = ⟨[3, -1, -1], -1⟩; exact K.fin (V.one (V.cellN Tryz.isAgg61 Tryz.sizeOf61)) ⟨by rw [e0]; rfl, rfl⟩; exfalso; apply e0; simp_all [calledM]; done)
          · skip
            refine AW.seqR ?_
            refine R.seql ?_
            refine R.assign ?_
            refine R.fin [2, 3, 18] ?_
            refine W.cond (fun ht18 => ?_) (fun ht18 => ?_)
            · skip
              refine AW.seqR ?_
              refine R.buildSlice Tryz.underlying59 Tryz.sizeOf3 Tryz.zeroValue3 ?_
              refine R.build (places := #[(0, 1), (1, 1)]) Tryz.underlying61 (fun w => by simp) Tryz.zeroValue61 ?_
              refine R.storeOwn Tryz.sizeOf61 ?_
              refine R.fin [2] ?_
              refine AW.ret ?_
              refine K.blR ?_
              refine K.thR ?_
              first | (by_cases e0 : calledM s = ⟨[2], 1⟩; exact K.fin (V.one (V.cellN Tryz.isAgg61 Tryz.sizeOf61)) ⟨by rw [e0]; rfl, rfl⟩; exfalso; apply e0; simp_all [calledM]; done) | (by_cases e0 : calledM s = ⟨[1], 2⟩; exact K.fin (V.one (V.cellN Tryz.isAgg61 Tryz.sizeOf61)) ⟨by rw [e0]; rfl, rfl⟩; exfalso; apply e0; simp_all [calledM]; done) | (by_cases e0 : calledM s = ⟨[2, 1], 2⟩; exact K.fin (V.one (V.cellN Tryz.isAgg61 Tryz.sizeOf61)) ⟨by rw [e0]; rfl, rfl⟩; exfalso; apply e0; simp_all [calledM]; done) | (by_cases e0 : calledM s = ⟨[-2], 3⟩; exact K.fin (V.one (V.cellN Tryz.isAgg61 Tryz.sizeOf61)) ⟨by rw [e0]; rfl, rfl⟩; exfalso; apply e0; simp_all [calledM]; done) | (by_cases e0 : calledM s = ⟨[-1, -1], -1⟩; exact K.fin (V.one (V.cellN Tryz.isAgg61 Tryz.sizeOf61)) ⟨by rw [e0]; rfl, rfl⟩; exfalso; apply e0; simp_all [calledM]; done) | (by_cases e0 : calledM s = ⟨[3, -1, -1], -1⟩; exact K.fin (V.one (V.cellN Tryz.isAgg61 Tryz.sizeOf61)) ⟨by rw [e0]; rfl, rfl⟩; exfalso; apply e0; simp_all [calledM]; done)
            · skip
              refine AW.seqR ?_
              refine R.seql ?_
              refine R.assign ?_
              refine R.fin [2, 22] ?_
              refine W.cond (fun ht22 => ?_) (fun ht22 => ?_)
              · skip
                refine AW.seqR ?_
                refine R.buildSlice Tryz.underlying59 Tryz.sizeOf3 Tryz.zeroValue3 ?_
                refine R.build (places := #[(0, 1), (1, 1)]) Tryz.underlying61 (fun w => by simp) Tryz.zeroValue61 ?_
                refine R.storeOwn Tryz.sizeOf61 ?_
                refine R.fin [2] ?_
                refine AW.ret ?_
                refine K.blR ?_
                refine K.thR ?_
                first | (by_cases e0 : calledM s = ⟨[2], 1⟩; exact K.fin (V.one (V.cellN Tryz.isAgg61 Tryz.sizeOf61)) ⟨by rw [e0]; rfl, rfl⟩; exfalso; apply e0; simp_all [calledM]; done) | (by_cases e0 : calledM s = ⟨[1], 2⟩; exact K.fin (V.one (V.cellN Tryz.isAgg61 Tryz.sizeOf61)) ⟨by rw [e0]; rfl, rfl⟩; exfalso; apply e0; simp_all [calledM]; done) | (by_cases e0 : calledM s = ⟨[2, 1], 2⟩; exact K.fin (V.one (V.cellN Tryz.isAgg61 Tryz.sizeOf61)) ⟨by rw [e0]; rfl, rfl⟩; exfalso; apply e0; simp_all [calledM]; done) | (by_cases e0 : calledM s = ⟨[-2], 3⟩; exact K.fin (V.one (V.cellN Tryz.isAgg61 Tryz.sizeOf61)) ⟨by rw [e0]; rfl, rfl⟩; exfalso; apply e0; simp_all [calledM]; done) | (by_cases e0 : calledM s = ⟨[-1, -1], -1⟩; exact K.fin (V.one (V.cellN Tryz.isAgg61 Tryz.sizeOf61)) ⟨by rw [e0]; rfl, rfl⟩; exfalso; apply e0; simp_all [calledM]; done) | (by_cases e0 : calledM s = ⟨[3, -1, -1], -1⟩; exact K.fin (V.one (V.cellN Tryz.isAgg61 Tryz.sizeOf61)) ⟨by rw [e0]; rfl, rfl⟩; exfalso; apply e0; simp_all [calledM]; done)
              · skip
                refine AW.skip ?_
                refine K.blN ?_
                refine K.thN ?_
                refine AW.seqR ?_
                refine R.buildSlice Tryz.underlying59 Tryz.sizeOf3 Tryz.zeroValue3 ?_
                refine R.build (places := #[(0, 1), (1, 1)]) Tryz.underlying61 (fun w => by simp) Tryz.zeroValue61 ?_
                refine R.storeOwn Tryz.sizeOf61 ?_
                refine R.fin [2] ?_
                refine AW.ret ?_
                first | (by_cases e0 : calledM s = ⟨[2], 1⟩; exact K.fin (V.one (V.cellN Tryz.isAgg61 Tryz.sizeOf61)) ⟨by rw [e0]; rfl, rfl⟩; exfalso; apply e0; simp_all [calledM]; done) | (by_cases e0 : calledM s = ⟨[1], 2⟩; exact K.fin (V.one (V.cellN Tryz.isAgg61 Tryz.sizeOf61)) ⟨by rw [e0]; rfl, rfl⟩; exfalso; apply e0; simp_all [calledM]; done) | (by_cases e0 : calledM s = ⟨[2, 1], 2⟩; exact K.fin (V.one (V.cellN Tryz.isAgg61 Tryz.sizeOf61)) ⟨by rw [e0]; rfl, rfl⟩; exfalso; apply e0; simp_all [calledM]; done) | (by_cases e0 : calledM s = ⟨[-2], 3⟩; exact K.fin (V.one (V.cellN Tryz.isAgg61 Tryz.sizeOf61)) ⟨by rw [e0]; rfl, rfl⟩; exfalso; apply e0; simp_all [calledM]; done) | (by_cases e0 : calledM s = ⟨[-1, -1], -1⟩; exact K.fin (V.one (V.cellN Tryz.isAgg61 Tryz.sizeOf61)) ⟨by rw [e0]; rfl, rfl⟩; exfalso; apply e0; simp_all [calledM]; done) | (by_cases e0 : calledM s = ⟨[3, -1, -1], -1⟩; exact K.fin (V.one (V.cellN Tryz.isAgg61 Tryz.sizeOf61)) ⟨by rw [e0]; rfl, rfl⟩; exfalso; apply e0; simp_all [calledM]; done)
  · skip
    refine AW.region ?_
    refine R.seql ?_
    refine R.assign ?_
    refine R.fin [2, 3, 4] ?_
    refine K.thN ?_
    refine W.cond (fun ht4 => ?_) (fun ht4 => ?_)
    · skip
      refine AW.seqR ?_
      refine R.buildSlice Tryz.underlying59 Tryz.sizeOf3 Tryz.zeroValue3 ?_
      refine R.build (places := #[(0, 1), (1, 1)]) Tryz.underlying61 (fun w => by simp) Tryz.zeroValue61 ?_
      refine R.storeOwn Tryz.sizeOf61 ?_
      refine R.fin [2] ?_
      refine AW.ret ?_
      refine K.blR ?_
      refine K.thR ?_
      first | (by_cases e0 : calledM s = ⟨[2], 1⟩; exact K.fin (V.one (V.cellN Tryz.isAgg61 Tryz.sizeOf61)) ⟨by rw [e0]; rfl, rfl⟩; exfalso; apply e0; simp_all [calledM]; done) | (by_cases e0 : calledM s = ⟨[1], 2⟩; exact K.fin (V.one (V.cellN Tryz.isAgg61 Tryz.sizeOf61)) ⟨by rw [e0]; rfl, rfl⟩; exfalso; apply e0; simp_all [calledM]; done) | (by_cases e0 : calledM s = ⟨[2, 1], 2⟩; exact K.fin (V.one (V.cellN Tryz.isAgg61 Tryz.sizeOf61)) ⟨by rw [e0]; rfl, rfl⟩; exfalso; apply e0; simp_all [calledM]; done) | (by_cases e0 : calledM s = ⟨[-2], 3⟩; exact K.fin (V.one (V.cellN Tryz.isAgg61 Tryz.sizeOf61)) ⟨by rw [e0]; rfl, rfl⟩; exfalso; apply e0; simp_all [calledM]; done) | (by_cases e0 : calledM s = ⟨[-1, -1], -1⟩; exact K.fin (V.one (V.cellN Tryz.isAgg61 Tryz.sizeOf61)) ⟨by rw [e0]; rfl, rfl⟩; exfalso; apply e0; simp_all [calledM]; done) | (by_cases e0 : calledM s = ⟨[3, -1, -1], -1⟩; exact K.fin (V.one (V.cellN Tryz.isAgg61 Tryz.sizeOf61)) ⟨by rw [e0]; rfl, rfl⟩; exfalso; apply e0; simp_all [calledM]; done)
    · skip
      refine AW.seqR ?_
      refine R.seql ?_
      refine R.assign ?_
      refine R.fin [2, 3, 9] ?_
      refine W.cond (fun ht9 => ?_) (fun ht9 => ?_)
      · skip
        refine AW.seqR ?_
        refine R.buildSlice Tryz.underlying59 Tryz.sizeOf3 Tryz.zeroValue3 ?_
        refine R.build (places := #[(0, 1), (1, 1)]) Tryz.underlying61 (fun w => by simp) Tryz.zeroValue61 ?_
        refine R.storeOwn Tryz.sizeOf61 ?_
        refine R.fin [2] ?_
        refine AW.ret ?_
        refine K.blR ?_
        refine K.thR ?_
        first | (by_cases e0 : calledM s = ⟨[2], 1⟩; exact K.fin (V.one (V.cellN Tryz.isAgg61 Tryz.sizeOf61)) ⟨by rw [e0]; rfl, rfl⟩; exfalso; apply e0; simp_all [calledM]; done) | (by_cases e0 : calledM s = ⟨[1], 2⟩; exact K.fin (V.one (V.cellN Tryz.isAgg61 Tryz.sizeOf61)) ⟨by rw [e0]; rfl, rfl⟩; exfalso; apply e0; simp_all [calledM]; done) | (by_cases e0 : calledM s = ⟨[2, 1], 2⟩; exact K.fin (V.one (V.cellN Tryz.isAgg61 Tryz.sizeOf61)) ⟨by rw [e0]; rfl, rfl⟩; exfalso; apply e0; simp_all [calledM]; done) | (by_cases e0 : calledM s = ⟨[-2], 3⟩; exact K.fin (V.one (V.cellN Tryz.isAgg61 Tryz.sizeOf61)) ⟨by rw [e0]; rfl, rfl⟩; exfalso; apply e0; simp_all [calledM]; done) | (by_cases e0 : calledM s = ⟨[-1, -1], -1⟩; exact K.fin (V.one (V.cellN Tryz.isAgg61 Tryz.sizeOf61)) ⟨by rw [e0]; rfl, rfl⟩; exfalso; apply e0; simp_all [calledM]; done) | (by_cases e0 : calledM s = ⟨[3, -1, -1], -1⟩; exact K.fin (V.one (V.cellN Tryz.isAgg61 Tryz.sizeOf61)) ⟨by rw [e0]; rfl, rfl⟩; exfalso; apply e0; simp_all [calledM]; done)
      · skip
        refine W.seq ?_
        refine AW.seqR ?_
        refine R.seql ?_
        refine R.assign ?_
        refine R.fin [2, 3, 13] ?_
        refine W.cond (fun ht13 => ?_) (fun ht13 => ?_)
        · skip
          refine AW.skip ?_
          refine K.thN ?_
          refine W.cond (fun ht13 => ?_) (fun ht13 => ?_)
          · skip
            refine AW.seqR ?_
            refine R.buildSlice Tryz.underlying59 Tryz.sizeOf3 Tryz.zeroValue3 ?_
            refine R.build (places := #[(0, 1), (1, 1)]) Tryz.underlying61 (fun w => by simp) Tryz.zeroValue61 ?_
            refine R.storeOwn Tryz.sizeOf61 ?_
            refine R.fin [2] ?_
            refine AW.ret ?_
            refine K.blR ?_
            refine K.thR ?_
            first | (by_cases e0 : calledM s = ⟨[2], 1⟩; exact K.fin (V.one (V.cellN Tryz.isAgg61 Tryz.sizeOf61)) ⟨by rw [e0]; rfl, rfl⟩; exfalso; apply e0; simp_all [calledM]; done) | (by_cases e0 : calledM s = ⟨[1], 2⟩; exact K.fin (V.one (V.cellN Tryz.isAgg61 Tryz.sizeOf61)) ⟨by rw [e0]; rfl, rfl⟩; exfalso; apply e0; simp_all [calledM]; done) | (by_cases e0 : calledM s = ⟨[2, 1], 2⟩; exact K.fin (V.one (V.cellN Tryz.isAgg61 Tryz.sizeOf61)) ⟨by rw [e0]; rfl, rfl⟩; exfalso; apply e0; simp_all [calledM]; done) | (by_cases e0 : calledM s = ⟨[-2], 3⟩; exact K.fin (V.one (V.cellN Tryz.isAgg61 Tryz.sizeOf61)) ⟨by rw [e0]; rfl, rfl⟩; exfalso; apply e0; simp_all [calledM]; done) | (by_cases e0 : calledM s = ⟨[-1, -1], -1⟩; exact K.fin (V.one (V.cellN Tryz.isAgg61 Tryz.sizeOf61)) ⟨by rw [e0]; rfl, rfl⟩; exfalso; apply e0; simp_all [calledM]; done) | (by_cases e0 : calledM s = ⟨[3, -1, -1], -1⟩; exact K.fin (V.one (V.cellN Tryz.isAgg61 Tryz.sizeOf61)) ⟨by rw [e0]; rfl, rfl⟩; exfalso; apply e0; simp_all [calledM]; done)
          · skip
            refine AW.seqR ?_
            refine R.seql ?_
            refine R.assign ?_
            refine R.fin [2, 3, 18] ?_
            refine W.cond (fun ht18 => ?_) (fun ht18 => ?_)
            · skip
              refine AW.seqR ?_
              refine R.buildSlice Tryz.underlying59 Tryz.sizeOf3 Tryz.zeroValue3 ?_
              refine R.build (places := #[(0, 1), (1, 1)]) Tryz.underlying61 (fun w => by simp) Tryz.zeroValue61 ?_
              refine R.storeOwn Tryz.sizeOf61 ?_
              refine R.fin [2] ?_
              refine AW.ret ?_
              refine K.blR ?_
              refine K.thR ?_
              first | (by_cases e0 : calledM s = ⟨[2], 1⟩; exact K.fin (V.one (V.cellN Tryz.isAgg61 Tryz.sizeOf61)) ⟨by rw [e0]; rfl, rfl⟩; exfalso; apply e0; simp_all [calledM]; done) | (by_cases e0 : calledM s = ⟨[1], 2⟩; exact K.fin (V.one (V.cellN Tryz.isAgg61 Tryz.sizeOf61)) ⟨by rw [e0]; rfl, rfl⟩; exfalso; apply e0; simp_all [calledM]; done) | (by_cases e0 : calledM s = ⟨[2, 1], 2⟩; exact K.fin (V.one (V.cellN Tryz.isAgg61 Tryz.sizeOf61)) ⟨by rw [e0]; rfl, rfl⟩; exfalso; apply e0; simp_all [calledM]; done) | (by_cases e0 : calledM s = ⟨[-2], 3⟩; exact K.fin (V.one (V.cellN Tryz.isAgg61 Tryz.sizeOf61)) ⟨by rw [e0]; rfl, rfl⟩; exfalso; apply e0; simp_all [calledM]; done) | (by_cases e0 : calledM s = ⟨[-1, -1], -1⟩; exact K.fin (V.one (V.cellN Tryz.isAgg61 Tryz.sizeOf61)) ⟨by rw [e0]; rfl, rfl⟩; exfalso; apply e0; simp_all [calledM]; done) | (by_cases e0 : calledM s = ⟨[3, -1, -1], -1⟩; exact K.fin (V.one (V.cellN Tryz.isAgg61 Tryz.sizeOf61)) ⟨by rw [e0]; rfl, rfl⟩; exfalso; apply e0; simp_all [calledM]; done)
            · skip
              refine AW.seqR ?_
              refine R.seql ?_
              refine R.assign ?_
              refine R.fin [2, 22] ?_
              refine W.cond (fun ht22 => ?_) (fun ht22 => ?_)
              · skip
                refine AW.seqR ?_
                refine R.buildSlice Tryz.underlying59 Tryz.sizeOf3 Tryz.zeroValue3 ?_
                refine R.build (places := #[(0, 1), (1, 1)]) Tryz.underlying61 (fun w => by simp) Tryz.zeroValue61 ?_
                refine R.storeOwn Tryz.sizeOf61 ?_
                refine R.fin [2] ?_
                refine AW.ret ?_
                refine K.blR ?_
                refine K.thR ?_
                first | (by_cases e0 : calledM s = ⟨[2], 1⟩; exact K.fin (V.one (V.cellN Tryz.isAgg61 Tryz.sizeOf61)) ⟨by rw [e0]; rfl, rfl⟩; exfalso; apply e0; simp_all [calledM]; done) | (by_cases e0 : calledM s = ⟨[1], 2⟩; exact K.fin (V.one (V.cellN Tryz.isAgg61 Tryz.sizeOf61)) ⟨by rw [e0]; rfl, rfl⟩; exfalso; apply e0; simp_all [calledM]; done) | (by_cases e0 : calledM s = ⟨[2, 1], 2⟩; exact K.fin (V.one (V.cellN Tryz.isAgg61 Tryz.sizeOf61)) ⟨by rw [e0]; rfl, rfl⟩; exfalso; apply e0; simp_all [calledM]; done) | (by_cases e0 : calledM s = ⟨[-2], 3⟩; exact K.fin (V.one (V.cellN Tryz.isAgg61 Tryz.sizeOf61)) ⟨by rw [e0]; rfl, rfl⟩; exfalso; apply e0; simp_all [calledM]; done) | (by_cases e0 : calledM s = ⟨[-1, -1], -1⟩; exact K.fin (V.one (V.cellN Tryz.isAgg61 Tryz.sizeOf61)) ⟨by rw [e0]; rfl, rfl⟩; exfalso; apply e0; simp_all [calledM]; done) | (by_cases e0 : calledM s = ⟨[3, -1, -1], -1⟩; exact K.fin (V.one (V.cellN Tryz.isAgg61 Tryz.sizeOf61)) ⟨by rw [e0]; rfl, rfl⟩; exfalso; apply e0; simp_all [calledM]; done)
              · skip
                refine AW.skip ?_
                refine K.blN ?_
                refine K.thN ?_
                refine AW.seqR ?_
                refine R.buildSlice Tryz.underlying59 Tryz.sizeOf3 Tryz.zeroValue3 ?_
                refine R.build (places := #[(0, 1), (1, 1)]) Tryz.underlying61 (fun w => by simp) Tryz.zeroValue61 ?_
                refine R.storeOwn Tryz.sizeOf61 ?_
                refine R.fin [2] ?_
                refine AW.ret ?_
                first | (by_cases e0 : calledM s = ⟨[2], 1⟩; exact K.fin (V.one (V.cellN Tryz.isAgg61 Tryz.sizeOf61)) ⟨by rw [e0]; rfl, rfl⟩; exfalso; apply e0; simp_all [calledM]; done) | (by_cases e0 : calledM s = ⟨[1], 2⟩; exact K.fin (V.one (V.cellN Tryz.isAgg61 Tryz.sizeOf61)) ⟨by rw [e0]; rfl, rfl⟩; exfalso; apply e0; simp_all [calledM]; done) | (by_cases e0 : calledM s = ⟨[2, 1], 2⟩; exact K.fin (V.one (V.cellN Tryz.isAgg61 Tryz.sizeOf61)) ⟨by rw [e0]; rfl, rfl⟩; exfalso; apply e0; simp_all [calledM]; done) | (by_cases e0 : calledM s = ⟨[-2], 3⟩; exact K.fin (V.one (V.cellN Tryz.isAgg61 Tryz.sizeOf61)) ⟨by rw [e0]; rfl, rfl⟩; exfalso; apply e0; simp_all [calledM]; done) | (by_cases e0 : calledM s = ⟨[-1, -1], -1⟩; exact K.fin (V.one (V.cellN Tryz.isAgg61 Tryz.sizeOf61)) ⟨by rw [e0]; rfl, rfl⟩; exfalso; apply e0; simp_all [calledM]; done) | (by_cases e0 : calledM s = ⟨[3, -1, -1], -1⟩; exact K.fin (V.one (V.cellN Tryz.isAgg61 Tryz.sizeOf61)) ⟨by rw [e0]; rfl, rfl⟩; exfalso; apply e0; simp_all [calledM]; done)
        · skip
          refine AW.region ?_
          refine R.seql ?_
          refine R.assign ?_
          refine R.fin [2, 3, 13] ?_
          refine K.thN ?_
          refine W.cond (fun ht13 => ?_) (fun ht13 => ?_)
          · skip
            refine AW.seqR ?_
            refine R.buildSlice Tryz.underlying59 Tryz.sizeOf3 Tryz.zeroValue3 ?_
            refine R.build (places := #[(0, 1), (1, 1)]) Tryz.underlying61 (fun w => by simp) Tryz.zeroValue61 ?_
            refine R.storeOwn Tryz.sizeOf61 ?_
            refine R.fin [2] ?_
            refine AW.ret ?_
            refine K.blR ?_
            refine K.thR ?_
            first | (by_cases e0 : calledM s = ⟨[2], 1⟩; exact K.fin (V.one (V.cellN Tryz.isAgg61 Tryz.sizeOf61)) ⟨by rw [e0]; rfl, rfl⟩; exfalso; apply e0; simp_all [calledM]; done) | (by_cases e0 : calledM s = ⟨[1], 2⟩; exact K.fin (V.one (V.cellN Tryz.isAgg61 Tryz.sizeOf61)) ⟨by rw [e0]; rfl, rfl⟩; exfalso; apply e0; simp_all [calledM]; done) | (by_cases e0 : calledM s = ⟨[2, 1], 2⟩; exact K.fin (V.one (V.cellN Tryz.isAgg61 Tryz.sizeOf61)) ⟨by rw [e0]; rfl, rfl⟩; exfalso; apply e0; simp_all [calledM]; done) | (by_cases e0 : calledM s = ⟨[-2], 3⟩; exact K.fin (V.one (V.cellN Tryz.isAgg61 Tryz.sizeOf61)) ⟨by rw [e0]; rfl, rfl⟩; exfalso; apply e0; simp_all [calledM]; done) | (by_cases e0 : calledM s = ⟨[-1, -1], -1⟩; exact K.fin (V.one (V.cellN Tryz.isAgg61 Tryz.sizeOf61)) ⟨by rw [e0]; rfl, rfl⟩; exfalso; apply e0; simp_all [calledM]; done) | (by_cases e0 : calledM s = ⟨[3, -1, -1], -1⟩; exact K.fin (V.one (V.cellN Tryz.isAgg61 Tryz.sizeOf61)) ⟨by rw [e0]; rfl, rfl⟩; exfalso; apply e0; simp_all [calledM]; done)
          · skip
            refine AW.seqR ?_
            refine R.seql ?_
            refine R.assign ?_
            refine R.fin [2, 3, 18] ?_
            refine W.cond (fun ht18 => ?_) (fun ht18 => ?_)
            · skip
              refine AW.seqR ?_
              refine R.buildSlice Tryz.underlying59 Tryz.sizeOf3 Tryz.zeroValue3 ?_
              refine R.build (places := #[(0, 1), (1, 1)]) Tryz.underlying61 (fun w => by simp) Tryz.zeroValue61 ?_
              refine R.storeOwn Tryz.sizeOf61 ?_
              refine R.fin [2] ?_
              refine AW.ret ?_
              refine K.blR ?_
              refine K.thR ?_
              first | (by_cases e0 : calledM s = ⟨[2], 1⟩; exact K.fin (V.one (V.cellN Tryz.isAgg61 Tryz.sizeOf61)) ⟨by rw [e0]; rfl, rfl⟩; exfalso; apply e0; simp_all [calledM]; done) | (by_cases e0 : calledM s = ⟨[1], 2⟩; exact K.fin (V.one (V.cellN Tryz.isAgg61 Tryz.sizeOf61)) ⟨by rw [e0]; rfl, rfl⟩; exfalso; apply e0; simp_all [calledM]; done) | (by_cases e0 : calledM s = ⟨[2, 1], 2⟩; exact K.fin (V.one (V.cellN Tryz.isAgg61 Tryz.sizeOf61)) ⟨by rw [e0]; rfl, rfl⟩; exfalso; apply e0; simp_all [calledM]; done) | (by_cases e0 : calledM s = ⟨[-2], 3⟩; exact K.fin (V.one (V.cellN Tryz.isAgg61 Tryz.sizeOf61)) ⟨by rw [e0]; rfl, rfl⟩; exfalso; apply e0; simp_all [calledM]; done) | (by_cases e0 : calledM s = ⟨[-1, -1], -1⟩; exact K.fin (V.one (V.cellN Tryz.isAgg61 Tryz.sizeOf61)) ⟨by rw [e0]; rfl, rfl⟩; exfalso; apply e0; simp_all [calledM]; done) | (by_cases e0 : calledM s = ⟨[3, -1, -1], -1⟩; exact K.fin (V.one (V.cellN Tryz.isAgg61 Tryz.sizeOf61)) ⟨by rw [e0]; rfl, rfl⟩; exfalso; apply e0; simp_all [calledM]; done)
            · skip
              refine AW.seqR ?_
              refine R.seql ?_
              refine R.assign ?_
              refine R.fin [2, 22] ?_
              refine W.cond (fun ht22 => ?_) (fun ht22 => ?_)
              · skip
                refine AW.seqR ?_
                refine R.buildSlice Tryz.underlying59 Tryz.sizeOf3 Tryz.zeroValue3 ?_
                refine R.build (places := #[(0, 1), (1, 1)]) Tryz.underlying61 (fun w => by simp) Tryz.zeroValue61 ?_
                refine R.storeOwn Tryz.sizeOf61 ?_
                refine R.fin [2] ?_
                refine AW.ret ?_
                refine K.blR ?_
                refine K.thR ?_
                first | (by_cases e0 : calledM s = ⟨[2], 1⟩; exact K.fin (V.one (V.cellN Tryz.isAgg61 Tryz.sizeOf61)) ⟨by rw [e0]; rfl, rfl⟩; exfalso; apply e0; simp_all [calledM]; done) | (by_cases e0 : calledM s = ⟨[1], 2⟩; exact K.fin (V.one (V.cellN Tryz.isAgg61 Tryz.sizeOf61)) ⟨by rw [e0]; rfl, rfl⟩; exfalso; apply e0; simp_all [calledM]; done) | (by_cases e0 : calledM s = ⟨[2, 1], 2⟩; exact K.fin (V.one (V.cellN Tryz.isAgg61 Tryz.sizeOf61)) ⟨by rw [e0]; rfl, rfl⟩; exfalso; apply e0; simp_all [calledM]; done) | (by_cases e0 : calledM s = ⟨[-2], 3⟩; exact K.fin (V.one (V.cellN Tryz.isAgg61 Tryz.sizeOf61)) ⟨by rw [e0]; rfl, rfl⟩; exfalso; apply e0; simp_all [calledM]; done) | (by_cases e0 : calledM s = ⟨[-1, -1], -1⟩; exact K.fin (V.one (V.cellN Tryz.isAgg61 Tryz.sizeOf61)) ⟨by rw [e0]; rfl, rfl⟩; exfalso; apply e0; simp_all [calledM]; done) | (by_cases e0 : calledM s = ⟨[3, -1, -1], -1⟩; exact K.fin (V.one (V.cellN Tryz.isAgg61 Tryz.sizeOf61)) ⟨by rw [e0]; rfl, rfl⟩; exfalso; apply e0; simp_all [calledM]; done)
              · skip
                refine AW.skip ?_
                refine K.blN ?_
                refine K.thN ?_
                refine AW.seqR ?_
                refine R.buildSlice Tryz.underlying59 Tryz.sizeOf3 Tryz.zeroValue3 ?_
                refine R.build (places := #[(0, 1), (1, 1)]) Tryz.underlying61 (fun w => by simp) Tryz.zeroValue61 ?_
                refine R.storeOwn Tryz.sizeOf61 ?_
                refine R.fin [2] ?_
                refine AW.ret ?_
                first | (by_cases e0 : calledM s = ⟨[2], 1⟩; exact K.fin (V.one (V.cellN Tryz.isAgg61 Tryz.sizeOf61)) ⟨by rw [e0]; rfl, rfl⟩; exfalso; apply e0; simp_all [calledM]; done) | (by_cases e0 : calledM s = ⟨[1], 2⟩; exact K.fin (V.one (V.cellN Tryz.isAgg61 Tryz.sizeOf61)) ⟨by rw [e0]; rfl, rfl⟩; exfalso; apply e0; simp_all [calledM]; done) | (by_cases e0 : calledM s = ⟨[2, 1], 2⟩; exact K.fin (V.one (V.cellN Tryz.isAgg61 Tryz.sizeOf61)) ⟨by rw [e0]; rfl, rfl⟩; exfalso; apply e0; simp_all [calledM]; done) | (by_cases e0 : calledM s = ⟨[-2], 3⟩; exact K.fin (V.one (V.cellN Tryz.isAgg61 Tryz.sizeOf61)) ⟨by rw [e0]; rfl, rfl⟩; exfalso; apply e0; simp_all [calledM]; done) | (by_cases e0 : calledM s = ⟨[-1, -1], -1⟩; exact K.fin (V.one (V.cellN Tryz.isAgg61 Tryz.sizeOf61)) ⟨by rw [e0]; rfl, rfl⟩; exfalso; apply e0; simp_all [calledM]; done) | (by_cases e0 : calledM s = ⟨[3, -1, -1], -1⟩; exact K.fin (V.one (V.cellN Tryz.isAgg61 Tryz.sizeOf61)) ⟨by rw [e0]; rfl, rfl⟩; exfalso; apply e0; simp_all [calledM]; done)

theorem c28 (e : Expr) (Hp : List AObj) : AFun Tryz.prog 28 [exprA e] Hp (signA (signN e.op e.text)) := by
  refine ACall.body [.cell 2 61] [0] Tryz.func28 Tryz.ntmps28 (fun d => ?_)
  refine AW.seqR ?_
  refine R.boxRo ?_
  refine R.alloc Tryz.zeroValue61 ?_
  refine R.fin [1, 2] ?_
  refine W.seq ?_
  refine AW.seqR ?_
  refine R.fieldAddrRo (off := 0) Tryz.underlying26 Tryz.sizeOf3 ?_
  refine R.loadRo Tryz.isAgg3 ?_
  refine R.fin [1, 2, 4] ?_
  refine AW.block ?_
  refine AW.seqR ?_
  refine R.eql ?_
  refine R.assign ?_
  refine R.fin [1, 2, 4, 5] ?_
  refine W.cond (fun ht5 => ?_) (fun ht5 => ?_)
  · skip
    refine AW.seqR ?_
    refine R.buildSlice Tryz.underlying59 Tryz.sizeOf3 Tryz.zeroValue3 ?_
    refine R.build (places := #[(0, 1), (1, 1)]) Tryz.underlying61 (fun w => by simp) Tryz.zeroValue61 ?_
    refine R.storeOwn Tryz.sizeOf61 ?_
    refine R.fin [2] ?_
    refine AW.ret ?_
    refine K.blR ?_
    refine K.thR ?_
    first | (by_cases e0 : signN e.op e.text = ⟨[1], 1⟩; exact K.fin (V.one (V.cellN Tryz.isAgg61 Tryz.sizeOf61)) ⟨by rw [e0]; rfl, rfl⟩; exfalso; apply e0; simp_all [signN]; done) | (by_cases e0 : signN e.op e.text = ⟨[3], 3⟩; exact K.fin (V.one (V.cellN Tryz.isAgg61 Tryz.sizeOf61)) ⟨by rw [e0]; rfl, rfl⟩; exfalso; apply e0; simp_all [signN]; done) | (by_cases e0 : signN e.op e.text = markedM e.text; exact K.fin (V.one (V.cellN Tryz.isAgg61 Tryz.sizeOf61)) ⟨by rw [e0], rfl⟩ (hlow := low_sign _); exfalso; apply e0; simp_all [signN]; done) | (by_cases e0 : signN e.op e.text = calledM e.text; exact K.fin (V.one (V.cellN Tryz.isAgg61 Tryz.sizeOf61)) ⟨by rw [e0], rfl⟩ (hlow := low_sign _); exfalso; apply e0; simp_all [signN]; done)
  · skip
    refine AW.seqR ?_
    refine R.eql ?_
    refine R.assign ?_
    refine R.fin [1, 2, 4, 9] ?_
    refine W.cond (fun ht9 => ?_) (fun ht9 => ?_)
    · skip
      refine AW.seqR ?_
      refine R.buildSlice Tryz.underlying59 Tryz.sizeOf3 Tryz.zeroValue3 ?_
      refine R.build (places := #[(0, 1), (1, 1)]) Tryz.underlying61 (fun w => by simp) Tryz.zeroValue61 ?_
      refine R.storeOwn Tryz.sizeOf61 ?_
      refine R.fin [2] ?_
      refine AW.ret ?_
      refine K.blR ?_
      refine K.thR ?_
      first | (by_cases e0 : signN e.op e.text = ⟨[1], 1⟩; exact K.fin (V.one (V.cellN Tryz.isAgg61 Tryz.sizeOf61)) ⟨by rw [e0]; rfl, rfl⟩; exfalso; apply e0; simp_all [signN]; done) | (by_cases e0 : signN e.op e.text = ⟨[3], 3⟩; exact K.fin (V.one (V.cellN Tryz.isAgg61 Tryz.sizeOf61)) ⟨by rw [e0]; rfl, rfl⟩; exfalso; apply e0; simp_all [signN]; done) | (by_cases e0 : signN e.op e.text = markedM e.text; exact K.fin (V.one (V.cellN Tryz.isAgg61 Tryz.sizeOf61)) ⟨by rw [e0], rfl⟩ (hlow := low_sign _); exfalso; apply e0; simp_all [signN]; done) | (by_cases e0 : signN e.op e.text = calledM e.text; exact K.fin (V.one (V.cellN Tryz.isAgg61 Tryz.sizeOf61)) ⟨by rw [e0], rfl⟩ (hlow := low_sign _); exfalso; apply e0; simp_all [signN]; done)
    · skip
      refine AW.seqR ?_
      refine R.eql ?_
      refine R.assign ?_
      refine R.fin [1, 2, 13] ?_
      refine W.cond (fun ht13 => ?_) (fun ht13 => ?_)
      · skip
        refine AW.seqR ?_
        refine R.fieldAddrRo (off := 1) Tryz.underlying26 Tryz.sizeOf9 ?_
        refine R.loadRo Tryz.isAgg9 ?_
        refine R.call Tryz.call48 (c48 e.text _) ?_
        refine R.storeOwn Tryz.sizeOf61 ?_
        refine R.fin [2] ?_
        refine AW.ret ?_
        refine K.blR ?_
        refine K.thR ?_
        first | (by_cases e0 : signN e.op e.text = ⟨[1], 1⟩; exact K.fin (V.one (V.cellN Tryz.isAgg61 Tryz.sizeOf61)) ⟨by rw [e0]; rfl, rfl⟩; exfalso; apply e0; simp_all [signN]; done) | (by_cases e0 : signN e.op e.text = ⟨[3], 3⟩; exact K.fin (V.one (V.cellN Tryz.isAgg61 Tryz.sizeOf61)) ⟨by rw [e0]; rfl, rfl⟩; exfalso; apply e0; simp_all [signN]; done) | (by_cases e0 : signN e.op e.text = markedM e.text; exact K.fin (V.one (V.cellN Tryz.isAgg61 Tryz.sizeOf61)) ⟨by rw [e0], rfl⟩ (hlow := low_sign _); exfalso; apply e0; simp_all [signN]; done) | (by_cases e0 : signN e.op e.text = calledM e.text; exact K.fin (V.one (V.cellN Tryz.isAgg61 Tryz.sizeOf61)) ⟨by rw [e0], rfl⟩ (hlow := low_sign _); exfalso; apply e0; simp_all [signN]; done)
      · skip
        refine AW.skip ?_
        refine K.blN ?_
        refine K.thN ?_
        refine AW.seqR ?_
        refine R.fieldAddrRo (off := 1) Tryz.underlying26 Tryz.sizeOf9 ?_
        refine R.loadRo Tryz.isAgg9 ?_
        refine R.call Tryz.call49 (c49 e.text _) ?_
        refine R.storeOwn Tryz.sizeOf61 ?_
        refine R.fin [2] ?_
        refine AW.ret ?_
        first | (by_cases e0 : signN e.op e.text = ⟨[1], 1⟩; exact K.fin (V.one (V.cellN Tryz.isAgg61 Tryz.sizeOf61)) ⟨by rw [e0]; rfl, rfl⟩; exfalso; apply e0; simp_all [signN]; done) | (by_cases e0 : signN e.op e.text = ⟨[3], 3⟩; exact K.fin (V.one (V.cellN Tryz.isAgg61 Tryz.sizeOf61)) ⟨by rw [e0]; rfl, rfl⟩; exfalso; apply e0; simp_all [signN]; done) | (by_cases e0 : signN e.op e.text = markedM e.text; exact K.fin (V.one (V.cellN Tryz.isAgg61 Tryz.sizeOf61)) ⟨by rw [e0], rfl⟩ (hlow := low_sign _); exfalso; apply e0; simp_all [signN]; done) | (by_cases e0 : signN e.op e.text = calledM e.text; exact K.fin (V.one (V.cellN Tryz.isAgg61 Tryz.sizeOf61)) ⟨by rw [e0], rfl⟩ (hlow := low_sign _); exfalso; apply e0; simp_all [signN]; done)

theorem c50 (a b : Int) (Hp : List AObj) : AFun Tryz.prog 50 [intA a, intA b] Hp (.tup [intA (meetM a b).1, boolA (meetM a b).2]) := by
  refine ACall.body [.tmp 4, .tmp 5] [0, 1] Tryz.func50 Tryz.ntmps50 (fun d => ?_)
  refine AW.seqR ?_
  refine R.assign ?_
  refine R.assign ?_
  refine R.fin [0, 1] ?_
  refine W.seq ?_
  refine AW.block ?_
  refine AW.seqR ?_
  refine R.move ?_
  refine R.eql ?_
  refine R.assign ?_
  refine R.fin [0, 1, 6] ?_
  refine W.cond (fun ht6 => ?_) (fun ht6 => ?_)
  · skip
    refine AW.seqR ?_
    refine R.move ?_
    refine R.assign ?_
    refine R.assign ?_
    refine R.fin [4, 5] ?_
    refine AW.ret ?_
    refine K.blR ?_
    refine K.thR ?_
    first | (by_cases e0 : meetM a b = (b, true); exact K.fin (V.two V.tmp V.tmp) ⟨by rw [e0], rfl⟩; exfalso; apply e0; simp_all [meetM]; done) | (by_cases e0 : meetM a b = (a, true); exact K.fin (V.two V.tmp V.tmp) ⟨by rw [e0], rfl⟩; exfalso; apply e0; simp_all [meetM]; done) | (by_cases e0 : meetM a b = (0, false); exact K.fin (V.two V.tmp V.tmp) ⟨by rw [e0], rfl⟩; exfalso; apply e0; simp_all [meetM]; done)
  · skip
    refine AW.seqR ?_
    refine R.move ?_
    refine R.eql ?_
    refine R.move ?_
    refine G.move ?_
    refine G.move ?_
    refine G.eql ?_
    refine R.pickOr ?_
    refine R.assign ?_
    refine R.fin [0, 10] ?_
    refine W.cond (fun ht10 => ?_) (fun ht10 => ?_)
    · skip
      refine AW.seqR ?_
      refine R.move ?_
      refine R.assign ?_
      refine R.assign ?_
      refine R.fin [4, 5] ?_
      refine AW.ret ?_
      refine K.blR ?_
      refine K.thR ?_
      first | (by_cases e0 : meetM a b = (b, true); exact K.fin (V.two V.tmp V.tmp) ⟨by rw [e0], rfl⟩; exfalso; apply e0; simp_all [meetM]; done) | (by_cases e0 : meetM a b = (a, true); exact K.fin (V.two V.tmp V.tmp) ⟨by rw [e0], rfl⟩; exfalso; apply e0; simp_all [meetM]; done) | (by_cases e0 : meetM a b = (0, false); exact K.fin (V.two V.tmp V.tmp) ⟨by rw [e0], rfl⟩; exfalso; apply e0; simp_all [meetM]; done)
    · skip
      refine AW.skip ?_
      refine K.blN ?_
      refine K.thN ?_
      refine AW.seqR ?_
      refine R.assign ?_
      refine R.assign ?_
      refine R.fin [4, 5] ?_
      refine AW.ret ?_
      first | (by_cases e0 : meetM a b = (b, true); exact K.fin (V.two V.tmp V.tmp) ⟨by rw [e0], rfl⟩; exfalso; apply e0; simp_all [meetM]; done) | (by_cases e0 : meetM a b = (a, true); exact K.fin (V.two V.tmp V.tmp) ⟨by rw [e0], rfl⟩; exfalso; apply e0; simp_all [meetM]; done) | (by_cases e0 : meetM a b = (0, false); exact K.fin (V.two V.tmp V.tmp) ⟨by rw [e0], rfl⟩; exfalso; apply e0; simp_all [meetM]; done)

structure FitAt (s : Sign) (ks : List Int) (x : Nat × Int) : Prop where
  le : x.1 ≤ ks.length
  eq : fitK s.kids ks 0 = fitK (s.kids.drop x.1) (ks.drop x.1) x.2
theorem FitAt.step {s : Sign} {ks : List Int} {x : Nat × Int} (h : FitAt s ks x) (hk : x.1 < ks.length) (hs : x.1 < s.kids.length) : fitK s.kids ks 0 = (if s.kids[x.1] == -2 then fitK (s.kids.drop (x.1 + 1)) (ks.drop (x.1 + 1)) x.2 else if s.kids[x.1] == -1 then (if (meetM x.2 ks[x.1]).2 then fitK (s.kids.drop (x.1 + 1)) (ks.drop (x.1 + 1)) (meetM x.2 ks[x.1]).1 else none) else if (meetM s.kids[x.1] ks[x.1]).2 then fitK (s.kids.drop (x.1 + 1)) (ks.drop (x.1 + 1)) x.2 else none) := by
  rw [h.eq, List.drop_eq_getElem_cons hk, List.drop_eq_getElem_cons hs, fitK]
theorem FitAt.skip {s : Sign} {ks : List Int} {x : Nat × Int} (h : FitAt s ks x) (hk : x.1 < ks.length) (hs : x.1 < s.kids.length) (h2 : (s.kids[x.1] == -2) = true) : FitAt s ks (x.1 + 1, x.2) := ⟨hk, by rw [h.step hk hs, if_pos h2]⟩
theorem FitAt.same {s : Sign} {ks : List Int} {x : Nat × Int} (h : FitAt s ks x) (hk : x.1 < ks.length) (hs : x.1 < s.kids.length) (h2 : (s.kids[x.1] == -2) = false) (h1 : (s.kids[x.1] == -1) = true) (hm : (meetM x.2 ks[x.1]).2 = true) : FitAt s ks (x.1 + 1, (meetM x.2 ks[x.1]).1) := ⟨hk, by rw [h.step hk hs, if_neg (by rw [h2]; simp), if_pos h1, if_pos hm]⟩
theorem FitAt.want {s : Sign} {ks : List Int} {x : Nat × Int} (h : FitAt s ks x) (hk : x.1 < ks.length) (hs : x.1 < s.kids.length) (h2 : (s.kids[x.1] == -2) = false) (h1 : (s.kids[x.1] == -1) = false) (hm : (meetM s.kids[x.1] ks[x.1]).2 = true) : FitAt s ks (x.1 + 1, x.2) := ⟨hk, by rw [h.step hk hs, if_neg (by rw [h2]; simp), if_neg (by rw [h1]; simp), if_pos hm]⟩
theorem FitAt.bad {s : Sign} {ks : List Int} {x : Nat × Int} (h : FitAt s ks x) (hk : x.1 < ks.length) (hs : x.1 < s.kids.length) (h2 : (s.kids[x.1] == -2) = false) (hm : (if s.kids[x.1] == -1 then (meetM x.2 ks[x.1]).2 else (meetM s.kids[x.1] ks[x.1]).2) = false) : fitM s ks = (0, 10) := by
  unfold fitM
  rw [h.step hk hs, if_neg (by rw [h2]; simp)]
  split at hm
  · rename_i h1
    rw [if_pos h1, if_neg (by rw [hm]; simp)]
  · rename_i h1
    rw [if_neg h1, if_neg (by rw [hm]; simp)]
theorem FitAt.out {s : Sign} {ks : List Int} {x : Nat × Int} (h : FitAt s ks x) (hk : ks.length ≤ x.1) : fitM s ks = if s.own == -1 then (x.2, 0) else (s.own, 0) := by
  unfold fitM
  rw [h.eq, List.drop_of_length_le hk]
  cases s.kids.drop x.1 <;> rfl
theorem c29 (s : Sign) (ks : List Int) (hks : ks.length ≤ s.kids.length) (hk2 : ks.length ≤ 1048576) (Hp : List AObj) : AFun Tryz.prog 29 [signA s, .slice false 1 (ks.map intA)] Hp (.tup [intA (fitM s ks).1, intA (fitM s ks).2]) := by
  refine ACall.body [.tmp 4, .tmp 5] [0, 1] Tryz.func29 Tryz.ntmps29 (fun d => ?_)
  refine AW.seqR ?_
  refine R.boxRo ?_
  refine R.assign ?_
  refine R.assign ?_
  refine R.fin [1, 2] ?_
  refine AW.seqR ?_
  refine R.alloc Tryz.zeroValue3 ?_
  refine R.storeOwn Tryz.sizeOf3 ?_
  refine R.fin [1, 2, 6] ?_
  refine W.seq ?_
  refine AW.seqR ?_
  refine R.move ?_
  refine R.len Tryz.underlying59 ?_
  refine R.move ?_
  refine R.fin [2, 6, 13, 14, 15] ?_
  refine AW.loopC (α := Nat × Int) (fun x => ⟨49, setF 2 (.ro [.slice false 1 (s.kids.map intA), intA s.own]) (setF 6 (.ptr (oid Hp.length 0) 0) (setF 13 (.slice false 1 (ks.map intA)) (setF 14 (intA (ks.length : Nat)) (setF 15 (intA (x.1 : Nat)) (fun _ => .any))))), Hp, [.cells 3 [intA x.2]], [], none⟩) (fun x => FitAt s ks x) (fun x => ks.length - x.1) ((0, 0)) ⟨Nat.zero_le _, rfl⟩ (StLe.of_eq (by simp)) rfl (fun x hx => ?_)
  refine AW.seqR ?_
  refine R.lss ?_
  refine R.fin [2, 6, 13, 14, 15, 16] ?_
  refine W.condX (fun ht16 => ?_) (fun ht16 => ?_)
  · skip
    have hlt : x.1 < ks.length := by simpa using ht16
    have hls : x.1 < s.kids.length := by omega
    refine W.seq ?_
    refine AW.block ?_
    refine AW.seqR ?_
    refine R.move ?_
    refine R.indexAddr (x.1) (intA ks[x.1]) Tryz.underlying59 Tryz.sizeOf3 (getMap hlt) ?_
    refine R.loadRo Tryz.isAgg3 ?_
    refine R.assign ?_
    refine R.assign ?_
    refine R.fin [2, 6, 7, 8, 13, 14, 15] ?_
    refine AW.seqR ?_
    refine R.fieldAddrRo (off := 0) Tryz.underlying61 Tryz.sizeOf59 ?_
    refine R.loadRo Tryz.isAgg59 ?_
    refine R.move ?_
    refine R.indexAddr (x.1) (intA s.kids[x.1]) Tryz.underlying59 Tryz.sizeOf3 (getMap hls) ?_
    refine R.loadRo Tryz.isAgg3 ?_
    refine R.alloc Tryz.zeroValue3 ?_
    refine R.storeOwn Tryz.sizeOf3 ?_
    refine R.fin [2, 6, 8, 9, 13, 14, 15] ?_
    refine W.seq ?_
    refine AW.seqR ?_
    refine R.loadOwn Tryz.isAgg3 ?_
    refine R.eql ?_
    refine R.fin [2, 6, 8, 9, 13, 14, 15, 26] ?_
    refine W.cond (fun ht26 => ?_) (fun ht26 => ?_)
    · skip
      refine W.keep [2, 6, 13, 14, 15] ?_
      refine AW.exit ?_
      refine K.thE ?_
      refine K.blE ?_
      refine K.thN ?_
      refine AW.region ?_
      refine R.add64 ?_
      refine R.move ?_
      refine R.fin [2, 6, 13, 14, 15] ?_
      first | (refine K.lpN (x.1 + 1, x.2) (hx.skip hlt hls ht26) (by show ks.length - (x.1 + 1) < ks.length - x.1; omega) ?_; exact StCut.take (own := [.cells 3 [intA x.2]]) (fun _ => .refl _) (by repeat (first | exact lowF_any | refine lowF_set (by first | (simp [or_imp, forall_and]; done) | (simp [oid] <;> omega)) ?_)) (by intro y hy; rw [List.mem_singleton.1 hy]; intro z hz; rw [List.mem_singleton.1 hz]; simp) (by simp)) | (refine K.lpN (x.1 + 1, (meetM x.2 ks[x.1]).1) (hx.same hlt hls ht26 ht28 (by simpa using ht38)) (by show ks.length - (x.1 + 1) < ks.length - x.1; omega) ?_; exact StCut.take (own := [.cells 3 [intA (meetM x.2 ks[x.1]).1]]) (fun _ => .refl _) (by repeat (first | exact lowF_any | refine lowF_set (by first | (simp [or_imp, forall_and]; done) | (simp [oid] <;> omega)) ?_)) (by intro y hy; rw [List.mem_singleton.1 hy]; intro z hz; rw [List.mem_singleton.1 hz]; simp) (by simp)) | (refine K.lpN (x.1 + 1, x.2) (hx.want hlt hls ht26 ht28 (by simpa using ht38)) (by show ks.length - (x.1 + 1) < ks.length - x.1; omega) ?_; exact StCut.take (own := [.cells 3 [intA x.2]]) (fun _ => .refl _) (by repeat (first | exact lowF_any | refine lowF_set (by first | (simp [or_imp, forall_and]; done) | (simp [oid] <;> omega)) ?_)) (by intro y hy; rw [List.mem_singleton.1 hy]; intro z hz; rw [List.mem_singleton.1 hz]; simp) (by simp))
    · skip
      refine AW.skip ?_
      refine K.thN ?_
      refine AW.seqR ?_
      refine R.assign ?_
      refine R.fin [2, 6, 8, 9, 10, 13, 14, 15] ?_
      refine W.seq ?_
      refine AW.seqR ?_
      refine R.loadOwn Tryz.isAgg3 ?_
      refine R.eql ?_
      refine R.fin [2, 6, 8, 10, 13, 14, 15, 28] ?_
      refine W.cond (fun ht28 => ?_) (fun ht28 => ?_)
      · skip
        refine AW.region ?_
        refine R.assign ?_
        refine R.fin [2, 6, 8, 10, 13, 14, 15] ?_
        refine K.thN ?_
        refine AW.seqR ?_
        refine R.move ?_
        refine R.nilPtr ?_
        refine R.loadOwn Tryz.isAgg3 ?_
        refine R.move ?_
        refine R.call Tryz.call50 (c50 _ _ _) ?_
        refine R.move ?_
        refine R.extract ?_
        refine R.extract ?_
        refine R.assign ?_
        refine R.assign ?_
        refine R.fin [2, 6, 10, 11, 12, 13, 14, 15] ?_
        refine W.seq ?_
        refine AW.seqR ?_
        refine R.move ?_
        refine R.not ?_
        refine R.fin [2, 6, 10, 11, 13, 14, 15, 38] ?_
        refine W.cond (fun ht38 => ?_) (fun ht38 => ?_)
        · skip
          have hbad := hx.bad hlt hls ht26 (by first | (rw [if_pos ht28]; simpa using ht38) | (rw [if_neg (by rw [ht28]; simp)]; simpa using ht38))
          refine AW.seqR ?_
          refine R.assign ?_
          refine R.assign ?_
          refine R.fin [4, 5] ?_
          refine AW.ret ?_
          refine K.thR ?_
          refine K.blR ?_
          refine K.thR ?_
          refine K.lpR ?_
          refine K.thR ?_
          exact K.fin (V.two V.tmp V.tmp) ⟨by rw [hbad], rfl⟩
        · skip
          refine AW.skip ?_
          refine K.thN ?_
          refine AW.region ?_
          refine R.move ?_
          refine R.move ?_
          refine R.nilPtr ?_
          refine R.storeOwn Tryz.sizeOf3 ?_
          refine R.fin [2, 6, 13, 14, 15] ?_
          refine K.blN ?_
          refine K.thN ?_
          refine AW.region ?_
          refine R.add64 ?_
          refine R.move ?_
          refine R.fin [2, 6, 13, 14, 15] ?_
          first | (refine K.lpN (x.1 + 1, x.2) (hx.skip hlt hls ht26) (by show ks.length - (x.1 + 1) < ks.length - x.1; omega) ?_; exact StCut.take (own := [.cells 3 [intA x.2]]) (fun _ => .refl _) (by repeat (first | exact lowF_any | refine lowF_set (by first | (simp [or_imp, forall_and]; done) | (simp [oid] <;> omega)) ?_)) (by intro y hy; rw [List.mem_singleton.1 hy]; intro z hz; rw [List.mem_singleton.1 hz]; simp) (by simp)) | (refine K.lpN (x.1 + 1, (meetM x.2 ks[x.1]).1) (hx.same hlt hls ht26 ht28 (by simpa using ht38)) (by show ks.length - (x.1 + 1) < ks.length - x.1; omega) ?_; exact StCut.take (own := [.cells 3 [intA (meetM x.2 ks[x.1]).1]]) (fun _ => .refl _) (by repeat (first | exact lowF_any | refine lowF_set (by first | (simp [or_imp, forall_and]; done) | (simp [oid] <;> omega)) ?_)) (by intro y hy; rw [List.mem_singleton.1 hy]; intro z hz; rw [List.mem_singleton.1 hz]; simp) (by simp)) | (refine K.lpN (x.1 + 1, x.2) (hx.want hlt hls ht26 ht28 (by simpa using ht38)) (by show ks.length - (x.1 + 1) < ks.length - x.1; omega) ?_; exact StCut.take (own := [.cells 3 [intA x.2]]) (fun _ => .refl _) (by repeat (first | exact lowF_any | refine lowF_set (by first | (simp [or_imp, forall_and]; done) | (simp [oid] <;> omega)) ?_)) (by intro y hy; rw [List.mem_singleton.1 hy]; intro z hz; rw [List.mem_singleton.1 hz]; simp) (by simp))
      · skip
        refine AW.skip ?_
        refine K.thN ?_
        refine AW.seqR ?_
        refine R.move ?_
        refine R.nilPtr ?_
        refine R.loadOwn Tryz.isAgg3 ?_
        refine R.move ?_
        refine R.call Tryz.call50 (c50 _ _ _) ?_
        refine R.move ?_
        refine R.extract ?_
        refine R.extract ?_
        refine R.assign ?_
        refine R.assign ?_
        refine R.fin [2, 6, 10, 11, 12, 13, 14, 15] ?_
        refine W.seq ?_
        refine AW.seqR ?_
        refine R.move ?_
        refine R.not ?_
        refine R.fin [2, 6, 10, 11, 13, 14, 15, 38] ?_
        refine W.cond (fun ht38 => ?_) (fun ht38 => ?_)
        · skip
          have hbad := hx.bad hlt hls ht26 (by first | (rw [if_pos ht28]; simpa using ht38) | (rw [if_neg (by rw [ht28]; simp)]; simpa using ht38))
          refine AW.seqR ?_
          refine R.assign ?_
          refine R.assign ?_
          refine R.fin [4, 5] ?_
          refine AW.ret ?_
          refine K.thR ?_
          refine K.blR ?_
          refine K.thR ?_
          refine K.lpR ?_
          refine K.thR ?_
          exact K.fin (V.two V.tmp V.tmp) ⟨by rw [hbad], rfl⟩
        · skip
          refine AW.skip ?_
          refine K.thN ?_
          refine AW.region ?_
          refine R.move ?_
          refine R.move ?_
          refine R.nilPtr ?_
          refine R.storeOwn Tryz.sizeOf3 ?_
          refine R.fin [2, 6, 13, 14, 15] ?_
          refine K.blN ?_
          refine K.thN ?_
          refine AW.region ?_
          refine R.add64 ?_
          refine R.move ?_
          refine R.fin [2, 6, 13, 14, 15] ?_
          first | (refine K.lpN (x.1 + 1, x.2) (hx.skip hlt hls ht26) (by show ks.length - (x.1 + 1) < ks.length - x.1; omega) ?_; exact StCut.take (own := [.cells 3 [intA x.2]]) (fun _ => .refl _) (by repeat (first | exact lowF_any | refine lowF_set (by first | (simp [or_imp, forall_and]; done) | (simp [oid] <;> omega)) ?_)) (by intro y hy; rw [List.mem_singleton.1 hy]; intro z hz; rw [List.mem_singleton.1 hz]; simp) (by simp)) | (refine K.lpN (x.1 + 1, (meetM x.2 ks[x.1]).1) (hx.same hlt hls ht26 ht28 (by simpa using ht38)) (by show ks.length - (x.1 + 1) < ks.length - x.1; omega) ?_; exact StCut.take (own := [.cells 3 [intA (meetM x.2 ks[x.1]).1]]) (fun _ => .refl _) (by repeat (first | exact lowF_any | refine lowF_set (by first | (simp [or_imp, forall_and]; done) | (simp [oid] <;> omega)) ?_)) (by intro y hy; rw [List.mem_singleton.1 hy]; intro z hz; rw [List.mem_singleton.1 hz]; simp) (by simp)) | (refine K.lpN (x.1 + 1, x.2) (hx.want hlt hls ht26 ht28 (by simpa using ht38)) (by show ks.length - (x.1 + 1) < ks.length - x.1; omega) ?_; exact StCut.take (own := [.cells 3 [intA x.2]]) (fun _ => .refl _) (by repeat (first | exact lowF_any | refine lowF_set (by first | (simp [or_imp, forall_and]; done) | (simp [oid] <;> omega)) ?_)) (by intro y hy; rw [List.mem_singleton.1 hy]; intro z hz; rw [List.mem_singleton.1 hz]; simp) (by simp))
  · skip
    have hxe : ks.length ≤ x.1 := by simpa using ht16
    have hout := hx.out hxe
    refine K.lpE ?_
    refine K.thN ?_
    refine W.seq ?_
    refine AW.seqR ?_
    refine R.fieldAddrRo (off := 1) Tryz.underlying61 Tryz.sizeOf3 ?_
    refine R.loadRo Tryz.isAgg3 ?_
    refine R.eql ?_
    refine R.fin [2, 6, 45] ?_
    refine W.cond (fun ht45 => ?_) (fun ht45 => ?_)
    · skip
      refine AW.seqR ?_
      refine R.loadOwn Tryz.isAgg3 ?_
      refine R.assign ?_
      refine R.assign ?_
      refine R.fin [4, 5] ?_
      refine AW.ret ?_
      refine K.thR ?_
      exact K.fin (V.two V.tmp V.tmp) ⟨by rw [hout, if_pos ht45], rfl⟩
    · skip
      refine AW.skip ?_
      refine K.thN ?_
      refine AW.seqR ?_
      refine R.fieldAddrRo (off := 1) Tryz.underlying61 Tryz.sizeOf3 ?_
      refine R.loadRo Tryz.isAgg3 ?_
      refine R.assign ?_
      refine R.assign ?_
      refine R.fin [4, 5] ?_
      refine AW.ret ?_
      exact K.fin (V.two V.tmp V.tmp) ⟨by rw [hout, if_neg (by rw [ht45]; simp)], rfl⟩

theorem low_intl {n k : Nat} {own : Bool} {l : List Int} : Low n (.slice own k (l.map intA)) := low_slice.2 fun y hy => by
  obtain ⟨z, _, rfl⟩ := List.mem_map.1 hy
  simp
theorem low_roE {n : Nat} {e : Expr} : Low n (.ro (exprC e)) := by have := exprA_low n e; rw [exprA_eq] at this; simpa using this
theorem find_col {c : List Col} {t : Str} (h : ¬ (findM t c < 0)) : ∃ (j : Nat), findM t c = (j : Int) ∧ j < c.length := by
  obtain ⟨j, y, h2, _, h3⟩ := find_mem.1 h
  exact ⟨j, h3, (List.getElem?_eq_some_iff.1 h2).1⟩
theorem kind_val {c : List Col} {e : Expr} (h : (e.op == 1) = true) : kindE c e = (e.val.kind, 0) := by rw [kindE_eq]; unfold kindN; rw [if_pos h]
theorem kind_name {c : List Col} {e : Expr} (h1 : (e.op == 1) = false) (h : (e.op == 2) = true) : kindE c e = nameK c e.text := by rw [kindE_eq]; unfold kindN; rw [h1, if_pos h]; rfl
theorem kind_bad {c : List Col} {e : Expr} (h1 : (e.op == 1) = false) (h2 : (e.op == 2) = false) {x : Nat} (hx : x < e.kids.length) (h0 : ∀ (j : Nat) (y : Expr), j < x → e.kids[j]? = some y → ((kindE c y).2 != 0) = false) (hb : ((kindE c e.kids[x]).2 != 0) = true) : kindE c e = (0, (kindE c e.kids[x]).2) := by
  rw [kindE_eq]
  unfold kindN
  rw [h1, h2]
  have : (e.kids.map (kindE c)).find? (fun q => q.2 != 0) = some ((e.kids.map (kindE c))[x]'(by simpa using hx)) := find_at (by simpa using hx) (by simpa using hb) (fun j y hj hy => by
    rw [List.getElem?_map, Option.map_eq_some_iff] at hy
    obtain ⟨z, hz, rfl⟩ := hy
    exact h0 j z hj hz)
  rw [this]
  simp
theorem kind_all {c : List Col} {e : Expr} (h1 : (e.op == 1) = false) (h2 : (e.op == 2) = false) (h0 : ∀ (j : Nat) (y : Expr), j < e.kids.length → e.kids[j]? = some y → ((kindE c y).2 != 0) = false) : kindE c e = fitM (signN e.op e.text) (e.kids.map fun y => (kindE c y).1) := by
  rw [kindE_eq]
  unfold kindN
  rw [h1, h2]
  have : (e.kids.map (kindE c)).find? (fun q => q.2 != 0) = none := find_none (fun j y hy => by
    rw [List.getElem?_map, Option.map_eq_some_iff] at hy
    obtain ⟨z, hz, rfl⟩ := hy
    exact h0 j z (List.getElem?_eq_some_iff.1 hz).1 hz)
  rw [this]
  simp only [List.map_map]
  rfl
theorem ints_snoc (f : Expr → Int) (l : List Expr) {x : Nat} (h : x < l.length) : ((l.take x).map f).map intA ++ [intA (f l[x])] = ((l.take (x + 1)).map f).map intA := by rw [List.take_succ_eq_append_getElem h, List.map_append, List.map_append]; rfl
theorem c16 (c : List Col) (hc : OkCols c) : ∀ (n : Nat) (e : Expr), okE n e → allE nodeM e = true → ∀ Hp : List AObj, AFun Tryz.prog 16 [exprA e, colsA c] Hp (.tup [intA (kindE c e).1, intA (kindE c e).2]) := by
  intro n
  induction n with
  | zero => exact fun e h => h.elim
  | succ n ih =>
  intro e hok hnd Hp
  have hnd0 := hnd
  rw [allE_eq, Bool.and_eq_true] at hnd0
  refine ACall.body [.tmp 4, .tmp 5] [0, 1] Tryz.func16 Tryz.ntmps16 (fun d => ?_)
  refine AW.seqR ?_
  refine R.boxRo ?_
  refine R.assign ?_
  refine R.assign ?_
  refine R.fin [1, 2] ?_
  refine W.seq ?_
  refine AW.seqR ?_
  refine R.fieldAddrRo (off := 0) Tryz.underlying26 Tryz.sizeOf3 ?_
  refine R.loadRo Tryz.isAgg3 ?_
  refine R.fin [1, 2, 13] ?_
  refine AW.block ?_
  refine AW.seqR ?_
  refine R.eql ?_
  refine R.assign ?_
  refine R.fin [1, 2, 13, 14] ?_
  refine W.cond (fun ht14 => ?_) (fun ht14 => ?_)
  · skip
    have hk := kind_val (c := c) ht14
    refine AW.seqR ?_
    refine R.fieldAddrRo (off := 2) Tryz.underlying26 Tryz.sizeOf23 ?_
    refine R.fieldAddrRo (off := 0) Tryz.underlying23 Tryz.sizeOf3 ?_
    refine R.loadRo Tryz.isAgg3 ?_
    refine R.assign ?_
    refine R.assign ?_
    refine R.fin [4, 5] ?_
    refine AW.ret ?_
    refine K.blR ?_
    refine K.thR ?_
    exact K.fin (V.two V.tmp V.tmp) ⟨by rw [hk], rfl⟩
  · skip
    refine AW.seqR ?_
    refine R.eql ?_
    refine R.assign ?_
    refine R.fin [1, 2, 19] ?_
    refine W.cond (fun ht19 => ?_) (fun ht19 => ?_)
    · skip
      have hk := kind_name (c := c) ht14 ht19
      refine AW.seqR ?_
      refine R.move ?_
      refine R.fieldAddrRo (off := 1) Tryz.underlying26 Tryz.sizeOf9 ?_
      refine R.loadRo Tryz.isAgg9 ?_
      refine R.call Tryz.call27 (c27 c hc e.text _) ?_
      refine R.assign ?_
      refine R.fin [1, 6] ?_
      refine W.seq ?_
      refine AW.seqR ?_
      refine R.move ?_
      refine R.lss ?_
      refine R.fin [1, 6, 26] ?_
      refine W.cond (fun ht26 => ?_) (fun ht26 => ?_)
      · skip
        have hk2 : nameK c e.text = (0, 9) := if_pos (by simpa using ht26)
        refine AW.seqR ?_
        refine R.assign ?_
        refine R.assign ?_
        refine R.fin [4, 5] ?_
        refine AW.ret ?_
        refine K.thR ?_
        refine K.blR ?_
        refine K.thR ?_
        exact K.fin (V.two V.tmp V.tmp) ⟨by rw [hk, hk2], rfl⟩
      · skip
        have hneg : ¬ (findM e.text c < 0) := by simpa using ht26
        obtain ⟨j, hj, hjl⟩ := find_col hneg
        have hk2 : nameK c e.text = (c[j].kind, 0) := by
          unfold nameK
          rw [if_neg hneg, hj, Int.toNat_natCast, List.getD_eq_getElem?_getD, List.getElem?_eq_getElem hjl]
          rfl
        rw [hj]
        refine AW.skip ?_
        refine K.thN ?_
        refine AW.seqR ?_
        refine R.move ?_
        refine R.move ?_
        refine R.indexAddr (j) (colA c[j]) Tryz.underlying27 Tryz.sizeOf29 (getMap hjl) ?_
        refine R.fieldAddrRo (off := 1) Tryz.underlying29 Tryz.sizeOf3 ?_
        refine R.loadRo Tryz.isAgg3 ?_
        refine R.assign ?_
        refine R.assign ?_
        refine R.fin [4, 5] ?_
        refine AW.ret ?_
        refine K.blR ?_
        refine K.thR ?_
        exact K.fin (V.two V.tmp V.tmp) ⟨by rw [hk, hk2], rfl⟩
    · skip
      refine AW.skip ?_
      refine K.blN ?_
      refine K.thN ?_
      refine AW.seqR ?_
      refine R.assign ?_
      refine R.fin [1, 2, 7] ?_
      refine W.seq ?_
      refine AW.seqR ?_
      refine R.nilSl 7 1 ?_
      refine R.fieldAddrRo (off := 5) Tryz.underlying26 Tryz.sizeOf24 ?_
      refine R.loadRo Tryz.isAgg24 ?_
      refine R.len Tryz.underlying24 ?_
      refine R.move ?_
      refine R.fin [1, 2, 7, 33, 34, 35] ?_
      refine AW.loopC (α := Nat) (fun x => ⟨59, setF 1 (colsA c) (setF 2 (.ro (exprC e)) (setF 7 (.slice true 1 (((e.kids.take x).map fun y => (kindE c y).1).map intA)) (setF 33 (.slice false 6 (e.kids.map exprA)) (setF 34 (intA (e.kids.length : Nat)) (setF 35 (intA (x : Nat)) (fun _ => .any)))))), Hp, [], [], none⟩) (fun x => x ≤ e.kids.length ∧ ∀ (j : Nat) (y : Expr), j < x → e.kids[j]? = some y → ((kindE c y).2 != 0) = false) (fun x => e.kids.length - x) (0) ⟨Nat.zero_le _, fun j y h => by omega⟩ (StLe.of_eq (by simp)) rfl (fun x hx => ?_)
      refine AW.seqR ?_
      refine R.lss ?_
      refine R.fin [1, 2, 7, 33, 34, 35, 36] ?_
      refine W.condX (fun ht36 => ?_) (fun ht36 => ?_)
      · skip
        have hlt : x < e.kids.length := by simpa using ht36
        have hkl := hok.2.1
        refine W.seq ?_
        refine AW.block ?_
        refine AW.seqR ?_
        refine R.indexAddr (x) (exprA e.kids[x]) Tryz.underlying24 Tryz.sizeOf26 (getMap hlt) ?_
        refine R.loadRoN Tryz.isAgg26 Tryz.sizeOf26 ?_
        refine R.alloc Tryz.zeroValue26 ?_
        refine R.storeOwn Tryz.sizeOf26 ?_
        refine R.fin [1, 2, 7, 9, 33, 34, 35] ?_
        refine AW.seqR ?_
        refine R.loadOwnN Tryz.isAgg26 Tryz.sizeOf26 ?_
        refine R.move ?_
        refine R.call Tryz.call16 (ih e.kids[x] (hok.2.2 _ (List.getElem_mem hlt)) ((allL_iff _ _).1 hnd0.2 _ (List.getElem_mem hlt)) _) ?_
        refine R.move ?_
        refine R.extract ?_
        refine R.extract ?_
        refine R.assign ?_
        refine R.assign ?_
        refine R.fin [1, 2, 7, 10, 11, 33, 34, 35] ?_
        refine W.seq ?_
        refine AW.seqR ?_
        refine R.move ?_
        refine R.neq ?_
        refine R.fin [1, 2, 7, 10, 11, 33, 34, 35, 46] ?_
        refine W.cond (fun ht46 => ?_) (fun ht46 => ?_)
        · skip
          have hkb := kind_bad (c := c) ht14 ht19 hlt hx.2 ht46
          refine AW.seqR ?_
          refine R.move ?_
          refine R.assign ?_
          refine R.assign ?_
          refine R.fin [4, 5] ?_
          refine AW.ret ?_
          refine K.thR ?_
          refine K.blR ?_
          refine K.thR ?_
          refine K.lpR ?_
          refine K.thR ?_
          exact K.fin (V.two V.tmp V.tmp) ⟨by rw [hkb], rfl⟩
        · skip
          refine AW.skip ?_
          refine K.thN ?_
          refine AW.region ?_
          refine R.moveT ?_
          refine R.move ?_
          refine R.buildSlice Tryz.underlying59 Tryz.sizeOf3 Tryz.zeroValue3 ?_
          refine R.append Tryz.underlying59 Tryz.type3 ?_ ?_ ?_
          · simp only [List.length_map, List.length_take, List.length_cons, List.length_nil, Tryz.t3]; omega
          · simp only [List.length_map, List.length_take, List.length_cons, List.length_nil, Tryz.t3]; omega
          refine R.assignT ?_
          refine R.fin [1, 2, 7, 33, 34, 35] ?_
          refine K.blN ?_
          refine K.thN ?_
          refine AW.region ?_
          refine R.add64 ?_
          refine R.move ?_
          refine R.fin [1, 2, 7, 33, 34, 35] ?_
          refine K.lpN (x + 1) ⟨hlt, upto_succ hlt hx.2 ht46⟩ (by omega) ?_
          simp only [show Tryz.t3.size = 1 from rfl, ints_snoc]
          exact StCut.take (own := []) (fun _ => .refl _) (by repeat (first | exact lowF_any | refine lowF_set (by first | exact low_intl | exact low_roE | exact low_exprs | (simp [or_imp, forall_and]; done)) ?_)) (by simp) (by simp)
      · skip
        have hxe : e.kids.take x = e.kids := List.take_of_length_le (by simp at ht36; omega)
        have hxl : e.kids.length ≤ x := by simp at ht36; omega
        have hka := kind_all (c := c) ht14 ht19 (fun j y hj hy => hx.2 j y (by omega) hy)
        rw [hxe]
        refine K.lpE ?_
        refine K.thN ?_
        refine AW.seqR ?_
        refine R.loadRoN Tryz.isAgg26 Tryz.sizeOf26 ?_
        refine R.call Tryz.call28 (c28 e _) ?_
        refine R.move ?_
        refine R.call Tryz.call29 (c29 (signN e.op e.text) (e.kids.map fun y => (kindE c y).1) (by rw [sign_len hnd0.1 ht14 ht19]; simp) (by simpa using hok.2.1) _) ?_
        refine R.extract ?_
        refine R.extract ?_
        refine R.assign ?_
        refine R.assign ?_
        refine R.fin [4, 5] ?_
        refine AW.ret ?_
        exact K.fin (V.two V.tmp V.tmp) ⟨by rw [hka], rfl⟩

theorem rightE_node {e : Expr} (h : exprRightM e = true) : allE nodeM e = true := by
  rw [exprRight_eq] at h
  unfold refRightM at h
  rw [Bool.and_eq_true] at h
  exact h.2
theorem c8 (n : Nat) (e : Expr) (hok : okE n e) (hn : n ≤ 1048576) (c : List Col) (hc : OkCols c) (Hp : List AObj) : AFun Tryz.prog 8 [exprA e, colsA c] Hp (.tup [intA (kindR e c).1, intA (kindR e c).2]) := by
  refine ACall.body [.tmp 4, .tmp 5] [0, 1] Tryz.func8 Tryz.ntmps8 (fun d => ?_)
  refine AW.seqR ?_
  refine R.boxRo ?_
  refine R.assign ?_
  refine R.assign ?_
  refine R.fin [1, 2] ?_
  refine W.seq ?_
  refine AW.seqR ?_
  refine R.loadRoN Tryz.isAgg26 Tryz.sizeOf26 ?_
  refine R.call Tryz.call14 (c14 n e hok hn _) ?_
  refine R.not ?_
  refine R.move ?_
  refine G.move ?_
  refine G.call Tryz.call15 (fun hB => c15 c hc _) ?_
  refine G.not ?_
  refine R.pickOr ?_
  refine R.fin [1, 2, 13] ?_
  refine W.cond (fun ht13 => ?_) (fun ht13 => ?_)
  · skip
    have hk : kindR e c = (0, 1) := if_pos ht13
    refine AW.seqR ?_
    refine R.assign ?_
    refine R.assign ?_
    refine R.fin [4, 5] ?_
    refine AW.ret ?_
    refine K.thR ?_
    exact K.fin (V.two V.tmp V.tmp) ⟨by rw [hk], rfl⟩
  · skip
    have hk : kindR e c = kindE c e := if_neg (by rw [ht13]; simp)
    have hr : exprRightM e = true := by simp only [Bool.or_eq_false_iff, Bool.not_eq_false'] at ht13; exact ht13.1
    refine AW.skip ?_
    refine K.thN ?_
    refine AW.seqR ?_
    refine R.loadRoN Tryz.isAgg26 Tryz.sizeOf26 ?_
    refine R.move ?_
    refine R.call Tryz.call16 (c16 c hc n e hok (rightE_node hr) _) ?_
    refine R.extract ?_
    refine R.extract ?_
    refine R.assign ?_
    refine R.assign ?_
    refine R.fin [4, 5] ?_
    refine AW.ret ?_
    exact K.fin (V.two V.tmp V.tmp) ⟨by rw [hk], rfl⟩

end Go.SX.Nb
namespace Go.SX.Nb
open Go Go.SX Go.Proofs
variable [ErrAt]
set_option maxRecDepth 8000
theorem kindR_ok {x : Expr} {c : List Col} (h : (kindR x c).2 = 0) : exprRightM x = true ∧ colsM c = true ∧ kindR x c = kindE c x := by
  unfold kindR at h ⊢
  split at h
  · cases h
  · rename_i h1
    rw [if_neg h1]
    simp only [Bool.or_eq_true, Bool.not_eq_true', not_or, Bool.not_eq_false] at h1
    exact ⟨h1.1, by rw [← cols_eq]; exact h1.2, rfl⟩
theorem kindR_of {x : Expr} {c : List Col} (h1 : exprRightM x = true) (h2 : colsM c = true) : kindR x c = kindE c x := by
  unfold kindR
  rw [cols_eq, h1, h2]
  rfl
theorem kindR_bad {x : Expr} {c : List Col} (h2 : colsM c = false) : kindR x c = (0, 1) := by
  unfold kindR
  rw [cols_eq, h2]
  simp
theorem kindR_wrong {x : Expr} {c : List Col} (h2 : exprRightM x = false) : kindR x c = (0, 1) := by
  unfold kindR
  rw [h2]
  rfl
theorem kindR_more {x : Expr} {c c' : List Col} (h : (kindR x c).2 = 0) (hc : colsM c' = true) (hs : ∀ y ∈ c, y ∈ c') : kindR x c' = kindR x c := by
  obtain ⟨h1, h2, h3⟩ := kindR_ok h
  rw [kindR_of h1 hc, h3]
  rw [h3] at h
  exact kind_more (knows_of (colsM_ok h2).2 (colsM_ok hc).2 hs) x h
theorem turned_ok {c : List Col} (h : colsM c = true) (k : Nat) : colsM (c.drop k ++ c.take k) = true := by
  obtain ⟨h1, h2⟩ := colsM_ok h
  refine ok_colsM (fun y hy => ?_) ?_
  · rcases List.mem_append.1 hy with hy | hy
    · exact h1 y (List.mem_of_mem_drop hy)
    · exact h1 y (List.mem_of_mem_take hy)
  · rw [List.map_append]
    have e : c.map (·.name) = (c.take k).map (·.name) ++ (c.drop k).map (·.name) := by rw [← List.map_append, List.take_append_drop]
    rw [e] at h2
    exact (List.perm_append_comm.nodup_iff).1 h2
theorem wider_turned {x : Expr} {c : List Col} (h : (kindR x c).2 = 0) (k : Nat) : kindR x (c.drop k ++ c.take k) = kindR x c :=
  kindR_more h (turned_ok (kindR_ok h).2.1 k) fun y hy => by
    rw [← List.take_append_drop k c] at hy
    rcases List.mem_append.1 hy with hy | hy
    · exact List.mem_append_right _ hy
    · exact List.mem_append_left _ hy
theorem wider_more {x : Expr} {c : List Col} {y : Col} (h : (kindR x c).2 = 0) (hc : colsM (c ++ [y]) = true) : kindR x (c ++ [y]) = kindR x c := kindR_more h hc fun z hz => List.mem_append_left _ hz
/-- Of its kind it may stand there. -/
theorem infer_put {x y : Expr} {c : List Col} {i : Nat} (hi : i < c.length) (hx : (kindR x c).2 = 0) (hy : (kindR y c).2 = 0) (hk : (kindR y c).1 = c[i].kind) :
    (((kindR (putE c[i].name y x) c).2 == 1) && !(refRightM (putE c[i].name y x)) || (((kindR (putE c[i].name y x) c).2 == 0) && ((kindR (putE c[i].name y x) c).1 == (kindR x c).1))) = true := by
  obtain ⟨a1, a2, a3⟩ := kindR_ok hx
  obtain ⟨b1, b2, b3⟩ := kindR_ok hy
  have hn := nameK_some (colsM_ok a2).2 (List.getElem_mem hi) rfl
  have he : kindE c y = nameK c c[i].name := by
    rw [hn, ← b3]
    exact Prod.ext hk hy
  rw [← exprRight_eq]
  cases hz : exprRightM (putE c[i].name y x) with
  | false => rw [kindR_wrong hz]; rfl
  | true =>
    rw [kindR_of hz a2, kind_put he x, ← a3, hx]
    simp
end Go.SX.Nb
namespace Go.SX.Nb
open Go Go.SX Go.Proofs
variable [ErrAt]
set_option maxRecDepth 4000
theorem put_ok {s : Str} {y : Expr} {m : Nat} (hy : okE m y) : ∀ (n : Nat) (x : Expr), okE n x → okE (n + m) (putE s y x)
  | 0, x, h => h.elim
  | n + 1, x, h => by
    cases hc : (x.op == 2) && (x.text == s) with
    | true => rw [put_in hc]; exact okE_le (by omega) hy
    | false =>
      rw [put_out hc, show n + 1 + m = (n + m) + 1 by omega]
      refine ⟨h.1, by show (x.kids.map (putE s y)).length ≤ _; rw [List.length_map]; exact h.2.1, fun z hz => ?_⟩
      have hz' : z ∈ x.kids.map (putE s y) := hz
      obtain ⟨k, hk, rfl⟩ := List.mem_map.1 hz'
      exact put_ok hy n k (h.2.2 k hk)
mutual
theorem put_size (s : Str) (y : Expr) (S : Nat) (h1 : 1 ≤ S) (hy : sizeE y ≤ S) : ∀ x : Expr, sizeE (putE s y x) ≤ sizeE x * S
  | .mk o t v k => by
    rw [putE]
    split
    · rw [sizeE]
      have : S ≤ (1 + sizeL k) * S := Nat.le_mul_of_pos_left _ (by omega)
      omega
    · rw [sizeE, sizeE, Nat.add_mul]
      have := putL_size s y S h1 hy k
      omega
theorem putL_size (s : Str) (y : Expr) (S : Nat) (h1 : 1 ≤ S) (hy : sizeE y ≤ S) : ∀ l : List Expr, sizeL (putL s y l) ≤ sizeL l * S
  | [] => by simp [putL, sizeL]
  | e :: r => by
    rw [putL, sizeL, sizeL, Nat.add_mul]
    have a := put_size s y S h1 hy e
    have b := putL_size s y S h1 hy r
    omega
 end
end Go.SX.Nb
namespace Go.SX.Nb
open Go Go.SX Go.Proofs
variable [ErrAt]
set_option maxRecDepth 4000
theorem ACall.argLe {P : Program} {g : FuncId} {args args' : List AV} {H : List AObj} {post : AV → List AObj → Prop} (h : ACall P g args' H post) (hl : args.length = args'.length) (hle : ∀ (i : Nat) (y y' : AV), args[i]? = some y → args'[i]? = some y' → Le y y') : ACall P g args H post :=
  fun d G w vs h1 h2 h3 h4 => h d G w vs (by rw [h1, hl]) (fun i y' u hy' hu => by
    have hlt : i < args.length := by rw [hl]; exact (List.getElem?_eq_some_iff.1 hy').1
    exact (h2 i args[i] u (List.getElem?_eq_getElem hlt) hu).le (hle i args[i] y' (List.getElem?_eq_getElem hlt) hy')) h3 h4
/-! The chapter's examples. -/
def aS1 : Str := [108, 101, 110, 40, 116, 41, 32, 43, 32, 49]
def aS2 : Str := [49, 32, 61, 32, 39, 97, 39]
def aX1 : Expr := binX [43] (.mk 6 [108, 101, 110] noV [nameE [116]]) (valX ⟨1, 1, []⟩)
def aX2 : Expr := binX [61] (valX ⟨1, 1, []⟩) (valX ⟨2, 0, [97]⟩)
theorem a_parse1 : parseM aS1 = (aX1, 0, 0) := by kernel_rfl
theorem a_parse2 : parseM aS2 = (aX2, 0, 0) := by kernel_rfl
theorem a_ok1 : okE 4 aX1 := by
  refine ⟨by decide, by decide, fun y hy => ?_⟩
  have : y = .mk 6 [108, 101, 110] noV [nameE [116]] ∨ y = valX ⟨1, 1, []⟩ := by simpa [aX1, binX, Expr.kids] using hy
  rcases this with rfl | rfl
  · refine ⟨by decide, by decide, fun y hy => ?_⟩
    have : y = nameE [116] := by simpa [Expr.kids] using hy
    subst this
    exact okE_le (by decide) (nameE_ok _ (by decide))
  · exact valX_ok (by decide) _
theorem a_ok2 : okE 4 aX2 := by
  refine ⟨by decide, by decide, fun y hy => ?_⟩
  have : y = valX ⟨1, 1, []⟩ ∨ y = valX ⟨2, 0, [97]⟩ := by simpa [aX2, binX, Expr.kids] using hy
  rcases this with rfl | rfl <;> exact valX_ok (by decide) _
theorem a_kind1 : kindR aX1 [⟨[116], 2⟩] = (1, 0) := by kernel_rfl
theorem a_kind2 : kindR aX2 [] = (0, 10) := by kernel_rfl
theorem a_p1 (Hp : List AObj) : AFun Tryz.prog 12 [strA aS1] Hp (.tup [exprA aX1, .agg [intA 0, intA 0]]) := by
  have := c87p aS1 (by decide) Hp
  rw [a_parse1] at this
  exact this
theorem a_p2 (Hp : List AObj) : AFun Tryz.prog 12 [strA aS2] Hp (.tup [exprA aX2, .agg [intA 0, intA 0]]) := by
  have := c87p aS2 (by decide) Hp
  rw [a_parse2] at this
  exact this
theorem a_k1 (Hp : List AObj) : AFun Tryz.prog 8 [exprA aX1, colsA [⟨[116], 2⟩]] Hp (.tup [intA 1, intA 0]) := by
  have := c8 4 aX1 a_ok1 (by decide) [⟨[116], 2⟩] ⟨by decide, by decide⟩ Hp
  rw [a_kind1] at this
  exact this
theorem a_k2 (Hp : List AObj) : AFun Tryz.prog 8 [exprA aX2, .nil] Hp (.tup [intA 0, intA 10]) := by
  have := c8 4 aX2 a_ok2 (by decide) [] ⟨by decide, by decide⟩ Hp
  rw [a_kind2] at this
  refine ACall.argLe this rfl fun i y y' h1 h2 => ?_
  match i with
  | 0 => simp at h1 h2; subst h1; subst h2; exact .refl _
  | 1 => simp at h1 h2; subst h1; subst h2; exact .nil false 2
  | i + 2 => simp at h1
theorem c5 (Hp : List AObj) : AFun Tryz.prog 5 [] Hp (boolA true) := by
  refine ACall.body [.tmp 0] [] Tryz.func5 Tryz.ntmps5 (fun d => ?_)
  refine AW.seqR ?_
  refine R.assign ?_
  refine R.fin [] ?_
  refine AW.seqR ?_
  refine R.call Tryz.call12 (a_p1 _) ?_
  refine R.move ?_
  refine R.extract ?_
  refine R.extract ?_
  refine R.alloc Tryz.zeroValue26 ?_
  refine R.alloc Tryz.zeroValue41 ?_
  refine R.storeOwn Tryz.sizeOf26 ?_
  refine R.storeOwn Tryz.sizeOf41 ?_
  refine R.fin [1, 2] ?_
  refine AW.seqR ?_
  refine R.call Tryz.call12 (a_p2 _) ?_
  refine R.move ?_
  refine R.extract ?_
  refine R.extract ?_
  refine R.alloc Tryz.zeroValue26 ?_
  refine R.alloc Tryz.zeroValue41 ?_
  refine R.storeOwn Tryz.sizeOf26 ?_
  refine R.storeOwn Tryz.sizeOf41 ?_
  refine R.fin [1, 2, 3, 4] ?_
  refine AW.seqR ?_
  refine R.loadOwnN Tryz.isAgg26 Tryz.sizeOf26 ?_
  refine R.build (places := #[(0, 1), (1, 1)]) Tryz.underlying29 (fun w => by simp) Tryz.zeroValue29 ?_
  refine R.buildSlice Tryz.underlying27 Tryz.sizeOf29 Tryz.zeroValue29 ?_
  refine R.call Tryz.call8 (a_k1 _) ?_
  refine R.move ?_
  refine R.extract ?_
  refine R.extract ?_
  refine R.assign ?_
  refine R.assign ?_
  refine R.fin [2, 3, 4, 5, 6] ?_
  refine AW.seqR ?_
  refine R.loadOwnN Tryz.isAgg26 Tryz.sizeOf26 ?_
  refine R.call Tryz.call8 (a_k2 _) ?_
  refine R.move ?_
  refine R.extract ?_
  refine R.extract ?_
  refine R.assign ?_
  refine R.assign ?_
  refine R.fin [2, 4, 5, 6, 8] ?_
  refine AW.seqR ?_
  refine R.fieldAddrPtr (fo := 0) Tryz.underlying41 Tryz.sizeOf33 ?_
  refine R.loadOwn Tryz.isAgg33 ?_
  refine R.eql ?_
  refine R.move ?_
  refine G.fieldAddrPtr (fo := 0) Tryz.underlying41 Tryz.sizeOf33 ?_
  refine G.loadOwn Tryz.isAgg33 ?_
  refine G.eql ?_
  refine R.pickAnd ?_
  refine R.move ?_
  refine G.move ?_
  refine G.eql ?_
  refine R.pickAnd ?_
  refine R.move ?_
  refine G.move ?_
  refine G.eql ?_
  refine R.pickAnd ?_
  refine R.move ?_
  refine G.move ?_
  refine G.eql ?_
  refine R.pickAnd ?_
  refine R.assign ?_
  refine R.fin [0] ?_
  refine AW.ret ?_
  exact K.fin (V.one V.tmp)

theorem c3 (x : Expr) (c : List Col) (more : Col) (by_ : Int) (Hp : List AObj) : AFun Tryz.prog 3 [exprA x, colsA c, colA more, intA by_] Hp (boolA true) := by
  refine ACall.body [.tmp 8] [0, 1, 2, 3] Tryz.func3 Tryz.ntmps3 (fun d => ?_)
  refine AW.seqR ?_
  refine R.boxRo ?_
  refine R.boxRo ?_
  refine R.assign ?_
  refine R.fin [1, 3, 4, 6] ?_
  refine W.seq ?_
  refine AW.seqR ?_
  refine R.call Tryz.call5 (c5 _) ?_
  refine R.not ?_
  refine R.fin [1, 3, 4, 6, 19] ?_
  refine W.cond (fun ht19 => ?_) (fun ht19 => ?_)
  · skip
    cases ht19
  · skip
    refine AW.skip ?_
    refine K.thN ?_
    refine W.seq ?_
    refine AW.seqR ?_
    refine R.loadRoN Tryz.isAgg26 Tryz.sizeOf26 ?_
    refine R.call Tryz.call6 (c6 x _) ?_
    refine R.move ?_
    refine G.move ?_
    refine G.call Tryz.call7 (fun hB => c21u c _) ?_
    refine R.pickOr ?_
    refine R.move ?_
    refine G.fieldAddrRo (off := 0) Tryz.underlying29 Tryz.sizeOf9 ?_
    refine G.loadRo Tryz.isAgg9 ?_
    refine G.slen Tryz.underlying9 ?_
    refine G.gtr ?_
    refine R.pickOr ?_
    refine R.fin [1, 3, 4, 6, 31] ?_
    refine W.cond (fun ht31 => ?_) (fun ht31 => ?_)
    · skip
      refine AW.seqR ?_
      refine R.assign ?_
      refine R.fin [8] ?_
      refine AW.ret ?_
      refine K.thR ?_
      exact K.fin (V.one V.tmp)
    · skip
      simp only [Bool.or_eq_false_iff, decide_eq_false_iff_not] at ht31
      have hs := slim_of ht31.1.1
      have hc := many_ok ht31.1.2
      have hc50 : c.length ≤ 50 := by have := ht31.1.2; unfold manyM at this; simp at this; omega
      have hm100 := ht31.2
      refine AW.skip ?_
      refine K.thN ?_
      refine AW.seqR ?_
      refine R.loadRoN Tryz.isAgg26 Tryz.sizeOf26 ?_
      refine R.move ?_
      refine R.call Tryz.call8 (c8 61 x hs.ok (by decide) c hc _) ?_
      refine R.move ?_
      refine R.extract ?_
      refine R.extract ?_
      refine R.assign ?_
      refine R.assign ?_
      refine R.fin [1, 3, 4, 6, 9, 10] ?_
      refine W.seq ?_
      refine AW.seqR ?_
      refine R.move ?_
      refine R.neq ?_
      refine R.fin [1, 3, 4, 6, 9, 39] ?_
      refine W.cond (fun ht39 => ?_) (fun ht39 => ?_)
      · skip
        have hk0 := kindR_err c x (by simpa using ht39)
        refine AW.seqR ?_
        refine R.move ?_
        refine R.eql ?_
        refine R.assign ?_
        refine R.fin [8] ?_
        refine AW.ret ?_
        refine K.thR ?_
        exact K.fin (V.one V.tmp) ⟨by rw [hk0]; rfl, rfl⟩
      · skip
        have hk0 : (kindR x c).2 = 0 := by simpa using ht39
        refine AW.skip ?_
        refine K.thN ?_
        refine AW.seqR ?_
        refine R.move ?_
        refine R.iconv Tryz.underlying3 Tryz.underlying36 ?_
        refine R.move ?_
        refine R.len Tryz.underlying27 ?_
        refine R.add64 (h2 := by rw [List.length_map]; omega) ?_
        refine R.iconv Tryz.underlying3 Tryz.underlying36 ?_
        refine R.rem (h0 := by rw [List.length_map, wrap_u64 (by omega) (by omega)]; omega) ?_
        refine R.iconv Tryz.underlying36 Tryz.underlying3 ?_
        obtain ⟨k, hkl, hke⟩ := k_mod by_ (c.length + 1) (by omega) (by omega)
        have hke2 : IntKind.i64.wrap ((IntKind.u64.wrap by_).tmod (IntKind.u64.wrap ((c.length : Int) + 1))) = (k : Int) := by simpa using hke
        rw [List.length_map, hke2]
        refine R.assign ?_
        refine R.fin [1, 4, 6, 9, 11] ?_
        refine W.drawY [0, 0, 0, 6, 15, 0, 0, 96, 255, 511] [] [.s [50] none [] [], .q 3 [] [], .s [50, 54] none [] [], .q 3 [] []] (fun _ => Hp) (fun _ => []) Tryzmixed (by kernel_rfl) rfl rfl (fun _ => rfl) ?_
        refine Y.buildSlice Tryz.underlying27 Tryz.sizeOf29 Tryz.zeroValue29 ?_
        apply Y.q
        case h1 =>
          intro B hT hF
          refine D.move ?_
          refine D.move ?_
          refine D.cutL k Tryz.underlying27 Tryz.sizeOf29 (show k ≤ (c.map colA).length by rw [List.length_map]; omega) (Nat.le_refl _) ?_
          exact D.end rfl rfl
        case hTF => decide
        refine Y.append Tryz.underlying27 Tryz.type29 ?_ ?_ ?_
        · simp [Tryz.t29]; omega
        · simp [Tryz.t29]; omega
        apply Y.q
        case h1 =>
          intro B hT hF
          refine D.move ?_
          refine D.move ?_
          refine D.cutH k Tryz.underlying27 Tryz.sizeOf29 (Nat.zero_le _) (show k ≤ (c.map colA).length by rw [List.length_map]; omega) ?_
          exact D.end rfl rfl
        case hTF => decide
        refine Y.tail (tn := [])  ?_
        refine R.append Tryz.underlying27 Tryz.type29 ?_ ?_ ?_
        · simp [Tryz.t29]; omega
        · simp [Tryz.t29]; omega
        refine R.assignT ?_
        refine R.fin [1, 4, 6, 9, 12] ?_
        refine AW.seqR ?_
        have e1 : List.drop k (List.map colA c) ++ List.take k (List.map colA c) = List.map colA (c.drop k ++ c.take k) := by rw [List.map_append, List.map_drop, List.map_take]
        simp only [List.nil_append, e1]
        have hc1 : OkCols (c.drop k ++ c.take k) := ⟨by simp; omega, fun y hy => by
          rcases List.mem_append.1 hy with hy | hy
          · exact hc.2 y (List.mem_of_mem_drop hy)
          · exact hc.2 y (List.mem_of_mem_take hy)⟩
        have ht1 := wider_turned hk0 k
        refine R.loadRoN Tryz.isAgg26 Tryz.sizeOf26 ?_
        refine R.move ?_
        refine R.call Tryz.call8 (c8 61 x hs.ok (by decide) (c.drop k ++ c.take k) hc1 _) ?_
        refine R.move ?_
        refine R.extract ?_
        refine R.extract ?_
        refine R.assign ?_
        refine R.assign ?_
        refine R.fin [1, 4, 6, 9, 13, 14] ?_
        refine W.drawY [0, 0, 3, 0, 8, 31, 63] [] [.s [65] none [] [], .q 1 [] [], .s [65, 67] none [] [], .q 2 [] []] (fun _ => Hp) (fun _ => []) Tryzmixed (by kernel_rfl) rfl rfl (fun _ => rfl) ?_
        refine Y.buildSlice Tryz.underlying27 Tryz.sizeOf29 Tryz.zeroValue29 ?_
        apply Y.q
        case h1 =>
          intro B hT hF
          refine D.move ?_
          exact D.end rfl rfl
        case hTF => decide
        refine Y.append Tryz.underlying27 Tryz.type29 ?_ ?_ ?_
        · simp [Tryz.t29]; omega
        · simp [Tryz.t29]; omega
        apply Y.q
        case h1 =>
          intro B hT hF
          refine D.loadRoN Tryz.isAgg29 Tryz.sizeOf29 ?_
          refine D.buildSlice Tryz.underlying27 Tryz.sizeOf29 Tryz.zeroValue29 ?_
          exact D.end rfl rfl
        case hTF => decide
        refine Y.tail (tn := [])  ?_
        refine R.append Tryz.underlying27 Tryz.type29 ?_ ?_ ?_
        · simp [Tryz.t29]; omega
        · simp [Tryz.t29]; omega
        refine R.assignT ?_
        refine R.fin [4, 9, 13, 14, 15] ?_
        refine AW.seqR ?_
        have e2 : List.map colA c ++ [colA more] = List.map colA (c ++ [more]) := by rw [List.map_append]; rfl
        simp only [List.nil_append, e2]
        have hc2 : OkCols (c ++ [more]) := ⟨by simp; omega, fun y hy => by
          rcases List.mem_append.1 hy with hy | hy
          · exact hc.2 y hy
          · rw [List.mem_singleton.1 hy]; omega⟩
        refine R.loadRoN Tryz.isAgg26 Tryz.sizeOf26 ?_
        refine R.move ?_
        refine R.call Tryz.call8 (c8 61 x hs.ok (by decide) (c ++ [more]) hc2 _) ?_
        refine R.move ?_
        refine R.extract ?_
        refine R.extract ?_
        refine R.assign ?_
        refine R.assign ?_
        refine R.fin [9, 13, 14, 15, 16, 17] ?_
        refine W.seq ?_
        refine AW.seqR ?_
        refine R.move ?_
        refine R.neq ?_
        refine R.move ?_
        refine G.move ?_
        refine G.move ?_
        refine G.neq ?_
        refine R.pickOr ?_
        refine R.fin [9, 15, 16, 17, 83] ?_
        refine W.cond (fun ht83 => ?_) (fun ht83 => ?_)
        · skip
          rw [ht1, hk0] at ht83
          simp at ht83
        · skip
          refine AW.skip ?_
          refine K.thN ?_
          refine W.seq ?_
          refine AW.seqR ?_
          refine R.move ?_
          refine R.call Tryz.call9 (c9 (c ++ [more]) hc2 _) ?_
          refine R.not ?_
          refine R.fin [9, 16, 17, 86] ?_
          refine W.cond (fun ht86 => ?_) (fun ht86 => ?_)
          · skip
            have hb : colsM (c ++ [more]) = false := by simpa using ht86
            have hg := kindR_bad (x := x) hb
            refine AW.seqR ?_
            refine R.move ?_
            refine R.eql ?_
            refine R.assign ?_
            refine R.fin [8] ?_
            refine AW.ret ?_
            refine K.thR ?_
            exact K.fin (V.one V.tmp) ⟨by rw [hg]; rfl, rfl⟩
          · skip
            have hb : colsM (c ++ [more]) = true := by simpa using ht86
            have hg := wider_more hk0 hb
            refine AW.skip ?_
            refine K.thN ?_
            refine AW.seqR ?_
            refine R.move ?_
            refine R.eql ?_
            refine R.move ?_
            refine G.move ?_
            refine G.move ?_
            refine G.eql ?_
            refine R.pickAnd ?_
            refine R.assign ?_
            refine R.fin [8] ?_
            refine AW.ret ?_
            exact K.fin (V.one V.tmp) ⟨by rw [hg, hk0]; simp, rfl⟩

theorem c4 (x y : Expr) (c : List Col) (at_ : Int) (Hp : List AObj) : AFun Tryz.prog 4 [exprA x, exprA y, colsA c, intA at_] Hp (boolA true) := by
  refine ACall.body [.tmp 8] [0, 1, 2, 3] Tryz.func4 Tryz.ntmps4 (fun d => ?_)
  refine AW.seqR ?_
  refine R.boxRo ?_
  refine R.boxRo ?_
  refine R.assign ?_
  refine R.fin [2, 3, 4, 5] ?_
  refine W.seq ?_
  refine AW.seqR ?_
  refine R.call Tryz.call5 (c5 _) ?_
  refine R.not ?_
  refine R.fin [2, 3, 4, 5, 18] ?_
  refine W.cond (fun ht18 => ?_) (fun ht18 => ?_)
  · skip
    cases ht18
  · skip
    refine AW.skip ?_
    refine K.thN ?_
    refine W.seq ?_
    refine AW.seqR ?_
    refine R.loadRoN Tryz.isAgg26 Tryz.sizeOf26 ?_
    refine R.call Tryz.call6 (c6 x _) ?_
    refine R.move ?_
    refine G.loadRoN Tryz.isAgg26 Tryz.sizeOf26 ?_
    refine G.call Tryz.call6 (fun hB => c6 y _) ?_
    refine R.pickOr ?_
    refine R.move ?_
    refine G.move ?_
    refine G.call Tryz.call7 (fun hB => c21u c _) ?_
    refine R.pickOr ?_
    refine R.move ?_
    refine G.move ?_
    refine G.len Tryz.underlying27 ?_
    refine G.eql ?_
    refine R.pickOr ?_
    refine R.fin [2, 3, 4, 5, 33] ?_
    refine W.cond (fun ht33 => ?_) (fun ht33 => ?_)
    · skip
      refine AW.seqR ?_
      refine R.assign ?_
      refine R.fin [8] ?_
      refine AW.ret ?_
      refine K.thR ?_
      exact K.fin (V.one V.tmp)
    · skip
      simp only [Bool.or_eq_false_iff, List.length_map] at ht33
      have hsx := slim_of ht33.1.1.1
      have hsy := slim_of ht33.1.1.2
      have hc := many_ok ht33.1.2
      have hc50 : c.length ≤ 50 := by have := ht33.1.2; unfold manyM at this; simp at this; omega
      have hc1 : 1 ≤ c.length := by have := ht33.2; simp at this; cases c with | nil => simp at this | cons a r => simp
      refine AW.skip ?_
      refine K.thN ?_
      refine AW.seqR ?_
      refine R.move ?_
      refine R.iconv Tryz.underlying3 Tryz.underlying36 ?_
      refine R.move ?_
      refine R.len Tryz.underlying27 ?_
      refine R.iconv Tryz.underlying3 Tryz.underlying36 ?_
      refine R.rem (h0 := by rw [List.length_map, wrap_u64 (by omega) (by omega)]; omega) ?_
      refine R.iconv Tryz.underlying36 Tryz.underlying3 ?_
      obtain ⟨i, hil, hke⟩ := k_mod at_ c.length hc1 (by omega)
      rw [List.length_map, hke]
      refine R.assign ?_
      refine R.fin [2, 4, 5, 9] ?_
      refine AW.seqR ?_
      refine R.loadRoN Tryz.isAgg26 Tryz.sizeOf26 ?_
      refine R.move ?_
      refine R.call Tryz.call8 (c8 61 x hsx.ok (by decide) c hc _) ?_
      refine R.move ?_
      refine R.extract ?_
      refine R.extract ?_
      refine R.assign ?_
      refine R.assign ?_
      refine R.fin [2, 4, 5, 9, 10, 11] ?_
      refine AW.seqR ?_
      refine R.loadRoN Tryz.isAgg26 Tryz.sizeOf26 ?_
      refine R.move ?_
      refine R.call Tryz.call8 (c8 61 y hsy.ok (by decide) c hc _) ?_
      refine R.move ?_
      refine R.extract ?_
      refine R.extract ?_
      refine R.assign ?_
      refine R.assign ?_
      refine R.fin [2, 4, 5, 9, 10, 11, 12, 13] ?_
      refine W.seq ?_
      refine AW.seqR ?_
      refine R.move ?_
      refine R.neq ?_
      refine R.move ?_
      refine G.move ?_
      refine G.neq ?_
      refine R.pickOr ?_
      refine R.move ?_
      refine G.move ?_
      refine G.move ?_
      refine G.move ?_
      refine G.indexAddr (i) (colA c[i]) Tryz.underlying27 Tryz.sizeOf29 (fun _ => getMap hil) ?_
      refine G.fieldAddrRo (off := 1) Tryz.underlying29 Tryz.sizeOf3 ?_
      refine G.loadRo Tryz.isAgg3 ?_
      refine G.neq ?_
      refine R.pickOr ?_
      refine R.fin [2, 4, 5, 9, 10, 67] ?_
      refine W.cond (fun ht67 => ?_) (fun ht67 => ?_)
      · skip
        refine AW.seqR ?_
        refine R.assign ?_
        refine R.fin [8] ?_
        refine AW.ret ?_
        refine K.thR ?_
        exact K.fin (V.one V.tmp)
      · skip
        simp only [Bool.or_eq_false_iff, bne_eq_false_iff_eq] at ht67
        obtain ⟨⟨hx0, hy0⟩, hyk⟩ := ht67
        have hzo : okE 122 (putE c[i].name y x) := put_ok hsy.ok 61 x hsx.ok
        have hzz : sizeE (putE c[i].name y x) ≤ 1048576 := by
          have h1 := put_size c[i].name y 500 (by decide) hsy.size x
          have := hsx.size
          omega
        have hlaw := infer_put hil hx0 hy0 hyk
        refine AW.skip ?_
        refine K.thN ?_
        apply W.drawXO [0, 0, 0, 6, 14, 30, 0, 127, 0, 511] 8 0 14 (.ptr (oid Hp.length 0) 0) ([.cells 26 [intA 0, strA [], intA 0, intA 0, strA [], .nil]]) Tryzmixed
        case hok => kernel_rfl
        case h1 =>
          intro b
          refine D.loadRoN Tryz.isAgg26 Tryz.sizeOf26 ?_
          refine D.move ?_
          refine D.move ?_
          refine D.indexAddr (i) (colA c[i]) Tryz.underlying27 Tryz.sizeOf29 (getMap hil) ?_
          refine D.fieldAddrRo (off := 0) Tryz.underlying29 Tryz.sizeOf9 ?_
          refine D.loadRo Tryz.isAgg9 ?_
          refine D.loadRoN Tryz.isAgg26 Tryz.sizeOf26 ?_
          refine D.call Tryz.call10 (c10 c[i].name y 61 x hsx.ok _) ?_
          exact D.end rfl rfl
        case h2 =>
          intro b
          exact D.end rfl rfl
        case hE =>
          intro f hf
          exact X.alloc Tryz.zeroValue26 rfl rfl (by decide)
        case hx => kernel_rfl
        case hlen => simp
        refine R.storeOwn Tryz.sizeOf26 ?_
        refine R.fin [2, 10, 14] ?_
        refine AW.seqR ?_
        refine R.loadOwnN Tryz.isAgg26 Tryz.sizeOf26 ?_
        refine R.move ?_
        refine R.call Tryz.call8 (c8 122 _ hzo (by decide) c hc _) ?_
        refine R.move ?_
        refine R.extract ?_
        refine R.extract ?_
        refine R.assign ?_
        refine R.assign ?_
        refine R.fin [10, 14, 15, 16] ?_
        refine AW.seqR ?_
        refine R.move ?_
        refine R.eql ?_
        refine R.move ?_
        refine G.loadOwnN Tryz.isAgg26 Tryz.sizeOf26 ?_
        refine G.call Tryz.call11 (fun hB => c11 122 _ hzo (by decide) hzz _) ?_
        refine G.not ?_
        refine R.pickAnd ?_
        refine R.move ?_
        refine G.move ?_
        refine G.eql ?_
        refine G.move ?_
        refine G.move ?_
        refine G.move ?_
        refine G.eql ?_
        refine G.pickAnd ?_
        refine R.pickOr ?_
        refine R.assign ?_
        refine R.fin [8] ?_
        refine AW.ret ?_
        exact K.fin (V.one V.tmp) ⟨by rw [hlaw], rfl⟩

end Go.SX.Nb
