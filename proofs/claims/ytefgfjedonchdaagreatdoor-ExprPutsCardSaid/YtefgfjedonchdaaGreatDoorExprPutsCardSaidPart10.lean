/- Texts on the way to this: ExprPuts answers true for whatever can be read: the card of the law. (part 10) -/
import Derived.Test.YtefgfjedonchdaaGreatDoorExprPutsCardSaidPart9
set_option linter.all false
namespace Go.SX.Nb
open Go Go.SX Go.Proofs
variable [ErrAt]
set_option maxRecDepth 4000
/-- The contract of one of the parser's functions. -/
def PC (g : FuncId) (l : List Tok) (f : PS → Expr × PS) (n : Nat) : Prop := ∀ (o : Nat) (Hp : List AObj) (S : PS), Hp[o]? = some (pr l S) → S.i < l.length → S.nest = n → ACall Tryz.prog g [.ptr o 0] Hp (fun r H' => r = exprA (f S).1 ∧ H' = Hp.set o (pr l (f S).2))
abbrev zero69 : AObj := .cells 69 [intA 0, strA [], intA 0, intA 0, strA [], .nil]
theorem low_z69 {n : Nat} : ObjLow n zero69 := by
  show ∀ y ∈ [intA 0, strA [], intA 0, intA 0, strA [], AV.nil], Low n y
  simp
theorem low_e69 {n : Nat} (e : Expr) : ObjLow n (.cells 69 (exprC e)) := by
  have h := exprA_low n e
  rw [exprA_eq] at h
  show ∀ y ∈ exprC e, Low n y
  intro y hy
  cases h with
  | agg _ h => exact h y hy
theorem c227 (l : List Tok) (S : PS) (a : Int) (g : FuncId) (first caps : List AV) (x : Expr) (S2 : PS) (o : Nat) (Hp Hx : List AObj) (ho : Hp[o]? = some (pr l S)) (hnl : S.nest ≤ 1048576) (hgc : ∀ args w, (callFunc g args).run Tryz.prog w = .ok (.enter g args) w) (hxl : Hx.length = Hp.length) (hxo : Hx[o]? = some (pr l S2)) (hn2 : S2.nest = S.nest + 1) (hlow : (∀ y ∈ Hp.set o (pr l (deepM S)), ObjLow Hp.length y) → ∀ y ∈ Hx, ObjLow Hp.length y) (hcf : S.nest ≠ 30 → ∀ own, ACall Tryz.prog g (first ++ caps) (Hp.set o (pr l (deepM S)) ++ own) (fun y H' => y = exprA x ∧ H' = Hx ++ own)) : ACall Tryz.prog 227 [.ptr o 0, intA a, .fn (.func g) first caps] Hp (fun r H' => (S.nest = 30 → r = exprA nullX ∧ H' = Hp.set o (pr l (failM 18 a S))) ∧ (S.nest ≠ 30 → r = exprA x ∧ H' = Hx.set o (pr l (riseM S2)))) := by
  refine ACall.body [.cell 6 69] [0, 1, 2] Tryz.func227 Tryz.ntmps227 (fun d => ?_)
  refine AW.seqR ?_
  refine R.alloc Tryz.zeroValue69 ?_
  refine R.fin [0, 1, 2, 6] ?_
  refine W.seq ?_
  refine AW.seqR ?_
  refine R.move ?_
  refine R.nilPtr ?_
  refine R.fieldAddrPtr (fo := 2) Tryz.underlying190 Tryz.sizeOf3 ?_
  refine R.loadUp Tryz.isAgg3 ho ?_
  refine R.eql ?_
  refine R.fin [0, 1, 2, 6, 12] ?_
  refine W.cond (fun ht12 => ?_) (fun ht12 => ?_)
  · skip
    have hn30 : S.nest = 30 := by have := ht12; simp at this; omega
    refine AW.seqR ?_
    refine R.move ?_
    refine R.move ?_
    refine R.callUp Tryz.call156 ho (by simp) low_pr (c156 l S 18 a o _ (get_up ho)) ?_
    refine R.storeOwn Tryz.sizeOf69 ?_
    refine R.fin [6] ?_
    refine AW.ret ?_
    refine K.thR ?_
    exact K.fin (V.one (V.cellN Tryz.isAgg69 Tryz.sizeOf69)) ⟨fun _ => ⟨by rw [exprA_eq], rfl⟩, fun h => absurd hn30 h⟩ (hlow := by have := exprA_low Hp.length nullX; rw [exprA_eq] at this; simpa using this)
  · skip
    have hn30 : S.nest ≠ 30 := by have := ht12; simp at this; omega
    refine AW.skip ?_
    refine K.thN ?_
    refine AW.seqR ?_
    refine R.move ?_
    refine R.nilPtr ?_
    refine R.fieldAddrPtr (fo := 2) Tryz.underlying190 Tryz.sizeOf3 ?_
    refine R.loadUp Tryz.isAgg3 ho ?_
    refine R.add64 ?_
    refine R.nilPtr ?_
    refine R.fieldAddrPtr (fo := 2) Tryz.underlying190 Tryz.sizeOf3 ?_
    refine R.storeUp Tryz.sizeOf3 ho ?_ ?_
    · simp
    refine R.fin [0, 2, 6] ?_
    refine AW.seqR ?_
    refine R.move ?_
    refine R.callVX (up' := Hx) (own' := [zero69]) hgc (hcf hn30 [zero69]) (by simpa using hxl) (by rw [List.length_set]; exact hlow) ?_
    rw [← hxl]
    refine R.alloc Tryz.zeroValue69 ?_
    refine R.storeOwn Tryz.sizeOf69 ?_
    refine R.fin [0, 6, 7] ?_
    refine AW.seqR ?_
    refine R.move ?_
    refine R.nilPtr ?_
    refine R.fieldAddrPtr (fo := 2) Tryz.underlying190 Tryz.sizeOf3 ?_
    refine R.loadUp Tryz.isAgg3 hxo ?_
    refine R.sub64 ?_
    refine R.nilPtr ?_
    refine R.fieldAddrPtr (fo := 2) Tryz.underlying190 Tryz.sizeOf3 ?_
    refine R.storeUp Tryz.sizeOf3 hxo ?_ ?_
    · simp
    refine R.fin [6, 7] ?_
    refine AW.seqR ?_
    refine R.loadOwnN Tryz.isAgg69 Tryz.sizeOf69 ?_
    refine R.storeOwn Tryz.sizeOf69 ?_
    refine R.fin [6] ?_
    refine AW.ret ?_
    exact K.fin (V.one (V.cellN Tryz.isAgg69 Tryz.sizeOf69)) ⟨fun h => absurd h hn30, fun _ => ⟨by rw [exprA_eq], by rw [show ((S2.nest : Int) - 1) = ((riseM S2).nest : Int) by show _ = ((S2.nest - 1 : Nat) : Int); omega]; rfl⟩⟩ (hlow := by have := exprA_low Hx.length x; rw [exprA_eq] at this; simpa using this)

end Go.SX.Nb
namespace Go.SX.Nb
open Go Go.SX Go.Proofs
variable [ErrAt]
set_option maxRecDepth 4000
theorem bin_cells (t : Str) (a b : Expr) : exprC (binX t a b) = [intA 5, .v (sv t), intA 0, intA 0, strA [], .slice false 6 [exprA a, exprA b]] := rfl
theorem low_bin {n : Nat} (t : Str) (a b : Expr) : ObjLow n (.cells 69 [intA 5, .v (sv t), intA 0, intA 0, strA [], .slice false 6 [exprA a, exprA b]]) := low_e69 (binX t a b)
/-- within, with a method's value. -/
theorem c227m {g : FuncId} (hgc : ∀ args w, (callFunc g args).run Tryz.prog w = .ok (.enter g args) w) (l : List Tok) (S : PS) (a : Int) (f : PS → Expr × PS) (o : Nat) (Hp : List AObj) (ho : Hp[o]? = some (pr l S)) (hi : S.i < l.length) (hnl : S.nest ≤ 30) (hf : S.nest ≠ 30 → Good l (S.nest + 1) f) (hcf : S.nest ≠ 30 → PC g l f (S.nest + 1)) :
    ACall Tryz.prog 227 [.ptr o 0, intA a, .fn (.func g) [.ptr o 0] []] Hp (fun r H' => r = exprA (withinM a f S).1 ∧ H' = Hp.set o (pr l (withinM a f S).2)) := by
  have hlt := (List.getElem?_eq_some_iff.1 ho).1
  by_cases h30 : S.nest = 30
  · refine (c227 l S a g [.ptr o 0] [] nullX (deepM S) o Hp (Hp.set o (pr l (deepM S))) ho (by omega) hgc (by simp) (by simp [hlt]) rfl (fun h => h) (fun h => absurd h30 h)).mono fun r H' h => ?_
    have e : withinM a f S = (nullX, failM 18 a S) := if_pos (by rw [h30]; rfl)
    rw [e]
    exact h.1 h30
  · have hq := hf h30 (deepM S) hi rfl
    refine (c227 l S a g [.ptr o 0] [] (f (deepM S)).1 (f (deepM S)).2 o Hp (Hp.set o (pr l (f (deepM S)).2)) ho (by omega) hgc (by simp) (by simp [hlt]) hq.nest (fun h y hy => ?_) (fun _ own => ?_)).mono fun r H' h => ?_
    · rcases List.mem_or_eq_of_mem_set hy with h1 | h1
      · obtain ⟨i, hi', rfl⟩ := List.getElem_of_mem h1
        by_cases hio : i = o
        · subst hio
          have : Hp[i] = pr l S := by rw [List.getElem?_eq_getElem hi'] at ho; injection ho
          rw [this]; exact low_pr
        · refine h _ ?_
          rw [List.mem_iff_getElem?]
          exact ⟨i, by rw [List.getElem?_set_ne (Ne.symm hio), List.getElem?_eq_getElem hi']⟩
      · rw [h1]; exact low_pr
    · have hg : (Hp.set o (pr l (deepM S)) ++ own)[o]? = some (pr l (deepM S)) := get_up (by simp [hlt])
      refine (hcf h30 o (Hp.set o (pr l (deepM S)) ++ own) (deepM S) hg hi rfl).mono fun r H' h => ⟨h.1, h.2.trans ?_⟩
      rw [List.set_append_left _ _ (by simpa using hlt), List.set_set]
    · have e : withinM a f S = ((f (deepM S)).1, riseM (f (deepM S)).2) := if_neg (by
        show ¬ (((S.nest : Int) == 30) = true)
        simp
        omega)
      rw [e]
      obtain ⟨h1, h2⟩ := h.2 h30
      exact ⟨h1, by rw [h2, List.set_set]⟩
theorem c180 {g : FuncId} (hgc : ∀ args w, (callFunc g args).run Tryz.prog w = .ok (.enter g args) w) (l : List Tok) (S : PS) (of : Str) (hof : of.length ≤ 1048576) (f : PS → Expr × PS) (o : Nat) (Hp : List AObj) (ho : Hp[o]? = some (pr l S)) (hi : S.i < l.length) (hl : TokEnd l) (hll : l.length ≤ 1048576) (hf : Good l S.nest f) (hcf : PC g l f S.nest) : ACall Tryz.prog 180 [.ptr o 0, strA of, .fn (.func g) [.ptr o 0] []] Hp (fun r H' => r = exprA (leftM l of f S).1 ∧ H' = Hp.set o (pr l (leftM l of f S).2)) := by
  have holt := (List.getElem?_eq_some_iff.1 ho).1
  refine ACall.body [.cell 6 69] [0, 1, 2] Tryz.func180 Tryz.ntmps180 (fun d => ?_)
  refine AW.seqR ?_
  refine R.alloc Tryz.zeroValue69 ?_
  refine R.fin [0, 1, 2, 6] ?_
  refine AW.seqR ?_
  refine R.move ?_
  refine R.callVUp hgc ho (by simp) low_pr (hcf o _ S (get_up ho) hi rfl) ?_
  refine R.alloc Tryz.zeroValue69 ?_
  refine R.storeOwn Tryz.sizeOf69 ?_
  refine R.fin [0, 1, 2, 6, 7] ?_
  refine W.seq ?_
  refine AW.loopC (α := Expr × PS) (fun r => ⟨32, setF 0 (.ptr o 0) (setF 1 (strA of) (setF 2 (.fn (.func g) [.ptr o 0] []) (setF 6 (.ptr (oid Hp.length 0) 0) (setF 7 (.ptr (oid Hp.length 1) 0) (fun _ => .any))))), Hp.set o (pr l r.2), [.cells 69 [intA 0, strA [], intA 0, intA 0, strA [], .nil], .cells 69 (exprC r.1)], [], none⟩) (fun r => LeftAt l of f S r) (fun r => l.length - r.2.i) (f S) (.start (hf S hi rfl)) (StLe.of_eq (by simp)) rfl (fun r hx => ?_)
  refine W.seq ?_
  refine AW.seqR ?_
  refine R.move ?_
  refine R.nilPtr ?_
  refine R.fieldAddrPtr (fo := 3) Tryz.underlying190 Tryz.sizeOf27 ?_
  refine R.fieldAddrPtr (fo := 0) Tryz.underlying27 Tryz.sizeOf25 ?_
  refine R.loadUp Tryz.isAgg25 (getset ho) ?_
  refine R.eql ?_
  refine R.move ?_
  refine G.move ?_
  refine G.move ?_
  refine G.call Tryz.call204 (fun hB => c204 l r.2 of o _ (get_up (getset ho)) hx.fact.lt hl hof) ?_
  refine R.pickAnd ?_
  refine R.fin [0, 1, 2, 6, 7, 21] ?_
  refine W.cond (fun ht21 => ?_) (fun ht21 => ?_)
  · skip
    have hon := hx.on hl ht21 hf
    have hle := hon.2.1.le
    have hlt0 := hx.fact.lt
    have hU1 : (Hp.set o (pr l r.2)).set o (pr l (nextM r.2)) = Hp.set o (pr l (nextM r.2)) := List.set_set ..
    refine AW.skip ?_
    refine K.thN ?_
    refine AW.block ?_
    refine AW.seqR ?_
    refine R.move ?_
    refine R.callUp Tryz.call205 (getset ho) (by simp) low_pr (c205 l r.2 o _ (get_up (getset ho)) hx.fact.lt hll) ?_
    refine R.alloc Tryz.zeroValue31 ?_
    refine R.storeOwn Tryz.sizeOf31 ?_
    refine R.fin [0, 1, 2, 6, 7, 8] ?_
    refine W.drawY0 [0, 1, 0, 0, 8, 28, 63, 127] [4] [.q 4 [] [], .s [28] (some 0) [] [], .q 1 [0] []] (fun B => Hp.set o (if B 0 = true then pr l (f (nextM r.2)).2 else pr l (nextM r.2))) (fun _ => [.cells 69 [intA 0, strA [], intA 0, intA 0, strA [], .nil], .cells 69 (exprC r.1), .cells 31 [intA (tokAt l r.2.i).kind, strA (tokAt l r.2.i).text, intA (tokAt l r.2.i).at_]]) Tryzmixed (by kernel_rfl) (by simp [List.set_set]) rfl (fun B => by simp) ?_
    apply Y.q
    case h1 =>
      intro B hT hF
      skip
      refine D.fieldAddrPtr (fo := 1) Tryz.underlying31 Tryz.sizeOf9 ?_
      refine D.loadOwn Tryz.isAgg9 ?_
      refine D.loadOwnN Tryz.isAgg69 Tryz.sizeOf69 ?_
      refine D.move ?_
      exact D.end rfl rfl
    case hTF => decide
    refine Y.callVUp (r := exprA (f (nextM r.2)).1) (o := o) (x0 := pr l (nextM r.2)) (x := pr l (f (nextM r.2)).2) hgc (fun B hT hF hB => ⟨by simp only [hB]; exact getset ho, by simp [upd], rfl, low_pr, ?_⟩) ?_
    · simp only [hB]
      exact hcf o _ (nextM r.2) (get_up (getset ho)) hon.1 hx.fact.nest
    apply Y.q
    case h1 =>
      intro B hT hF
      refine D.buildSlice Tryz.underlying67 Tryz.sizeOf69 Tryz.zeroValue69 ?_
      exact D.end rfl rfl
    case hTF => decide
    refine Y.tail (tn := [4]) (U := Hp.set o (pr l (f (nextM r.2)).2)) ?_
    refine R.build (places := #[(0, 1), (1, 1), (2, 3), (5, 1)]) Tryz.underlying69 (fun w => by simp) Tryz.zeroValue69 ?_
    refine R.storeOwn Tryz.sizeOf69 ?_
    refine R.fin [0, 1, 2, 6, 7] ?_
    refine K.blN ?_
    refine K.lpN (binX (tokAt l r.2.i).text r.1 (f (nextM r.2)).1, (f (nextM r.2)).2) hon.2.2 (by show l.length - (f (nextM r.2)).2.i < l.length - r.2.i; have : r.2.i + 1 ≤ (f (nextM r.2)).2.i := hle; omega) ?_
    simp only [bin_cells]
    have hlow2 := fun n => low_bin (n := n) (tokAt l r.2.i).text r.1 (f (nextM r.2)).1
    simp only [exprA_eq] at hlow2 ⊢
    exact StCut.take (fun _ => .refl _) (by repeat (first | exact lowF_any | refine lowF_set (by simp [oid] <;> omega) ?_)) (by intro y hy; rcases List.mem_cons.1 hy with rfl | hy; exact low_z69; rw [List.mem_singleton.1 hy]; exact hlow2 _) (by simp)
  · skip
    have hout := hx.out (by rw [ht21]; simp)
    refine AW.exit ?_
    refine K.thE ?_
    refine K.lpE ?_
    refine K.thN ?_
    refine AW.seqR ?_
    refine R.loadOwnN Tryz.isAgg69 Tryz.sizeOf69 ?_
    refine R.storeOwn Tryz.sizeOf69 ?_
    refine R.fin [6] ?_
    refine AW.ret ?_
    exact K.fin (V.one (V.cellN Tryz.isAgg69 Tryz.sizeOf69)) ⟨by rw [hout, exprA_eq], by rw [hout]⟩ (hlow := by have := exprA_low (Hp.set o (pr l r.2)).length r.1; rw [exprA_eq] at this; simpa using this)

theorem c155 (l : List Tok) (S : PS) (f : PS → Expr × PS) (o : Nat) (Hp : List AObj) (ho : Hp[o]? = some (pr l S)) (hi : S.i < l.length) (hl : TokEnd l) (hll : l.length ≤ 1048576) (hf : Good l S.nest f) (hcf : PC 181 l f S.nest) : ACall Tryz.prog 155 [.ptr o 0] Hp (fun r H' => r = exprA (leftM l orT f S).1 ∧ H' = Hp.set o (pr l (leftM l orT f S).2)) := by
  refine ACall.body [.cell 2 69] [0] Tryz.func155 Tryz.ntmps155 (fun d => ?_)
  refine AW.seqR ?_
  refine R.alloc Tryz.zeroValue69 ?_
  refine R.fin [0, 2] ?_
  refine AW.seqR ?_
  refine R.move ?_
  refine R.move ?_
  refine R.makeFunc ?_
  refine R.callUp Tryz.call180 ho (by simp) low_pr (c180 Tryz.call181 l S orT (by decide) f o _ (get_up ho) hi hl hll hf hcf) ?_
  refine R.storeOwn Tryz.sizeOf69 ?_
  refine R.fin [2] ?_
  refine AW.ret ?_
  exact K.fin (V.one (V.cellN Tryz.isAgg69 Tryz.sizeOf69)) ⟨by rw [exprA_eq], rfl⟩ (hlow := by have := exprA_low Hp.length (leftM l orT f S).1; rw [exprA_eq] at this; simpa using this)

theorem c181 (l : List Tok) (S : PS) (f : PS → Expr × PS) (o : Nat) (Hp : List AObj) (ho : Hp[o]? = some (pr l S)) (hi : S.i < l.length) (hl : TokEnd l) (hll : l.length ≤ 1048576) (hf : Good l S.nest f) (hcf : PC 206 l f S.nest) : ACall Tryz.prog 181 [.ptr o 0] Hp (fun r H' => r = exprA (leftM l andT f S).1 ∧ H' = Hp.set o (pr l (leftM l andT f S).2)) := by
  refine ACall.body [.cell 2 69] [0] Tryz.func181 Tryz.ntmps181 (fun d => ?_)
  refine AW.seqR ?_
  refine R.alloc Tryz.zeroValue69 ?_
  refine R.fin [0, 2] ?_
  refine AW.seqR ?_
  refine R.move ?_
  refine R.move ?_
  refine R.makeFunc ?_
  refine R.callUp Tryz.call180 ho (by simp) low_pr (c180 Tryz.call206 l S andT (by decide) f o _ (get_up ho) hi hl hll hf hcf) ?_
  refine R.storeOwn Tryz.sizeOf69 ?_
  refine R.fin [2] ?_
  refine AW.ret ?_
  exact K.fin (V.one (V.cellN Tryz.isAgg69 Tryz.sizeOf69)) ⟨by rw [exprA_eq], rfl⟩ (hlow := by have := exprA_low Hp.length (leftM l andT f S).1; rw [exprA_eq] at this; simpa using this)

theorem c246 (l : List Tok) (S : PS) (f : PS → Expr × PS) (o : Nat) (Hp : List AObj) (ho : Hp[o]? = some (pr l S)) (hi : S.i < l.length) (hl : TokEnd l) (hll : l.length ≤ 1048576) (hf : Good l S.nest f) (hcf : PC 259 l f S.nest) : ACall Tryz.prog 246 [.ptr o 0] Hp (fun r H' => r = exprA (leftM l sumT f S).1 ∧ H' = Hp.set o (pr l (leftM l sumT f S).2)) := by
  refine ACall.body [.cell 2 69] [0] Tryz.func246 Tryz.ntmps246 (fun d => ?_)
  refine AW.seqR ?_
  refine R.alloc Tryz.zeroValue69 ?_
  refine R.fin [0, 2] ?_
  refine AW.seqR ?_
  refine R.move ?_
  refine R.move ?_
  refine R.makeFunc ?_
  refine R.callUp Tryz.call180 ho (by simp) low_pr (c180 Tryz.call259 l S sumT (by decide) f o _ (get_up ho) hi hl hll hf hcf) ?_
  refine R.storeOwn Tryz.sizeOf69 ?_
  refine R.fin [2] ?_
  refine AW.ret ?_
  exact K.fin (V.one (V.cellN Tryz.isAgg69 Tryz.sizeOf69)) ⟨by rw [exprA_eq], rfl⟩ (hlow := by have := exprA_low Hp.length (leftM l sumT f S).1; rw [exprA_eq] at this; simpa using this)

theorem c259 (l : List Tok) (S : PS) (f : PS → Expr × PS) (o : Nat) (Hp : List AObj) (ho : Hp[o]? = some (pr l S)) (hi : S.i < l.length) (hl : TokEnd l) (hll : l.length ≤ 1048576) (hf : Good l S.nest f) (hcf : PC 273 l f S.nest) : ACall Tryz.prog 259 [.ptr o 0] Hp (fun r H' => r = exprA (leftM l prodT f S).1 ∧ H' = Hp.set o (pr l (leftM l prodT f S).2)) := by
  refine ACall.body [.cell 2 69] [0] Tryz.func259 Tryz.ntmps259 (fun d => ?_)
  refine AW.seqR ?_
  refine R.alloc Tryz.zeroValue69 ?_
  refine R.fin [0, 2] ?_
  refine AW.seqR ?_
  refine R.move ?_
  refine R.move ?_
  refine R.makeFunc ?_
  refine R.callUp Tryz.call180 ho (by simp) low_pr (c180 Tryz.call273 l S prodT (by decide) f o _ (get_up ho) hi hl hll hf hcf) ?_
  refine R.storeOwn Tryz.sizeOf69 ?_
  refine R.fin [2] ?_
  refine AW.ret ?_
  exact K.fin (V.one (V.cellN Tryz.isAgg69 Tryz.sizeOf69)) ⟨by rw [exprA_eq], rfl⟩ (hlow := by have := exprA_low Hp.length (leftM l prodT f S).1; rw [exprA_eq] at this; simpa using this)

end Go.SX.Nb
namespace Go.SX.Nb
open Go Go.SX Go.Proofs
variable [ErrAt]
set_option maxRecDepth 4000
/-- What is so of the functions one nest deeper. -/
structure DeepC (l : List Tok) (Dv : Fam) (n : Nat) : Prop where
  ei : n ≠ 30 → Good l (n + 1) Dv.ei ∧ PC 155 l Dv.ei (n + 1)
  no : n ≠ 30 → Good l (n + 1) Dv.no ∧ PC 206 l Dv.no (n + 1)
  ne : n ≠ 30 → Good l (n + 1) Dv.ne ∧ PC 273 l Dv.ne (n + 1)
theorem one_agg (op : Int) (x : Expr) : exprA (oneX op x) = .agg [intA op, strA [], intA 0, intA 0, strA [], .slice false 6 [exprA x]] := by rw [exprA_eq]; rfl
theorem bin_agg (t : Str) (a b : Expr) : exprA (binX t a b) = .agg [intA 5, .v (sv t), intA 0, intA 0, strA [], .slice false 6 [exprA a, exprA b]] := by rw [exprA_eq]; rfl
theorem low_agg {n : Nat} (e : Expr) : Low n (.agg [.v (.int .i64 e.op), .v (sv e.text), .v (.int .i64 e.val.kind), .v (.int .i64 e.val.n), .v (sv e.val.s), .slice false 6 (e.kids.map exprA)]) := by
  have := exprA_low n e
  rwa [exprA_eq] at this
theorem c273 (l : List Tok) (S : PS) (Dv : Fam) (o : Nat) (Hp : List AObj) (ho : Hp[o]? = some (pr l S)) (hi : S.i < l.length) (hl : TokEnd l) (hll : l.length ≤ 1048576) (hnl : S.nest ≤ 30) (hd : DeepC l Dv S.nest) (hc : PC 280 l (atomM l Dv) S.nest) : ACall Tryz.prog 273 [.ptr o 0] Hp (fun r H' => r = exprA (negM l Dv S).1 ∧ H' = Hp.set o (pr l (negM l Dv S).2)) := by
  refine ACall.body [.cell 2 69] [0] Tryz.func273 Tryz.ntmps273 (fun d => ?_)
  refine AW.seqR ?_
  refine R.alloc Tryz.zeroValue69 ?_
  refine R.fin [0, 2] ?_
  refine W.seq ?_
  refine AW.seqR ?_
  refine R.move ?_
  refine R.call Tryz.call204 (c204 l S negT o _ (get_up ho) hi hl (by decide)) ?_
  refine R.not ?_
  refine R.fin [0, 2, 6] ?_
  refine W.cond (fun ht6 => ?_) (fun ht6 => ?_)
  · skip
    have e : negM l Dv S = atomM l Dv S := if_pos ht6
    refine AW.seqR ?_
    refine R.move ?_
    refine R.callUp Tryz.call280 ho (by simp) low_pr (hc o _ S (get_up ho) hi rfl) ?_
    refine R.storeOwn Tryz.sizeOf69 ?_
    refine R.fin [2] ?_
    refine AW.ret ?_
    refine K.thR ?_
    exact K.fin (V.one (V.cellN Tryz.isAgg69 Tryz.sizeOf69)) ⟨by rw [e, exprA_eq], by rw [e]⟩ (hlow := low_agg _)
  · skip
    have his : isM l negT S = true := by simpa using ht6
    have hi1 : (nextM S).i < l.length := hl.stepIs hi his
    have e : negM l Dv S = (oneX 3 (withinM (tokAt l S.i).at_ Dv.ne (nextM S)).1, (withinM (tokAt l S.i).at_ Dv.ne (nextM S)).2) := if_neg (by rw [ht6]; simp)
    refine AW.skip ?_
    refine K.thN ?_
    refine AW.seqR ?_
    refine R.move ?_
    refine R.callUp Tryz.call205 ho (by simp) low_pr (c205 l S o _ (get_up ho) hi hll) ?_
    refine R.alloc Tryz.zeroValue31 ?_
    refine R.storeOwn Tryz.sizeOf31 ?_
    refine R.fin [0, 2, 3] ?_
    refine AW.seqR ?_
    refine R.move ?_
    refine R.fieldAddrPtr (fo := 2) Tryz.underlying31 Tryz.sizeOf3 ?_
    refine R.loadOwn Tryz.isAgg3 ?_
    refine R.move ?_
    refine R.makeFunc ?_
    refine R.callUp Tryz.call227 (getset ho) (by simp) low_pr (c227m Tryz.call273 l (nextM S) (tokAt l S.i).at_ Dv.ne o _ (get_up (getset ho)) hi1 hnl (fun h => (hd.ne h).1) (fun h => (hd.ne h).2)) ?_
    refine R.buildSlice Tryz.underlying67 Tryz.sizeOf69 Tryz.zeroValue69 ?_
    refine R.build (places := #[(0, 1), (1, 1), (2, 3), (5, 1)]) Tryz.underlying69 (fun w => by simp) Tryz.zeroValue69 ?_
    refine R.storeOwn Tryz.sizeOf69 ?_
    refine R.fin [2] ?_
    refine AW.ret ?_
    exact K.fin (V.one (V.cellN Tryz.isAgg69 Tryz.sizeOf69)) ⟨by rw [e, one_agg]; simp only [exprA_eq], by rw [e, List.set_set]⟩ (hlow := by have := exprA_low Hp.length (oneX 3 (withinM (tokAt l S.i).at_ Dv.ne (nextM S)).1); rw [one_agg] at this; simp only [exprA_eq] at this; simpa only [List.length_set] using this)

theorem c206 (l : List Tok) (S : PS) (Dv : Fam) (o : Nat) (Hp : List AObj) (ho : Hp[o]? = some (pr l S)) (hi : S.i < l.length) (hl : TokEnd l) (hll : l.length ≤ 1048576) (hnl : S.nest ≤ 30) (hd : DeepC l Dv S.nest) (hc : PC 226 l (compareM l Dv) S.nest) : ACall Tryz.prog 206 [.ptr o 0] Hp (fun r H' => r = exprA (notM l Dv S).1 ∧ H' = Hp.set o (pr l (notM l Dv S).2)) := by
  refine ACall.body [.cell 2 69] [0] Tryz.func206 Tryz.ntmps206 (fun d => ?_)
  refine AW.seqR ?_
  refine R.alloc Tryz.zeroValue69 ?_
  refine R.fin [0, 2] ?_
  refine W.seq ?_
  refine AW.seqR ?_
  refine R.move ?_
  refine R.call Tryz.call204 (c204 l S notT o _ (get_up ho) hi hl (by decide)) ?_
  refine R.not ?_
  refine R.fin [0, 2, 6] ?_
  refine W.cond (fun ht6 => ?_) (fun ht6 => ?_)
  · skip
    have e : notM l Dv S = compareM l Dv S := if_pos ht6
    refine AW.seqR ?_
    refine R.move ?_
    refine R.callUp Tryz.call226 ho (by simp) low_pr (hc o _ S (get_up ho) hi rfl) ?_
    refine R.storeOwn Tryz.sizeOf69 ?_
    refine R.fin [2] ?_
    refine AW.ret ?_
    refine K.thR ?_
    exact K.fin (V.one (V.cellN Tryz.isAgg69 Tryz.sizeOf69)) ⟨by rw [e, exprA_eq], by rw [e]⟩ (hlow := low_agg _)
  · skip
    have his : isM l notT S = true := by simpa using ht6
    have hi1 : (nextM S).i < l.length := hl.stepIs hi his
    have e : notM l Dv S = (oneX 4 (withinM (tokAt l S.i).at_ Dv.no (nextM S)).1, (withinM (tokAt l S.i).at_ Dv.no (nextM S)).2) := if_neg (by rw [ht6]; simp)
    refine AW.skip ?_
    refine K.thN ?_
    refine AW.seqR ?_
    refine R.move ?_
    refine R.callUp Tryz.call205 ho (by simp) low_pr (c205 l S o _ (get_up ho) hi hll) ?_
    refine R.alloc Tryz.zeroValue31 ?_
    refine R.storeOwn Tryz.sizeOf31 ?_
    refine R.fin [0, 2, 3] ?_
    refine AW.seqR ?_
    refine R.move ?_
    refine R.fieldAddrPtr (fo := 2) Tryz.underlying31 Tryz.sizeOf3 ?_
    refine R.loadOwn Tryz.isAgg3 ?_
    refine R.move ?_
    refine R.makeFunc ?_
    refine R.callUp Tryz.call227 (getset ho) (by simp) low_pr (c227m Tryz.call206 l (nextM S) (tokAt l S.i).at_ Dv.no o _ (get_up (getset ho)) hi1 hnl (fun h => (hd.no h).1) (fun h => (hd.no h).2)) ?_
    refine R.buildSlice Tryz.underlying67 Tryz.sizeOf69 Tryz.zeroValue69 ?_
    refine R.build (places := #[(0, 1), (1, 1), (2, 3), (5, 1)]) Tryz.underlying69 (fun w => by simp) Tryz.zeroValue69 ?_
    refine R.storeOwn Tryz.sizeOf69 ?_
    refine R.fin [2] ?_
    refine AW.ret ?_
    exact K.fin (V.one (V.cellN Tryz.isAgg69 Tryz.sizeOf69)) ⟨by rw [e, one_agg]; simp only [exprA_eq], by rw [e, List.set_set]⟩ (hlow := by have := exprA_low Hp.length (oneX 4 (withinM (tokAt l S.i).at_ Dv.no (nextM S)).1); rw [one_agg] at this; simp only [exprA_eq] at this; simpa only [List.length_set] using this)

theorem c226 (l : List Tok) (S : PS) (Dv : Fam) (o : Nat) (Hp : List AObj) (ho : Hp[o]? = some (pr l S)) (hi : S.i < l.length) (hl : TokEnd l) (hll : l.length ≤ 1048576) (hnl : S.nest ≤ 30) (hd : DeepC l Dv S.nest) (hg : Good l S.nest (sumM l Dv)) (hc : PC 246 l (sumM l Dv) S.nest) : ACall Tryz.prog 226 [.ptr o 0] Hp (fun r H' => r = exprA (compareM l Dv S).1 ∧ H' = Hp.set o (pr l (compareM l Dv S).2)) := by
  have hq := hg S hi rfl
  refine ACall.body [.cell 2 69] [0] Tryz.func226 Tryz.ntmps226 (fun d => ?_)
  refine AW.seqR ?_
  refine R.alloc Tryz.zeroValue69 ?_
  refine R.fin [0, 2] ?_
  refine AW.seqR ?_
  refine R.move ?_
  refine R.callUp Tryz.call246 ho (by simp) low_pr (hc o _ S (get_up ho) hi rfl) ?_
  refine R.alloc Tryz.zeroValue69 ?_
  refine R.storeOwn Tryz.sizeOf69 ?_
  refine R.fin [0, 2, 3] ?_
  refine W.seq ?_
  refine AW.seqR ?_
  refine R.move ?_
  refine R.nilPtr ?_
  refine R.fieldAddrPtr (fo := 3) Tryz.underlying190 Tryz.sizeOf27 ?_
  refine R.fieldAddrPtr (fo := 0) Tryz.underlying27 Tryz.sizeOf25 ?_
  refine R.loadUp Tryz.isAgg25 (getset ho) ?_
  refine R.neq ?_
  refine R.move ?_
  refine G.move ?_
  refine G.call Tryz.call204 (fun hB => c204 l (sumM l Dv S).2 cmpT o _ (get_up (getset ho)) hq.lt hl (by decide)) ?_
  refine G.not ?_
  refine R.pickOr ?_
  refine R.fin [0, 2, 3, 17] ?_
  refine W.cond (fun ht17 => ?_) (fun ht17 => ?_)
  · skip
    have e : compareM l Dv S = sumM l Dv S := if_pos ht17
    refine AW.seqR ?_
    refine R.loadOwnN Tryz.isAgg69 Tryz.sizeOf69 ?_
    refine R.storeOwn Tryz.sizeOf69 ?_
    refine R.fin [2] ?_
    refine AW.ret ?_
    refine K.thR ?_
    exact K.fin (V.one (V.cellN Tryz.isAgg69 Tryz.sizeOf69)) ⟨by rw [e, exprA_eq], by rw [e]⟩ (hlow := low_agg _)
  · skip
    have his : isM l cmpT (sumM l Dv S).2 = true := by
      have := ht17
      simp only [Bool.or_eq_false_iff, Bool.not_eq_false'] at this
      exact this.2
    have hi1 : (nextM (sumM l Dv S).2).i < l.length := hl.stepIs hq.lt his
    have e : compareM l Dv S = (binX (tokAt l (sumM l Dv S).2.i).text (sumM l Dv S).1 (sumM l Dv (nextM (sumM l Dv S).2)).1, (sumM l Dv (nextM (sumM l Dv S).2)).2) := if_neg (by rw [ht17]; simp)
    refine AW.skip ?_
    refine K.thN ?_
    refine AW.seqR ?_
    refine R.move ?_
    refine R.callUp Tryz.call205 (getset ho) (by simp) low_pr (c205 l (sumM l Dv S).2 o _ (get_up (getset ho)) hq.lt hll) ?_
    refine R.alloc Tryz.zeroValue31 ?_
    refine R.storeOwn Tryz.sizeOf31 ?_
    refine R.fin [0, 2, 3, 4] ?_
    refine W.drawY [0, 1, 0, 0, 8, 28, 63, 127] [4] [.q 4 [] [], .s [25] (some 0) [] [], .q 1 [0] []] (fun B => Hp.set o (if B 0 = true then pr l (sumM l Dv (nextM (sumM l Dv S).2)).2 else pr l (nextM (sumM l Dv S).2))) (fun _ => [.cells 69 [intA 0, strA [], intA 0, intA 0, strA [], .nil], .cells 69 (exprC (sumM l Dv S).1), .cells 31 [intA (tokAt l (sumM l Dv S).2.i).kind, strA (tokAt l (sumM l Dv S).2.i).text, intA (tokAt l (sumM l Dv S).2.i).at_]]) Tryzmixed (by kernel_rfl) (by simp [List.set_set]) rfl (fun B => by simp) ?_
    apply Y.q
    case h1 =>
      intro B hT hF
      refine D.fieldAddrPtr (fo := 1) Tryz.underlying31 Tryz.sizeOf9 ?_
      refine D.loadOwn Tryz.isAgg9 ?_
      refine D.loadOwnN Tryz.isAgg69 Tryz.sizeOf69 ?_
      refine D.move ?_
      exact D.end rfl rfl
    case hTF => decide
    refine Y.callUp (r := exprA (sumM l Dv (nextM (sumM l Dv S).2)).1) (o := o) (x0 := pr l (nextM (sumM l Dv S).2)) (x := pr l (sumM l Dv (nextM (sumM l Dv S).2)).2) Tryz.call246 (fun B hT hF hB => ⟨by simp only [hB]; exact getset ho, by simp [upd], rfl, low_pr, ?_⟩) ?_
    · simp only [hB]
      exact hc o _ (nextM (sumM l Dv S).2) (get_up (getset ho)) hi1 hq.nest
    apply Y.q
    case h1 =>
      intro B hT hF
      refine D.buildSlice Tryz.underlying67 Tryz.sizeOf69 Tryz.zeroValue69 ?_
      exact D.end rfl rfl
    case hTF => decide
    refine Y.tail (tn := [4]) (U := Hp.set o (pr l (sumM l Dv (nextM (sumM l Dv S).2)).2)) ?_
    refine R.build (places := #[(0, 1), (1, 1), (2, 3), (5, 1)]) Tryz.underlying69 (fun w => by simp) Tryz.zeroValue69 ?_
    refine R.storeOwn Tryz.sizeOf69 ?_
    refine R.fin [2] ?_
    refine AW.ret ?_
    exact K.fin (V.one (V.cellN Tryz.isAgg69 Tryz.sizeOf69)) ⟨by rw [e, bin_agg]; simp only [exprA_eq], by rw [e]⟩ (hlow := by have := exprA_low Hp.length (binX (tokAt l (sumM l Dv S).2.i).text (sumM l Dv S).1 (sumM l Dv (nextM (sumM l Dv S).2)).1); rw [bin_agg] at this; simp only [exprA_eq] at this; simpa only [List.length_set] using this)

end Go.SX.Nb
namespace Go.SX.Nb
open Go Go.SX Go.Proofs
variable [ErrAt]
set_option maxRecDepth 4000
/-- The contract of the parser of calls. -/
def PCall (l : List Tok) (Dv : Fam) (n : Nat) : Prop := ∀ (o : Nat) (Hp : List AObj) (S : PS) (t : Tok), Hp[o]? = some (pr l S) → (nextM S).i < l.length → S.nest = n → t.text.length ≤ 1048576 → isM l opT S = true → ACall Tryz.prog 282 [.ptr o 0, tokA t] Hp (fun r H' => r = exprA (callM l Dv t S).1 ∧ H' = Hp.set o (pr l (callM l Dv t S).2))
theorem null_agg : exprA nullX = .agg [intA 0, strA [], intA 0, intA 0, strA [], .slice false 6 []] := by rw [exprA_eq]; rfl
theorem c280 (l : List Tok) (S : PS) (Dv : Fam) (o : Nat) (Hp : List AObj) (ho : Hp[o]? = some (pr l S)) (hi : S.i < l.length) (hl : TokEnd l) (hll : l.length ≤ 1048576) (hnl : S.nest ≤ 30) (hd : DeepC l Dv S.nest) (hcl : PCall l Dv S.nest) : ACall Tryz.prog 280 [.ptr o 0] Hp (fun r H' => r = exprA (atomM l Dv S).1 ∧ H' = Hp.set o (pr l (atomM l Dv S).2)) := by
  refine ACall.body [.cell 2 69] [0] Tryz.func280 Tryz.ntmps280 (fun d => ?_)
  refine AW.seqR ?_
  refine R.alloc Tryz.zeroValue69 ?_
  refine R.fin [0, 2] ?_
  refine AW.seqR ?_
  refine R.move ?_
  refine R.call Tryz.call225 (c225 l S o _ (get_up ho) hi) ?_
  refine R.alloc Tryz.zeroValue31 ?_
  refine R.storeOwn Tryz.sizeOf31 ?_
  refine R.fin [0, 2, 3] ?_
  refine W.seq ?_
  refine AW.seqR ?_
  refine R.move ?_
  refine R.nilPtr ?_
  refine R.fieldAddrPtr (fo := 3) Tryz.underlying190 Tryz.sizeOf27 ?_
  refine R.fieldAddrPtr (fo := 0) Tryz.underlying27 Tryz.sizeOf25 ?_
  refine R.loadUp Tryz.isAgg25 ho ?_
  refine R.neq ?_
  refine R.fin [0, 2, 3, 14] ?_
  refine W.cond (fun ht14 => ?_) (fun ht14 => ?_)
  · skip
    have e : atomM l Dv S = (nullX, S) := if_pos ht14
    refine AW.seqR ?_
    refine R.build (places := #[(0, 1), (1, 1), (2, 3), (5, 1)]) Tryz.underlying69 (fun w => by simp) Tryz.zeroValue69 ?_
    refine R.wk 15 _ nullX_le ?_
    refine R.storeOwn Tryz.sizeOf69 ?_
    refine R.fin [2] ?_
    refine AW.ret ?_
    refine K.thR ?_
    exact K.fin (V.one (V.cellN Tryz.isAgg69 Tryz.sizeOf69)) ⟨by rw [e, exprA_eq], by rw [e]; exact (set_same ho).symm⟩ (hlow := by have := exprA_low Hp.length (nullX); simpa only [exprA_eq, List.length_set] using this)
  · skip
    have e0 : ¬ (S.code != 0) = true := by rw [ht14]; simp
    refine AW.skip ?_
    refine K.thN ?_
    refine W.seq ?_
    refine AW.block ?_
    refine AW.seqR ?_
    refine R.fieldAddrPtr (fo := 0) Tryz.underlying31 Tryz.sizeOf3 ?_
    refine R.loadOwn Tryz.isAgg3 ?_
    refine R.eql ?_
    refine R.move ?_
    refine G.move ?_
    refine G.call Tryz.call204 (fun hB => c204 l S litT o _ (get_up ho) hi hl (by decide)) ?_
    refine R.pickOr ?_
    refine R.assign ?_
    refine R.fin [0, 2, 3, 16] ?_
    refine W.cond (fun ht16 => ?_) (fun ht16 => ?_)
    · skip
      have e : atomM l Dv S = (valX (readM (tokAt l S.i).text).1, nextM S) := by unfold atomM; rw [if_neg e0, if_pos ht16]
      refine AW.seqR ?_
      refine R.move ?_
      refine R.callUp Tryz.call205 ho (by simp) low_pr (c205 l S o _ (get_up ho) hi hll) ?_
      refine R.field1 Tryz.underlying31 Tryz.isAgg9 ?_
      refine R.call Tryz.call164 (c164 (tokAt l S.i).text (hl.text _) _) ?_
      refine R.move ?_
      refine R.extract ?_
      refine R.extract ?_
      refine R.alloc Tryz.zeroValue36 ?_
      refine R.storeOwn Tryz.sizeOf36 ?_
      refine R.assign ?_
      refine R.fin [2, 4] ?_
      refine AW.seqR ?_
      refine R.loadOwnN Tryz.isAgg36 Tryz.sizeOf36 ?_
      refine R.call Tryz.call281 (c281 (readM (tokAt l S.i).text).1 _) ?_
      refine R.storeOwn Tryz.sizeOf69 ?_
      refine R.fin [2] ?_
      refine AW.ret ?_
      refine K.blR ?_
      refine K.thR ?_
      exact K.fin (V.one (V.cellN Tryz.isAgg69 Tryz.sizeOf69)) ⟨by rw [e, exprA_eq], by rw [e]⟩ (hlow := by have := exprA_low Hp.length (valX (readM (tokAt l S.i).text).1); simpa only [exprA_eq, List.length_set] using this)
    · skip
      have e1 : ¬ (((tokAt l S.i).kind == 3) || isM l litT S) = true := by rw [ht16]; simp
      refine AW.seqR ?_
      refine R.fieldAddrPtr (fo := 0) Tryz.underlying31 Tryz.sizeOf3 ?_
      refine R.loadOwn Tryz.isAgg3 ?_
      refine R.eql ?_
      refine R.assign ?_
      refine R.fin [0, 2, 3, 33] ?_
      refine W.cond (fun ht33 => ?_) (fun ht33 => ?_)
      · skip
        have e : atomM l Dv S = (valX ⟨2, 0, (tokAt l S.i).text.take 200⟩, nextM S) := by unfold atomM; rw [if_neg e0, if_neg e1, if_pos ht33]
        refine AW.seqR ?_
        refine R.move ?_
        refine R.callUp Tryz.call205 ho (by simp) low_pr (c205 l S o _ (get_up ho) hi hll) ?_
        refine R.field1 Tryz.underlying31 Tryz.isAgg9 ?_
        refine R.call Tryz.call210 (c210 (tokAt l S.i).text _) ?_
        refine R.call Tryz.call281 (c281 ⟨2, 0, (tokAt l S.i).text.take 200⟩ _) ?_
        refine R.storeOwn Tryz.sizeOf69 ?_
        refine R.fin [2] ?_
        refine AW.ret ?_
        refine K.blR ?_
        refine K.thR ?_
        exact K.fin (V.one (V.cellN Tryz.isAgg69 Tryz.sizeOf69)) ⟨by rw [e, exprA_eq], by rw [e]⟩ (hlow := by have := exprA_low Hp.length (valX ⟨2, 0, (tokAt l S.i).text.take 200⟩); simpa only [exprA_eq, List.length_set] using this)
      · skip
        have e2 : ¬ ((tokAt l S.i).kind == 4) = true := by rw [ht33]; simp
        refine AW.seqR ?_
        refine R.fieldAddrPtr (fo := 0) Tryz.underlying31 Tryz.sizeOf3 ?_
        refine R.loadOwn Tryz.isAgg3 ?_
        refine R.eql ?_
        refine R.assign ?_
        refine R.fin [0, 2, 3, 42] ?_
        refine W.cond (fun ht42 => ?_) (fun ht42 => ?_)
        · skip
          have hi1 : (nextM S).i < l.length := hl.step hi (by rw [beq_iff_eq] at ht42; rw [ht42]; decide)
          refine AW.seqR ?_
          refine R.move ?_
          refine R.callUp Tryz.call205 ho (by simp) low_pr (c205 l S o _ (get_up ho) hi hll) ?_
          refine R.fin [0, 2, 3] ?_
          refine W.seq ?_
          refine AW.seqR ?_
          refine R.move ?_
          refine R.call Tryz.call204 (c204 l (nextM S) opT o _ (get_up (getset ho)) hi1 hl (by decide)) ?_
          refine R.fin [0, 2, 3, 49] ?_
          refine W.cond (fun ht49 => ?_) (fun ht49 => ?_)
          · skip
            have e : atomM l Dv S = callM l Dv (tokAt l S.i) (nextM S) := by unfold atomM; rw [if_neg e0, if_neg e1, if_neg e2, if_pos ht42, if_pos ht49]
            have hi2 : (nextM (nextM S)).i < l.length := hl.stepIs hi1 ht49
            refine AW.seqR ?_
            refine R.move ?_
            refine R.loadOwnN Tryz.isAgg31 Tryz.sizeOf31 ?_
            refine R.callUp Tryz.call282 (getset ho) (by simp) low_pr (hcl o _ (nextM S) (tokAt l S.i) (get_up (getset ho)) hi2 rfl (hl.text _) ht49) ?_
            refine R.storeOwn Tryz.sizeOf69 ?_
            refine R.fin [2] ?_
            refine AW.ret ?_
            refine K.thR ?_
            refine K.blR ?_
            refine K.thR ?_
            exact K.fin (V.one (V.cellN Tryz.isAgg69 Tryz.sizeOf69)) ⟨by rw [e, exprA_eq], by rw [e, List.set_set]⟩ (hlow := by have := exprA_low Hp.length ((callM l Dv (tokAt l S.i) (nextM S)).1); simpa only [exprA_eq, List.length_set] using this)
          · skip
            have e : atomM l Dv S = (nameE (tokAt l S.i).text, nextM S) := by unfold atomM; rw [if_neg e0, if_neg e1, if_neg e2, if_pos ht42, if_neg (by rw [ht49]; simp)]
            refine AW.skip ?_
            refine K.thN ?_
            refine AW.seqR ?_
            refine R.fieldAddrPtr (fo := 1) Tryz.underlying31 Tryz.sizeOf9 ?_
            refine R.loadOwn Tryz.isAgg9 ?_
            refine R.build (places := #[(0, 1), (1, 1), (2, 3), (5, 1)]) Tryz.underlying69 (fun w => by simp) Tryz.zeroValue69 ?_
            refine R.wk 55 _ (nameE_le _) ?_
            refine R.storeOwn Tryz.sizeOf69 ?_
            refine R.fin [2] ?_
            refine AW.ret ?_
            refine K.blR ?_
            refine K.thR ?_
            exact K.fin (V.one (V.cellN Tryz.isAgg69 Tryz.sizeOf69)) ⟨by rw [e, exprA_eq], by rw [e]⟩ (hlow := by have := exprA_low Hp.length (nameE (tokAt l S.i).text); simpa only [exprA_eq, List.length_set] using this)
        · skip
          have e3 : ¬ ((tokAt l S.i).kind == 1) = true := by rw [ht42]; simp
          refine AW.seqR ?_
          refine R.move ?_
          refine R.call Tryz.call204 (c204 l S opT o _ (get_up ho) hi hl (by decide)) ?_
          refine R.assign ?_
          refine R.fin [0, 2, 3, 56] ?_
          refine W.cond (fun ht56 => ?_) (fun ht56 => ?_)
          · skip
            have e : atomM l Dv S = ((withinM (tokAt l S.i).at_ Dv.ei (nextM S)).1, wantM l closeT (withinM (tokAt l S.i).at_ Dv.ei (nextM S)).2) := by unfold atomM; rw [if_neg e0, if_neg e1, if_neg e2, if_neg e3, if_pos ht56]
            have hi1 : (nextM S).i < l.length := hl.stepIs hi ht56
            have hwf := withinM_fact (S := nextM S) (l := l) (f := Dv.ei) (tokAt l S.i).at_ hi1 (fun h => (hd.ei h).1)
            refine AW.seqR ?_
            refine R.move ?_
            refine R.callUp Tryz.call205 ho (by simp) low_pr (c205 l S o _ (get_up ho) hi hll) ?_
            refine R.fin [0, 2, 3] ?_
            refine AW.seqR ?_
            refine R.move ?_
            refine R.fieldAddrPtr (fo := 2) Tryz.underlying31 Tryz.sizeOf3 ?_
            refine R.loadOwn Tryz.isAgg3 ?_
            refine R.move ?_
            refine R.makeFunc ?_
            refine R.callUp Tryz.call227 (getset ho) (by simp) low_pr (c227m Tryz.call155 l (nextM S) (tokAt l S.i).at_ Dv.ei o _ (get_up (getset ho)) hi1 hnl (fun h => (hd.ei h).1) (fun h => (hd.ei h).2)) ?_
            refine R.alloc Tryz.zeroValue69 ?_
            refine R.storeOwn Tryz.sizeOf69 ?_
            refine R.fin [0, 2, 6] ?_
            refine AW.seqR ?_
            refine R.move ?_
            refine R.callUp Tryz.call283 (getset (getset ho)) (by simp) low_pr (c283 l (withinM (tokAt l S.i).at_ Dv.ei (nextM S)).2 closeT o _ (get_up (getset (getset ho))) hwf.lt hll) ?_
            refine R.fin [2, 6] ?_
            refine AW.seqR ?_
            refine R.loadOwnN Tryz.isAgg69 Tryz.sizeOf69 ?_
            refine R.storeOwn Tryz.sizeOf69 ?_
            refine R.fin [2] ?_
            refine AW.ret ?_
            refine K.blR ?_
            refine K.thR ?_
            exact K.fin (V.one (V.cellN Tryz.isAgg69 Tryz.sizeOf69)) ⟨by rw [e, exprA_eq], by rw [e, List.set_set, List.set_set]⟩ (hlow := by have := exprA_low Hp.length ((withinM (tokAt l S.i).at_ Dv.ei (nextM S)).1); simpa only [exprA_eq, List.length_set] using this)
          · skip
            have e : atomM l Dv S = (nullX, failM 8 (tokAt l S.i).at_ S) := by unfold atomM; rw [if_neg e0, if_neg e1, if_neg e2, if_neg e3, if_neg (by rw [ht56]; simp)]
            refine AW.skip ?_
            refine K.blN ?_
            refine K.thN ?_
            refine AW.seqR ?_
            refine R.move ?_
            refine R.fieldAddrPtr (fo := 2) Tryz.underlying31 Tryz.sizeOf3 ?_
            refine R.loadOwn Tryz.isAgg3 ?_
            refine R.callUp Tryz.call156 ho (by simp) low_pr (c156 l S 8 (tokAt l S.i).at_ o _ (get_up ho)) ?_
            refine R.storeOwn Tryz.sizeOf69 ?_
            refine R.fin [2] ?_
            refine AW.ret ?_
            exact K.fin (V.one (V.cellN Tryz.isAgg69 Tryz.sizeOf69)) ⟨by rw [e, exprA_eq], by rw [e]⟩ (hlow := by have := exprA_low Hp.length (nullX); simpa only [exprA_eq, List.length_set] using this)

theorem deep_of {l : List Tok} (hl : TokEnd l) (hll : l.length ≤ 1048576) {d n : Nat} (h : n + (d + 1) = 31) (hp : n ≠ 30 → PC 155 l (famM l d).ei (n + 1) ∧ PC 206 l (famM l d).no (n + 1) ∧ PC 273 l (famM l d).ne (n + 1)) : DeepC l (famM l d) n := by
  have g : n ≠ 30 → _ := fun h30 => famM_good hl hll d (n + 1) (by omega) (by omega)
  exact ⟨fun h => ⟨(g h).1, (hp h).1⟩, fun h => ⟨(g h).2.1, (hp h).2.1⟩, fun h => ⟨(g h).2.2, (hp h).2.2⟩⟩
/-- All functions of the parser. -/
theorem parse_pc {l : List Tok} (hl : TokEnd l) (hll : l.length ≤ 1048576) (hcl : ∀ n Dv, n ≤ 30 → DeepC l Dv n → PCall l Dv n) : ∀ (d n : Nat), n + d = 31 → n ≤ 30 → PC 155 l (famM l d).ei n ∧ PC 206 l (famM l d).no n ∧ PC 273 l (famM l d).ne n
  | 0, n, h, hn => by omega
  | d + 1, n, h, hn => by
    have hd : DeepC l (famM l d) n := deep_of hl hll h (fun h30 => parse_pc hl hll hcl d (n + 1) (by omega) (by omega))
    have g1 : Good l n (negM l (famM l d)) := negM_good hl hll (fun h => (hd.ei h).1) (fun h => (hd.ne h).1)
    have g2 : Good l n (prodM l (famM l d)) := leftM_good hl g1
    have g3 : Good l n (sumM l (famM l d)) := leftM_good hl g2
    have g4 : Good l n (compareM l (famM l d)) := compareM_good hl hll (fun h => (hd.ei h).1) (fun h => (hd.ne h).1)
    have g5 : Good l n (notM l (famM l d)) := notM_good hl hll (fun h => (hd.ei h).1) (fun h => (hd.ne h).1) (fun h => (hd.no h).1)
    have g6 : Good l n (bothM l (famM l d)) := leftM_good hl g5
    have p0 : PC 280 l (atomM l (famM l d)) n := fun o Hp S ho hi hS => by
      subst hS
      exact c280 l S (famM l d) o Hp ho hi hl hll hn hd (hcl _ _ hn hd)
    have p1 : PC 273 l (negM l (famM l d)) n := fun o Hp S ho hi hS => by
      subst hS
      exact c273 l S (famM l d) o Hp ho hi hl hll hn hd p0
    have p2 : PC 259 l (prodM l (famM l d)) n := fun o Hp S ho hi hS => by
      subst hS
      exact c259 l S (negM l (famM l d)) o Hp ho hi hl hll g1 p1
    have p3 : PC 246 l (sumM l (famM l d)) n := fun o Hp S ho hi hS => by
      subst hS
      exact c246 l S (prodM l (famM l d)) o Hp ho hi hl hll g2 p2
    have p4 : PC 226 l (compareM l (famM l d)) n := fun o Hp S ho hi hS => by
      subst hS
      exact c226 l S (famM l d) o Hp ho hi hl hll hn hd g3 p3
    have p5 : PC 206 l (notM l (famM l d)) n := fun o Hp S ho hi hS => by
      subst hS
      exact c206 l S (famM l d) o Hp ho hi hl hll hn hd p4
    have p6 : PC 181 l (bothM l (famM l d)) n := fun o Hp S ho hi hS => by
      subst hS
      exact c181 l S (notM l (famM l d)) o Hp ho hi hl hll g5 p5
    have p7 : PC 155 l (eitherM l (famM l d)) n := fun o Hp S ho hi hS => by
      subst hS
      exact c155 l S (bothM l (famM l d)) o Hp ho hi hl hll g6 p6
    exact ⟨p7, p5, p1⟩
theorem no_call {l : List Tok} (h : ∀ S, isM l opT S = false) (n : Nat) (Dv : Fam) : PCall l Dv n := fun o Hp S t _ _ _ _ hop => by rw [h S] at hop; cases hop
end Go.SX.Nb
namespace Go.SX.Nb
open Go Go.SX Go.Proofs
variable [ErrAt]
set_option maxRecDepth 4000
theorem okE_depth : ∀ (n : Nat) (e : Expr), okE n e → depthE e ≤ n
  | 0, _, h => h.elim
  | n + 1, e, h => by
    rw [depthE_eq]
    have : ∀ l : List Expr, (∀ y ∈ l, okE n y) → depthL l ≤ n := by
      intro l
      induction l with
      | nil => intro _; exact Nat.zero_le _
      | cons y r ih =>
        intro hl
        rw [depthL]
        have h1 := okE_depth n y (hl y (by simp))
        have h2 := ih (fun z hz => hl z (by simp [hz]))
        omega
    have := this e.kids h.2.2
    omega
theorem sizeL_le (e : Expr) (x : Nat) : sizeL (e.kids.take x) + 1 ≤ sizeE e := by
  rw [sizeE_eq]
  have : ∀ (l : List Expr) (x : Nat), sizeL (l.take x) ≤ sizeL l := by
    intro l
    induction l with
    | nil => intro x; simp
    | cons y r ih =>
      intro x
      cases x with
      | zero => simp [sizeL]
      | succ x =>
        have := ih x
        rw [List.take_succ_cons, sizeL, sizeL]
        omega
  have := this e.kids x
  omega
theorem c44 : ∀ (n : Nat) (e : Expr), okE n e → n ≤ 1048576 → ∀ Hp : List AObj, AFun Tryz.prog 44 [exprA e] Hp (intA (depthE e : Nat)) := by
  intro n
  induction n with
  | zero => exact fun e h => h.elim
  | succ n ih =>
  intro e hok hn Hp
  refine ACall.body [.tmp 2] [0] Tryz.func44 Tryz.ntmps44 (fun d => ?_)
  refine AW.seqR ?_
  refine R.boxRo ?_
  refine R.assign ?_
  refine R.fin [1] ?_
  refine AW.seqR ?_
  refine R.assign ?_
  refine R.fin [1, 3] ?_
  refine W.seq ?_
  refine AW.seqR ?_
  refine R.assign ?_
  refine R.fin [1, 3, 4] ?_
  refine AW.loopC (α := Nat) (fun x => ⟨25, setF 1 (.ro (exprC e)) (setF 3 (intA (depthL (e.kids.take x) : Nat)) (setF 4 (intA (x : Nat)) (fun _ => .any))), Hp, [], [], none⟩) (fun x => x ≤ e.kids.length) (fun x => e.kids.length - x) (0) (Nat.zero_le _) (StLe.of_eq (by simp [depthL])) rfl (fun x hx => ?_)
  refine W.seq ?_
  refine AW.seqR ?_
  refine R.move ?_
  refine R.fieldAddrRo (off := 5) Tryz.underlying69 Tryz.sizeOf67 ?_
  refine R.loadRo Tryz.isAgg67 ?_
  refine R.len Tryz.underlying67 ?_
  refine R.lss ?_
  refine R.fin [1, 3, 4, 10] ?_
  refine W.cond (fun ht10 => ?_) (fun ht10 => ?_)
  · skip
    have hlt : x < e.kids.length := by simpa using ht10
    have hkl := hok.2.1
    refine AW.skip ?_
    refine K.thN ?_
    refine W.seq ?_
    refine AW.block ?_
    refine AW.seqR ?_
    refine R.fieldAddrRo (off := 5) Tryz.underlying69 Tryz.sizeOf67 ?_
    refine R.loadRo Tryz.isAgg67 ?_
    refine R.move ?_
    refine R.indexAddr (x) (exprA e.kids[x]) Tryz.underlying67 Tryz.sizeOf69 (getMap hlt) ?_
    refine R.loadRoN Tryz.isAgg69 Tryz.sizeOf69 ?_
    refine R.call Tryz.call44 (ih e.kids[x] (hok.2.2 _ (List.getElem_mem hlt)) (by omega) _) ?_
    refine R.assign ?_
    refine R.fin [1, 3, 4, 5] ?_
    refine AW.seqR ?_
    refine R.move ?_
    refine R.move ?_
    refine R.gtr ?_
    refine R.fin [1, 3, 4, 5, 21] ?_
    refine W.cond (fun ht21 => ?_) (fun ht21 => ?_)
    · skip
      have em : depthL (e.kids.take (x + 1)) = depthE e.kids[x] := by rw [depthL_take _ hlt]; have := of_decide_eq_true ht21; omega
      refine AW.region ?_
      refine R.move ?_
      refine R.assign ?_
      refine R.fin [1, 3, 4] ?_
      refine K.blN ?_
      refine K.thN ?_
      refine AW.region ?_
      refine R.move ?_
      refine R.add64 ?_
      refine R.assign ?_
      refine R.fin [1, 3, 4] ?_
      exact K.lpN (x + 1) hlt (by omega) (by simp only [em]; exact StCut.of_eq rfl)
    · skip
      have em : depthL (e.kids.take (x + 1)) = depthL (e.kids.take x) := by rw [depthL_take _ hlt]; have := of_decide_eq_false ht21; omega
      refine AW.skip ?_
      refine K.blN ?_
      refine K.thN ?_
      refine AW.region ?_
      refine R.move ?_
      refine R.add64 ?_
      refine R.assign ?_
      refine R.fin [1, 3, 4] ?_
      exact K.lpN (x + 1) hlt (by omega) (by simp only [em]; exact StCut.of_eq rfl)
  · skip
    have hd1 := okE_depth _ e hok
    have hxe : e.kids.take x = e.kids := List.take_of_length_le (by simp at ht10; omega)
    have hdd := depthE_eq e
    refine AW.exit ?_
    refine K.thE ?_
    refine K.lpE ?_
    refine K.thN ?_
    refine AW.seqR ?_
    refine R.move ?_
    rw [hxe]
    refine R.add64 ?_
    refine R.assign ?_
    refine R.fin [2] ?_
    refine AW.ret ?_
    exact K.fin (V.one V.tmp) ⟨by rw [hdd]; rfl, rfl⟩

theorem c46 : ∀ (n : Nat) (e : Expr), okE n e → sizeE e ≤ 1048576 → ∀ Hp : List AObj, AFun Tryz.prog 46 [exprA e] Hp (intA (sizeE e : Nat)) := by
  intro n
  induction n with
  | zero => exact fun e h => h.elim
  | succ n ih =>
  intro e hok hn Hp
  refine ACall.body [.tmp 2] [0] Tryz.func46 Tryz.ntmps46 (fun d => ?_)
  refine AW.seqR ?_
  refine R.boxRo ?_
  refine R.assign ?_
  refine R.fin [1] ?_
  refine AW.seqR ?_
  refine R.assign ?_
  refine R.fin [1, 3] ?_
  refine W.seq ?_
  refine AW.seqR ?_
  refine R.assign ?_
  refine R.fin [1, 3, 4] ?_
  refine AW.loopC (α := Nat) (fun x => ⟨21, setF 1 (.ro (exprC e)) (setF 3 (intA ((sizeL (e.kids.take x) : Nat) + 1)) (setF 4 (intA (x : Nat)) (fun _ => .any))), Hp, [], [], none⟩) (fun x => x ≤ e.kids.length) (fun x => e.kids.length - x) (0) (Nat.zero_le _) (StLe.of_eq (by simp [sizeL])) rfl (fun x hx => ?_)
  refine W.seq ?_
  refine AW.seqR ?_
  refine R.move ?_
  refine R.fieldAddrRo (off := 5) Tryz.underlying69 Tryz.sizeOf67 ?_
  refine R.loadRo Tryz.isAgg67 ?_
  refine R.len Tryz.underlying67 ?_
  refine R.lss ?_
  refine R.fin [1, 3, 4, 9] ?_
  refine W.cond (fun ht9 => ?_) (fun ht9 => ?_)
  · skip
    have hlt : x < e.kids.length := by simpa using ht9
    have hkl := hok.2.1
    have hs1 := sizeL_take e.kids hlt
    have hs2 := sizeL_le e (x + 1)
    refine AW.skip ?_
    refine K.thN ?_
    refine W.seq ?_
    refine AW.block ?_
    refine AW.region ?_
    refine R.move ?_
    refine R.fieldAddrRo (off := 5) Tryz.underlying69 Tryz.sizeOf67 ?_
    refine R.loadRo Tryz.isAgg67 ?_
    refine R.move ?_
    refine R.indexAddr (x) (exprA e.kids[x]) Tryz.underlying67 Tryz.sizeOf69 (getMap hlt) ?_
    refine R.loadRoN Tryz.isAgg69 Tryz.sizeOf69 ?_
    refine R.call Tryz.call46 (ih e.kids[x] (hok.2.2 _ (List.getElem_mem hlt)) (by have := size_kid e hlt; omega) _) ?_
    refine R.add64 ?_
    refine R.assign ?_
    refine R.fin [1, 3, 4] ?_
    refine K.blN ?_
    refine K.thN ?_
    refine AW.region ?_
    refine R.move ?_
    refine R.add64 ?_
    refine R.assign ?_
    refine R.fin [1, 3, 4] ?_
    exact K.lpN (x + 1) hlt (by omega) (StCut.of_eq (by simp only [hs1]; congr 4; simp only [AV.v.injEq, Value.int.injEq, true_and]; omega))
  · skip
    have hxe : e.kids.take x = e.kids := List.take_of_length_le (by simp at ht9; omega)
    have hdd := sizeE_eq e
    refine AW.exit ?_
    refine K.thE ?_
    refine K.lpE ?_
    refine K.thN ?_
    refine AW.seqR ?_
    refine R.move ?_
    refine R.assign ?_
    refine R.fin [2] ?_
    refine AW.ret ?_
    exact K.fin (V.one V.tmp) ⟨by rw [hxe, hdd]; simp; omega, rfl⟩

def refArM (s : Str) : Int := if (((s == [108, 101, 110]) || (s == [115, 116, 114])) || (s == [110, 117, 109])) || (s == [105, 115, 110, 117, 108, 108]) then 1 else if ((s == [110, 118, 108]) || (s == [108, 101, 102, 116])) || (s == [114, 105, 103, 104, 116]) then 2 else if s == [105, 102] then 3 else -1
theorem arity_ref (s : Str) : arityM s = refArM s := by
  by_cases h : s ∈ arityList.map (·.1)
  · have : ((arityList.map (·.1)).all fun s => decide (arityM s = refArM s)) = true := by kernel_rfl
    exact of_decide_eq_true (List.all_eq_true.1 this s h)
  · have h1 : arityM s = -1 := by
      unfold arityM
      rw [List.find?_eq_none.2 fun p hp => by
        simp only [beq_iff_eq]
        rintro rfl
        exact h (List.mem_map.2 ⟨p, hp, rfl⟩)]
    rw [h1]
    simp only [arityList, List.map_cons, List.map_nil, List.mem_cons, List.not_mem_nil, or_false, not_or] at h
    obtain ⟨a1, a2, a3, a4, a5, a6, a7, a8⟩ := h
    simp [refArM, a1, a2, a3, a4, a5, a6, a7, a8]
theorem c51 (s : Str) (Hp : List AObj) : AFun Tryz.prog 51 [strA s] Hp (intA (refArM s)) := by
  refine ACall.body [.tmp 2] [0] Tryz.func51 Tryz.ntmps51 (fun d => ?_)
  refine AW.seqR ?_
  refine R.assign ?_
  refine R.fin [0] ?_
  refine W.seq ?_
  refine AW.seqR ?_
  refine R.move ?_
  refine R.fin [3] ?_
  refine AW.block ?_
  refine W.seq ?_
  refine AW.seqR ?_
  refine R.seql ?_
  refine R.assign ?_
  refine R.fin [3, 4] ?_
  refine W.cond (fun ht4 => ?_) (fun ht4 => ?_)
  · skip
    refine AW.skip ?_
    refine K.thN ?_
    refine W.cond (fun ht4 => ?_) (fun ht4 => ?_)
    · skip
      refine AW.seqR ?_
      refine R.assign ?_
      refine R.fin [2] ?_
      refine AW.ret ?_
      refine K.blR ?_
      refine K.thR ?_
      exact K.fin (V.one V.tmp) ⟨by simp_all [refArM], rfl⟩
    · skip
      refine W.seq ?_
      refine AW.seqR ?_
      refine R.seql ?_
      refine R.assign ?_
      refine R.fin [3, 9] ?_
      refine W.cond (fun ht9 => ?_) (fun ht9 => ?_)
      · skip
        refine AW.skip ?_
        refine K.thN ?_
        refine W.cond (fun ht9 => ?_) (fun ht9 => ?_)
        · skip
          refine AW.seqR ?_
          refine R.assign ?_
          refine R.fin [2] ?_
          refine AW.ret ?_
          refine K.blR ?_
          refine K.thR ?_
          exact K.fin (V.one V.tmp) ⟨by simp_all [refArM], rfl⟩
        · skip
          refine AW.seqR ?_
          refine R.seql ?_
          refine R.assign ?_
          refine R.fin [13] ?_
          refine W.cond (fun ht13 => ?_) (fun ht13 => ?_)
          · skip
            refine AW.seqR ?_
            refine R.assign ?_
            refine R.fin [2] ?_
            refine AW.ret ?_
            refine K.blR ?_
            refine K.thR ?_
            exact K.fin (V.one V.tmp) ⟨by simp_all [refArM], rfl⟩
          · skip
            refine AW.skip ?_
            refine K.blN ?_
            refine K.thN ?_
            refine AW.seqR ?_
            refine R.assign ?_
            refine R.fin [2] ?_
            refine AW.ret ?_
            exact K.fin (V.one V.tmp) ⟨by simp_all [refArM], rfl⟩
      · skip
        refine AW.seqR ?_
        refine R.seql ?_
        refine R.assign ?_
        refine R.fin [3, 9] ?_
        refine W.cond (fun ht9 => ?_) (fun ht9 => ?_)
        · skip
          refine AW.skip ?_
          refine K.thN ?_
          refine W.cond (fun ht9 => ?_) (fun ht9 => ?_)
          · skip
            refine AW.seqR ?_
            refine R.assign ?_
            refine R.fin [2] ?_
            refine AW.ret ?_
            refine K.blR ?_
            refine K.thR ?_
            exact K.fin (V.one V.tmp) ⟨by simp_all [refArM], rfl⟩
          · skip
            refine AW.seqR ?_
            refine R.seql ?_
            refine R.assign ?_
            refine R.fin [13] ?_
            refine W.cond (fun ht13 => ?_) (fun ht13 => ?_)
            · skip
              refine AW.seqR ?_
              refine R.assign ?_
              refine R.fin [2] ?_
              refine AW.ret ?_
              refine K.blR ?_
              refine K.thR ?_
              exact K.fin (V.one V.tmp) ⟨by simp_all [refArM], rfl⟩
            · skip
              refine AW.skip ?_
              refine K.blN ?_
              refine K.thN ?_
              refine AW.seqR ?_
              refine R.assign ?_
              refine R.fin [2] ?_
              refine AW.ret ?_
              exact K.fin (V.one V.tmp) ⟨by simp_all [refArM], rfl⟩
        · skip
          refine AW.region ?_
          refine R.seql ?_
          refine R.assign ?_
          refine R.fin [3, 9] ?_
          refine K.thN ?_
          refine W.cond (fun ht9 => ?_) (fun ht9 => ?_)
          · skip
            refine AW.seqR ?_
            refine R.assign ?_
            refine R.fin [2] ?_
            refine AW.ret ?_
            refine K.blR ?_
            refine K.thR ?_
            exact K.fin (V.one V.tmp) ⟨by simp_all [refArM], rfl⟩
          · skip
            refine AW.seqR ?_
            refine R.seql ?_
            refine R.assign ?_
            refine R.fin [13] ?_
            refine W.cond (fun ht13 => ?_) (fun ht13 => ?_)
            · skip
              refine AW.seqR ?_
              refine R.assign ?_
              refine R.fin [2] ?_
              refine AW.ret ?_
              refine K.blR ?_
              refine K.thR ?_
              exact K.fin (V.one V.tmp) ⟨by simp_all [refArM], rfl⟩
            · skip
              refine AW.skip ?_
              refine K.blN ?_
              refine K.thN ?_
              refine AW.seqR ?_
              refine R.assign ?_
              refine R.fin [2] ?_
              refine AW.ret ?_
              exact K.fin (V.one V.tmp) ⟨by simp_all [refArM], rfl⟩
  · skip
    refine AW.seqR ?_
    refine R.seql ?_
    refine R.assign ?_
    refine R.fin [3, 4] ?_
    refine W.cond (fun ht4 => ?_) (fun ht4 => ?_)
    · skip
      refine AW.skip ?_
      refine K.thN ?_
      refine W.cond (fun ht4 => ?_) (fun ht4 => ?_)
      · skip
        refine AW.seqR ?_
        refine R.assign ?_
        refine R.fin [2] ?_
        refine AW.ret ?_
        refine K.blR ?_
        refine K.thR ?_
        exact K.fin (V.one V.tmp) ⟨by simp_all [refArM], rfl⟩
      · skip
        refine W.seq ?_
        refine AW.seqR ?_
        refine R.seql ?_
        refine R.assign ?_
        refine R.fin [3, 9] ?_
        refine W.cond (fun ht9 => ?_) (fun ht9 => ?_)
        · skip
          refine AW.skip ?_
          refine K.thN ?_
          refine W.cond (fun ht9 => ?_) (fun ht9 => ?_)
          · skip
            refine AW.seqR ?_
            refine R.assign ?_
            refine R.fin [2] ?_
            refine AW.ret ?_
            refine K.blR ?_
            refine K.thR ?_
            exact K.fin (V.one V.tmp) ⟨by simp_all [refArM], rfl⟩
          · skip
            refine AW.seqR ?_
            refine R.seql ?_
            refine R.assign ?_
            refine R.fin [13] ?_
            refine W.cond (fun ht13 => ?_) (fun ht13 => ?_)
            · skip
              refine AW.seqR ?_
              refine R.assign ?_
              refine R.fin [2] ?_
              refine AW.ret ?_
              refine K.blR ?_
              refine K.thR ?_
              exact K.fin (V.one V.tmp) ⟨by simp_all [refArM], rfl⟩
            · skip
              refine AW.skip ?_
              refine K.blN ?_
              refine K.thN ?_
              refine AW.seqR ?_
              refine R.assign ?_
              refine R.fin [2] ?_
              refine AW.ret ?_
              exact K.fin (V.one V.tmp) ⟨by simp_all [refArM], rfl⟩
        · skip
          refine AW.seqR ?_
          refine R.seql ?_
          refine R.assign ?_
          refine R.fin [3, 9] ?_
          refine W.cond (fun ht9 => ?_) (fun ht9 => ?_)
          · skip
            refine AW.skip ?_
            refine K.thN ?_
            refine W.cond (fun ht9 => ?_) (fun ht9 => ?_)
            · skip
              refine AW.seqR ?_
              refine R.assign ?_
              refine R.fin [2] ?_
              refine AW.ret ?_
              refine K.blR ?_
              refine K.thR ?_
              exact K.fin (V.one V.tmp) ⟨by simp_all [refArM], rfl⟩
            · skip
              refine AW.seqR ?_
              refine R.seql ?_
              refine R.assign ?_
              refine R.fin [13] ?_
              refine W.cond (fun ht13 => ?_) (fun ht13 => ?_)
              · skip
                refine AW.seqR ?_
                refine R.assign ?_
                refine R.fin [2] ?_
                refine AW.ret ?_
                refine K.blR ?_
                refine K.thR ?_
                exact K.fin (V.one V.tmp) ⟨by simp_all [refArM], rfl⟩
              · skip
                refine AW.skip ?_
                refine K.blN ?_
                refine K.thN ?_
                refine AW.seqR ?_
                refine R.assign ?_
                refine R.fin [2] ?_
                refine AW.ret ?_
                exact K.fin (V.one V.tmp) ⟨by simp_all [refArM], rfl⟩
          · skip
            refine AW.region ?_
            refine R.seql ?_
            refine R.assign ?_
            refine R.fin [3, 9] ?_
            refine K.thN ?_
            refine W.cond (fun ht9 => ?_) (fun ht9 => ?_)
            · skip
              refine AW.seqR ?_
              refine R.assign ?_
              refine R.fin [2] ?_
              refine AW.ret ?_
              refine K.blR ?_
              refine K.thR ?_
              exact K.fin (V.one V.tmp) ⟨by simp_all [refArM], rfl⟩
            · skip
              refine AW.seqR ?_
              refine R.seql ?_
              refine R.assign ?_
              refine R.fin [13] ?_
              refine W.cond (fun ht13 => ?_) (fun ht13 => ?_)
              · skip
                refine AW.seqR ?_
                refine R.assign ?_
                refine R.fin [2] ?_
                refine AW.ret ?_
                refine K.blR ?_
                refine K.thR ?_
                exact K.fin (V.one V.tmp) ⟨by simp_all [refArM], rfl⟩
              · skip
                refine AW.skip ?_
                refine K.blN ?_
                refine K.thN ?_
                refine AW.seqR ?_
                refine R.assign ?_
                refine R.fin [2] ?_
                refine AW.ret ?_
                exact K.fin (V.one V.tmp) ⟨by simp_all [refArM], rfl⟩
    · skip
      refine AW.seqR ?_
      refine R.seql ?_
      refine R.assign ?_
      refine R.fin [3, 4] ?_
      refine W.cond (fun ht4 => ?_) (fun ht4 => ?_)
      · skip
        refine AW.skip ?_
        refine K.thN ?_
        refine W.cond (fun ht4 => ?_) (fun ht4 => ?_)
        · skip
          refine AW.seqR ?_
          refine R.assign ?_
          refine R.fin [2] ?_
          refine AW.ret ?_
          refine K.blR ?_
          refine K.thR ?_
          exact K.fin (V.one V.tmp) ⟨by simp_all [refArM], rfl⟩
        · skip
          refine W.seq ?_
          refine AW.seqR ?_
          refine R.seql ?_
          refine R.assign ?_
          refine R.fin [3, 9] ?_
          refine W.cond (fun ht9 => ?_) (fun ht9 => ?_)
          · skip
            refine AW.skip ?_
            refine K.thN ?_
            refine W.cond (fun ht9 => ?_) (fun ht9 => ?_)
            · skip
              refine AW.seqR ?_
              refine R.assign ?_
              refine R.fin [2] ?_
              refine AW.ret ?_
              refine K.blR ?_
              refine K.thR ?_
              exact K.fin (V.one V.tmp) ⟨by simp_all [refArM], rfl⟩
            · skip
              refine AW.seqR ?_
              refine R.seql ?_
              refine R.assign ?_
              refine R.fin [13] ?_
              refine W.cond (fun ht13 => ?_) (fun ht13 => ?_)
              · skip
                refine AW.seqR ?_
                refine R.assign ?_
                refine R.fin [2] ?_
                refine AW.ret ?_
                refine K.blR ?_
                refine K.thR ?_
                exact K.fin (V.one V.tmp) ⟨by simp_all [refArM], rfl⟩
              · skip
                refine AW.skip ?_
                refine K.blN ?_
                refine K.thN ?_
                refine AW.seqR ?_
                refine R.assign ?_
                refine R.fin [2] ?_
                refine AW.ret ?_
                exact K.fin (V.one V.tmp) ⟨by simp_all [refArM], rfl⟩
          · skip
            refine AW.seqR ?_
            refine R.seql ?_
            refine R.assign ?_
            refine R.fin [3, 9] ?_
            refine W.cond (fun ht9 => ?_) (fun ht9 => ?_)
            · skip
              refine AW.skip ?_
              refine K.thN ?_
              refine W.cond (fun ht9 => ?_) (fun ht9 => ?_)
              · skip
                refine AW.seqR ?_
                refine R.assign ?_
                refine R.fin [2] ?_
                refine AW.ret ?_
                refine K.blR ?_
                refine K.thR ?_
                exact K.fin (V.one V.tmp) ⟨by simp_all [refArM], rfl⟩
              · skip
                refine AW.seqR ?_
                refine R.seql ?_
                refine R.assign ?_
                refine R.fin [13] ?_
                refine W.cond (fun ht13 => ?_) (fun ht13 => ?_)
                · skip
                  refine AW.seqR ?_
                  refine R.assign ?_
                  refine R.fin [2] ?_
                  refine AW.ret ?_
                  refine K.blR ?_
                  refine K.thR ?_
                  exact K.fin (V.one V.tmp) ⟨by simp_all [refArM], rfl⟩
                · skip
                  refine AW.skip ?_
                  refine K.blN ?_
                  refine K.thN ?_
                  refine AW.seqR ?_
                  refine R.assign ?_
                  refine R.fin [2] ?_
                  refine AW.ret ?_
                  exact K.fin (V.one V.tmp) ⟨by simp_all [refArM], rfl⟩
            · skip
              refine AW.region ?_
              refine R.seql ?_
              refine R.assign ?_
              refine R.fin [3, 9] ?_
              refine K.thN ?_
              refine W.cond (fun ht9 => ?_) (fun ht9 => ?_)
              · skip
                refine AW.seqR ?_
                refine R.assign ?_
                refine R.fin [2] ?_
                refine AW.ret ?_
                refine K.blR ?_
                refine K.thR ?_
                exact K.fin (V.one V.tmp) ⟨by simp_all [refArM], rfl⟩
              · skip
                refine AW.seqR ?_
                refine R.seql ?_
                refine R.assign ?_
                refine R.fin [13] ?_
                refine W.cond (fun ht13 => ?_) (fun ht13 => ?_)
                · skip
                  refine AW.seqR ?_
                  refine R.assign ?_
                  refine R.fin [2] ?_
                  refine AW.ret ?_
                  refine K.blR ?_
                  refine K.thR ?_
                  exact K.fin (V.one V.tmp) ⟨by simp_all [refArM], rfl⟩
                · skip
                  refine AW.skip ?_
                  refine K.blN ?_
                  refine K.thN ?_
                  refine AW.seqR ?_
                  refine R.assign ?_
                  refine R.fin [2] ?_
                  refine AW.ret ?_
                  exact K.fin (V.one V.tmp) ⟨by simp_all [refArM], rfl⟩
      · skip
        refine AW.region ?_
        refine R.seql ?_
        refine R.assign ?_
        refine R.fin [3, 4] ?_
        refine K.thN ?_
        refine W.cond (fun ht4 => ?_) (fun ht4 => ?_)
        · skip
          refine AW.seqR ?_
          refine R.assign ?_
          refine R.fin [2] ?_
          refine AW.ret ?_
          refine K.blR ?_
          refine K.thR ?_
          exact K.fin (V.one V.tmp) ⟨by simp_all [refArM], rfl⟩
        · skip
          refine W.seq ?_
          refine AW.seqR ?_
          refine R.seql ?_
          refine R.assign ?_
          refine R.fin [3, 9] ?_
          refine W.cond (fun ht9 => ?_) (fun ht9 => ?_)
          · skip
            refine AW.skip ?_
            refine K.thN ?_
            refine W.cond (fun ht9 => ?_) (fun ht9 => ?_)
            · skip
              refine AW.seqR ?_
              refine R.assign ?_
              refine R.fin [2] ?_
              refine AW.ret ?_
              refine K.blR ?_
              refine K.thR ?_
              exact K.fin (V.one V.tmp) ⟨by simp_all [refArM], rfl⟩
            · skip
              refine AW.seqR ?_
              refine R.seql ?_
              refine R.assign ?_
              refine R.fin [13] ?_
              refine W.cond (fun ht13 => ?_) (fun ht13 => ?_)
              · skip
                refine AW.seqR ?_
                refine R.assign ?_
                refine R.fin [2] ?_
                refine AW.ret ?_
                refine K.blR ?_
                refine K.thR ?_
                exact K.fin (V.one V.tmp) ⟨by simp_all [refArM], rfl⟩
              · skip
                refine AW.skip ?_
                refine K.blN ?_
                refine K.thN ?_
                refine AW.seqR ?_
                refine R.assign ?_
                refine R.fin [2] ?_
                refine AW.ret ?_
                exact K.fin (V.one V.tmp) ⟨by simp_all [refArM], rfl⟩
          · skip
            refine AW.seqR ?_
            refine R.seql ?_
            refine R.assign ?_
            refine R.fin [3, 9] ?_
            refine W.cond (fun ht9 => ?_) (fun ht9 => ?_)
            · skip
              refine AW.skip ?_
              refine K.thN ?_
              refine W.cond (fun ht9 => ?_) (fun ht9 => ?_)
              · skip
                refine AW.seqR ?_
                refine R.assign ?_
                refine R.fin [2] ?_
                refine AW.ret ?_
                refine K.blR ?_
                refine K.thR ?_
                exact K.fin (V.one V.tmp) ⟨by simp_all [refArM], rfl⟩
              · skip
                refine AW.seqR ?_
                refine R.seql ?_
                refine R.assign ?_
                refine R.fin [13] ?_
                refine W.cond (fun ht13 => ?_) (fun ht13 => ?_)
                · skip
                  refine AW.seqR ?_
                  refine R.assign ?_
                  refine R.fin [2] ?_
                  refine AW.ret ?_
                  refine K.blR ?_
                  refine K.thR ?_
                  exact K.fin (V.one V.tmp) ⟨by simp_all [refArM], rfl⟩
                · skip
                  refine AW.skip ?_
                  refine K.blN ?_
                  refine K.thN ?_
                  refine AW.seqR ?_
                  refine R.assign ?_
                  refine R.fin [2] ?_
                  refine AW.ret ?_
                  exact K.fin (V.one V.tmp) ⟨by simp_all [refArM], rfl⟩
            · skip
              refine AW.region ?_
              refine R.seql ?_
              refine R.assign ?_
              refine R.fin [3, 9] ?_
              refine K.thN ?_
              refine W.cond (fun ht9 => ?_) (fun ht9 => ?_)
              · skip
                refine AW.seqR ?_
                refine R.assign ?_
                refine R.fin [2] ?_
                refine AW.ret ?_
                refine K.blR ?_
                refine K.thR ?_
                exact K.fin (V.one V.tmp) ⟨by simp_all [refArM], rfl⟩
              · skip
                refine AW.seqR ?_
                refine R.seql ?_
                refine R.assign ?_
                refine R.fin [13] ?_
                refine W.cond (fun ht13 => ?_) (fun ht13 => ?_)
                · skip
                  refine AW.seqR ?_
                  refine R.assign ?_
                  refine R.fin [2] ?_
                  refine AW.ret ?_
                  refine K.blR ?_
                  refine K.thR ?_
                  exact K.fin (V.one V.tmp) ⟨by simp_all [refArM], rfl⟩
                · skip
                  refine AW.skip ?_
                  refine K.blN ?_
                  refine K.thN ?_
                  refine AW.seqR ?_
                  refine R.assign ?_
                  refine R.fin [2] ?_
                  refine AW.ret ?_
                  exact K.fin (V.one V.tmp) ⟨by simp_all [refArM], rfl⟩

theorem level_at {s : Str} {x : Nat} (hx : x < levels.length) (h : levels[x].contains s = true) (h0 : ∀ (j : Nat) (l : List Str), j < x → levels[j]? = some l → l.contains s = false) : levelM s = (x : Int) := by
  unfold levelM
  rw [List.findIdx?_eq_some_iff_getElem.2 ⟨hx, h, fun j hj => by
    have e := h0 j levels[j] hj (List.getElem?_eq_getElem _)
    show ¬ (levels[j].contains s = true)
    rw [e]
    simp⟩]
theorem level_no {s : Str} (h0 : ∀ (j : Nat) (l : List Str), j < levels.length → levels[j]? = some l → l.contains s = false) : levelM s = -1 := by
  unfold levelM
  rw [List.findIdx?_eq_none_iff.2 fun l hl => by
    obtain ⟨j, hj⟩ := List.getElem?_of_mem hl
    exact h0 j l (List.getElem?_eq_some_iff.1 hj).1 hj]
theorem levels_len : levels.length = 6 := rfl
theorem levels_short {x : Nat} (hx : x < levels.length) : levels[x].length ≤ 6 := by
  have : (levels.all fun l => decide (l.length ≤ 6)) = true := by kernel_rfl
  exact of_decide_eq_true (List.all_eq_true.1 this _ (List.getElem_mem hx))
theorem contains_upto {l : List Str} {s : Str} (h : ∀ (j : Nat) (w : Str), j < l.length → l[j]? = some w → (w == s) = false) : l.contains s = false := by
  rw [Bool.eq_false_iff]
  intro hc
  have hm : s ∈ l := by simpa using hc
  obtain ⟨j, hj⟩ := List.getElem?_of_mem hm
  have := h j s (List.getElem?_eq_some_iff.1 hj).1 hj
  simp at this
theorem c154 (s : Str) (Hp : List AObj) : AFun Tryz.prog 154 [strA s] Hp (intA (levelM s)) := by
  refine ACall.body [.tmp 2] [0] Tryz.func154 Tryz.ntmps154 (fun d => ?_)
  refine AW.seqR ?_
  refine R.assign ?_
  refine R.fin [0] ?_
  refine AW.seqR ?_
  refine R.buildSlice Tryz.underlying50 Tryz.sizeOf9 Tryz.zeroValue9 ?_
  refine R.buildSlice Tryz.underlying50 Tryz.sizeOf9 Tryz.zeroValue9 ?_
  refine R.buildSlice Tryz.underlying50 Tryz.sizeOf9 Tryz.zeroValue9 ?_
  refine R.buildSlice Tryz.underlying50 Tryz.sizeOf9 Tryz.zeroValue9 ?_
  refine R.buildSlice Tryz.underlying50 Tryz.sizeOf9 Tryz.zeroValue9 ?_
  refine R.buildSlice Tryz.underlying50 Tryz.sizeOf9 Tryz.zeroValue9 ?_
  refine R.buildSlice Tryz.underlying208 Tryz.sizeOf50 Tryz.zeroValue50 ?_
  refine R.assignT ?_
  refine R.fin [0, 3] ?_
  refine W.seq ?_
  refine AW.seqR ?_
  refine R.assign ?_
  refine R.fin [0, 3, 4] ?_
  refine AW.loopC (α := Nat) (fun x => ⟨38, setF 0 (strA s) (setF 3 (.slice true 1 (levels.map strsA)) (setF 4 (intA (x : Nat)) (fun _ => .any))), Hp, [], [], none⟩) (fun x => x ≤ levels.length ∧ ∀ (j : Nat) (l : List Str), j < x → levels[j]? = some l → l.contains s = false) (fun x => levels.length - x) (0) ⟨Nat.zero_le _, fun j l h => by omega⟩ (StLe.refl _) rfl (fun x hx => ?_)
  refine W.seq ?_
  refine AW.seqR ?_
  refine R.move ?_
  refine R.move ?_
  refine R.len Tryz.underlying208 ?_
  refine R.lss ?_
  refine R.fin [0, 3, 4, 16] ?_
  refine W.cond (fun ht16 => ?_) (fun ht16 => ?_)
  · skip
    have hlt : x < levels.length := by simpa using ht16
    have h6 := levels_len
    have hls := levels_short hlt
    refine AW.skip ?_
    refine K.thN ?_
    refine W.seq ?_
    refine AW.block ?_
    refine AW.seqR ?_
    refine R.assign ?_
    refine R.fin [0, 3, 4, 5] ?_
    refine AW.loopC (α := Nat) (fun y => ⟨38, setF 0 (strA s) (setF 3 (.slice true 1 (levels.map strsA)) (setF 4 (intA (x : Nat)) (setF 5 (intA (y : Nat)) (fun _ => .any)))), Hp, [], [], none⟩) (fun y => y ≤ levels[x].length ∧ ∀ (j : Nat) (w : Str), j < y → levels[x][j]? = some w → (w == s) = false) (fun y => levels[x].length - y) (0) ⟨Nat.zero_le _, fun j l h => by omega⟩ (StLe.refl _) rfl (fun y hy => ?_)
    refine W.seq ?_
    refine AW.seqR ?_
    refine R.move ?_
    refine R.move ?_
    refine R.move ?_
    refine R.indexAddr (x) (strsA levels[x]) Tryz.underlying208 Tryz.sizeOf50 (getMap hlt) ?_
    refine R.loadRo Tryz.isAgg50 ?_
    refine R.len Tryz.underlying50 ?_
    refine R.lss ?_
    refine R.fin [0, 3, 4, 5, 25] ?_
    refine W.cond (fun ht25 => ?_) (fun ht25 => ?_)
    · skip
      have hly : y < levels[x].length := by simpa using ht25
      refine AW.skip ?_
      refine K.thN ?_
      refine W.seq ?_
      refine AW.block ?_
      refine AW.seqR ?_
      refine R.move ?_
      refine R.move ?_
      refine R.indexAddr (x) (strsA levels[x]) Tryz.underlying208 Tryz.sizeOf50 (getMap hlt) ?_
      refine R.loadRo Tryz.isAgg50 ?_
      refine R.move ?_
      refine R.indexAddr (y) (strA (levels[x])[y]) Tryz.underlying50 Tryz.sizeOf9 (getMap hly) ?_
      refine R.loadRo Tryz.isAgg9 ?_
      refine R.move ?_
      refine R.seql ?_
      refine R.fin [0, 3, 4, 5, 36] ?_
      refine W.cond (fun ht36 => ?_) (fun ht36 => ?_)
      · skip
        refine AW.seqR ?_
        refine R.move ?_
        refine R.assign ?_
        refine R.fin [2] ?_
        refine AW.ret ?_
        refine K.blR ?_
        refine K.thR ?_
        refine K.lpR ?_
        refine K.blR ?_
        refine K.thR ?_
        refine K.lpR ?_
        refine K.thR ?_
        exact K.fin (V.one V.tmp) ⟨by rw [level_at hlt (by simp only [List.contains_iff_mem]; have := ht36; simp only [beq_iff_eq] at this; rw [← this]; exact List.getElem_mem hly) hx.2], rfl⟩
      · skip
        refine AW.skip ?_
        refine K.blN ?_
        refine K.thN ?_
        refine AW.region ?_
        refine R.move ?_
        refine R.add64 ?_
        refine R.assign ?_
        refine R.fin [0, 3, 4, 5] ?_
        exact K.lpN (y + 1) ⟨hly, upto_succ hly hy.2 ht36⟩ (by omega) (StCut.of_eq rfl)
    · skip
      have hny : levels[x].length ≤ y := by simpa using ht25
      refine AW.exit ?_
      refine K.thE ?_
      refine K.lpE ?_
      refine K.blN ?_
      refine K.thN ?_
      refine AW.region ?_
      refine R.move ?_
      refine R.add64 ?_
      refine R.assign ?_
      refine R.fin [0, 3, 4] ?_
      exact K.lpN (x + 1) ⟨hlt, upto_succ hlt hx.2 (contains_upto fun j w hj hw => hy.2 j w (by omega) hw)⟩ (by omega) (StCut.of_eq rfl)
  · skip
    have hnx : levels.length ≤ x := by simpa using ht16
    refine AW.exit ?_
    refine K.thE ?_
    refine K.lpE ?_
    refine K.thN ?_
    refine AW.seqR ?_
    refine R.assign ?_
    refine R.fin [2] ?_
    refine AW.ret ?_
    exact K.fin (V.one V.tmp) ⟨by rw [level_no (fun j l hj h => hx.2 j l (by omega) h)], rfl⟩

theorem c126 (e : Expr) (hs : e.text.length ≤ 1048576) (Hp : List AObj) : AFun Tryz.prog 126 [exprA e] Hp (boolA (nodeOneM e)) := by
  refine ACall.body [.tmp 2] [0] Tryz.func126 Tryz.ntmps126 (fun d => ?_)
  refine AW.seqR ?_
  refine R.boxRo ?_
  refine R.assign ?_
  refine R.fin [1] ?_
  refine AW.seqR ?_
  refine R.fieldAddrRo (off := 5) Tryz.underlying69 Tryz.sizeOf67 ?_
  refine R.loadRo Tryz.isAgg67 ?_
  refine R.len Tryz.underlying67 ?_
  refine R.assign ?_
  refine R.fin [1, 3] ?_
  refine W.seq ?_
  refine AW.seqR ?_
  refine R.fieldAddrRo (off := 0) Tryz.underlying69 Tryz.sizeOf3 ?_
  refine R.loadRo Tryz.isAgg3 ?_
  refine R.eql ?_
  refine R.fin [1, 3, 9] ?_
  refine W.cond (fun ht9 => ?_) (fun ht9 => ?_)
  · skip
    refine AW.seqR ?_
    refine R.fieldAddrRo (off := 2) Tryz.underlying69 Tryz.sizeOf36 ?_
    refine R.loadRoN Tryz.isAgg36 Tryz.sizeOf36 ?_
    refine R.call Tryz.call157 (c157 e.val _) ?_
    refine R.move ?_
    refine G.fieldAddrRo (off := 2) Tryz.underlying69 Tryz.sizeOf36 ?_
    refine G.fieldAddrRo (off := 1) Tryz.underlying36 Tryz.sizeOf2 ?_
    refine G.loadRo Tryz.isAgg2 ?_
    refine G.geq ?_
    refine R.pickAnd ?_
    refine R.move ?_
    refine G.fieldAddrRo (off := 1) Tryz.underlying69 Tryz.sizeOf9 ?_
    refine G.loadRo Tryz.isAgg9 ?_
    refine G.seql ?_
    refine R.pickAnd ?_
    refine R.move ?_
    refine G.move ?_
    refine G.eql ?_
    refine R.pickAnd ?_
    refine R.assign ?_
    refine R.fin [2] ?_
    refine AW.ret ?_
    refine K.thR ?_
    exact K.fin (V.one V.tmp) ⟨by simp_all [nodeOneM, bareM, arity_ref], rfl⟩
  · skip
    refine AW.skip ?_
    refine K.thN ?_
    refine W.seq ?_
    refine AW.seqR ?_
    refine R.fieldAddrRo (off := 2) Tryz.underlying69 Tryz.sizeOf36 ?_
    refine R.loadRoN Tryz.isAgg36 Tryz.sizeOf36 ?_
    refine R.build (places := #[(0, 1), (1, 1), (2, 1)]) Tryz.underlying36 (fun w => by simp) Tryz.zeroValue36 ?_
    refine R.neqAgg eg36 (equal36 e.val.kind e.val.n 0 0 e.val.s []) ?_
    refine R.fin [1, 3, 31] ?_
    refine W.cond (fun ht31 => ?_) (fun ht31 => ?_)
    · skip
      refine AW.seqR ?_
      refine R.assign ?_
      refine R.fin [2] ?_
      refine AW.ret ?_
      refine K.thR ?_
      exact K.fin (V.one V.tmp) ⟨by simp_all [nodeOneM, bareM, arity_ref], rfl⟩
    · skip
      refine AW.skip ?_
      refine K.thN ?_
      refine W.seq ?_
      refine AW.seqR ?_
      refine R.fieldAddrRo (off := 0) Tryz.underlying69 Tryz.sizeOf3 ?_
      refine R.loadRo Tryz.isAgg3 ?_
      refine R.fin [1, 3, 33] ?_
      refine AW.block ?_
      refine AW.seqR ?_
      refine R.eql ?_
      refine R.assign ?_
      refine R.fin [1, 3, 33, 34] ?_
      refine W.cond (fun ht34 => ?_) (fun ht34 => ?_)
      · skip
        refine AW.seqR ?_
        refine R.fieldAddrRo (off := 1) Tryz.underlying69 Tryz.sizeOf9 ?_
        refine R.loadRo Tryz.isAgg9 ?_
        refine R.call Tryz.call16 (c16 e.text hs _) ?_
        refine R.move ?_
        refine G.move ?_
        refine G.eql ?_
        refine R.pickAnd ?_
        refine R.assign ?_
        refine R.fin [2] ?_
        refine AW.ret ?_
        refine K.blR ?_
        refine K.thR ?_
        exact K.fin (V.one V.tmp) ⟨by simp_all [nodeOneM, bareM, arity_ref], rfl⟩
      · skip
        refine W.seq ?_
        refine AW.seqR ?_
        refine R.eql ?_
        refine R.assign ?_
        refine R.fin [1, 3, 33, 43] ?_
        refine W.cond (fun ht43 => ?_) (fun ht43 => ?_)
        · skip
          refine AW.skip ?_
          refine K.thN ?_
          refine W.cond (fun ht43 => ?_) (fun ht43 => ?_)
          · skip
            refine AW.seqR ?_
            refine R.fieldAddrRo (off := 1) Tryz.underlying69 Tryz.sizeOf9 ?_
            refine R.loadRo Tryz.isAgg9 ?_
            refine R.seql ?_
            refine R.move ?_
            refine G.move ?_
            refine G.eql ?_
            refine R.pickAnd ?_
            refine R.assign ?_
            refine R.fin [2] ?_
            refine AW.ret ?_
            refine K.blR ?_
            refine K.thR ?_
            exact K.fin (V.one V.tmp) ⟨by simp_all [nodeOneM, bareM, arity_ref], rfl⟩
          · skip
            refine AW.seqR ?_
            refine R.eql ?_
            refine R.assign ?_
            refine R.fin [1, 3, 33, 53] ?_
            refine W.cond (fun ht53 => ?_) (fun ht53 => ?_)
            · skip
              refine AW.seqR ?_
              refine R.fieldAddrRo (off := 1) Tryz.underlying69 Tryz.sizeOf9 ?_
              refine R.loadRo Tryz.isAgg9 ?_
              refine R.call Tryz.call154 (c154 e.text _) ?_
              refine R.geq ?_
              refine R.move ?_
              refine G.move ?_
              refine G.eql ?_
              refine R.pickAnd ?_
              refine R.assign ?_
              refine R.fin [2] ?_
              refine AW.ret ?_
              refine K.blR ?_
              refine K.thR ?_
              exact K.fin (V.one V.tmp) ⟨by simp_all [nodeOneM, bareM, arity_ref], rfl⟩
            · skip
              refine AW.seqR ?_
              refine R.eql ?_
              refine R.assign ?_
              refine R.fin [1, 3, 63] ?_
              refine W.cond (fun ht63 => ?_) (fun ht63 => ?_)
              · skip
                refine AW.seqR ?_
                refine R.fieldAddrRo (off := 1) Tryz.underlying69 Tryz.sizeOf9 ?_
                refine R.loadRo Tryz.isAgg9 ?_
                refine R.call Tryz.call51 (c51 e.text _) ?_
                refine R.move ?_
                refine R.eql ?_
                refine R.assign ?_
                refine R.fin [2] ?_
                refine AW.ret ?_
                refine K.blR ?_
                refine K.thR ?_
                exact K.fin (V.one V.tmp) ⟨by simp_all [nodeOneM, bareM, arity_ref], rfl⟩
              · skip
                refine AW.skip ?_
                refine K.blN ?_
                refine K.thN ?_
                refine AW.seqR ?_
                refine R.assign ?_
                refine R.fin [2] ?_
                refine AW.ret ?_
                exact K.fin (V.one V.tmp) ⟨by simp_all [nodeOneM, bareM, arity_ref], rfl⟩
        · skip
          refine AW.region ?_
          refine R.eql ?_
          refine R.assign ?_
          refine R.fin [1, 3, 33, 43] ?_
          refine K.thN ?_
          refine W.cond (fun ht43 => ?_) (fun ht43 => ?_)
          · skip
            refine AW.seqR ?_
            refine R.fieldAddrRo (off := 1) Tryz.underlying69 Tryz.sizeOf9 ?_
            refine R.loadRo Tryz.isAgg9 ?_
            refine R.seql ?_
            refine R.move ?_
            refine G.move ?_
            refine G.eql ?_
            refine R.pickAnd ?_
            refine R.assign ?_
            refine R.fin [2] ?_
            refine AW.ret ?_
            refine K.blR ?_
            refine K.thR ?_
            exact K.fin (V.one V.tmp) ⟨by simp_all [nodeOneM, bareM, arity_ref], rfl⟩
          · skip
            refine AW.seqR ?_
            refine R.eql ?_
            refine R.assign ?_
            refine R.fin [1, 3, 33, 53] ?_
            refine W.cond (fun ht53 => ?_) (fun ht53 => ?_)
            · skip
              refine AW.seqR ?_
              refine R.fieldAddrRo (off := 1) Tryz.underlying69 Tryz.sizeOf9 ?_
              refine R.loadRo Tryz.isAgg9 ?_
              refine R.call Tryz.call154 (c154 e.text _) ?_
              refine R.geq ?_
              refine R.move ?_
              refine G.move ?_
              refine G.eql ?_
              refine R.pickAnd ?_
              refine R.assign ?_
              refine R.fin [2] ?_
              refine AW.ret ?_
              refine K.blR ?_
              refine K.thR ?_
              exact K.fin (V.one V.tmp) ⟨by simp_all [nodeOneM, bareM, arity_ref], rfl⟩
            · skip
              refine AW.seqR ?_
              refine R.eql ?_
              refine R.assign ?_
              refine R.fin [1, 3, 63] ?_
              refine W.cond (fun ht63 => ?_) (fun ht63 => ?_)
              · skip
                refine AW.seqR ?_
                refine R.fieldAddrRo (off := 1) Tryz.underlying69 Tryz.sizeOf9 ?_
                refine R.loadRo Tryz.isAgg9 ?_
                refine R.call Tryz.call51 (c51 e.text _) ?_
                refine R.move ?_
                refine R.eql ?_
                refine R.assign ?_
                refine R.fin [2] ?_
                refine AW.ret ?_
                refine K.blR ?_
                refine K.thR ?_
                exact K.fin (V.one V.tmp) ⟨by simp_all [nodeOneM, bareM, arity_ref], rfl⟩
              · skip
                refine AW.skip ?_
                refine K.blN ?_
                refine K.thN ?_
                refine AW.seqR ?_
                refine R.assign ?_
                refine R.fin [2] ?_
                refine AW.ret ?_
                exact K.fin (V.one V.tmp) ⟨by simp_all [nodeOneM, bareM, arity_ref], rfl⟩

theorem c91 : ∀ (n : Nat) (e : Expr), okE n e → ∀ Hp : List AObj, AFun Tryz.prog 91 [exprA e] Hp (boolA (allE nodeOneM e)) := by
  intro n
  induction n with
  | zero => exact fun e h => h.elim
  | succ n ih =>
  intro e hok Hp
  refine ACall.body [.tmp 2] [0] Tryz.func91 Tryz.ntmps91 (fun d => ?_)
  refine AW.seqR ?_
  refine R.boxRo ?_
  refine R.assign ?_
  refine R.fin [1] ?_
  refine W.seq ?_
  refine AW.seqR ?_
  refine R.loadRoN Tryz.isAgg69 Tryz.sizeOf69 ?_
  refine R.call Tryz.call126 (c126 e hok.1 _) ?_
  refine R.not ?_
  refine R.fin [1, 6] ?_
  refine W.cond (fun ht6 => ?_) (fun ht6 => ?_)
  · skip
    refine AW.seqR ?_
    refine R.assign ?_
    refine R.fin [2] ?_
    refine AW.ret ?_
    refine K.thR ?_
    exact K.fin (V.one V.tmp) ⟨by rw [allE_eq]; simp at ht6; rw [ht6]; rfl, rfl⟩
  · skip
    refine AW.skip ?_
    refine K.thN ?_
    refine W.seq ?_
    refine AW.seqR ?_
    refine R.assign ?_
    refine R.fin [1, 3] ?_
    refine AW.loopC (α := Nat) (fun x => ⟨21, setF 1 (.ro (exprC e)) (setF 3 (intA (x : Nat)) (fun _ => .any)), Hp, [], [], none⟩) (fun x => x ≤ e.kids.length ∧ allL nodeOneM (e.kids.take x) = true) (fun x => e.kids.length - x) (0) ⟨Nat.zero_le _, rfl⟩ (StLe.refl _) rfl (fun x hx => ?_)
    refine W.seq ?_
    refine AW.seqR ?_
    refine R.move ?_
    refine R.fieldAddrRo (off := 5) Tryz.underlying69 Tryz.sizeOf67 ?_
    refine R.loadRo Tryz.isAgg67 ?_
    refine R.len Tryz.underlying67 ?_
    refine R.lss ?_
    refine R.fin [1, 3, 11] ?_
    refine W.cond (fun ht11 => ?_) (fun ht11 => ?_)
    · skip
      have hlt : x < e.kids.length := by simpa using ht11
      have hkl := hok.2.1
      refine AW.skip ?_
      refine K.thN ?_
      refine W.seq ?_
      refine AW.block ?_
      refine AW.seqR ?_
      refine R.fieldAddrRo (off := 5) Tryz.underlying69 Tryz.sizeOf67 ?_
      refine R.loadRo Tryz.isAgg67 ?_
      refine R.move ?_
      refine R.indexAddr (x) (exprA e.kids[x]) Tryz.underlying67 Tryz.sizeOf69 (getMap hlt) ?_
      refine R.loadRoN Tryz.isAgg69 Tryz.sizeOf69 ?_
      refine R.call Tryz.call91 (ih e.kids[x] (hok.2.2 _ (List.getElem_mem hlt)) _) ?_
      refine R.not ?_
      refine R.fin [1, 3, 20] ?_
      refine W.cond (fun ht20 => ?_) (fun ht20 => ?_)
      · skip
        refine AW.seqR ?_
        refine R.assign ?_
        refine R.fin [2] ?_
        refine AW.ret ?_
        refine K.blR ?_
        refine K.thR ?_
        refine K.lpR ?_
        refine K.thR ?_
        exact K.fin (V.one V.tmp) ⟨by rw [show allE nodeOneM e = false from by rw [Bool.eq_false_iff]; intro h; rw [allE_eq, Bool.and_eq_true] at h; have := (allL_iff _ _).1 h.2 _ (List.getElem_mem hlt); rw [this] at ht20; cases ht20], rfl⟩
      · skip
        refine AW.skip ?_
        refine K.blN ?_
        refine K.thN ?_
        refine AW.region ?_
        refine R.move ?_
        refine R.add64 ?_
        refine R.assign ?_
        refine R.fin [1, 3] ?_
        exact K.lpN (x + 1) ⟨hlt, by rw [List.take_succ_eq_append_getElem hlt, allL_append, hx.2, allL, allL, Bool.and_true, Bool.true_and]; simpa using ht20⟩ (by omega) (StCut.of_eq rfl)
    · skip
      have hxe : e.kids.take x = e.kids := List.take_of_length_le (by simp at ht11; omega)
      refine AW.exit ?_
      refine K.thE ?_
      refine K.lpE ?_
      refine K.thN ?_
      refine AW.seqR ?_
      refine R.assign ?_
      refine R.fin [2] ?_
      refine AW.ret ?_
      exact K.fin (V.one V.tmp) ⟨by have := hx.2; rw [hxe] at this; rw [allE_eq, this]; simp at ht6; rw [ht6]; rfl, rfl⟩

theorem all_node (e : Expr) : allE nodeOneM e = allE nodeM e := by rw [show nodeM = nodeOneM from funext node_one]
theorem c42 (n : Nat) (e : Expr) (hok : okE n e) (hn : n ≤ 1048576) (hs : sizeE e ≤ 1048576) (Hp : List AObj) : AFun Tryz.prog 42 [exprA e] Hp (boolA (refRightM e)) := by
  refine ACall.body [.tmp 2] [0] Tryz.func42 Tryz.ntmps42 (fun d => ?_)
  refine AW.seqR ?_
  refine R.boxRo ?_
  refine R.assign ?_
  refine R.fin [1] ?_
  refine AW.seqR ?_
  refine R.loadRoN Tryz.isAgg69 Tryz.sizeOf69 ?_
  refine R.call Tryz.call44 (c44 n e hok hn _) ?_
  refine R.leq ?_
  refine R.move ?_
  refine G.loadRoN Tryz.isAgg69 Tryz.sizeOf69 ?_
  refine G.call Tryz.call46 (fun hB => c46 n e hok hs _) ?_
  refine G.leq ?_
  refine R.pickAnd ?_
  refine R.move ?_
  refine G.loadRoN Tryz.isAgg69 Tryz.sizeOf69 ?_
  refine G.call Tryz.call91 (fun hB => c91 n e hok _) ?_
  refine R.pickAnd ?_
  refine R.assign ?_
  refine R.fin [2] ?_
  refine AW.ret ?_
  exact K.fin (V.one V.tmp) ⟨by rw [refRightM, all_node, show decide ((depthE e : Int) ≤ 30) = decide (depthE e ≤ 30) by rw [decide_eq_decide]; omega, show decide ((sizeE e : Int) ≤ 300) = decide (sizeE e ≤ 300) by rw [decide_eq_decide]; omega], rfl⟩

end Go.SX.Nb
namespace Go.SX.Nb
open Go Go.SX Go.Proofs
variable [ErrAt]
set_option maxRecDepth 4000
/-! What is printed of columns, word by word. -/
theorem wordOf_stop {V R : Str} (h : V.all (tails.contains ·) = true) (hR : R = [] ∨ ∃ z Z, R = z :: Z ∧ tails.contains z = false) : wordOf (V ++ R) tails = V := by
  rw [wordOf_eq, List.takeWhile_append_of_pos (fun x hx => List.all_eq_true.1 h x hx)]
  rcases hR with rfl | ⟨z, Z, rfl, hz⟩
  · simp
  · rw [List.takeWhile_cons, hz]; simp
theorem run_letter {c : UInt8} (h : letters.contains c = true) : decide (0 < runM ([c] : Str) letters) = true := by
  have e : runM ([c] : Str) letters = 1 := by
    unfold runM Lib.trimLeftS
    rw [List.dropWhile_cons, h]
    rfl
  rw [e]; rfl
theorem word_behind {c : UInt8} {r R : Str} (hc : letters.contains c = true) (h : (c :: r).all (tails.contains ·) = true) (hR : R = [] ∨ ∃ z Z, R = z :: Z ∧ tails.contains z = false) : wordM ((c :: r) ++ R) = wordM (c :: r) := by
  unfold wordM
  have e1 : ((c :: r) ++ R).take 1 = [c] := rfl
  have e2 : (c :: r).take 1 = [c] := rfl
  rw [e1, e2, if_pos (run_letter hc), if_pos (run_letter hc)]
  unfold namedM
  have e3 : wordOf (c :: r) tails = c :: r := by simpa using wordOf_stop (R := []) h (.inl rfl)
  rw [wordOf_stop h hR, e3]
theorem name_chars {s : Str} (h : lexNameM s = true) : ∃ c r, s = c :: r ∧ letters.contains c = true ∧ s.all (tails.contains ·) = true := by
  unfold lexNameM at h
  simp only [Bool.and_eq_true, Bool.not_eq_true', beq_eq_false_iff_ne, decide_eq_true_eq] at h
  obtain ⟨⟨⟨⟨h1, h2⟩, h3⟩, h4⟩, h5⟩ := h
  cases s with
  | nil => exact absurd rfl h1
  | cons c r =>
    have hl : letters.contains c = true := by
      have e := run_all [c] letters
      have h4' : (runM [c] letters == (([c] : Str).length : Int)) = true := h4
      rw [e] at h4'
      simpa using h4'
    rw [run_all] at h3
    exact ⟨c, r, rfl, hl, h3⟩
theorem kind_cases {k : Int} (h1 : 1 ≤ k) (h3 : k ≤ 3) : k = 1 ∨ k = 2 ∨ k = 3 := by omega
theorem kind_chars {k : Int} (h1 : 1 ≤ k) (h3 : k ≤ 3) : ∃ c r, kindNameM k = c :: r ∧ letters.contains c = true ∧ (kindNameM k).all (tails.contains ·) = true ∧ wordM (kindNameM k) = (2, kindNameM k, ((kindNameM k).length : Int), 0) := by
  rcases kind_cases h1 h3 with rfl | rfl | rfl
  · exact ⟨105, [110, 116], by kernel_rfl, by kernel_rfl, by kernel_rfl, by kernel_rfl⟩
  · exact ⟨116, [101, 120, 116], by kernel_rfl, by kernel_rfl, by kernel_rfl, by kernel_rfl⟩
  · exact ⟨98, [111, 111, 108], by kernel_rfl, by kernel_rfl, by kernel_rfl, by kernel_rfl⟩
theorem items_word {f q n : Nat} {s t : Str} {k : Int} (hs : s ≠ []) (hw : wordM s = (k, t, (n : Int), 0)) : itemsF (f + 1) q s = (⟨k, t, q⟩, 0) :: lexG f (q + n) (s.drop n) := by
  obtain ⟨m, h1, h2⟩ := itemsF_step (f := f) (q := q) hs
  rw [hw] at h1 h2
  obtain ⟨hm, _⟩ := h2 rfl
  have : m = n := by simp only at hm; omega
  subst this
  simpa using h1
theorem gap_comma (r : Str) : gapM (44 :: r) = 0 := by
  unfold gapM
  rw [skipB, if_neg (by decide), if_neg (by decide)]
  omega
theorem word_comma (r : Str) : wordM (44 :: 32 :: r) = (5, [44], ((1 : Nat) : Int), 0) := by
  unfold wordM
  have e1 : ((44 : UInt8) :: 32 :: r).take 1 = [44] := rfl
  have e2 : ((44 : UInt8) :: 32 :: r).getD 0 0 = 44 := rfl
  rw [e1, e2, if_neg (by decide), if_neg (by decide), if_neg (by decide)]
  unfold signM
  have e3 : ((44 : UInt8) :: 32 :: r).getD 1 0 = 32 := rfl
  rw [e1, e3, if_neg (by simp), if_pos (by decide)]
  rfl
theorem lexG_at {f q : Nat} {s : Str} (h : gapM s = 0) : lexG f q s = itemsF f q s := by
  unfold lexG
  rw [h, Nat.add_zero, List.drop_zero]
structure ColOk (x : Col) : Prop where
  name : lexNameM x.name = true
  lo : 1 ≤ x.kind
  hi : x.kind ≤ 3
def schR : List Col → Str
  | [] => []
  | x :: r => 44 :: 32 :: (colT x ++ schR r)
def expR : List Col → List (Int × Str × Int)
  | [] => []
  | x :: r => (5, [44], 0) :: (1, x.name, 0) :: (2, kindNameM x.kind, 0) :: expR r
theorem schR_stop (r : List Col) : schR r = [] ∨ ∃ z Z, schR r = z :: Z ∧ tails.contains z = false := by
  cases r with
  | nil => exact .inl rfl
  | cons x r => exact .inr ⟨44, _, rfl, by decide⟩
theorem colT_cons {x : Col} (h : ColOk x) (R : Str) : ∃ c r, colT x ++ R = c :: r ∧ letters.contains c = true := by
  obtain ⟨c, r, e, hc, _⟩ := name_chars h.name
  exact ⟨c, r ++ [32] ++ kindNameM x.kind ++ R, by unfold colT; rw [e]; simp, hc⟩
theorem sch_items : ∀ (r : List Col) (x : Col) (f q : Nat), ColOk x → (∀ y ∈ r, ColOk y) → (colT x ++ schR r).length < f → (itemsF f q (colT x ++ schR r)).map sameT = (1, x.name, 0) :: (2, kindNameM x.kind, 0) :: expR r := by
  intro r
  induction r with
  | nil =>
    intro x f q hx _ hf
    obtain ⟨f, rfl⟩ : ∃ g, f = g + 1 + 1 := ⟨f - 2, by
      obtain ⟨c, t, e, _⟩ := colT_cons hx (schR [])
      rw [e] at hf
      simp at hf
      omega⟩
    obtain ⟨c, t, e, hc, ha⟩ := name_chars hx.name
    obtain ⟨kc, kt, ke, hkc, hka, hkw⟩ := kind_chars hx.lo hx.hi
    obtain ⟨hw, _⟩ := name_word hx.name
    have es : colT x ++ schR [] = (c :: t) ++ (32 :: (kindNameM x.kind ++ schR [])) := by unfold colT; rw [e]; simp
    have hw1 : wordM (colT x ++ schR []) = (1, x.name, ((c :: t).length : Int), 0) := by
      rw [es, word_behind hc (by rw [← e]; exact ha) (.inr ⟨32, _, rfl, by decide⟩), ← e]; exact hw
    rw [items_word (n := (c :: t).length) (by rw [es]; simp) hw1]
    have hd : (colT x ++ schR []).drop (c :: t).length = 32 :: (kindNameM x.kind ++ schR []) := by rw [es, List.drop_left]
    have hne : kindNameM x.kind ++ schR [] ≠ [] := by rw [ke]; simp
    rw [hd, lexG_blank, lexG_at (by rw [ke]; exact gap_letter hkc _)]
    have hw2 : wordM (kindNameM x.kind ++ schR []) = (2, kindNameM x.kind, ((kindNameM x.kind).length : Int), 0) := by
      have := word_behind (R := schR []) hkc (by rw [← ke]; exact hka) (schR_stop [])
      rw [← ke] at this
      rw [this, hkw]
    rw [items_word hne hw2, List.drop_left, show schR [] = [] from rfl]
    rw [show lexG f (q + (c :: t).length + 1 + (kindNameM x.kind).length) [] = [] from by unfold lexG; exact itemsF_nil _ _]
    rfl
  | cons y r ih =>
    intro x f q hx hr hf
    have hy := hr y (by simp)
    obtain ⟨c, t, e, hc, ha⟩ := name_chars hx.name
    obtain ⟨kc, kt, ke, hkc, hka, hkw⟩ := kind_chars hx.lo hx.hi
    obtain ⟨hw, _⟩ := name_word hx.name
    have es : colT x ++ schR (y :: r) = (c :: t) ++ (32 :: (kindNameM x.kind ++ schR (y :: r))) := by unfold colT; rw [e]; simp
    have hl := congrArg List.length es
    have hl2 : (schR (y :: r)).length = (colT y ++ schR r).length + 2 := by simp [schR]
    obtain ⟨f, rfl⟩ : ∃ g, f = g + 1 + 1 + 1 := ⟨f - 3, by
      rw [es] at hf
      simp only [List.length_append, List.length_cons] at hf hl2
      omega⟩
    have hw1 : wordM (colT x ++ schR (y :: r)) = (1, x.name, ((c :: t).length : Int), 0) := by
      rw [es, word_behind hc (by rw [← e]; exact ha) (.inr ⟨32, _, rfl, by decide⟩), ← e]; exact hw
    rw [items_word (n := (c :: t).length) (by rw [es]; simp) hw1]
    have hd : (colT x ++ schR (y :: r)).drop (c :: t).length = 32 :: (kindNameM x.kind ++ schR (y :: r)) := by rw [es, List.drop_left]
    have hne : kindNameM x.kind ++ schR (y :: r) ≠ [] := by rw [ke]; simp
    rw [hd, lexG_blank, lexG_at (by rw [ke]; exact gap_letter hkc _)]
    have hw2 : wordM (kindNameM x.kind ++ schR (y :: r)) = (2, kindNameM x.kind, ((kindNameM x.kind).length : Int), 0) := by
      have := word_behind (R := schR (y :: r)) hkc (by rw [← ke]; exact hka) (schR_stop (y :: r))
      rw [← ke] at this
      rw [this, hkw]
    rw [items_word hne hw2, List.drop_left, show schR (y :: r) = 44 :: 32 :: (colT y ++ schR r) from rfl, lexG_at (gap_comma _), items_word (by simp) (word_comma _), List.drop_succ_cons, List.drop_zero, lexG_blank]
    obtain ⟨d, u, eu, hdl⟩ := colT_cons hy (schR r)
    rw [lexG_at (by rw [eu]; exact gap_letter hdl _), List.map_cons, List.map_cons, List.map_cons, ih y f _ hy (fun z hz => hr z (by simp [hz])) (by
      rw [es] at hf
      simp only [List.length_append, List.length_cons] at hf hl2 ⊢
      omega)]
    rfl
theorem colsT_cons (x : Col) : ∀ r : List Col, colsT (x :: r) = colT x ++ schR r := by
  intro r
  induction r generalizing x with
  | nil => unfold colsT Lib.join; simp [List.intercalate, schR]
  | cons y r ih =>
    have := ih y
    unfold colsT Lib.join at this ⊢
    rw [List.map_cons, List.map_cons]
    rw [List.map_cons] at this
    have e : ∀ (a b : Str) (l : List Str), List.intercalate ([44, 32] : Str) (a :: b :: l) = a ++ [44, 32] ++ List.intercalate [44, 32] (b :: l) := by
      intro a b l
      simp [List.intercalate, List.intersperse]
    rw [e, this]
    simp [schR]
theorem sch_len : ∀ (r : List Col), (∀ y ∈ r, ColOk y) → (schR r).length ≤ 23 * r.length
  | [], _ => by simp [schR]
  | x :: r, h => by
    have := sch_len r (fun y hy => h y (by simp [hy]))
    obtain ⟨_, _, _, h16⟩ := name_word (h x (by simp)).name
    have h4 := kindName_len x.kind
    simp only [schR, colT, List.length_cons, List.length_append, List.length_nil]
    omega
def ktT (t : Tok) : Int × Str := (t.kind, t.text)
def expT : List Col → List (Int × Str)
  | [] => []
  | x :: r => (1, x.name) :: (2, kindNameM x.kind) :: ((expR r).map fun y => (y.1, y.2.1))
/-- The words of what is printed. -/
theorem sch_lex {c : List Col} (h : ∀ y ∈ c, ColOk y) (hl : c.length ≤ 12) : ∃ L n, lexM (colsT c) = (L ++ [⟨0, [], n⟩], 0, 0) ∧ L.map ktT = expT c := by
  cases c with
  | nil => exact ⟨[], 0, by kernel_rfl, rfl⟩
  | cons x r =>
    have hx := h x (by simp)
    have hr : ∀ y ∈ r, ColOk y := fun y hy => h y (by simp [hy])
    have h1 := sch_len r hr
    obtain ⟨_, _, _, h16⟩ := name_word hx.name
    have h4 := kindName_len x.kind
    obtain ⟨d, u, eu, hdl⟩ := colT_cons hx (schR r)
    have hg : gapM (colT x ++ schR r) = 0 := by rw [eu]; exact gap_letter hdl _
    have hit : (itemsT (colsT (x :: r))).map sameT = (1, x.name, 0) :: (2, kindNameM x.kind, 0) :: expR r := by
      rw [colsT_cons]
      unfold itemsT
      rw [hg, List.drop_zero]
      exact sch_items r x _ _ hx hr (by omega)
    have hz : ∀ it ∈ itemsT (colsT (x :: r)), it.2 = 0 := by
      intro it hm
      have : sameT it ∈ (1, x.name, (0 : Int)) :: (2, kindNameM x.kind, 0) :: expR r := by rw [← hit]; exact List.mem_map_of_mem hm
      have hz' : ∀ y ∈ (1, x.name, (0 : Int)) :: (2, kindNameM x.kind, 0) :: expR r, y.2.2 = 0 := by
        have he : ∀ r : List Col, ∀ y ∈ expR r, y.2.2 = 0 := by
          intro r
          induction r with
          | nil => intro y hy; cases hy
          | cons z r ih =>
            intro y hy
            simp only [expR, List.mem_cons] at hy
            rcases hy with rfl | rfl | rfl | hy
            · rfl
            · rfl
            · rfl
            · exact ih y hy
        intro y hy
        simp only [List.mem_cons] at hy
        rcases hy with rfl | rfl | hy
        · rfl
        · rfl
        · exact he r y hy
      exact hz' _ this
    have hlen : ¬ 4000 < (colsT (x :: r)).length := by
      rw [colsT_cons]
      simp only [List.length_append, colT, List.length_cons, List.length_nil] at h1 hl ⊢
      omega
    refine ⟨(itemsT (colsT (x :: r))).map (·.1), (colsT (x :: r)).length, ?_, ?_⟩
    · unfold lexM
      rw [if_neg hlen, lex_none hz]
    · have := congrArg (List.map fun y : Int × Str × Int => (y.1, y.2.1)) hit
      rw [List.map_map] at this ⊢
      exact this
end Go.SX.Nb
namespace Go.SX.Nb
open Go Go.SX Go.Proofs
variable [ErrAt]
set_option maxRecDepth 4000
/-! What is printed of a schema is read. -/
theorem findM_no {nm : Str} {c : List Col} (h : ∀ y ∈ c, y.name ≠ nm) : findM nm c = -1 := findM_none fun _ y hj => h y (List.mem_of_getElem? hj)
theorem kind_back {k : Int} (h1 : 1 ≤ k) (h3 : k ≤ 3) : kindM (kindNameM k) = k := by
  rcases kind_cases h1 h3 with rfl | rfl | rfl <;> kernel_rfl
theorem readF_exp : ∀ (r : List Col) (x : Col) (acc : List Col) (L : List Tok) (f n : Nat), ColOk x → (∀ y ∈ r, ColOk y) → (acc ++ x :: r).length ≤ 12 → ((acc ++ x :: r).map (·.name)).Nodup → L.map ktT = expT (x :: r) → L.length < f →
    readF f (L ++ [⟨0, [], n⟩]) acc = (acc ++ x :: r, 0, 0) := by
  intro r
  induction r with
  | nil =>
    intro x acc L f n hx _ h12 hnd hL hf
    match L, hL with
    | [a, b], hL =>
      have e : (ktT a, ktT b) = ((1, x.name), (2, kindNameM x.kind)) := by simpa [expT, expR] using hL
      simp only [ktT, Prod.mk.injEq] at e
      obtain ⟨⟨a1, a2⟩, b1, b2⟩ := e
      obtain ⟨g, rfl⟩ : ∃ g, f = g + 1 := ⟨f - 1, by simp at hf; omega⟩
      have hfn : findM a.text acc = -1 := findM_no fun y hy e => by
        rw [List.map_append, List.nodup_append] at hnd
        exact hnd.2.2 y.name (List.mem_map_of_mem hy) x.name (by simp) (e.trans a2)
      have hc : colF ([a, b] ++ [⟨0, [], n⟩]) acc = (0, 0) := by
        unfold colF
        have t0 : tokAt ([a, b] ++ [⟨0, [], n⟩]) 0 = a := rfl
        have t1 : tokAt ([a, b] ++ [⟨0, [], n⟩]) 1 = b := rfl
        have hk := kind_back hx.lo hx.hi
        have hlo := hx.lo
        have hkz : (kindM b.text == 0) = false := by rw [b2, hk, beq_eq_false_iff_ne]; omega
        have hln : ((acc.length : Int) == 12) = false := by simp at h12 ⊢; omega
        rw [t0, t1, a1, b1, hkz, hfn, hln]
        rfl
      have hN : colN ([a, b] ++ [⟨0, [], n⟩]) = x := by
        unfold colN
        have t0 : tokAt ([a, b] ++ [⟨0, [], n⟩]) 0 = a := rfl
        have t1 : tokAt ([a, b] ++ [⟨0, [], n⟩]) 1 = b := rfl
        rw [t0, t1, a2, b2, kind_back hx.lo hx.hi]
      rw [readF, hc, hN]
      rfl
    | [], hL => simp [expT] at hL
    | [_], hL => simp [expT] at hL
    | _ :: _ :: _ :: _, hL => simp [expT, expR] at hL
  | cons y r ih =>
    intro x acc L f n hx hr h12 hnd hL hf
    match L, hL with
    | [], hL => simp [expT] at hL
    | [_], hL => simp [expT] at hL
    | [_, _], hL => simp [expT, expR] at hL
    | a :: b :: c :: L, hL =>
      have e : (ktT a, ktT b, ktT c, L.map ktT) = ((1, x.name), (2, kindNameM x.kind), (5, [44]), expT (y :: r)) := by
        simp only [expT, expR, List.map_cons, List.cons.injEq] at hL
        simp only [expT, Prod.mk.injEq]
        exact ⟨hL.1, hL.2.1, hL.2.2.1, hL.2.2.2⟩
      simp only [ktT, Prod.mk.injEq] at e
      obtain ⟨⟨a1, a2⟩, ⟨b1, b2⟩, ⟨c1, c2⟩, hL'⟩ := e
      obtain ⟨g, rfl⟩ : ∃ g, f = g + 1 := ⟨f - 1, by simp at hf; omega⟩
      have hfn : findM a.text acc = -1 := findM_no fun y hy e => by
        rw [List.map_append, List.nodup_append] at hnd
        exact hnd.2.2 y.name (List.mem_map_of_mem hy) x.name (by simp) (e.trans a2)
      have t0 : tokAt ((a :: b :: c :: L) ++ [⟨0, [], n⟩]) 0 = a := rfl
      have t1 : tokAt ((a :: b :: c :: L) ++ [⟨0, [], n⟩]) 1 = b := rfl
      have t2 : tokAt ((a :: b :: c :: L) ++ [⟨0, [], n⟩]) 2 = c := rfl
      have hc : colF ((a :: b :: c :: L) ++ [⟨0, [], n⟩]) acc = (0, 0) := by
        unfold colF
        have hk := kind_back hx.lo hx.hi
        have hlo := hx.lo
        have hkz : (kindM b.text == 0) = false := by rw [b2, hk, beq_eq_false_iff_ne]; omega
        have hln : ((acc.length : Int) == 12) = false := by simp at h12 ⊢; omega
        rw [t0, t1, a1, b1, hkz, hfn, hln]
        rfl
      have hN : colN ((a :: b :: c :: L) ++ [⟨0, [], n⟩]) = x := by
        unfold colN
        rw [t0, t1, a2, b2, kind_back hx.lo hx.hi]
      rw [readF, hc, hN, t2, c1, c2, if_neg (by decide), if_neg (by decide), if_neg (by decide)]
      have hd : ((a :: b :: c :: L) ++ ([⟨0, [], n⟩] : List Tok)).drop 3 = L ++ [⟨0, [], n⟩] := rfl
      rw [hd]
      have := ih y (acc ++ [x]) L g n (hr y (by simp)) (fun z hz => hr z (by simp [hz])) (by simpa using h12) (by simpa using hnd) hL' (by simp at hf; omega)
      rw [this]
      simp
/-- What goes together: names of their own. -/
theorem colsM_ok {c : List Col} (h : colsM c = true) : (∀ y ∈ c, ColOk y) ∧ (c.map (·.name)).Nodup := by
  rw [colsM_true] at h
  have hat : ∀ (j : Nat) (y : Col), c[j]? = some y → nameM y.name = true ∧ 1 ≤ y.kind ∧ y.kind ≤ 3 ∧ findM y.name c = (j : Int) := by
    intro j y hj
    have := h j y hj
    unfold colAt at this
    simp only [Bool.not_eq_true', Bool.or_eq_false_iff, Bool.not_eq_false', decide_eq_false_iff_not, bne_eq_false_iff_eq] at this
    obtain ⟨⟨⟨h1, h2⟩, h3⟩, h4⟩ := this
    exact ⟨h1, by omega, by omega, h4⟩
  refine ⟨fun y hy => ?_, ?_⟩
  · obtain ⟨j, hj⟩ := List.getElem?_of_mem hy
    obtain ⟨h1, h2, h3, _⟩ := hat j y hj
    exact ⟨by rw [lexName_eq]; exact h1, h2, h3⟩
  · show List.Pairwise _ _
    rw [List.pairwise_iff_getElem]
    intro i j hi hj hij e
    simp only [List.length_map] at hi hj
    simp only [List.getElem_map] at e
    have e1 := (hat i c[i] (List.getElem?_eq_getElem hi)).2.2.2
    have e2 := (hat j c[j] (List.getElem?_eq_getElem hj)).2.2.2
    rw [e] at e1
    omega
theorem right_ok {c : List Col} (h : rightP c = true) : c.length ≤ 12 ∧ (∀ y ∈ c, ColOk y) ∧ (c.map (·.name)).Nodup := by
  rw [right_eq] at h
  unfold rightM at h
  rw [Bool.and_eq_true] at h
  obtain ⟨h1, h2⟩ := h
  have := of_decide_eq_true h1
  exact ⟨by omega, colsM_ok h2⟩
theorem print_read {c : List Col} (h : rightP c = true) : schReadM (colsT c) = (c, 0, 0) := by
  obtain ⟨h12, hok, hnd⟩ := right_ok h
  obtain ⟨L, n, hl, hL⟩ := sch_lex hok h12
  unfold schReadM
  rw [hl]
  cases c with
  | nil =>
    have : L = [] := by simpa [expT] using hL
    subst this
    rfl
  | cons x r =>
    have hlen : L.length = (expT (x :: r)).length := by rw [← hL, List.length_map]
    rw [if_neg (by
      have : (((L ++ [⟨0, [], n⟩] : List Tok).length : Int) == 1) = false := by
        rw [beq_eq_false_iff_ne]
        simp [expT] at hlen
        simp
        omega
      simp only [this]
      decide)]
    have := readF_exp r x [] L ((L ++ ([⟨0, [], n⟩] : List Tok)).length + 1) n (hok x (by simp)) (fun y hy => hok y (by simp [hy])) h12 hnd hL (by simp; omega)
    exact this
end Go.SX.Nb
namespace Go.SX.Nb
open Go Go.SX Go.Proofs
variable [ErrAt]
set_option maxRecDepth 4000
def awakeC : List Col := [⟨[97], 1⟩, ⟨[116], 2⟩]
def awakeT : Str := [97, 32, 105, 110, 116, 44, 32, 116, 32, 116, 101, 120, 116]
theorem awake_text : awakeT = colsT awakeC := by kernel_rfl
theorem awake_right : rightP awakeC = true := by rw [right_eq]; kernel_rfl
theorem awake_cols : OkCols awakeC := ⟨by decide, by decide⟩
theorem c25a (Hp : List AObj) : AFun Tryz.prog 25 [strA awakeT] Hp (.tup [colsA awakeC, .agg [intA 0, intA 0]]) := by
  have := c25 awakeT (by decide) Hp
  rw [awake_text, print_read awake_right, ← awake_text] at this
  exact this
theorem c22a (Hp : List AObj) : AFun Tryz.prog 22 [colsA awakeC] Hp (strA awakeT) := by
  have := c22 awakeC awake_cols Hp
  rw [schPrintM, if_pos awake_right, ← awake_text] at this
  exact this
theorem c20 (Hp : List AObj) : AFun Tryz.prog 20 [] Hp (boolA true) := by
  refine ACall.body [.tmp 0] [] Tryz.func20 Tryz.ntmps20 (fun d => ?_)
  refine AW.seqR ?_
  refine R.assign ?_
  refine R.fin [] ?_
  refine AW.seqR ?_
  refine R.call Tryz.call25 (c25a _) ?_
  refine R.move ?_
  refine R.extract ?_
  refine R.extract ?_
  refine R.alloc Tryz.zeroValue27 ?_
  refine R.assign ?_
  refine R.storeOwn Tryz.sizeOf27 ?_
  refine R.fin [1, 2] ?_
  refine AW.seqR ?_
  refine R.fieldAddrPtr (fo := 0) Tryz.underlying27 Tryz.sizeOf25 ?_
  refine R.loadOwn Tryz.isAgg25 ?_
  refine R.eql ?_
  refine R.move ?_
  refine G.move ?_
  refine G.len Tryz.underlying37 ?_
  refine G.eql ?_
  refine R.pickAnd ?_
  refine R.move ?_
  refine G.move ?_
  refine G.indexAddr (1) (colA ⟨[116], 2⟩) Tryz.underlying37 Tryz.sizeOf65 (fun _ => rfl) ?_
  refine G.loadRoN Tryz.isAgg65 Tryz.sizeOf65 ?_
  refine G.build (places := #[(0, 1), (1, 1)]) Tryz.underlying65 (fun w => by simp) Tryz.zeroValue65 ?_
  refine G.eqlAgg eg65 (equal65 2 2 [116] [116]) ?_
  refine R.pickAnd ?_
  refine R.move ?_
  refine G.move ?_
  refine G.call Tryz.call22 (fun hB => c22a _) ?_
  refine G.seql ?_
  refine R.pickAnd ?_
  refine R.assign ?_
  refine R.fin [0] ?_
  refine AW.ret ?_
  exact K.fin (V.one V.tmp) ⟨by kernel_rfl, rfl⟩

def schPrintsM (c : List Col) : Bool := if manyM c then true else if rightP c != rightM c then false else if !rightM c then schPrintM c == [] else
  ((schPrintM c == colsT c) && ((schReadM (schPrintM c)).2.1 == 0)) && decide (c = (schReadM (schPrintM c)).1)
end Go.SX.Nb
namespace Go.SX.Nb
open Go Go.SX Go.Proofs
variable [ErrAt]
set_option maxRecDepth 4000
def idxM {α : Type} [BEq α] (v : α) (l : List α) : Int := match l.findIdx? (· == v) with | some i => i | none => -1
theorem idx_at {α : Type} [BEq α] [LawfulBEq α] {v : α} {l : List α} {x : Nat} (h : x < l.length) (h1 : l[x] = v) (h2 : ∀ (j : Nat) (y : α), j < x → l[j]? = some y → ¬ (y = v)) : idxM v l = x := by
  have : l.findIdx? (· == v) = some x := by
    rw [List.findIdx?_eq_some_iff_getElem]
    exact ⟨h, by simpa using h1, fun j hj => by simpa using h2 j l[j] hj (List.getElem?_eq_getElem _)⟩
  simp [idxM, this]
theorem idx_none {α : Type} [BEq α] [LawfulBEq α] {v : α} {l : List α} (h : ∀ (j : Nat) (y : α), l[j]? = some y → ¬ (y = v)) : idxM v l = -1 := by
  have : l.findIdx? (· == v) = none := by
    rw [List.findIdx?_eq_none_iff]
    intro y hy
    obtain ⟨j, hj⟩ := List.getElem?_of_mem hy
    simpa using h j y hj
  simp [idxM, this]
theorem idx_has {α : Type} [BEq α] [LawfulBEq α] (v : α) (l : List α) : decide (0 ≤ idxM v l) = l.contains v := by
  unfold idxM
  cases h : l.findIdx? (· == v) with
  | none =>
    rw [List.findIdx?_eq_none_iff] at h
    have : l.contains v = false := by
      rw [Bool.eq_false_iff]
      intro hc
      have := h v (by simpa using hc)
      simp at this
    rw [this]; rfl
  | some i =>
    rw [List.findIdx?_eq_some_iff_getElem] at h
    obtain ⟨hi, e, _⟩ := h
    have : l.contains v = true := by
      have : l[i] = v := by simpa using e
      rw [← this]
      simp
    rw [this]
    simp only [decide_eq_true_eq]
    omega
theorem c127 (l : List Str) (v : Str) (hl : l.length ≤ 1048576) (Hp : List AObj) : AFun Tryz.prog 127 [strsA l, strA v] Hp (intA (idxM v l)) := by
  refine ACall.body [.tmp 4] [0, 1] Tryz.func127 Tryz.ntmps127 (fun d => ?_)
  refine AW.seqR ?_
  refine R.assign ?_
  refine R.fin [0, 1] ?_
  refine W.seq ?_
  refine AW.seqR ?_
  refine R.move ?_
  refine R.len Tryz.underlying50 ?_
  refine R.move ?_
  refine R.fin [0, 1, 7, 8] ?_
  refine AW.loopC (α := Nat) (fun x => ⟨19, setF 0 (strsA l) (setF 1 (strA v) (setF 7 (intA l.length) (setF 8 (intA (x : Nat)) (fun _ => .any)))), Hp, [], [], none⟩) (fun x => x ≤ l.length ∧ ∀ (j : Nat) (y : Str), j < x → l[j]? = some y → ¬ (y = v)) (fun x => l.length - x) (0) (by simp) (StLe.of_eq (by simp)) rfl (fun x hx => ?_)
  refine AW.seqR ?_
  refine R.lss ?_
  refine R.fin [0, 1, 7, 8, 9] ?_
  refine W.condX (fun ht9 => ?_) (fun ht9 => ?_)
  · skip
    have hlt : x < l.length := by simpa using ht9
    refine W.seq ?_
    refine AW.block ?_
    refine AW.seqR ?_
    refine R.move ?_
    refine R.assign ?_
    refine R.fin [0, 1, 5, 7, 8] ?_
    refine AW.seqR ?_
    refine R.move ?_
    refine R.move ?_
    refine R.move ?_
    refine R.indexAddr (x) (strA l[x]) Tryz.underlying50 Tryz.sizeOf9 (getMap hlt) ?_
    refine R.loadRo Tryz.isAgg9 ?_
    refine R.seql ?_
    refine R.fin [0, 1, 5, 7, 8, 16] ?_
    refine W.cond (fun ht16 => ?_) (fun ht16 => ?_)
    · skip
      refine AW.seqR ?_
      refine R.move ?_
      refine R.assign ?_
      refine R.fin [4] ?_
      refine AW.ret ?_
      refine K.blR ?_
      refine K.thR ?_
      refine K.lpR ?_
      refine K.thR ?_
      exact K.fin (V.one V.tmp) ⟨by rw [idx_at hlt (by simpa using (Eq.symm (by simpa using ht16) : l[x] = v)) hx.2], rfl⟩
    · skip
      refine AW.skip ?_
      refine K.blN ?_
      refine K.thN ?_
      refine AW.region ?_
      refine R.add64 ?_
      refine R.move ?_
      refine R.fin [0, 1, 7, 8] ?_
      exact K.lpN (x + 1) ⟨hlt, upto_succ hlt hx.2 (fun e => by rw [e] at ht16; simp at ht16)⟩ (by omega) (StCut.of_eq rfl)
  · skip
    refine K.lpE ?_
    refine K.thN ?_
    refine AW.seqR ?_
    refine R.assign ?_
    refine R.fin [4] ?_
    refine AW.ret ?_
    exact K.fin (V.one V.tmp) ⟨by rw [idx_none (upto_all (by simp at ht9; omega) hx.2)], rfl⟩

theorem c92 (l : List Str) (v : Str) (hl : l.length ≤ 1048576) (Hp : List AObj) : AFun Tryz.prog 92 [strsA l, strA v] Hp (boolA (l.contains v)) := by
  refine ACall.body [.tmp 4] [0, 1] Tryz.func92 Tryz.ntmps92 (fun d => ?_)
  refine AW.seqR ?_
  refine R.assign ?_
  refine R.fin [0, 1] ?_
  refine AW.seqR ?_
  refine R.move ?_
  refine R.move ?_
  refine R.call Tryz.call127 (c127 l v hl _) ?_
  refine R.geq ?_
  refine R.assign ?_
  refine R.fin [4] ?_
  refine AW.ret ?_
  exact K.fin (V.one V.tmp) ⟨by rw [idx_has], rfl⟩

def lessM (a b : List Col) : List Col := a.filter fun y => !b.contains y
def orderM (a b : List Col) : List Int := a.map fun y => findM y.name b
end Go.SX.Nb
namespace Go.SX.Nb
open Go Go.SX Go.Proofs
variable [ErrAt]
set_option maxRecDepth 4000
theorem takeAll {n : Nat} {U F : Nat → List AObj} {H' : List AObj} (h : takePost (fun _ => true) U F n H') : H' = U n := by
  rcases h with ⟨_, h⟩ | ⟨j, _, _, h, _⟩
  · exact h
  · cases h
theorem take_item {α : Type} {l : List α} {k : Nat} {y : α} (h : l[k]? = some y) : l.take (k + 1) = l.take k ++ [y] := by rw [List.take_add_one, h]; rfl
theorem deepF_on {L : List (Int × Expr)} {k : Nat} {it : Int × Expr} (h : L[k]? = some it) : deepF 0 (L.take (k + 1)) = if deepF 0 (L.take k) < it.1 then it.1 else deepF 0 (L.take k) := by
  have e : deepF 0 (L.take (k + 1)) = max (deepF 0 (L.take k)) it.1 := by
    unfold deepF
    rw [take_item h, List.foldl_append]
    rfl
  rw [e]
  split <;> omega
def namesU (L : List (Int × Expr)) (k : Nat) : List Str := (L.take k).foldl (fun l it => addName l it.2) []
theorem namesU_on {L : List (Int × Expr)} {k : Nat} {it : Int × Expr} (h : L[k]? = some it) : namesU L (k + 1) = addName (namesU L k) it.2 := by
  unfold namesU
  rw [take_item h, List.foldl_append]
  rfl
theorem namesU_len (L : List (Int × Expr)) (k : Nat) : (namesU L k).length ≤ k := by
  unfold namesU
  have h := fold_len ((L.take k).map (·.2)) []
  rw [List.foldl_map] at h
  simp only [List.length_map, List.length_take, List.length_nil] at h
  omega
theorem low_strsl {n k : Nat} {o : Bool} {l : List Str} : Low n (.slice o k (l.map strA)) := by simp [or_imp, forall_and]
theorem c43 (n : Nat) (e : Expr) (hok : okE n e) (hn : n ≤ 1048576) (hs : sizeE e ≤ 1048576) (Hp : List AObj) : AFun Tryz.prog 43 [exprA e] Hp (intA (depthE e : Nat)) := by
  refine ACall.body [.tmp 2] [0, 4] Tryz.func43 Tryz.ntmps43 (fun d => ?_)
  refine AW.seqR ?_
  refine R.boxRo ?_
  refine R.assign ?_
  refine R.fin [1, 4] ?_
  refine AW.seqR ?_
  refine R.alloc Tryz.zeroValue3 ?_
  refine R.storeOwn Tryz.sizeOf3 ?_
  refine R.fin [1, 3, 4] ?_
  refine W.seq ?_
  refine AW.seqR ?_
  refine R.assumeLow (fun hlow => ?_)
  refine R.loadRoN Tryz.isAgg69 Tryz.sizeOf69 ?_
  refine R.call Tryz.call89 (c89 e _) ?_
  refine R.fin [3, 4, 6] ?_
  refine AW.block ?_
  refine W.rangeV (m := 1) Tryz.call122 (fun FR as' bd' hFR has hbd => ?_)
  have hFRl : ∀ s, Low (Hp.length + 3) (FR s) := by
    intro s
    rw [hFR]
    refine Low.strip ?_
    revert s
    repeat (first | exact lowF_any | refine lowF_set (by simp [oid, exprA_low] <;> try omega) ?_)
  have hOl : ∀ {k : Nat}, ∀ x ∈ [AObj.cells 3 [intA (deepF 0 ((itemsE 1 e).take k))], AObj.defs, AObj.loop LoopState.ready none FR 13 #[7, 8] as' bd' (oid Hp.length 1)], ObjLow (Hp.length + 3) x := by
    intro k x hx
    simp only [List.mem_cons, List.mem_nil_iff, or_false] at hx
    rcases hx with rfl | rfl | rfl
    · intro y hy
      rw [List.mem_singleton.1 hy]
      first | exact low_strsl | simp
    · trivial
    · exact ⟨hFRl, by simp [oid]⟩
  refine ⟨fun _ H' => takePost (fun _ => true) (fun k => Hp ++ [AObj.cells 3 [intA (deepF 0 ((itemsE 1 e).take k))], AObj.defs, AObj.loop LoopState.ready none FR 13 #[7, 8] as' bd' (oid Hp.length 1)]) (fun k => Hp ++ [AObj.cells 3 [intA (deepF 0 ((itemsE 1 e).take k))], AObj.defs, AObj.loop LoopState.ready none FR 13 #[7, 8] as' bd' (oid Hp.length 1)]) (itemsE 1 e).length H', c122 (l := oid Hp.length 2) (go := fun _ => true) (U := fun k => Hp ++ [AObj.cells 3 [intA (deepF 0 ((itemsE 1 e).take k))], AObj.defs, AObj.loop LoopState.ready none FR 13 #[7, 8] as' bd' (oid Hp.length 1)]) (F := fun k => Hp ++ [AObj.cells 3 [intA (deepF 0 ((itemsE 1 e).take k))], AObj.defs, AObj.loop LoopState.ready none FR 13 #[7, 8] as' bd' (oid Hp.length 1)]) (n0 := Hp.length + 3) ⟨fun k => by simp, fun k => by simp, fun k x hx => ?_, fun k x hx => ?_, by simp [oid], fun X k it hit hgo => ?_⟩ n hok hn, ?_⟩
  · exact low_app (fun x hx => ObjLow.le (by omega) (hlow x hx)) hOl x hx
  · exact low_app (fun x hx => ObjLow.le (by omega) (hlow x hx)) hOl x hx
  · skip
    have hklt : k < sizeE e := by rw [← itemsE_len 1 e]; exact (List.getElem?_eq_some_iff.1 hit).1
    generalize hV : (Hp ++ [AObj.cells 3 [intA (deepF 0 ((itemsE 1 e).take k))], AObj.defs, AObj.loop LoopState.ready none FR 13 #[7, 8] as' bd' (oid Hp.length 1)] ++ X) = V
    have hL : V[oid Hp.length 2]? = some (AObj.loop LoopState.ready none FR 13 #[7, 8] as' bd' (oid Hp.length 1)) := by rw [← hV, List.append_assoc, get_oid]; rfl
    have hA0 : V[oid Hp.length 0]? = some (AObj.cells 3 [intA (deepF 0 ((itemsE 1 e).take k))]) := by rw [← hV, List.append_assoc, get_oid]; rfl
    refine AYield.ofRound (pd := none) (fr := FR) (sz := 13) (ps := #[7, 8]) (df := oid Hp.length 1) (asg := as') (bd := bd') hL rfl (by decide) (fun d => ?_)
    subst hFR has hbd
    refine W.keep [3, 7, 8] ?_
    refine AW.region ?_
    refine R.assign ?_
    refine R.fin [3, 4] ?_
    refine ⟨rfl, none, hL, ?_⟩
    generalize hbz : (AObj.loop LoopState.busy _ _ _ _ _ _ _) = bz
    have hA : (V.set (oid Hp.length 2) bz)[oid Hp.length 0]? = some (AObj.cells 3 [intA (deepF 0 ((itemsE 1 e).take k))]) := by rw [List.getElem?_set_ne (oid_ne (by decide))]; exact hA0
    refine AW.block ?_
    refine AW.region ?_
    refine R.loadUp Tryz.isAgg3 hA ?_
    refine R.move ?_
    refine R.maxI ?_
    refine R.storeUp Tryz.sizeOf3 hA ?_ ?_
    · simp
    refine R.fin [] ?_
    refine K.blN ?_
    subst hbz
    refine K.rdN (keep1 hL (oid_ne (by decide))) ?_
    refine ⟨rfl, ?_⟩
    rw [if_pos rfl]
    subst hV
    simp only [List.append_assoc, set_oid, List.cons_append, List.nil_append, List.set_cons_succ, List.set_cons_zero]
    rw [deepF_on hit]
  · skip
    intro r H' hq
    obtain rfl := takeAll hq
    refine ⟨Hp, _, _, _, rfl, rfl, fun h => h, ?_, rfl, by simp, ?_⟩
    · intro o ho
      have : o = oid Hp.length 1 := by simpa using ho
      subst this
      rw [get_oid]
      rfl
    refine K.blN ?_
    refine K.thN ?_
    refine AW.seqR ?_
    refine R.loadOwn Tryz.isAgg3 ?_
    refine R.assign ?_
    refine R.fin [2] ?_
    refine AW.ret ?_
    exact K.fin (V.one V.tmp) ⟨by rw [List.take_length, depth_items], rfl⟩

theorem c45 (n : Nat) (e : Expr) (hok : okE n e) (hn : n ≤ 1048576) (hs : sizeE e ≤ 1048576) (Hp : List AObj) : AFun Tryz.prog 45 [exprA e] Hp (intA (sizeE e : Nat)) := by
  refine ACall.body [.tmp 2] [0] Tryz.func45 Tryz.ntmps45 (fun d => ?_)
  refine AW.seqR ?_
  refine R.boxRo ?_
  refine R.assign ?_
  refine R.fin [1] ?_
  refine AW.seqR ?_
  refine R.alloc Tryz.zeroValue3 ?_
  refine R.storeOwn Tryz.sizeOf3 ?_
  refine R.fin [1, 3] ?_
  refine W.seq ?_
  refine AW.seqR ?_
  refine R.assumeLow (fun hlow => ?_)
  refine R.loadRoN Tryz.isAgg69 Tryz.sizeOf69 ?_
  refine R.call Tryz.call89 (c89 e _) ?_
  refine R.fin [3, 5] ?_
  refine AW.block ?_
  refine W.rangeV (m := 1) Tryz.call122 (fun FR as' bd' hFR has hbd => ?_)
  have hFRl : ∀ s, Low (Hp.length + 3) (FR s) := by
    intro s
    rw [hFR]
    refine Low.strip ?_
    revert s
    repeat (first | exact lowF_any | refine lowF_set (by simp [oid, exprA_low] <;> try omega) ?_)
  have hOl : ∀ {k : Nat}, ∀ x ∈ [AObj.cells 3 [intA ((k : Nat))], AObj.defs, AObj.loop LoopState.ready none FR 11 #[6, 7] as' bd' (oid Hp.length 1)], ObjLow (Hp.length + 3) x := by
    intro k x hx
    simp only [List.mem_cons, List.mem_nil_iff, or_false] at hx
    rcases hx with rfl | rfl | rfl
    · intro y hy
      rw [List.mem_singleton.1 hy]
      first | exact low_strsl | simp
    · trivial
    · exact ⟨hFRl, by simp [oid]⟩
  refine ⟨fun _ H' => takePost (fun _ => true) (fun k => Hp ++ [AObj.cells 3 [intA ((k : Nat))], AObj.defs, AObj.loop LoopState.ready none FR 11 #[6, 7] as' bd' (oid Hp.length 1)]) (fun k => Hp ++ [AObj.cells 3 [intA ((k : Nat))], AObj.defs, AObj.loop LoopState.ready none FR 11 #[6, 7] as' bd' (oid Hp.length 1)]) (itemsE 1 e).length H', c122 (l := oid Hp.length 2) (go := fun _ => true) (U := fun k => Hp ++ [AObj.cells 3 [intA ((k : Nat))], AObj.defs, AObj.loop LoopState.ready none FR 11 #[6, 7] as' bd' (oid Hp.length 1)]) (F := fun k => Hp ++ [AObj.cells 3 [intA ((k : Nat))], AObj.defs, AObj.loop LoopState.ready none FR 11 #[6, 7] as' bd' (oid Hp.length 1)]) (n0 := Hp.length + 3) ⟨fun k => by simp, fun k => by simp, fun k x hx => ?_, fun k x hx => ?_, by simp [oid], fun X k it hit hgo => ?_⟩ n hok hn, ?_⟩
  · exact low_app (fun x hx => ObjLow.le (by omega) (hlow x hx)) hOl x hx
  · exact low_app (fun x hx => ObjLow.le (by omega) (hlow x hx)) hOl x hx
  · skip
    have hklt : k < sizeE e := by rw [← itemsE_len 1 e]; exact (List.getElem?_eq_some_iff.1 hit).1
    generalize hV : (Hp ++ [AObj.cells 3 [intA ((k : Nat))], AObj.defs, AObj.loop LoopState.ready none FR 11 #[6, 7] as' bd' (oid Hp.length 1)] ++ X) = V
    have hL : V[oid Hp.length 2]? = some (AObj.loop LoopState.ready none FR 11 #[6, 7] as' bd' (oid Hp.length 1)) := by rw [← hV, List.append_assoc, get_oid]; rfl
    have hA0 : V[oid Hp.length 0]? = some (AObj.cells 3 [intA ((k : Nat))]) := by rw [← hV, List.append_assoc, get_oid]; rfl
    refine AYield.ofRound (pd := none) (fr := FR) (sz := 11) (ps := #[6, 7]) (df := oid Hp.length 1) (asg := as') (bd := bd') hL rfl (by decide) (fun d => ?_)
    subst hFR has hbd
    refine W.keep [3, 6, 7] ?_
    refine AW.skip ?_
    refine ⟨rfl, none, hL, ?_⟩
    generalize hbz : (AObj.loop LoopState.busy _ _ _ _ _ _ _) = bz
    have hA : (V.set (oid Hp.length 2) bz)[oid Hp.length 0]? = some (AObj.cells 3 [intA ((k : Nat))]) := by rw [List.getElem?_set_ne (oid_ne (by decide))]; exact hA0
    refine AW.block ?_
    refine AW.region ?_
    refine R.loadUp Tryz.isAgg3 hA ?_
    refine R.add64 ?_
    refine R.storeUp Tryz.sizeOf3 hA ?_ ?_
    · simp
    refine R.fin [] ?_
    refine K.blN ?_
    subst hbz
    refine K.rdN (keep1 hL (oid_ne (by decide))) ?_
    refine ⟨rfl, ?_⟩
    rw [if_pos rfl]
    subst hV
    simp only [List.append_assoc, set_oid, List.cons_append, List.nil_append, List.set_cons_succ, List.set_cons_zero]
    rfl
  · skip
    intro r H' hq
    obtain rfl := takeAll hq
    refine ⟨Hp, _, _, _, rfl, rfl, fun h => h, ?_, rfl, by simp, ?_⟩
    · intro o ho
      have : o = oid Hp.length 1 := by simpa using ho
      subst this
      rw [get_oid]
      rfl
    refine K.blN ?_
    refine K.thN ?_
    refine AW.seqR ?_
    refine R.loadOwn Tryz.isAgg3 ?_
    refine R.assign ?_
    refine R.fin [2] ?_
    refine AW.ret ?_
    exact K.fin (V.one V.tmp) ⟨by rw [itemsE_len], rfl⟩

theorem c48 (n : Nat) (e : Expr) (hok : okE n e) (hn : n ≤ 1048576) (hs : sizeE e ≤ 1048576) (Hp : List AObj) : AFun Tryz.prog 48 [exprA e] Hp (strsA (exprNamesM e)) := by
  refine ACall.body [.tmp 2] [0, 5] Tryz.func48 Tryz.ntmps48 (fun d => ?_)
  refine AW.seqR ?_
  refine R.boxRo ?_
  refine R.assign ?_
  refine R.fin [1, 5] ?_
  refine AW.seqR ?_
  refine R.alloc Tryz.zeroValue50 ?_
  refine R.fin [1, 3, 5] ?_
  refine W.seq ?_
  refine AW.seqR ?_
  refine R.nilCell 0 0 1 ?_
  refine R.assumeLow (fun hlow => ?_)
  refine R.loadRoN Tryz.isAgg69 Tryz.sizeOf69 ?_
  refine R.call Tryz.call89 (c89 e _) ?_
  refine R.fin [3, 5, 7] ?_
  refine AW.block ?_
  refine W.rangeV (m := 1) Tryz.call122 (fun FR as' bd' hFR has hbd => ?_)
  have hFRl : ∀ s, Low (Hp.length + 3) (FR s) := by
    intro s
    rw [hFR]
    refine Low.strip ?_
    revert s
    repeat (first | exact lowF_any | refine lowF_set (by simp [oid, exprA_low] <;> try omega) ?_)
  have hOl : ∀ {k : Nat}, ∀ x ∈ [AObj.cells 50 [.slice true 1 ((namesU (itemsE 1 e) k).map strA)], AObj.defs, AObj.loop LoopState.ready none FR 26 #[8, 9] as' bd' (oid Hp.length 1)], ObjLow (Hp.length + 3) x := by
    intro k x hx
    simp only [List.mem_cons, List.mem_nil_iff, or_false] at hx
    rcases hx with rfl | rfl | rfl
    · intro y hy
      rw [List.mem_singleton.1 hy]
      first | exact low_strsl | simp
    · trivial
    · exact ⟨hFRl, by simp [oid]⟩
  refine ⟨fun _ H' => takePost (fun _ => true) (fun k => Hp ++ [AObj.cells 50 [.slice true 1 ((namesU (itemsE 1 e) k).map strA)], AObj.defs, AObj.loop LoopState.ready none FR 26 #[8, 9] as' bd' (oid Hp.length 1)]) (fun k => Hp ++ [AObj.cells 50 [.slice true 1 ((namesU (itemsE 1 e) k).map strA)], AObj.defs, AObj.loop LoopState.ready none FR 26 #[8, 9] as' bd' (oid Hp.length 1)]) (itemsE 1 e).length H', c122 (l := oid Hp.length 2) (go := fun _ => true) (U := fun k => Hp ++ [AObj.cells 50 [.slice true 1 ((namesU (itemsE 1 e) k).map strA)], AObj.defs, AObj.loop LoopState.ready none FR 26 #[8, 9] as' bd' (oid Hp.length 1)]) (F := fun k => Hp ++ [AObj.cells 50 [.slice true 1 ((namesU (itemsE 1 e) k).map strA)], AObj.defs, AObj.loop LoopState.ready none FR 26 #[8, 9] as' bd' (oid Hp.length 1)]) (n0 := Hp.length + 3) ⟨fun k => by simp, fun k => by simp, fun k x hx => ?_, fun k x hx => ?_, by simp [oid], fun X k it hit hgo => ?_⟩ n hok hn, ?_⟩
  · exact low_app (fun x hx => ObjLow.le (by omega) (hlow x hx)) hOl x hx
  · exact low_app (fun x hx => ObjLow.le (by omega) (hlow x hx)) hOl x hx
  · skip
    have hklt : k < sizeE e := by rw [← itemsE_len 1 e]; exact (List.getElem?_eq_some_iff.1 hit).1
    generalize hV : (Hp ++ [AObj.cells 50 [.slice true 1 ((namesU (itemsE 1 e) k).map strA)], AObj.defs, AObj.loop LoopState.ready none FR 26 #[8, 9] as' bd' (oid Hp.length 1)] ++ X) = V
    have hL : V[oid Hp.length 2]? = some (AObj.loop LoopState.ready none FR 26 #[8, 9] as' bd' (oid Hp.length 1)) := by rw [← hV, List.append_assoc, get_oid]; rfl
    have hA0 : V[oid Hp.length 0]? = some (AObj.cells 50 [.slice true 1 ((namesU (itemsE 1 e) k).map strA)]) := by rw [← hV, List.append_assoc, get_oid]; rfl
    refine AYield.ofRound (pd := none) (fr := FR) (sz := 26) (ps := #[8, 9]) (df := oid Hp.length 1) (asg := as') (bd := bd') hL rfl (by decide) (fun d => ?_)
    subst hFR has hbd
    refine W.keep [3, 8, 9] ?_
    refine AW.region ?_
    refine R.alloc Tryz.zeroValue69 ?_
    refine R.storeOwn Tryz.sizeOf69 ?_
    refine R.fin [3, 5] ?_
    refine ⟨rfl, none, hL, ?_⟩
    generalize hbz : (AObj.loop LoopState.busy _ _ _ _ _ _ _) = bz
    have hA : (V.set (oid Hp.length 2) bz)[oid Hp.length 0]? = some (AObj.cells 50 [.slice true 1 ((namesU (itemsE 1 e) k).map strA)]) := by rw [List.getElem?_set_ne (oid_ne (by decide))]; exact hA0
    refine AW.block ?_
    refine AW.seqR ?_
    refine R.fieldAddrPtr (fo := 0) Tryz.underlying69 Tryz.sizeOf3 ?_
    refine R.loadOwn Tryz.isAgg3 ?_
    refine R.eql ?_
    refine R.move ?_
    refine G.loadUp Tryz.isAgg50 hA ?_
    refine G.fieldAddrPtr (fo := 1) Tryz.underlying69 Tryz.sizeOf9 ?_
    refine G.loadOwn Tryz.isAgg9 ?_
    refine G.call Tryz.call92 (fun hB => c92 (namesU (itemsE 1 e) k) it.2.text (by have := namesU_len (itemsE 1 e) k; omega) _) ?_
    refine G.not ?_
    refine R.pickAnd ?_
    refine R.fin [3, 5, 19] ?_
    refine W.cond (fun ht19 => ?_) (fun ht19 => ?_)
    · skip
      have hno := namesU_on hit
      have hadd : addName (namesU (itemsE 1 e) k) it.2 = namesU (itemsE 1 e) k ++ [it.2.text] := if_pos ht19
      refine AW.region ?_
      refine R.loadUpT Tryz.isAgg50 hA ?_
      refine R.fieldAddrPtr (fo := 1) Tryz.underlying69 Tryz.sizeOf9 ?_
      refine R.loadOwn Tryz.isAgg9 ?_
      refine R.buildSlice Tryz.underlying50 Tryz.sizeOf9 Tryz.zeroValue9 ?_
      refine R.append Tryz.underlying50 Tryz.type9 ?_ ?_ ?_
      · have := namesU_len (itemsE 1 e) k; simp [Tryz.t9]; omega
      · have := namesU_len (itemsE 1 e) k; simp [Tryz.t9]; omega
      refine R.storeUpT Tryz.sizeOf50 (getset hA) ?_ ?_
      · exact low_strs1
      refine R.fin [] ?_
      refine K.blN ?_
      subst hbz
      refine K.rdN (by first | exact keep2 hL (oid_ne (by decide)) (oid_ne (by decide)) | exact getset hL) ?_
      refine ⟨rfl, ?_⟩
      rw [if_pos rfl]
      subst hV
      simp only [List.append_assoc, set_oid, List.cons_append, List.nil_append, List.set_cons_succ, List.set_cons_zero]
      rw [hno, hadd]
      try simp only [List.map_append, List.map_cons, List.map_nil]
      try rfl
    · skip
      have hno := namesU_on hit
      have hadd : addName (namesU (itemsE 1 e) k) it.2 = namesU (itemsE 1 e) k := if_neg (by rw [ht19]; simp)
      refine AW.skip ?_
      refine K.blN ?_
      subst hbz
      refine K.rdN (by first | exact keep2 hL (oid_ne (by decide)) (oid_ne (by decide)) | exact getset hL) ?_
      refine ⟨rfl, ?_⟩
      rw [if_pos rfl]
      subst hV
      simp only [List.append_assoc, set_oid, List.cons_append, List.nil_append, List.set_cons_succ, List.set_cons_zero]
      rw [hno, hadd]
      try simp only [List.map_append, List.map_cons, List.map_nil]
      try rfl
  · skip
    intro r H' hq
    obtain rfl := takeAll hq
    refine ⟨Hp, _, _, _, rfl, rfl, fun h => h, ?_, rfl, by simp, ?_⟩
    · intro o ho
      have : o = oid Hp.length 1 := by simpa using ho
      subst this
      rw [get_oid]
      rfl
    refine K.blN ?_
    refine K.thN ?_
    refine AW.seqR ?_
    refine R.loadOwn Tryz.isAgg50 ?_
    refine R.assign ?_
    refine R.fin [2] ?_
    refine AW.ret ?_
    exact K.fin (V.one V.tmp) ⟨by rw [names_items, namesU, List.take_length], rfl⟩

end Go.SX.Nb
namespace Go.SX.Nb
open Go Go.SX Go.Proofs
variable [ErrAt]
set_option maxRecDepth 8000
abbrev TK := Int × Str
/-- What stands from word i on. -/
def seg (l : List Tok) (i : Nat) : List TK := (l.drop i).map ktT
/-- The texts of levels of marks. -/
def ofL (k : Nat) : Str := if k = 0 then orT else if k = 1 then andT else if k = 3 then cmpT else if k = 4 then sumT else prodT
/-- A row of words behind which no mark of a level, or of a tighter one, stands. -/
def stops (k : Nat) (rest : List TK) : Prop := ∀ h r, rest = h :: r → ((h.1 == 5) || (h.1 == 2)) = true → levelM h.2 < (k : Int) ∧ h.2 ≠ [40]
theorem stops.mono {k k' : Nat} {rest : List TK} (h : stops k rest) (hk : k ≤ k') : stops k' rest := fun a r e hm => ⟨by have := (h a r e hm).1; omega, (h a r e hm).2⟩
def notW : Str := [110, 111, 116]
def levE (e : Expr) : Nat := if e.op == 4 then 2 else if e.op == 3 then 6 else if e.op == 5 then (levelM e.text).toNat else 7
def brkT (least : Nat) (x : Expr) (T : List TK) : List TK := if least ≤ levE x then T else (5, [40]) :: (T ++ [(5, [41])])
def brkN (least : Nat) (x : Expr) (n : Nat) : Nat := if least ≤ levE x then n else n + 1
def firstL (own : Nat) : Nat := if own = 3 then 4 else own
def valTok (v : Val) : TK := if v.kind == 1 then (3, printM v) else if v.kind == 2 then (4, v.s) else (2, printM v)
def opTok (t : Str) : TK := (if letterM (t.headD 0) then 2 else 5, t)
def sepT : List (List TK) → List TK
  | [] => []
  | T :: r => (5, [44]) :: (T ++ sepT r)
def nodeT (o : Int) (t : Str) (v : Val) (k : List Expr) (ts : List (List TK)) : List TK :=
  if o == 1 then [valTok v] else if o == 2 then [(1, t)]
  else if o == 3 then (5, [45]) :: brkT 6 (k.getD 0 nullX) (ts.getD 0 [])
  else if o == 4 then (2, notW) :: brkT 2 (k.getD 0 nullX) (ts.getD 0 [])
  else if o == 5 then brkT (firstL (levelM t).toNat) (k.getD 0 nullX) (ts.getD 0 []) ++ opTok t :: brkT ((levelM t).toNat + 1) (k.getD 1 nullX) (ts.getD 1 [])
  else (1, t) :: (5, [40]) :: ((sepT ts).drop 1 ++ [(5, [41])])
mutual
def toksE : Expr → List TK
  | .mk o t v k => nodeT o t v k (toksL k)
def toksL : List Expr → List (List TK)
  | [] => []
  | e :: r => toksE e :: toksL r
 end
def maxN : List Nat → Nat
  | [] => 0
  | n :: r => max n (maxN r)
def nodeN (o : Int) (t : Str) (k : List Expr) (ns : List Nat) : Nat :=
  if o == 1 then 0 else if o == 2 then 0
  else if o == 3 then 1 + brkN 6 (k.getD 0 nullX) (ns.getD 0 0)
  else if o == 4 then 1 + brkN 2 (k.getD 0 nullX) (ns.getD 0 0)
  else if o == 5 then max (brkN (firstL (levelM t).toNat) (k.getD 0 nullX) (ns.getD 0 0)) (brkN ((levelM t).toNat + 1) (k.getD 1 nullX) (ns.getD 1 0))
  else 1 + maxN ns
mutual
def needE : Expr → Nat
  | .mk o t v k => nodeN o t k (needL k)
def needL : List Expr → List Nat
  | [] => []
  | e :: r => needE e :: needL r
 end
/-- What a right node is. -/
inductive NodeC : Expr → Prop
  | val (v : Val) (h : plainM v = true) (h0 : 0 ≤ v.n) : NodeC (valX v)
  | name (t : Str) (h : nameM t = true) : NodeC (nameE t)
  | neg (a : Expr) : NodeC (oneX 3 a)
  | no (a : Expr) : NodeC (oneX 4 a)
  | bin (t : Str) (a b : Expr) (h : 0 ≤ levelM t) : NodeC (binX t a b)
  | call (t : Str) (k : List Expr) (h : arityM t = (k.length : Int)) : NodeC (.mk 6 t noV k)
/-- The functions of the levels. -/
def pf (l : List Tok) (D : Fam) : Nat → PS → Expr × PS
  | 0 => eitherM l D
  | 1 => bothM l D
  | 2 => notM l D
  | 3 => compareM l D
  | 4 => sumM l D
  | 5 => prodM l D
  | 6 => negM l D
  | _ => atomM l D
abbrev fam (l : List Tok) (n : Nat) : Fam := famM l (30 - n)
def adv (S : PS) (n : Nat) : PS := ⟨S.i + n, S.nest, S.code, S.at_⟩
def T1 (l : List Tok) (x : Expr) : Prop := ∀ (k : Nat) (S : PS) (rest : List TK), k ≤ levE x → S.code = 0 → S.nest + needE x ≤ 30 → seg l S.i = toksE x ++ rest → stops k rest → pf l (fam l S.nest) k S = (x, adv S (toksE x).length)
def T2 (l : List Tok) (x : Expr) : Prop := ∀ (k : Nat) (S : PS) (rest : List TK), (k = 0 ∨ k = 1 ∨ k = 4 ∨ k = 5) → k ≤ levE x → S.code = 0 → S.nest + needE x ≤ 30 → seg l S.i = toksE x ++ rest → stops (k + 1) rest →
  ∃ n, l.length ≤ S.i + (toksE x).length + n ∧ leftM l (ofL k) (pf l (fam l S.nest) (k + 1)) S = leftF l (ofL k) (pf l (fam l S.nest) (k + 1)) n (x, adv S (toksE x).length)
def litWords : List Str := [[116, 114, 117, 101], [102, 97, 108, 115, 101], [110, 117, 108, 108]]
end Go.SX.Nb
namespace Go.SX.Nb
open Go Go.SX Go.Proofs
variable [ErrAt]
set_option maxRecDepth 8000
def isWord (h : TK) (w : Str) : Bool := ((h.1 == 5) || (h.1 == 2)) && (h.2 == w)
end Go.SX.Nb
namespace Go.SX.Nb
open Go Go.SX Go.Proofs
variable [ErrAt]
set_option maxRecDepth 8000
end Go.SX.Nb
namespace Go.SX.Nb
open Go Go.SX Go.Proofs
variable [ErrAt]
set_option maxRecDepth 8000
/-! The parser from a word on, and of a source. -/
def atS (l : List Tok) (i : Nat) (r : Expr × PS) : PS := if r.2.code != 0 then r.2 else if decide ((30 : Int) < depthE r.1) then failM 18 (tokAt l i).at_ r.2 else if decide ((300 : Int) < sizeE r.1) then failM 3 (tokAt l i).at_ r.2 else r.2
def atR (l : List Tok) (i : Nat) : Expr × PS := eitherM l (famM l 30) ⟨i, 0, 0, 0⟩
/-- The tree, the word behind it, the fault. -/
def atM (l : List Tok) (i : Nat) : Expr × Int × Int × Int := if (atS l i (atR l i)).code != 0 then (nullX, 0, (atS l i (atR l i)).code, (atS l i (atR l i)).at_) else ((atR l i).1, ((atS l i (atR l i)).i : Int), 0, 0)
def parseL (l : List Tok) (c a : Int) : Expr × Int × Int :=
  if c != 0 then (nullX, c, a) else if (atM l 0).2.2.1 != 0 then (nullX, (atM l 0).2.2.1, (atM l 0).2.2.2)
  else if (tokAt l (atM l 0).2.1.toNat).kind != 0 then (nullX, 8, ((tokAt l (atM l 0).2.1.toNat).at_ : Int)) else ((atM l 0).1, 0, 0)
def parseM (s : Str) : Expr × Int × Int := parseL (lexM s).1 (lexM s).2.1 ((lexM s).2.2 : Int)
end Go.SX.Nb
namespace Go.SX.Nb
open Go Go.SX Go.Proofs
variable [ErrAt]
set_option maxRecDepth 4000
theorem atR_fact {l : List Tok} (hl : TokEnd l) (hll : l.length ≤ 1048576) {i : Nat} (hi : i < l.length) : Fact l ⟨i, 0, 0, 0⟩ (atR l i) := (famM_good hl hll 31 0 rfl (by decide)).1 ⟨i, 0, 0, 0⟩ hi rfl
theorem c155at {l : List Tok} {i : Nat} (hi : i < l.length) (hl : TokEnd l) (hll : l.length ≤ 1048576) (hcl : ∀ n Dv, n ≤ 30 → DeepC l Dv n → PCall l Dv n) (o : Nat) (Hp : List AObj) (ho : Hp[o]? = some (pr l ⟨i, 0, 0, 0⟩)) : ACall Tryz.prog 155 [.ptr o 0] Hp (fun r H' => r = exprA (atR l i).1 ∧ H' = Hp.set o (pr l (atR l i).2)) := (parse_pc hl hll hcl 31 0 rfl (by decide)).1 o Hp ⟨i, 0, 0, 0⟩ ho hi rfl
theorem tokEnd_last {l : List Tok} (hl : TokEnd l) : (tokAt l (l.length - 1)).kind = 0 := by
  obtain ⟨L, z, rfl, hz, _⟩ := hl.split
  unfold tokAt
  simp [hz]
theorem c121 (l : List Tok) (i : Nat) (hi : i < l.length) (hl : TokEnd l) (hll : l.length ≤ 500000) (hcl : ∀ n Dv, n ≤ 30 → DeepC l Dv n → PCall l Dv n) (Hp : List AObj) : AFun Tryz.prog 121 [toksA l, intA (i : Int)] Hp (.tup [exprA (atM l i).1, intA (atM l i).2.1, .agg [intA (atM l i).2.2.1, intA (atM l i).2.2.2]]) := by
  have hmap : (l.map tokA).length = l.length := List.length_map ..
  have hll1 : l.length ≤ 1048576 := by omega
  have hq := atR_fact hl hll1 hi
  have hlast := tokEnd_last hl
  have hpos := hl.pos
  have hqlt := hq.lt
  have hqs := hq.sz
  have hok0 : okE 1048576 (atR l i).1 := okE_le (by have := hq.lt; omega) hq.ok
  have hsz0 : sizeE (atR l i).1 ≤ 1048576 := by have := hq.sz; have := hq.lt; omega
  refine ACall.body [.cell 4 69, .tmp 5, .cell 6 27] [0, 1] Tryz.func121 Tryz.ntmps121 (fun d => ?_)
  refine AW.seqR ?_
  refine R.alloc Tryz.zeroValue69 ?_
  refine R.assign ?_
  refine R.alloc Tryz.zeroValue27 ?_
  refine R.fin [0, 1, 4, 6] ?_
  refine W.seq ?_
  refine AW.seqR ?_
  refine R.move ?_
  refine R.lss ?_
  refine R.move ?_
  refine G.move ?_
  refine G.move ?_
  refine G.len Tryz.underlying24 ?_
  refine G.geq ?_
  refine R.pickOr ?_
  refine R.move ?_
  refine G.move ?_
  refine G.move ?_
  refine G.len Tryz.underlying24 ?_
  refine G.sub64 ?_
  refine G.indexAddr ((l.length - 1)) (tokA (tokAt l (l.length - 1))) Tryz.underlying24 Tryz.sizeOf31 (fun _ => getTok (by omega)) ?_
  refine G.fieldAddrRo (off := 0) Tryz.underlying31 Tryz.sizeOf3 ?_
  refine G.loadRo Tryz.isAgg3 ?_
  refine G.neq ?_
  refine R.pickOr ?_
  refine R.fin [0, 1, 4, 6, 26] ?_
  refine W.cond (fun ht26 => ?_) (fun ht26 => ?_)
  · skip
    simp only [Bool.or_eq_true, decide_eq_true_eq, bne_iff_ne, ne_eq] at ht26
    rcases ht26 with (h | h) | h
    · omega
    · simp at h; omega
    · exact absurd hlast h
  · skip
    refine AW.skip ?_
    refine K.thN ?_
    refine AW.seqR ?_
    refine R.move ?_
    refine R.move ?_
    refine R.build (places := #[(0, 1), (1, 1), (2, 1), (3, 2)]) Tryz.underlying190 (fun w => by simp) Tryz.zeroValue190 ?_
    refine R.box ?_
    refine R.assign ?_
    refine R.fin [0, 1, 4, 6, 7] ?_
    refine AW.seqR ?_
    refine R.move ?_
    refine R.callOwn (n := 2) (x := pr l (atR l i).2) Tryz.call155 (c155at hi hl hll1 hcl (oid Hp.length 2) _ (by rw [get_oid]; rfl)) ?_
    refine R.alloc Tryz.zeroValue69 ?_
    refine R.storeOwn Tryz.sizeOf69 ?_
    refine R.fin [0, 1, 4, 6, 7, 8] ?_
    refine W.join ⟨81, setF 4 (.ptr (oid Hp.length 0) 0) (setF 6 (.ptr (oid Hp.length 1) 0) (setF 7 (.ptr (oid Hp.length 2) 0) (setF 8 (.ptr (oid Hp.length 3) 0) (fun _ => .any)))), Hp, [.cells 69 [intA 0, strA [], intA 0, intA 0, strA [], .nil], .cells 27 [intA 0, intA 0], pr l (atS l i (atR l i)), .cells 69 (exprC (atR l i).1)], [], none⟩ ?_ ?_
    · skip
      refine AW.block ?_
      refine AW.seqR ?_
      refine R.move ?_
      refine R.nilPtr ?_
      refine R.fieldAddrPtr (fo := 3) Tryz.underlying190 Tryz.sizeOf27 ?_
      refine R.fieldAddrPtr (fo := 0) Tryz.underlying27 Tryz.sizeOf25 ?_
      refine R.loadOwn Tryz.isAgg25 ?_
      refine R.neq ?_
      refine R.assign ?_
      refine R.fin [0, 1, 4, 6, 7, 8, 35] ?_
      refine W.cond (fun ht35 => ?_) (fun ht35 => ?_)
      · skip
        have e : atS l i (atR l i) = (atR l i).2 := if_pos ht35
        refine W.keep [4, 6, 7, 8] ?_
        refine AW.skip ?_
        refine K.blN ?_
        refine K.thJ ?_
        exact StLe.of_eq (by rw [e] <;> rfl)
      · skip
        have e0 : ¬ ((atR l i).2.code != 0) = true := by rw [ht35]; simp
        refine AW.seqR ?_
        refine R.loadOwnN Tryz.isAgg69 Tryz.sizeOf69 ?_
        refine R.call Tryz.call43 (c43 1048576 _ hok0 (Nat.le_refl _) hsz0 _) ?_
        refine R.gtr ?_
        refine R.assign ?_
        refine R.fin [0, 1, 4, 6, 7, 8, 42] ?_
        refine W.cond (fun ht42 => ?_) (fun ht42 => ?_)
        · skip
          have e : atS l i (atR l i) = failM 18 (tokAt l i).at_ (atR l i).2 := by unfold atS; rw [if_neg e0, if_pos ht42]
          refine AW.region ?_
          refine R.move ?_
          refine R.move ?_
          refine R.move ?_
          refine R.indexAddr (i) (tokA (tokAt l i)) Tryz.underlying24 Tryz.sizeOf31 (getTok hi) ?_
          refine R.fieldAddrRo (off := 2) Tryz.underlying31 Tryz.sizeOf3 ?_
          refine R.loadRo Tryz.isAgg3 ?_
          refine R.callOwn (n := 2) (x := pr l (failM 18 (tokAt l i).at_ (atR l i).2)) Tryz.call156 (c156 l (atR l i).2 18 (tokAt l i).at_ (oid Hp.length 2) _ (by rw [get_oid]; rfl)) ?_
          refine R.fin [4, 6, 7, 8] ?_
          refine K.blN ?_
          refine K.thJ ?_
          exact StLe.of_eq (by rw [e] <;> rfl)
        · skip
          have e1 : ¬ decide ((30 : Int) < depthE (atR l i).1) = true := by rw [ht42]; simp
          refine AW.seqR ?_
          refine R.loadOwnN Tryz.isAgg69 Tryz.sizeOf69 ?_
          refine R.call Tryz.call45 (c45 1048576 _ hok0 (Nat.le_refl _) hsz0 _) ?_
          refine R.gtr ?_
          refine R.assign ?_
          refine R.fin [0, 1, 4, 6, 7, 8, 53] ?_
          refine W.cond (fun ht53 => ?_) (fun ht53 => ?_)
          · skip
            have e : atS l i (atR l i) = failM 3 (tokAt l i).at_ (atR l i).2 := by unfold atS; rw [if_neg e0, if_neg e1, if_pos ht53]
            refine AW.region ?_
            refine R.move ?_
            refine R.move ?_
            refine R.move ?_
            refine R.indexAddr (i) (tokA (tokAt l i)) Tryz.underlying24 Tryz.sizeOf31 (getTok hi) ?_
            refine R.fieldAddrRo (off := 2) Tryz.underlying31 Tryz.sizeOf3 ?_
            refine R.loadRo Tryz.isAgg3 ?_
            refine R.callOwn (n := 2) (x := pr l (failM 3 (tokAt l i).at_ (atR l i).2)) Tryz.call156 (c156 l (atR l i).2 3 (tokAt l i).at_ (oid Hp.length 2) _ (by rw [get_oid]; rfl)) ?_
            refine R.fin [4, 6, 7, 8] ?_
            refine K.blN ?_
            refine K.thJ ?_
            exact StLe.of_eq (by rw [e] <;> rfl)
          · skip
            have e : atS l i (atR l i) = (atR l i).2 := by unfold atS; rw [if_neg e0, if_neg e1, if_neg (by rw [ht53]; simp)]
            refine W.keep [4, 6, 7, 8] ?_
            refine AW.skip ?_
            refine K.blN ?_
            refine K.thJ ?_
            exact StLe.of_eq (by rw [e] <;> rfl)
    · skip
      refine W.seq ?_
      refine AW.seqR ?_
      refine R.move ?_
      refine R.nilPtr ?_
      refine R.fieldAddrPtr (fo := 3) Tryz.underlying190 Tryz.sizeOf27 ?_
      refine R.fieldAddrPtr (fo := 0) Tryz.underlying27 Tryz.sizeOf25 ?_
      refine R.loadOwn Tryz.isAgg25 ?_
      refine R.neq ?_
      refine R.fin [4, 6, 7, 8, 69] ?_
      refine W.cond (fun ht69 => ?_) (fun ht69 => ?_)
      · skip
        have e : atM l i = (nullX, 0, (atS l i (atR l i)).code, (atS l i (atR l i)).at_) := if_pos ht69
        refine W.drawY [0, 0, 2, 6, 14, 1, 33, 127] [5] [.q 5 [] [], .s [] (some 0) [] [], .q 1 [0] []] (fun _ => Hp) (fun _ => [.cells 69 [intA 0, strA [], intA 0, intA 0, strA [], .nil], .cells 27 [intA 0, intA 0], pr l (atS l i (atR l i)), .cells 69 (exprC (atR l i).1)]) Tryzmixed (by kernel_rfl) rfl rfl (fun _ => rfl) ?_
        apply Y.q
        case h1 =>
          intro B hT hF
          refine D.build (places := #[(0, 1), (1, 1), (2, 3), (5, 1)]) Tryz.underlying69 (fun w => by simp) Tryz.zeroValue69 ?_
          refine D.move ?_
          refine D.nilPtr ?_
          refine D.fieldAddrPtr (fo := 3) Tryz.underlying190 Tryz.sizeOf27 ?_
          refine D.loadOwnN Tryz.isAgg27 Tryz.sizeOf27 ?_
          exact D.end rfl rfl
        case hTF => decide
        refine Y.storeOwn (u := Hp.length) (n := 0) (t' := 69) (cs := [intA 0, strA [], intA 0, intA 0, strA [], .nil]) (cs' := [intA 0, strA [], intA 0, intA 0, strA [], .nil]) Tryz.sizeOf69 (fun B hB => ⟨rfl, rfl, rfl, rfl⟩) ?_
        apply Y.q
        case h1 =>
          intro B hT hF
          refine D.assign ?_
          exact D.end rfl rfl
        case hTF => decide
        refine Y.tail (tn := [5])  ?_
        refine R.nilCell 0 5 6 ?_
        refine R.storeOwn Tryz.sizeOf27 ?_
        refine R.fin [4, 5, 6] ?_
        refine AW.ret ?_
        refine K.thR ?_
        exact K.fin (V.three (V.cellN Tryz.isAgg69 Tryz.sizeOf69) V.tmp (V.cellN Tryz.isAgg27 Tryz.sizeOf27)) ⟨by rw [e, null_agg] <;> rfl, rfl⟩
      · skip
        have e : atM l i = ((atR l i).1, ((atS l i (atR l i)).i : Int), 0, 0) := if_neg (by rw [ht69]; simp)
        refine AW.skip ?_
        refine K.thN ?_
        refine W.drawY [0, 0, 2, 6, 14, 0, 1, 95, 255] [6] [.q 6 [] [], .s [] (some 0) [] [], .q 1 [0] []] (fun _ => Hp) (fun B => [.cells 69 (if B 0 = true then exprC (atR l i).1 else [intA 0, strA [], intA 0, intA 0, strA [], .nil]), .cells 27 [intA 0, intA 0], pr l (atS l i (atR l i)), .cells 69 (exprC (atR l i).1)]) Tryzmixed (by kernel_rfl) rfl rfl (fun _ => rfl) ?_
        apply Y.q
        case h1 =>
          intro B hT hF
          refine D.loadOwnN Tryz.isAgg69 Tryz.sizeOf69 ?_
          refine D.move ?_
          refine D.nilPtr ?_
          refine D.fieldAddrPtr (fo := 1) Tryz.underlying190 Tryz.sizeOf3 ?_
          refine D.loadOwn Tryz.isAgg3 ?_
          refine D.build (places := #[(0, 1), (1, 1)]) Tryz.underlying27 (fun w => by simp) Tryz.zeroValue27 ?_
          exact D.end rfl rfl
        case hTF => decide
        refine Y.storeOwn (u := Hp.length) (n := 0) (t' := 69) (cs := [intA 0, strA [], intA 0, intA 0, strA [], .nil]) (cs' := exprC (atR l i).1) Tryz.sizeOf69 (fun B hB => ⟨rfl, by simp only [hB]; rfl, by simp [upd], rfl⟩) ?_
        apply Y.q
        case h1 =>
          intro B hT hF
          refine D.assign ?_
          exact D.end rfl rfl
        case hTF => decide
        refine Y.tail (tn := [6]) (O := [.cells 69 (exprC (atR l i).1), .cells 27 [intA 0, intA 0], pr l (atS l i (atR l i)), .cells 69 (exprC (atR l i).1)]) ?_
        refine R.storeOwn Tryz.sizeOf27 ?_
        refine R.fin [4, 5, 6] ?_
        refine AW.ret ?_
        exact K.fin (V.three (V.cellN Tryz.isAgg69 Tryz.sizeOf69) V.tmp (V.cellN Tryz.isAgg27 Tryz.sizeOf27)) ⟨by rw [e, exprA_eq] <;> rfl, rfl⟩ (hlow := by have := low_agg (n := Hp.length) (atR l i).1; simp at this ⊢; exact this)

end Go.SX.Nb
namespace Go.SX.Nb
open Go Go.SX Go.Proofs
variable [ErrAt]
set_option maxRecDepth 4000
theorem lex_len {s : Str} (h : (lexM s).2.1 = 0) : (lexM s).1.length ≤ 4002 := by
  obtain ⟨h1, _, h3⟩ := lexM_ok h
  have h2 := itemsT_len s
  rw [h3]
  simp only [List.length_append, List.length_map, List.length_cons, List.length_nil]
  omega
theorem at_word {l : List Tok} (hl : TokEnd l) (hll : l.length ≤ 1048576) {i : Nat} (hi : i < l.length) (h : (atM l i).2.2.1 = 0) : ∃ k : Nat, (atM l i).2.1 = (k : Int) ∧ k < l.length := by
  have hq := atR_fact hl hll hi
  unfold atM at h ⊢
  split at h
  · rename_i h1
    have : (atS l i (atR l i)).code = 0 := h
    rw [this] at h1
    cases h1
  · rename_i h1
    rw [if_neg h1]
    refine ⟨(atS l i (atR l i)).i, rfl, ?_⟩
    have e : (atS l i (atR l i)).i = (atR l i).2.i := by
      unfold atS
      repeat' split
      all_goals first | rfl | exact failM_i.1
    rw [e]
    exact hq.lt
theorem c87 (s : Str) (hs : s.length ≤ 1048576) (hcl : ∀ n Dv, n ≤ 30 → DeepC (lexM s).1 Dv n → PCall (lexM s).1 Dv n) (Hp : List AObj) : AFun Tryz.prog 87 [strA s] Hp (.tup [exprA (parseM s).1, .agg [intA (parseM s).2.1, intA (parseM s).2.2]]) := by
  refine ACall.body [.cell 2 69, .cell 3 27] [0] Tryz.func87 Tryz.ntmps87 (fun d => ?_)
  refine AW.seqR ?_
  refine R.alloc Tryz.zeroValue69 ?_
  refine R.alloc Tryz.zeroValue27 ?_
  refine R.fin [0, 2, 3] ?_
  refine AW.seqR ?_
  refine R.move ?_
  refine R.call Tryz.call15 (c15 s hs _) ?_
  refine R.move ?_
  refine R.extract ?_
  refine R.extract ?_
  refine R.alloc Tryz.zeroValue27 ?_
  refine R.assign ?_
  refine R.storeOwn Tryz.sizeOf27 ?_
  refine R.fin [2, 3, 4, 5] ?_
  refine W.seq ?_
  refine AW.seqR ?_
  refine R.fieldAddrPtr (fo := 0) Tryz.underlying27 Tryz.sizeOf25 ?_
  refine R.loadOwn Tryz.isAgg25 ?_
  refine R.neq ?_
  refine R.fin [2, 3, 4, 5, 15] ?_
  refine W.cond (fun ht15 => ?_) (fun ht15 => ?_)
  · skip
    have e : parseM s = (nullX, (lexM s).2.1, ((lexM s).2.2 : Int)) := if_pos ht15
    refine W.drawY [0, 0, 1, 7] [2] [.q 2 [] [], .s [] (some 0) [] []] (fun _ => Hp) (fun _ => [.cells 69 [intA 0, strA [], intA 0, intA 0, strA [], .nil], .cells 27 [intA 0, intA 0], .cells 27 [intA (lexM s).2.1, intA ((lexM s).2.2 : Nat)]]) Tryzmixed (by kernel_rfl) rfl rfl (fun _ => rfl) ?_
    apply Y.q
    case h1 =>
      intro B hT hF
      refine D.build (places := #[(0, 1), (1, 1), (2, 3), (5, 1)]) Tryz.underlying69 (fun w => by simp) Tryz.zeroValue69 ?_
      refine D.loadOwnN Tryz.isAgg27 Tryz.sizeOf27 ?_
      exact D.end rfl rfl
    case hTF => decide
    refine Y.storeOwn (u := Hp.length) (n := 0) (t' := 69) (cs := [intA 0, strA [], intA 0, intA 0, strA [], .nil]) (cs' := [intA 0, strA [], intA 0, intA 0, strA [], .nil]) Tryz.sizeOf69 (fun B hB => ⟨rfl, rfl, rfl, rfl⟩) ?_
    refine Y.tail (tn := [2])  ?_
    refine R.nilCell 0 5 6 ?_
    refine R.storeOwn Tryz.sizeOf27 ?_
    refine R.fin [2, 3] ?_
    refine AW.ret ?_
    refine K.thR ?_
    exact K.fin (V.two (V.cellN Tryz.isAgg69 Tryz.sizeOf69) (V.cellN Tryz.isAgg27 Tryz.sizeOf27)) ⟨by rw [e, null_agg] <;> rfl, rfl⟩
  · skip
    have e0 : ¬ ((lexM s).2.1 != 0) = true := by rw [ht15]; simp
    have hz : (lexM s).2.1 = 0 := by simpa using ht15
    have hle := lex_end hz
    have hlen := lex_len hz
    have hpos := hle.pos
    refine AW.skip ?_
    refine K.thN ?_
    refine AW.seqR ?_
    refine R.move ?_
    refine R.call Tryz.call121 (c121 (lexM s).1 0 hpos hle (by have := hlen; omega) hcl _) ?_
    refine R.move ?_
    refine R.extract ?_
    refine R.extract ?_
    refine R.extract ?_
    refine R.alloc Tryz.zeroValue69 ?_
    refine R.storeOwn Tryz.sizeOf69 ?_
    refine R.assign ?_
    refine R.storeOwn Tryz.sizeOf27 ?_
    refine R.fin [2, 3, 4, 5, 6, 7] ?_
    refine W.seq ?_
    refine AW.seqR ?_
    refine R.fieldAddrPtr (fo := 0) Tryz.underlying27 Tryz.sizeOf25 ?_
    refine R.loadOwn Tryz.isAgg25 ?_
    refine R.neq ?_
    refine R.fin [2, 3, 4, 5, 6, 7, 26] ?_
    refine W.cond (fun ht26 => ?_) (fun ht26 => ?_)
    · skip
      have e : parseM s = (nullX, (atM (lexM s).1 0).2.2.1, (atM (lexM s).1 0).2.2.2) := by unfold parseM parseL; rw [if_neg e0, if_pos ht26]
      refine W.drawY [0, 0, 1, 7] [2] [.q 2 [] [], .s [] (some 0) [] []] (fun _ => Hp) (fun _ => [.cells 69 [intA 0, strA [], intA 0, intA 0, strA [], .nil], .cells 27 [intA 0, intA 0], .cells 27 [intA (atM (lexM s).1 0).2.2.1, intA (atM (lexM s).1 0).2.2.2], .cells 69 (exprC (atM (lexM s).1 0).1)]) Tryzmixed (by kernel_rfl) rfl rfl (fun _ => rfl) ?_
      apply Y.q
      case h1 =>
        intro B hT hF
        refine D.build (places := #[(0, 1), (1, 1), (2, 3), (5, 1)]) Tryz.underlying69 (fun w => by simp) Tryz.zeroValue69 ?_
        refine D.loadOwnN Tryz.isAgg27 Tryz.sizeOf27 ?_
        exact D.end rfl rfl
      case hTF => decide
      refine Y.storeOwn (u := Hp.length) (n := 0) (t' := 69) (cs := [intA 0, strA [], intA 0, intA 0, strA [], .nil]) (cs' := [intA 0, strA [], intA 0, intA 0, strA [], .nil]) Tryz.sizeOf69 (fun B hB => ⟨rfl, rfl, rfl, rfl⟩) ?_
      refine Y.tail (tn := [2])  ?_
      refine R.nilCell 0 5 6 ?_
      refine R.storeOwn Tryz.sizeOf27 ?_
      refine R.fin [2, 3] ?_
      refine AW.ret ?_
      refine K.thR ?_
      exact K.fin (V.two (V.cellN Tryz.isAgg69 Tryz.sizeOf69) (V.cellN Tryz.isAgg27 Tryz.sizeOf27)) ⟨by rw [e, null_agg] <;> rfl, rfl⟩
    · skip
      have e1 : ¬ ((atM (lexM s).1 0).2.2.1 != 0) = true := by rw [ht26]; simp
      obtain ⟨k, hk0, hk⟩ := at_word hle (by omega) hpos (show (atM (lexM s).1 0).2.2.1 = 0 by simpa using ht26)
      have hkt : (atM (lexM s).1 0).2.1.toNat = k := by rw [hk0]; simp
      rw [hk0]
      refine AW.skip ?_
      refine K.thN ?_
      refine W.seq ?_
      refine AW.seqR ?_
      refine R.move ?_
      refine R.move ?_
      refine R.indexAddr (k) (tokA (tokAt (lexM s).1 k)) Tryz.underlying24 Tryz.sizeOf31 (getTok hk) ?_
      refine R.fieldAddrRo (off := 0) Tryz.underlying31 Tryz.sizeOf3 ?_
      refine R.loadRo Tryz.isAgg3 ?_
      refine R.neq ?_
      refine R.fin [2, 3, 4, 6, 7, 34] ?_
      refine W.cond (fun ht34 => ?_) (fun ht34 => ?_)
      · skip
        have e : parseM s = (nullX, 8, ((tokAt (lexM s).1 k).at_ : Int)) := by unfold parseM parseL; rw [if_neg e0, if_neg e1, hkt, if_pos ht34]
        refine W.drawY [0, 0, 0, 6, 14, 30, 62, 1, 255] [7] [.q 7 [] [], .s [] (some 0) [] []] (fun _ => Hp) (fun _ => [.cells 69 [intA 0, strA [], intA 0, intA 0, strA [], .nil], .cells 27 [intA 0, intA 0], .cells 27 [intA (atM (lexM s).1 0).2.2.1, intA (atM (lexM s).1 0).2.2.2], .cells 69 (exprC (atM (lexM s).1 0).1)]) Tryzmixed (by kernel_rfl) rfl rfl (fun _ => rfl) ?_
        apply Y.q
        case h1 =>
          intro B hT hF
          refine D.build (places := #[(0, 1), (1, 1), (2, 3), (5, 1)]) Tryz.underlying69 (fun w => by simp) Tryz.zeroValue69 ?_
          refine D.move ?_
          refine D.move ?_
          refine D.indexAddr (k) (tokA (tokAt (lexM s).1 k)) Tryz.underlying24 Tryz.sizeOf31 (getTok hk) ?_
          refine D.fieldAddrRo (off := 2) Tryz.underlying31 Tryz.sizeOf3 ?_
          refine D.loadRo Tryz.isAgg3 ?_
          refine D.build (places := #[(0, 1), (1, 1)]) Tryz.underlying27 (fun w => by simp) Tryz.zeroValue27 ?_
          exact D.end rfl rfl
        case hTF => decide
        refine Y.storeOwn (u := Hp.length) (n := 0) (t' := 69) (cs := [intA 0, strA [], intA 0, intA 0, strA [], .nil]) (cs' := [intA 0, strA [], intA 0, intA 0, strA [], .nil]) Tryz.sizeOf69 (fun B hB => ⟨rfl, rfl, rfl, rfl⟩) ?_
        refine Y.tail (tn := [7])  ?_
        refine R.nilCell 0 5 6 ?_
        refine R.storeOwn Tryz.sizeOf27 ?_
        refine R.fin [2, 3] ?_
        refine AW.ret ?_
        refine K.thR ?_
        exact K.fin (V.two (V.cellN Tryz.isAgg69 Tryz.sizeOf69) (V.cellN Tryz.isAgg27 Tryz.sizeOf27)) ⟨by rw [e, null_agg] <;> rfl, rfl⟩
      · skip
        have e : parseM s = ((atM (lexM s).1 0).1, 0, 0) := by unfold parseM parseL; rw [if_neg e0, if_neg e1, hkt, if_neg (by rw [ht34]; simp)]
        refine AW.skip ?_
        refine K.thN ?_
        refine AW.seqR ?_
        refine R.loadOwnN Tryz.isAgg69 Tryz.sizeOf69 ?_
        refine R.build (places := #[(0, 1), (1, 1)]) Tryz.underlying27 (fun w => by simp) Tryz.zeroValue27 ?_
        refine R.storeOwn Tryz.sizeOf69 ?_
        refine R.storeOwn Tryz.sizeOf27 ?_
        refine R.fin [2, 3] ?_
        refine AW.ret ?_
        exact K.fin (V.two (V.cellN Tryz.isAgg69 Tryz.sizeOf69) (V.cellN Tryz.isAgg27 Tryz.sizeOf27)) ⟨by rw [e, exprA_eq] <;> rfl, rfl⟩ (hlow := by have := low_agg (n := Hp.length) (atM (lexM s).1 0).1; simp at this ⊢; exact this)

/-! The chapter's example. -/
def exS : Str := [97, 32, 43, 32, 50, 32, 42, 32, 98]
def exL : List Tok := [⟨1, [97], 0⟩, ⟨5, [43], 2⟩, ⟨3, [50], 4⟩, ⟨5, [42], 6⟩, ⟨1, [98], 8⟩, ⟨0, [], 9⟩]
theorem ex_lex : lexM exS = (exL, 0, 0) := by kernel_rfl
def exX : Expr := binX [43] (nameE [97]) (binX [42] (valX ⟨1, 2, []⟩) (nameE [98]))
theorem ex_parse : parseM exS = (exX, 0, 0) := by kernel_rfl
theorem ex_noop : ∀ S, isM exL opT S = false := by
  intro S
  unfold isM
  rcases Nat.lt_or_ge S.i 6 with h | h
  · have : S.i = 0 ∨ S.i = 1 ∨ S.i = 2 ∨ S.i = 3 ∨ S.i = 4 ∨ S.i = 5 := by omega
    rcases this with e | e | e | e | e | e <;> rw [e] <;> rfl
  · have : tokAt exL S.i = ⟨0, [], 0⟩ := by
      unfold tokAt
      rw [List.getD_eq_getElem?_getD, List.getElem?_eq_none (show exL.length ≤ S.i from h)]
      rfl
    rw [this]
    rfl
theorem c87a (Hp : List AObj) : AFun Tryz.prog 87 [strA exS] Hp (.tup [exprA exX, .agg [intA 0, intA 0]]) := by
  have := c87 exS (by decide) (fun n Dv _ _ => by rw [ex_lex]; exact no_call ex_noop n Dv) Hp
  rw [ex_parse] at this
  exact this
theorem ex_ok : okE 3 exX := by
  refine ⟨by decide, by decide, fun y hy => ?_⟩
  have : y = nameE [97] ∨ y = binX [42] (valX ⟨1, 2, []⟩) (nameE [98]) := by simpa [exX, binX, Expr.kids] using hy
  rcases this with rfl | rfl
  · exact okE_le (by decide) (nameE_ok _ (by decide))
  · refine ⟨by decide, by decide, fun y hy => ?_⟩
    have : y = valX ⟨1, 2, []⟩ ∨ y = nameE [98] := by simpa [binX, Expr.kids] using hy
    rcases this with rfl | rfl
    · exact valX_ok (by decide) _
    · exact nameE_ok _ (by decide)
theorem c39 (Hp : List AObj) : AFun Tryz.prog 39 [] Hp (boolA true) := by
  refine ACall.body [.tmp 0] [] Tryz.func39 Tryz.ntmps39 (fun d => ?_)
  refine AW.seqR ?_
  refine R.assign ?_
  refine R.fin [] ?_
  refine AW.seqR ?_
  refine R.call Tryz.call87 (c87a _) ?_
  refine R.move ?_
  refine R.extract ?_
  refine R.extract ?_
  refine R.alloc Tryz.zeroValue69 ?_
  refine R.alloc Tryz.zeroValue27 ?_
  refine R.storeOwn Tryz.sizeOf69 ?_
  refine R.storeOwn Tryz.sizeOf27 ?_
  refine R.fin [1, 2] ?_
  refine AW.seqR ?_
  refine R.fieldAddrPtr (fo := 0) Tryz.underlying27 Tryz.sizeOf25 ?_
  refine R.loadOwn Tryz.isAgg25 ?_
  refine R.eql ?_
  refine R.move ?_
  refine G.fieldAddrPtr (fo := 1) Tryz.underlying69 Tryz.sizeOf9 ?_
  refine G.loadOwn Tryz.isAgg9 ?_
  refine G.seql ?_
  refine R.pickAnd ?_
  refine R.move ?_
  refine G.fieldAddrPtr (fo := 5) Tryz.underlying69 Tryz.sizeOf67 ?_
  refine G.loadOwn Tryz.isAgg67 ?_
  refine G.len Tryz.underlying67 ?_
  refine G.eql ?_
  refine R.pickAnd ?_
  refine R.move ?_
  refine G.fieldAddrPtr (fo := 5) Tryz.underlying69 Tryz.sizeOf67 ?_
  refine G.loadOwn Tryz.isAgg67 ?_
  refine G.indexAddr (1) (exprA (binX [42] (valX ⟨1, 2, []⟩) (nameE [98]))) Tryz.underlying67 Tryz.sizeOf69 (fun _ => rfl) ?_
  refine G.fieldAddrRo (off := 1) Tryz.underlying69 Tryz.sizeOf9 ?_
  refine G.loadRo Tryz.isAgg9 ?_
  refine G.seql ?_
  refine R.pickAnd ?_
  refine R.move ?_
  refine G.loadOwnN Tryz.isAgg69 Tryz.sizeOf69 ?_
  refine G.call Tryz.call45 (fun hB => c45 3 exX ex_ok (by decide) (by decide) _) ?_
  refine G.eql ?_
  refine R.pickAnd ?_
  refine R.assign ?_
  refine R.fin [0] ?_
  refine AW.ret ?_
  exact K.fin (V.one V.tmp) ⟨by kernel_rfl, rfl⟩

end Go.SX.Nb
namespace Go.SX.Nb
open Go Go.SX Go.Proofs
variable [ErrAt]
set_option maxRecDepth 4000
theorem list_ext_upto {α : Type} {a b : List α} (hl : a.length = b.length) (h : ∀ (j : Nat) (y : α), j < a.length → a[j]? = some y → b[j]? = some y) : a = b := by
  apply List.ext_getElem hl
  intro j h1 h2
  have := h j a[j] h1 (List.getElem?_eq_getElem h1)
  rw [List.getElem?_eq_getElem h2] at this
  injection this with this
  exact this.symm
theorem c47 (a b : List Str) (ha : a.length ≤ 1048576) (Hp : List AObj) : AFun Tryz.prog 47 [strsA a, strsA b] Hp (boolA (decide (a = b))) := by
  refine ACall.body [.tmp 4] [0, 1] Tryz.func47 Tryz.ntmps47 (fun d => ?_)
  refine AW.seqR ?_
  refine R.assign ?_
  refine R.fin [0, 1] ?_
  refine W.seq ?_
  refine AW.seqR ?_
  refine R.move ?_
  refine R.len Tryz.underlying50 ?_
  refine R.move ?_
  refine R.len Tryz.underlying50 ?_
  refine R.neq ?_
  refine R.fin [0, 1, 10] ?_
  refine W.cond (fun ht10 => ?_) (fun ht10 => ?_)
  · skip
    have hne : a ≠ b := by rintro rfl; simp at ht10
    refine AW.seqR ?_
    refine R.assign ?_
    refine R.fin [4] ?_
    refine AW.ret ?_
    refine K.thR ?_
    exact K.fin (V.one V.tmp) ⟨by rw [decide_eq_false hne], rfl⟩
  · skip
    have hlen : a.length = b.length := by have := ht10; simp at this; omega
    refine AW.skip ?_
    refine K.thN ?_
    refine W.seq ?_
    refine AW.seqR ?_
    refine R.assign ?_
    refine R.fin [0, 1, 5] ?_
    refine AW.loopC (α := Nat) (fun x => ⟨26, setF 0 (strsA a) (setF 1 (strsA b) (setF 5 (intA (x : Nat)) (fun _ => .any))), Hp, [], [], none⟩) (fun x => x ≤ a.length ∧ ∀ (j : Nat) (y : Str), j < x → a[j]? = some y → b[j]? = some y) (fun x => a.length - x) (0) ⟨Nat.zero_le _, fun j y h => by omega⟩ (StLe.refl _) rfl (fun x hx => ?_)
    refine W.seq ?_
    refine AW.seqR ?_
    refine R.move ?_
    refine R.move ?_
    refine R.len Tryz.underlying50 ?_
    refine R.lss ?_
    refine R.fin [0, 1, 5, 14] ?_
    refine W.cond (fun ht14 => ?_) (fun ht14 => ?_)
    · skip
      have hlt : x < a.length := by simpa using ht14
      have hlb : x < b.length := by omega
      refine AW.skip ?_
      refine K.thN ?_
      refine W.seq ?_
      refine AW.block ?_
      refine W.draw [0, 0, 3, 7, 0, 0, 48, 112, 255] 8 Tryzmixed (by kernel_rfl) ?_
      refine D.move ?_
      refine D.move ?_
      refine D.indexAddr (x) (strA a[x]) Tryz.underlying50 Tryz.sizeOf9 (getMap hlt) ?_
      refine D.loadRo Tryz.isAgg9 ?_
      refine D.move ?_
      refine D.move ?_
      refine D.indexAddr (x) (strA b[x]) Tryz.underlying50 Tryz.sizeOf9 (getMap hlb) ?_
      refine D.loadRo Tryz.isAgg9 ?_
      refine D.tail ?_
      refine R.sneq ?_
      refine R.fin [0, 1, 5, 25] ?_
      refine W.cond (fun ht25 => ?_) (fun ht25 => ?_)
      · skip
        have hne : a ≠ b := by rintro rfl; simp at ht25
        refine AW.seqR ?_
        refine R.assign ?_
        refine R.fin [4] ?_
        refine AW.ret ?_
        refine K.blR ?_
        refine K.thR ?_
        refine K.lpR ?_
        refine K.thR ?_
        exact K.fin (V.one V.tmp) ⟨by rw [decide_eq_false hne], rfl⟩
      · skip
        have heq : a[x] = b[x] := by simpa using ht25
        refine AW.skip ?_
        refine K.blN ?_
        refine K.thN ?_
        refine AW.region ?_
        refine R.move ?_
        refine R.add64 ?_
        refine R.assign ?_
        refine R.fin [0, 1, 5] ?_
        refine K.lpN (x + 1) ⟨hlt, fun j y hj hy => ?_⟩ (by omega) (StCut.of_eq rfl)
        rcases Nat.lt_or_ge j x with h | h
        · exact hx.2 j y h hy
        · have : j = x := by omega
          subst this
          rw [List.getElem?_eq_getElem hlt] at hy
          rw [List.getElem?_eq_getElem hlb, ← hy, heq]
    · skip
      have hxe : a.length ≤ x := by simpa using ht14
      refine AW.exit ?_
      refine K.thE ?_
      refine K.lpE ?_
      refine K.thN ?_
      refine AW.seqR ?_
      refine R.assign ?_
      refine R.fin [4] ?_
      refine AW.ret ?_
      exact K.fin (V.one V.tmp) ⟨by rw [decide_eq_true (list_ext_upto hlen fun j y hj hy => hx.2 j y (by omega) hy)], rfl⟩

theorem low_exprs {n k : Nat} {o : Bool} {l : List Expr} : Low n (.slice o k (l.map exprA)) := low_slice.2 fun y hy => by
  obtain ⟨a, _, rfl⟩ := List.mem_map.1 hy
  exact exprA_low _ a
theorem pop_nodes {l : List Expr} (h : 0 < l.length) : nodesL l = l[0] :: nodesL (l[0].kids ++ l.drop 1) ∧ sizeL l = 1 + sizeL (l[0].kids ++ l.drop 1) ∧ l[0].kids.length ≤ sizeL l := by
  cases l with
  | nil => simp at h
  | cons e r =>
    refine ⟨?_, ?_, ?_⟩
    · show nodesE e ++ nodesL r = e :: nodesL (e.kids ++ r)
      rw [nodesE_eq, nodesL_append]
      rfl
    · show sizeE e + sizeL r = 1 + sizeL (e.kids ++ r)
      rw [sizeE_eq, sizeL_append]
      omega
    · show e.kids.length ≤ sizeE e + sizeL r
      have := sizeL_kids e.kids
      rw [sizeE_eq]
      omega
theorem len_sizeL (l : List Expr) : l.length ≤ sizeL l := by have := sizeL_kids l; omega
structure NamesAt (e : Expr) (x : List Expr × List Str) : Prop where
  eq : exprNamesM e = (nodesL x.1).foldl addName x.2
  bd : x.2.length + sizeL x.1 ≤ 1048576
theorem NamesAt.on {e : Expr} {x : List Expr × List Str} (h : NamesAt e x) (h0 : 0 < x.1.length) : NamesAt e (x.1[0].kids ++ x.1.drop 1, addName x.2 x.1[0]) := by
  obtain ⟨a, b, _⟩ := pop_nodes h0
  refine ⟨?_, ?_⟩
  · rw [h.eq, a, List.foldl_cons]
  · have := h.bd
    have := add_len x.2 x.1[0]
    show (addName x.2 x.1[0]).length + sizeL (x.1[0].kids ++ x.1.drop 1) ≤ _
    omega
theorem any_contains (l : List Str) (s : Str) : (l.any fun w => w == s) = l.contains s := by
  rw [Bool.eq_iff_iff, List.any_eq_true, List.contains_iff_mem]
  constructor
  · rintro ⟨w, hw, h⟩
    rw [beq_iff_eq] at h
    subst h
    exact hw
  · exact fun h => ⟨s, h, by simp⟩
theorem anyw_take {l : List Str} {z : Nat} (h : z < l.length) (s : Str) : ((l.take (z + 1)).any fun w => w == s) = (((l.take z).any fun w => w == s) || (l[z] == s)) := by
  rw [List.take_succ_eq_append_getElem h, List.any_append]
  simp
theorem c49 (e : Expr) (hs : sizeE e ≤ 1048576) (Hp : List AObj) : AFun Tryz.prog 49 [exprA e] Hp (strsA (exprNamesM e)) := by
  refine ACall.body [.tmp 2] [0] Tryz.func49 Tryz.ntmps49 (fun d => ?_)
  refine AW.seqR ?_
  refine R.boxRo ?_
  refine R.assign ?_
  refine R.fin [1] ?_
  refine AW.seqR ?_
  refine R.buildSlice Tryz.underlying50 Tryz.sizeOf9 Tryz.zeroValue9 ?_
  refine R.assignT ?_
  refine R.fin [1, 3] ?_
  refine AW.seqR ?_
  refine R.loadRoN Tryz.isAgg69 Tryz.sizeOf69 ?_
  refine R.buildSlice Tryz.underlying67 Tryz.sizeOf69 Tryz.zeroValue69 ?_
  refine R.assignT ?_
  refine R.fin [3, 4] ?_
  refine W.seq ?_
  refine AW.loopC (α := List Expr × List Str) (fun x => ⟨51, setF 3 (.slice true 1 (x.2.map strA)) (setF 4 (.slice true 6 (x.1.map exprA)) (fun _ => .any)), Hp, [], [], none⟩) (fun x => NamesAt e x) (fun x => sizeL x.1) (([e], [])) ⟨by unfold exprNamesM; simp [nodesL], by simp [sizeL]; exact hs⟩ (StLe.of_eq (by simp [exprA_eq])) rfl (fun x hx => ?_)
  refine W.seq ?_
  refine AW.seqR ?_
  refine R.move ?_
  refine R.len Tryz.underlying67 ?_
  refine R.gtr ?_
  refine R.fin [3, 4, 13] ?_
  refine W.cond (fun ht13 => ?_) (fun ht13 => ?_)
  · skip
    have hlt : 0 < x.1.length := by simpa using ht13
    have hpop := pop_nodes hlt
    have hon := hx.on hlt
    have em : List.map exprA x.1[0].kids ++ List.drop 1 (List.map exprA x.1) = List.map exprA (x.1[0].kids ++ x.1.drop 1) := by rw [List.map_append, List.map_drop]
    refine AW.skip ?_
    refine K.thN ?_
    refine AW.block ?_
    refine AW.seqR ?_
    refine R.move ?_
    refine R.indexAddr (0) (exprA x.1[0]) Tryz.underlying67 Tryz.sizeOf69 (getMap hlt) ?_
    refine R.loadRoN Tryz.isAgg69 Tryz.sizeOf69 ?_
    refine R.alloc Tryz.zeroValue69 ?_
    refine R.storeOwn Tryz.sizeOf69 ?_
    refine R.fin [3, 4, 5] ?_
    refine W.drawY [0, 0, 2, 7, 0, 16, 63, 127] [] [.s [17] none [] [], .q 2 [] [], .s [17, 20] none [] [], .q 2 [] []] (fun _ => Hp) (fun _ => [.cells 69 (exprC x.1[0])]) Tryzmixed (by kernel_rfl) rfl rfl (fun _ => rfl) ?_
    refine Y.buildSlice Tryz.underlying67 Tryz.sizeOf69 Tryz.zeroValue69 ?_
    apply Y.q
    case h1 =>
      intro B hT hF
      refine D.fieldAddrPtr (fo := 5) Tryz.underlying69 Tryz.sizeOf67 ?_
      refine D.loadOwn Tryz.isAgg67 ?_
      exact D.end rfl rfl
    case hTF => decide
    refine Y.append Tryz.underlying67 Tryz.type69 ?_ ?_ ?_
    · have := hpop.2.2; have := hx.bd; simp [Tryz.t69]; omega
    · have := hpop.2.2; have := hx.bd; simp [Tryz.t69]; omega
    apply Y.q
    case h1 =>
      intro B hT hF
      refine D.move ?_
      refine D.cutL 1 Tryz.underlying67 Tryz.sizeOf69 (show 1 ≤ (x.1.map exprA).length by rw [List.length_map]; exact hlt) (Nat.le_refl _) ?_
      exact D.end rfl rfl
    case hTF => decide
    refine Y.tail (tn := [])  ?_
    refine R.append Tryz.underlying67 Tryz.type69 ?_ ?_ ?_
    · have := hpop.2.2; have := hx.bd; have := len_sizeL x.1; simp [Tryz.t69]; omega
    · have := hpop.2.2; have := hx.bd; have := len_sizeL x.1; simp [Tryz.t69]; omega
    refine R.assignT ?_
    refine R.fin [3, 4, 5] ?_
    refine W.seq ?_
    refine AW.seqR ?_
    refine R.fieldAddrPtr (fo := 0) Tryz.underlying69 Tryz.sizeOf3 ?_
    refine R.loadOwn Tryz.isAgg3 ?_
    refine R.neq ?_
    refine R.fin [3, 4, 5, 26] ?_
    refine W.cond (fun ht26 => ?_) (fun ht26 => ?_)
    · skip
      have hadd : addName x.2 x.1[0] = x.2 := if_neg (by have := ht26; simp at this; simp [this])
      rw [hadd] at hon
      refine W.keep [3, 4] ?_
      refine AW.exit ?_
      refine K.thE ?_
      refine K.blE ?_
      refine K.lpN (x.1[0].kids ++ x.1.drop 1, x.2) hon (by have := hpop.2.1; show sizeL (x.1[0].kids ++ x.1.drop 1) < sizeL x.1; omega) ?_
      simp only [show Tryz.t69.size = 6 from rfl, em]
      exact StCut.take (own := []) (fun _ => .refl _) (by repeat (first | exact lowF_any | refine lowF_set (by first | exact low_exprs | exact low_strsl | exact low_strs1 | (rw [← List.map_append]; exact low_exprs)) ?_)) (by simp) (by simp)
    · skip
      have hop : (x.1[0].op == 2) = true := by simpa using ht26
      refine AW.skip ?_
      refine K.thN ?_
      refine AW.seqR ?_
      refine R.assign ?_
      refine R.fin [3, 4, 5, 6] ?_
      refine W.seq ?_
      refine AW.seqR ?_
      refine R.assign ?_
      refine R.fin [3, 4, 5, 6, 7] ?_
      refine AW.loopC (α := Nat) (fun z => ⟨51, setF 3 (.slice true 1 (x.2.map strA)) (setF 4 (.slice true 6 ((x.1[0].kids ++ x.1.drop 1).map exprA)) (setF 5 (.ptr (oid Hp.length 0) 0) (setF 6 (boolA ((x.2.take z).any fun w => w == x.1[0].text)) (setF 7 (intA (z : Nat)) (fun _ => .any))))), Hp, [.cells 69 (exprC x.1[0])], [], none⟩) (fun z => z ≤ x.2.length) (fun z => x.2.length - z) (0) (Nat.zero_le _) (StLe.of_eq (by simp [List.map_append, List.map_drop] <;> rfl)) rfl (fun z hz => ?_)
      refine W.seq ?_
      refine AW.seqR ?_
      refine R.move ?_
      refine R.move ?_
      refine R.len Tryz.underlying50 ?_
      refine R.lss ?_
      refine R.fin [3, 4, 5, 6, 7, 30] ?_
      refine W.cond (fun ht30 => ?_) (fun ht30 => ?_)
      · skip
        have hlz : z < x.2.length := by simpa using ht30
        have hbd := hx.bd
        refine AW.skip ?_
        refine K.thN ?_
        refine W.seq ?_
        refine AW.block ?_
        refine W.draw0 [0, 1, 3, 3, 15, 31, 3, 67, 255, 511, 1023] 8 Tryzmixed (by kernel_rfl) ?_
        refine D.move ?_
        refine D.move ?_
        refine H.move ?_
        refine H.move ?_
        refine H.indexAddr (z) (strA x.2[z]) Tryz.underlying50 Tryz.sizeOf9 (fun _ => getMap hlz) ?_
        refine H.loadRo Tryz.isAgg9 ?_
        refine H.fieldAddrPtr (fo := 1) Tryz.underlying69 Tryz.sizeOf9 ?_
        refine H.loadOwn Tryz.isAgg9 ?_
        refine D.tail ?_
        refine G.seql ?_
        refine R.pickOr ?_
        refine R.assign ?_
        refine R.fin [3, 4, 5, 6, 7] ?_
        refine K.blN ?_
        refine K.thN ?_
        refine AW.region ?_
        refine R.move ?_
        refine R.add64 ?_
        refine R.assign ?_
        refine R.fin [3, 4, 5, 6, 7] ?_
        refine K.lpN (z + 1) hlz (by omega) (StCut.of_eq ?_)
        rw [anyw_take hlz]
        rfl
      · skip
        have hze : x.2.take z = x.2 := List.take_of_length_le (by simp at ht30; omega)
        refine AW.exit ?_
        refine K.thE ?_
        refine K.lpE ?_
        refine K.thN ?_
        refine AW.seqR ?_
        refine R.move ?_
        refine R.not ?_
        refine R.fin [3, 4, 5, 44] ?_
        refine W.cond (fun ht44 => ?_) (fun ht44 => ?_)
        · skip
          have hadd : addName x.2 x.1[0] = x.2 ++ [x.1[0].text] := if_pos (by rw [hop]; rw [hze, any_contains] at ht44; simpa using ht44)
          rw [hadd] at hon
          refine AW.region ?_
          refine R.moveT ?_
          refine R.fieldAddrPtr (fo := 1) Tryz.underlying69 Tryz.sizeOf9 ?_
          refine R.loadOwn Tryz.isAgg9 ?_
          refine R.buildSlice Tryz.underlying50 Tryz.sizeOf9 Tryz.zeroValue9 ?_
          refine R.append Tryz.underlying50 Tryz.type9 ?_ ?_ ?_
          · have := hx.bd; simp [Tryz.t9]; omega
          · have := hx.bd; simp [Tryz.t9]; omega
          refine R.assignT ?_
          refine R.fin [3, 4] ?_
          refine K.blN ?_
          first | refine K.lpN (x.1[0].kids ++ x.1.drop 1, x.2 ++ [x.1[0].text]) hon (by have := hpop.2.1; show sizeL (x.1[0].kids ++ x.1.drop 1) < sizeL x.1; omega) ?_ | refine K.lpN (x.1[0].kids ++ x.1.drop 1, x.2) hon (by have := hpop.2.1; show sizeL (x.1[0].kids ++ x.1.drop 1) < sizeL x.1; omega) ?_
          try simp only [show Tryz.t9.size = 1 from rfl, List.map_append, List.map_cons, List.map_nil]
          exact StCut.take (own := []) (fun _ => .refl _) (by repeat (first | exact lowF_any | refine lowF_set (by first | exact low_exprs | exact low_strsl | exact low_strs1 | (rw [← List.map_append]; exact low_exprs)) ?_)) (by simp) (by simp)
        · skip
          have hadd : addName x.2 x.1[0] = x.2 := if_neg (by rw [hop]; rw [hze, any_contains] at ht44; simp at ht44; simp [ht44])
          rw [hadd] at hon
          refine W.keep [3, 4] ?_
          refine AW.skip ?_
          refine K.blN ?_
          first | refine K.lpN (x.1[0].kids ++ x.1.drop 1, x.2 ++ [x.1[0].text]) hon (by have := hpop.2.1; show sizeL (x.1[0].kids ++ x.1.drop 1) < sizeL x.1; omega) ?_ | refine K.lpN (x.1[0].kids ++ x.1.drop 1, x.2) hon (by have := hpop.2.1; show sizeL (x.1[0].kids ++ x.1.drop 1) < sizeL x.1; omega) ?_
          try simp only [show Tryz.t9.size = 1 from rfl, List.map_append, List.map_cons, List.map_nil]
          exact StCut.take (own := []) (fun _ => .refl _) (by repeat (first | exact lowF_any | refine lowF_set (by first | exact low_exprs | exact low_strsl | exact low_strs1 | (rw [← List.map_append]; exact low_exprs)) ?_)) (by simp) (by simp)
  · skip
    have hnil : x.1 = [] := by have := ht13; simp at this; exact this
    refine AW.exit ?_
    refine K.thE ?_
    refine K.lpE ?_
    refine K.thN ?_
    refine AW.seqR ?_
    refine R.move ?_
    refine R.assign ?_
    refine R.fin [2] ?_
    refine AW.ret ?_
    exact K.fin (V.one V.tmp) ⟨by rw [hx.eq, hnil]; rfl, rfl⟩

theorem wide_many {l : List Expr} {n f : Nat} (h0 : l.isEmpty = false) (h : manyF l n = true) : wideF f l n = true := by
  cases f with
  | zero => rw [wideF, h0]; rfl
  | succ f => rw [wideF, if_neg (by rw [h0]; simp), if_pos h]
theorem many_at {l : List Expr} {n y : Nat} (hy : y < l.length) (h : 500 < n + y + 1 ∨ fatM l[y] = true) : manyF l n = true := by
  unfold manyF
  rcases h with h | h
  · rw [decide_eq_true (by omega)]; rfl
  · rw [List.any_eq_true.2 ⟨_, List.getElem_mem hy, h⟩, Bool.or_true]
theorem flat_len {l : List Expr} : ∀ (y : Nat), y ≤ l.length → (∀ (j : Nat) (e : Expr), j < y → l[j]? = some e → fatM e = false) → ((l.take y).flatMap Expr.kids).length ≤ 100 * y
  | 0, _, _ => by simp
  | y + 1, hy, h => by
    rw [List.take_succ_eq_append_getElem hy, List.flatMap_append, List.length_append]
    have h1 := flat_len y (by omega) (fun j e hj he => h j e (by omega) he)
    have h2 := fat_out (h y l[y] (by omega) (List.getElem?_eq_getElem _))
    simp only [List.flatMap_cons, List.flatMap_nil, List.append_nil]
    omega
structure WideAt (l0 : List Expr) (x : List Expr × Nat × Nat) : Prop where
  eq : wideF 61 l0 0 = wideF x.2.2 x.1 x.2.1
  f : x.2.2 ≤ 61
  n : x.2.1 ≤ 500
theorem c88 (l0 : List Expr) (Hp : List AObj) : AFun Tryz.prog 88 [.slice false 6 (l0.map exprA), intA 0] Hp (boolA (wideF 61 l0 0)) := by
  refine ACall.body [.tmp 4] [0, 1] Tryz.func88 Tryz.ntmps88 (fun d => ?_)
  refine AW.seqR ?_
  refine R.assign ?_
  refine R.fin [0, 1] ?_
  refine AW.seqR ?_
  refine R.assign ?_
  refine R.fin [0, 1, 5] ?_
  refine W.seq ?_
  refine AW.loopC (α := List Expr × Nat × Nat) (fun x => ⟨67, setF 0 (.slice false 6 (x.1.map exprA)) (setF 1 (intA (61 - (x.2.2 : Int))) (setF 5 (intA (x.2.1 : Nat)) (fun _ => .any))), Hp, [], [], none⟩) (fun x => WideAt l0 x) (fun x => x.2.2) ((l0, 0, 61)) ⟨rfl, Nat.le_refl _, Nat.zero_le _⟩ (StLe.of_eq (by simp)) rfl (fun x hx => ?_)
  refine W.seq ?_
  refine AW.seqR ?_
  refine R.move ?_
  refine R.len Tryz.underlying67 ?_
  refine R.gtr ?_
  refine R.fin [0, 1, 5, 10] ?_
  refine W.cond (fun ht10 => ?_) (fun ht10 => ?_)
  · skip
    have hpos : 0 < x.1.length := by simpa using ht10
    have hne : x.1.isEmpty = false := by cases hxx : x.1 with
      | nil => rw [hxx] at hpos; simp at hpos
      | cons a r => rfl
    have hxf := hx.f
    refine AW.skip ?_
    refine K.thN ?_
    refine AW.block ?_
    refine AW.seqR ?_
    refine R.buildSlice Tryz.underlying67 Tryz.sizeOf69 Tryz.zeroValue69 ?_
    refine R.assignT ?_
    refine R.fin [0, 1, 5, 6] ?_
    refine W.seq ?_
    refine AW.seqR ?_
    refine R.assign ?_
    refine R.fin [0, 1, 5, 6, 7] ?_
    refine AW.loopC (α := Nat) (fun y => ⟨67, setF 0 (.slice false 6 (x.1.map exprA)) (setF 1 (intA (61 - (x.2.2 : Int))) (setF 5 (intA ((x.2.1 + y : Nat) : Int)) (setF 6 (.slice true 6 (((x.1.take y).flatMap Expr.kids).map exprA)) (setF 7 (intA (y : Nat)) (fun _ => .any))))), Hp, [], [], none⟩) (fun y => y ≤ x.1.length ∧ x.2.1 + y ≤ 500 ∧ ∀ (j : Nat) (e : Expr), j < y → x.1[j]? = some e → fatM e = false) (fun y => x.1.length - y) (0) ⟨Nat.zero_le _, hx.n, fun j e h => by omega⟩ (StLe.of_eq (by simp)) rfl (fun y hy => ?_)
    refine W.seq ?_
    refine AW.seqR ?_
    refine R.move ?_
    refine R.move ?_
    refine R.len Tryz.underlying67 ?_
    refine R.lss ?_
    refine R.fin [0, 1, 5, 6, 7, 15] ?_
    refine W.cond (fun ht15 => ?_) (fun ht15 => ?_)
    · skip
      have hlt : y < x.1.length := by simpa using ht15
      have hyn := hy.2.1
      refine AW.skip ?_
      refine K.thN ?_
      refine W.seq ?_
      refine AW.block ?_
      refine AW.seqR ?_
      refine R.move ?_
      refine R.add64 ?_
      refine R.assign ?_
      refine R.fin [0, 1, 5, 6, 7] ?_
      refine W.seq ?_
      refine AW.seqR ?_
      refine R.move ?_
      refine R.gtr ?_
      refine R.move ?_
      refine G.move ?_
      refine G.move ?_
      refine G.indexAddr (y) (exprA x.1[y]) Tryz.underlying67 Tryz.sizeOf69 (fun _ => getMap hlt) ?_
      refine G.fieldAddrRo (off := 1) Tryz.underlying69 Tryz.sizeOf9 ?_
      refine G.loadRo Tryz.isAgg9 ?_
      refine G.slen Tryz.underlying9 ?_
      refine G.gtr ?_
      refine R.pickOr ?_
      refine R.move ?_
      refine G.move ?_
      refine G.move ?_
      refine G.indexAddr (y) (exprA x.1[y]) Tryz.underlying67 Tryz.sizeOf69 (fun _ => getMap hlt) ?_
      refine G.fieldAddrRo (off := 2) Tryz.underlying69 Tryz.sizeOf36 ?_
      refine G.fieldAddrRo (off := 2) Tryz.underlying36 Tryz.sizeOf9 ?_
      refine G.loadRo Tryz.isAgg9 ?_
      refine G.slen Tryz.underlying9 ?_
      refine G.gtr ?_
      refine R.pickOr ?_
      refine R.move ?_
      refine G.move ?_
      refine G.move ?_
      refine G.indexAddr (y) (exprA x.1[y]) Tryz.underlying67 Tryz.sizeOf69 (fun _ => getMap hlt) ?_
      refine G.fieldAddrRo (off := 5) Tryz.underlying69 Tryz.sizeOf67 ?_
      refine G.loadRo Tryz.isAgg67 ?_
      refine G.len Tryz.underlying67 ?_
      refine G.gtr ?_
      refine R.pickOr ?_
      refine R.fin [0, 1, 5, 6, 7, 49] ?_
      refine W.cond (fun ht49 => ?_) (fun ht49 => ?_)
      · skip
        have hm : manyF x.1 x.2.1 = true := many_at hlt (by
          simp only [Bool.or_eq_true, decide_eq_true_eq, List.length_map] at ht49
          unfold fatM
          simp only [Bool.or_eq_true, decide_eq_true_eq]
          omega)
        have hw := wide_many (f := x.2.2) hne hm
        refine AW.seqR ?_
        refine R.assign ?_
        refine R.fin [4] ?_
        refine AW.ret ?_
        refine K.thR ?_
        refine K.blR ?_
        refine K.thR ?_
        refine K.lpR ?_
        refine K.thR ?_
        refine K.blR ?_
        refine K.lpR ?_
        refine K.thR ?_
        exact K.fin (V.one V.tmp) ⟨by rw [hx.eq, hw], rfl⟩
      · skip
        have hfat : fatM x.1[y] = false ∧ x.2.1 + y + 1 ≤ 500 := by
          simp only [Bool.or_eq_false_iff, decide_eq_false_iff_not, List.length_map] at ht49
          unfold fatM
          simp only [Bool.or_eq_false_iff, decide_eq_false_iff_not]
          omega
        have hkl := (fat_out hfat.1).2.2
        have hfm : (x.1.take (y + 1)).flatMap Expr.kids = (x.1.take y).flatMap Expr.kids ++ x.1[y].kids := by rw [List.take_succ_eq_append_getElem hlt, List.flatMap_append]; simp
        refine AW.skip ?_
        refine K.thN ?_
        refine AW.region ?_
        refine R.moveT ?_
        refine R.move ?_
        refine R.move ?_
        refine R.indexAddr (y) (exprA x.1[y]) Tryz.underlying67 Tryz.sizeOf69 (getMap hlt) ?_
        refine R.fieldAddrRo (off := 5) Tryz.underlying69 Tryz.sizeOf67 ?_
        refine R.loadRo Tryz.isAgg67 ?_
        refine R.append Tryz.underlying67 Tryz.type69 ?_ ?_ ?_
        · have h1 := flat_len y hy.1 hy.2.2; have h2 := hkl; have h3 := hy.2.1; simp only [List.length_map, Tryz.t69]; omega
        · have h1 := flat_len y hy.1 hy.2.2; have h2 := hkl; have h3 := hy.2.1; simp only [List.length_map, Tryz.t69]; omega
        refine R.assignT ?_
        refine R.fin [0, 1, 5, 6, 7] ?_
        refine K.blN ?_
        refine K.thN ?_
        refine AW.region ?_
        refine R.move ?_
        refine R.add64 ?_
        refine R.assign ?_
        refine R.fin [0, 1, 5, 6, 7] ?_
        refine K.lpN (y + 1) ⟨hlt, by omega, upto_succ hlt hy.2.2 hfat.1⟩ (by omega) (StCut.of_eq ?_)
        rw [hfm, List.map_append]
        rfl
    · skip
      have hye : x.1.take y = x.1 := List.take_of_length_le (by simp at ht15; omega)
      have hyl : y = x.1.length := by have := hy.1; simp at ht15; omega
      have hmany : manyF x.1 x.2.1 = false := by
        unfold manyF
        rw [decide_eq_false (by have := hy.2.1; omega), Bool.false_or, List.any_eq_false]
        intro e he
        obtain ⟨j, hj⟩ := List.getElem?_of_mem he
        rw [hy.2.2 j e (by have := (List.getElem?_eq_some_iff.1 hj).1; omega) hj]
        simp
      refine AW.exit ?_
      refine K.thE ?_
      refine K.lpE ?_
      refine K.thN ?_
      refine W.seq ?_
      refine AW.seqR ?_
      refine R.move ?_
      refine R.len Tryz.underlying67 ?_
      refine R.gtr ?_
      refine R.move ?_
      refine G.move ?_
      refine G.gtr ?_
      refine R.pickOr ?_
      refine R.fin [1, 5, 6, 63] ?_
      refine W.cond (fun ht63 => ?_) (fun ht63 => ?_)
      · skip
        have hw : wideF x.2.2 x.1 x.2.1 = true := by
          have h9 := ht63
          rw [hye] at h9
          simp only [Bool.or_eq_true, decide_eq_true_eq, List.length_map] at h9
          cases hf : x.2.2 with
          | zero => rw [wideF, hne]; rfl
          | succ f =>
            rw [wideF, if_neg (by rw [hne]; simp), if_neg (by rw [hmany]; simp), if_pos (by rw [decide_eq_true_eq]; omega)]
        refine AW.seqR ?_
        refine R.assign ?_
        refine R.fin [4] ?_
        refine AW.ret ?_
        refine K.thR ?_
        refine K.blR ?_
        refine K.lpR ?_
        refine K.thR ?_
        exact K.fin (V.one V.tmp) ⟨by rw [hx.eq, hw], rfl⟩
      · skip
        have h9 := ht63
        rw [hye] at h9
        simp only [Bool.or_eq_false_iff, decide_eq_false_iff_not, List.length_map] at h9
        obtain ⟨f, hf⟩ : ∃ f, x.2.2 = f + 1 := ⟨x.2.2 - 1, by omega⟩
        have hw : wideF x.2.2 x.1 x.2.1 = wideF f (x.1.flatMap Expr.kids) (x.2.1 + x.1.length) := by
          rw [hf, wideF, if_neg (by rw [hne]; simp), if_neg (by rw [hmany]; simp), if_neg (by rw [decide_eq_true_eq]; omega)]
        refine AW.skip ?_
        refine K.thN ?_
        refine AW.seqR ?_
        refine R.move ?_
        refine R.assign ?_
        refine R.fin [0, 1, 5] ?_
        refine AW.region ?_
        refine R.move ?_
        refine R.add64 ?_
        refine R.assign ?_
        refine R.fin [0, 1, 5] ?_
        refine K.blN ?_
        refine K.lpN (x.1.flatMap Expr.kids, x.2.1 + x.1.length, f) ⟨hx.eq.trans hw, by show f ≤ 61; omega, by show x.2.1 + x.1.length ≤ 500; have := hy.2.1; omega⟩ (by show f < x.2.2; omega) (StCut.of_eq ?_)
        rw [hye, hyl]
        congr 4
        simp only [AV.v.injEq, Value.int.injEq, true_and]
        omega
  · skip
    have hnil : x.1 = [] := by have := ht10; simp at this; exact this
    refine AW.exit ?_
    refine K.thE ?_
    refine K.lpE ?_
    refine K.thN ?_
    refine AW.seqR ?_
    refine R.assign ?_
    refine R.fin [4] ?_
    refine AW.ret ?_
    exact K.fin (V.one V.tmp) ⟨by rw [hx.eq, hnil]; cases x.2.2 <;> rfl, rfl⟩

theorem c40 (e : Expr) (Hp : List AObj) : AFun Tryz.prog 40 [exprA e] Hp (boolA (wideM e)) := by
  refine ACall.body [.tmp 2] [0] Tryz.func40 Tryz.ntmps40 (fun d => ?_)
  refine AW.seqR ?_
  refine R.boxRo ?_
  refine R.assign ?_
  refine R.fin [1] ?_
  refine AW.seqR ?_
  refine R.loadRoN Tryz.isAgg69 Tryz.sizeOf69 ?_
  refine R.buildSlice Tryz.underlying67 Tryz.sizeOf69 Tryz.zeroValue69 ?_
  refine R.call Tryz.call88 (c88 [e] _) ?_
  refine R.assign ?_
  refine R.fin [2] ?_
  refine AW.ret ?_
  exact K.fin (V.one V.tmp)

end Go.SX.Nb
namespace Go.SX.Nb
open Go Go.SX Go.Proofs
variable [ErrAt]
set_option maxRecDepth 4000
theorem eqL_upto {a b : List Expr} (hl : a.length = b.length) (h : ∀ (j : Nat) (y z : Expr), j < a.length → a[j]? = some y → b[j]? = some z → eqE y z = true) : eqL a b = true := by
  rw [eqL_iff]
  refine list_ext_upto hl fun j y hj hy => ?_
  have hjb : j < b.length := by omega
  have := h j y b[j] hj hy (List.getElem?_eq_getElem hjb)
  rw [List.getElem?_eq_getElem hjb, (eqE_iff _ _).1 this]
theorem eqL_at {a b : List Expr} (h : eqL a b = true) {j : Nat} (hj : j < a.length) (hb : j < b.length) : eqE a[j] b[j] = true := by
  have e := (eqL_iff _ _).1 h
  subst e
  exact eqE_refl _
theorem neq_at {a b : List Expr} {j : Nat} (hj : j < a.length) (hb : j < b.length) (h : eqE a[j] b[j] = false) : eqL a b = false := by
  rw [Bool.eq_false_iff]
  intro h2
  rw [eqL_at h2 hj hb] at h
  cases h
theorem neq_len {a b : List Expr} (h : a.length ≠ b.length) : eqL a b = false := by
  rw [Bool.eq_false_iff]
  exact fun h2 => h (eqL_len h2)
theorem uptoE {a b : List Expr} {x : Nat} (hx : x < a.length) (hb : x < b.length) (h : ∀ (j : Nat) (y z : Expr), j < x → a[j]? = some y → b[j]? = some z → eqE y z = true) (he : eqE a[x] b[x] = true) : ∀ (j : Nat) (y z : Expr), j < x + 1 → a[j]? = some y → b[j]? = some z → eqE y z = true := by
  intro j y z hj h1 h2
  rcases Nat.lt_or_ge j x with h3 | h3
  · exact h j y z h3 h1 h2
  · have : j = x := by omega
    subst this
    rw [List.getElem?_eq_getElem hx] at h1
    rw [List.getElem?_eq_getElem hb] at h2
    injection h1 with h1
    injection h2 with h2
    rw [← h1, ← h2]
    exact he
def headE (x y : Expr) : Bool := ((x.op == y.op) && (x.text == y.text)) && ((x.val.kind == y.val.kind && x.val.n == y.val.n) && x.val.s == y.val.s)
theorem eq_head (x y : Expr) : eqE x y = (headE x y && eqL x.kids y.kids) := eqE_eq x y
theorem c53 : ∀ (n : Nat) (x : Expr), okE n x → ∀ (y : Expr) (Hp : List AObj), AFun Tryz.prog 53 [exprA x, exprA y] Hp (boolA (eqE x y)) := by
  intro n
  induction n with
  | zero => exact fun x h => h.elim
  | succ n ih =>
  intro x hok y Hp
  refine ACall.body [.tmp 4] [0, 1] Tryz.func53 Tryz.ntmps53 (fun d => ?_)
  refine AW.seqR ?_
  refine R.boxRo ?_
  refine R.boxRo ?_
  refine R.assign ?_
  refine R.fin [2, 3] ?_
  refine W.seq ?_
  refine AW.seqR ?_
  refine R.fieldAddrRo (off := 0) Tryz.underlying69 Tryz.sizeOf3 ?_
  refine R.loadRo Tryz.isAgg3 ?_
  refine R.fieldAddrRo (off := 0) Tryz.underlying69 Tryz.sizeOf3 ?_
  refine R.loadRo Tryz.isAgg3 ?_
  refine R.neq ?_
  refine R.move ?_
  refine G.fieldAddrRo (off := 1) Tryz.underlying69 Tryz.sizeOf9 ?_
  refine G.loadRo Tryz.isAgg9 ?_
  refine G.fieldAddrRo (off := 1) Tryz.underlying69 Tryz.sizeOf9 ?_
  refine G.loadRo Tryz.isAgg9 ?_
  refine G.sneq ?_
  refine R.pickOr ?_
  refine R.move ?_
  refine G.fieldAddrRo (off := 2) Tryz.underlying69 Tryz.sizeOf36 ?_
  refine G.loadRoN Tryz.isAgg36 Tryz.sizeOf36 ?_
  refine G.fieldAddrRo (off := 2) Tryz.underlying69 Tryz.sizeOf36 ?_
  refine G.loadRoN Tryz.isAgg36 Tryz.sizeOf36 ?_
  refine G.neqAgg eg36 (fun w => equal36 x.val.kind x.val.n y.val.kind y.val.n x.val.s y.val.s w) ?_
  refine R.pickOr ?_
  refine R.move ?_
  refine G.fieldAddrRo (off := 5) Tryz.underlying69 Tryz.sizeOf67 ?_
  refine G.loadRo Tryz.isAgg67 ?_
  refine G.len Tryz.underlying67 ?_
  refine G.fieldAddrRo (off := 5) Tryz.underlying69 Tryz.sizeOf67 ?_
  refine G.loadRo Tryz.isAgg67 ?_
  refine G.len Tryz.underlying67 ?_
  refine G.neq ?_
  refine R.pickOr ?_
  refine R.fin [2, 3, 33] ?_
  refine W.cond (fun ht33 => ?_) (fun ht33 => ?_)
  · skip
    have hf : eqE x y = false := by
      rw [eq_head]
      simp only [Bool.or_eq_true, bne_iff_ne, ne_eq, List.length_map, Bool.not_eq_true'] at ht33
      by_cases hh : headE x y = true
      · rw [hh, Bool.true_and]
        refine neq_len ?_
        unfold headE at hh
        simp only [Bool.and_eq_true, beq_iff_eq] at hh
        obtain ⟨⟨h1, h2⟩, ⟨h3, h4⟩, h5⟩ := hh
        rcases ht33 with ((h | h) | h) | h
        · exact absurd h1 h
        · simp [h2] at h
        · simp [h3, h4, h5] at h
        · intro e; exact h (by rw [e])
      · rw [Bool.not_eq_true] at hh
        rw [hh, Bool.false_and]
    refine AW.seqR ?_
    refine R.assign ?_
    refine R.fin [4] ?_
    refine AW.ret ?_
    refine K.thR ?_
    exact K.fin (V.one V.tmp) ⟨by rw [hf], rfl⟩
  · skip
    have hh : headE x y = true ∧ x.kids.length = y.kids.length := by
      simp only [Bool.or_eq_false_iff, bne_eq_false_iff_eq, List.length_map, Bool.not_eq_false'] at ht33
      obtain ⟨⟨⟨h1, h2⟩, h3⟩, h4⟩ := ht33
      unfold headE
      refine ⟨?_, by omega⟩
      simp only [beq_iff_eq, Bool.and_eq_true] at h1 h2 h3 ⊢
      exact ⟨⟨h1, h2⟩, h3⟩
    obtain ⟨hh, hlen⟩ := hh
    have hkl := hok.2.1
    refine AW.skip ?_
    refine K.thN ?_
    refine W.seq ?_
    refine AW.seqR ?_
    refine R.assign ?_
    refine R.fin [2, 3, 5] ?_
    refine AW.loopC (α := Nat) (fun i => ⟨53, setF 2 (.ro (exprC x)) (setF 3 (.ro (exprC y)) (setF 5 (intA (i : Nat)) (fun _ => .any))), Hp, [], [], none⟩) (fun i => i ≤ x.kids.length ∧ ∀ (j : Nat) (a b : Expr), j < i → x.kids[j]? = some a → y.kids[j]? = some b → eqE a b = true) (fun i => x.kids.length - i) (0) ⟨Nat.zero_le _, fun j a b h => by omega⟩ (StLe.refl _) rfl (fun i hi => ?_)
    refine W.seq ?_
    refine AW.seqR ?_
    refine R.move ?_
    refine R.fieldAddrRo (off := 5) Tryz.underlying69 Tryz.sizeOf67 ?_
    refine R.loadRo Tryz.isAgg67 ?_
    refine R.len Tryz.underlying67 ?_
    refine R.lss ?_
    refine R.fin [2, 3, 5, 38] ?_
    refine W.cond (fun ht38 => ?_) (fun ht38 => ?_)
    · skip
      have hlt : i < x.kids.length := by simpa using ht38
      have hly : i < y.kids.length := by omega
      refine AW.skip ?_
      refine K.thN ?_
      refine W.seq ?_
      refine AW.block ?_
      refine W.draw [0, 1, 0, 7, 15, 0, 32, 0, 224, 480, 1023, 2047] 10 Tryzmixed (by kernel_rfl) ?_
      refine D.fieldAddrRo (off := 5) Tryz.underlying69 Tryz.sizeOf67 ?_
      refine D.loadRo Tryz.isAgg67 ?_
      refine D.move ?_
      refine D.indexAddr (i) (exprA x.kids[i]) Tryz.underlying67 Tryz.sizeOf69 (getMap hlt) ?_
      refine D.loadRoN Tryz.isAgg69 Tryz.sizeOf69 ?_
      refine D.fieldAddrRo (off := 5) Tryz.underlying69 Tryz.sizeOf67 ?_
      refine D.loadRo Tryz.isAgg67 ?_
      refine D.move ?_
      refine D.indexAddr (i) (exprA y.kids[i]) Tryz.underlying67 Tryz.sizeOf69 (getMap hly) ?_
      refine D.loadRoN Tryz.isAgg69 Tryz.sizeOf69 ?_
      refine D.tail ?_
      refine R.call Tryz.call53 (ih x.kids[i] (hok.2.2 _ (List.getElem_mem hlt)) y.kids[i] _) ?_
      refine R.not ?_
      refine R.fin [2, 3, 5, 52] ?_
      refine W.cond (fun ht52 => ?_) (fun ht52 => ?_)
      · skip
        have hf : eqE x y = false := by rw [eq_head, neq_at hlt hly (by simpa using ht52), Bool.and_false]
        refine AW.seqR ?_
        refine R.assign ?_
        refine R.fin [4] ?_
        refine AW.ret ?_
        refine K.blR ?_
        refine K.thR ?_
        refine K.lpR ?_
        refine K.thR ?_
        exact K.fin (V.one V.tmp) ⟨by rw [hf], rfl⟩
      · skip
        have he : eqE x.kids[i] y.kids[i] = true := by simpa using ht52
        refine AW.skip ?_
        refine K.blN ?_
        refine K.thN ?_
        refine AW.region ?_
        refine R.move ?_
        refine R.add64 ?_
        refine R.assign ?_
        refine R.fin [2, 3, 5] ?_
        exact K.lpN (i + 1) ⟨hlt, uptoE hlt hly hi.2 he⟩ (by omega) (StCut.of_eq rfl)
    · skip
      have hxe : x.kids.length ≤ i := by simpa using ht38
      refine AW.exit ?_
      refine K.thE ?_
      refine K.lpE ?_
      refine K.thN ?_
      refine AW.seqR ?_
      refine R.assign ?_
      refine R.fin [4] ?_
      refine AW.ret ?_
      exact K.fin (V.one V.tmp) ⟨by rw [eq_head, hh, eqL_upto hlen (fun j a b hj => hi.2 j a b (by omega))]; rfl, rfl⟩

theorem c95 (n : Nat) (a b : List Expr) (ha : a.length ≤ 1048576) (hok : ∀ y ∈ a, okE n y) (ih : ∀ (x : Expr), okE n x → ∀ (y : Expr) (Hp : List AObj), AFun Tryz.prog 55 [exprA x, exprA y] Hp (boolA (eqE x y))) (Hp : List AObj) : AFun Tryz.prog 95 [.slice false 6 (a.map exprA), .slice false 6 (b.map exprA), .fn (.func 55) [] []] Hp (boolA (eqL a b)) := by
  refine ACall.body [.tmp 6] [0, 1, 2] Tryz.func95 Tryz.ntmps95 (fun d => ?_)
  refine AW.seqR ?_
  refine R.assign ?_
  refine R.fin [0, 1, 2] ?_
  refine W.seq ?_
  refine AW.seqR ?_
  refine R.move ?_
  refine R.len Tryz.underlying67 ?_
  refine R.move ?_
  refine R.len Tryz.underlying67 ?_
  refine R.neq ?_
  refine R.fin [0, 1, 2, 14] ?_
  refine W.cond (fun ht14 => ?_) (fun ht14 => ?_)
  · skip
    have hf : eqL a b = false := neq_len (by have := ht14; simp at this; omega)
    refine AW.seqR ?_
    refine R.assign ?_
    refine R.fin [6] ?_
    refine AW.ret ?_
    refine K.thR ?_
    exact K.fin (V.one V.tmp) ⟨by rw [hf], rfl⟩
  · skip
    have hlen : a.length = b.length := by have := ht14; simp at this; omega
    refine AW.skip ?_
    refine K.thN ?_
    refine W.seq ?_
    refine AW.seqR ?_
    refine R.move ?_
    refine R.len Tryz.underlying67 ?_
    refine R.move ?_
    refine R.fin [1, 2, 15, 16, 17] ?_
    refine AW.loopC (α := Nat) (fun i => ⟨32, setF 1 (.slice false 6 (b.map exprA)) (setF 2 (.fn (.func 55) [] []) (setF 15 (.slice false 6 (a.map exprA)) (setF 16 (intA (a.length : Nat)) (setF 17 (intA (i : Nat)) (fun _ => .any))))), Hp, [], [], none⟩) (fun i => i ≤ a.length ∧ ∀ (j : Nat) (y z : Expr), j < i → a[j]? = some y → b[j]? = some z → eqE y z = true) (fun i => a.length - i) (0) ⟨Nat.zero_le _, fun j y z h => by omega⟩ (StLe.of_eq (by simp)) rfl (fun i hi => ?_)
    refine AW.seqR ?_
    refine R.lss ?_
    refine R.fin [1, 2, 15, 16, 17, 18] ?_
    refine W.condX (fun ht18 => ?_) (fun ht18 => ?_)
    · skip
      have hlt : i < a.length := by simpa using ht18
      have hlb : i < b.length := by omega
      refine W.seq ?_
      refine AW.block ?_
      refine AW.seqR ?_
      refine R.move ?_
      refine R.indexAddr (i) (exprA a[i]) Tryz.underlying67 Tryz.sizeOf69 (getMap hlt) ?_
      refine R.loadRoN Tryz.isAgg69 Tryz.sizeOf69 ?_
      refine R.alloc Tryz.zeroValue69 ?_
      refine R.assign ?_
      refine R.storeOwn Tryz.sizeOf69 ?_
      refine R.fin [1, 2, 7, 8, 15, 16, 17] ?_
      refine AW.seqR ?_
      refine R.move ?_
      refine R.move ?_
      refine R.indexAddr (i) (exprA b[i]) Tryz.underlying67 Tryz.sizeOf69 (getMap hlb) ?_
      refine R.loadRoN Tryz.isAgg69 Tryz.sizeOf69 ?_
      refine R.alloc Tryz.zeroValue69 ?_
      refine R.storeOwn Tryz.sizeOf69 ?_
      refine R.fin [1, 2, 8, 9, 15, 16, 17] ?_
      refine AW.seqR ?_
      refine R.move ?_
      refine R.loadOwnN Tryz.isAgg69 Tryz.sizeOf69 ?_
      refine R.loadOwnN Tryz.isAgg69 Tryz.sizeOf69 ?_
      refine R.callV Tryz.call55 (ih a[i] (hok _ (List.getElem_mem hlt)) b[i] _) ?_
      refine R.not ?_
      refine R.fin [1, 2, 15, 16, 17, 30] ?_
      refine W.cond (fun ht30 => ?_) (fun ht30 => ?_)
      · skip
        have hf : eqL a b = false := neq_at hlt hlb (by simpa using ht30)
        refine AW.seqR ?_
        refine R.assign ?_
        refine R.fin [6] ?_
        refine AW.ret ?_
        refine K.blR ?_
        refine K.thR ?_
        refine K.lpR ?_
        refine K.thR ?_
        exact K.fin (V.one V.tmp) ⟨by rw [hf], rfl⟩
      · skip
        have he : eqE a[i] b[i] = true := by simpa using ht30
        refine AW.skip ?_
        refine K.blN ?_
        refine K.thN ?_
        refine AW.region ?_
        refine R.add64 ?_
        refine R.move ?_
        refine R.fin [1, 2, 15, 16, 17] ?_
        refine K.lpN (i + 1) ⟨hlt, uptoE hlt hlb hi.2 he⟩ (by omega) ?_
        exact StCut.take (own := []) (fun _ => .refl _) (by repeat (first | exact lowF_any | refine lowF_set (by first | exact low_exprs | (simp; done)) ?_)) (by simp) (by simp)
    · skip
      have hxe : a.length ≤ i := by simpa using ht18
      refine K.lpE ?_
      refine K.thN ?_
      refine AW.seqR ?_
      refine R.assign ?_
      refine R.fin [6] ?_
      refine AW.ret ?_
      exact K.fin (V.one V.tmp) ⟨by rw [eqL_upto hlen (fun j y z hj => hi.2 j y z (by omega))], rfl⟩

theorem c55 : ∀ (n : Nat) (x : Expr), okE n x → ∀ (y : Expr) (Hp : List AObj), AFun Tryz.prog 55 [exprA x, exprA y] Hp (boolA (eqE x y)) := by
  intro n
  induction n with
  | zero => exact fun x h => h.elim
  | succ n ih =>
  intro x hok y Hp
  refine ACall.body [.tmp 4] [0, 1] Tryz.func55 Tryz.ntmps55 (fun d => ?_)
  refine AW.seqR ?_
  refine R.boxRo ?_
  refine R.boxRo ?_
  refine R.assign ?_
  refine R.fin [2, 3] ?_
  refine AW.seqR ?_
  refine R.fieldAddrRo (off := 0) Tryz.underlying69 Tryz.sizeOf3 ?_
  refine R.loadRo Tryz.isAgg3 ?_
  refine R.fieldAddrRo (off := 0) Tryz.underlying69 Tryz.sizeOf3 ?_
  refine R.loadRo Tryz.isAgg3 ?_
  refine R.eql ?_
  refine R.move ?_
  refine G.fieldAddrRo (off := 1) Tryz.underlying69 Tryz.sizeOf9 ?_
  refine G.loadRo Tryz.isAgg9 ?_
  refine G.fieldAddrRo (off := 1) Tryz.underlying69 Tryz.sizeOf9 ?_
  refine G.loadRo Tryz.isAgg9 ?_
  refine G.seql ?_
  refine R.pickAnd ?_
  refine R.move ?_
  refine G.fieldAddrRo (off := 2) Tryz.underlying69 Tryz.sizeOf36 ?_
  refine G.loadRoN Tryz.isAgg36 Tryz.sizeOf36 ?_
  refine G.fieldAddrRo (off := 2) Tryz.underlying69 Tryz.sizeOf36 ?_
  refine G.loadRoN Tryz.isAgg36 Tryz.sizeOf36 ?_
  refine G.eqlAgg eg36 (fun w => equal36 x.val.kind x.val.n y.val.kind y.val.n x.val.s y.val.s w) ?_
  refine R.pickAnd ?_
  refine R.move ?_
  refine G.fieldAddrRo (off := 5) Tryz.underlying69 Tryz.sizeOf67 ?_
  refine G.loadRo Tryz.isAgg67 ?_
  refine G.fieldAddrRo (off := 5) Tryz.underlying69 Tryz.sizeOf67 ?_
  refine G.loadRo Tryz.isAgg67 ?_
  refine G.call Tryz.call95 (fun hB => c95 n x.kids y.kids hok.2.1 hok.2.2 ih _) ?_
  refine R.pickAnd ?_
  refine R.assign ?_
  refine R.fin [4] ?_
  refine AW.ret ?_
  exact K.fin (V.one V.tmp) ⟨by rw [eqE_eq], rfl⟩

theorem c56 (l : List Str) (s : Str) (hl : l.length ≤ 1048576) (Hp : List AObj) : AFun Tryz.prog 56 [strsA l, strA s] Hp (boolA (l.contains s)) := by
  refine ACall.body [.tmp 4] [0, 1] Tryz.func56 Tryz.ntmps56 (fun d => ?_)
  refine AW.seqR ?_
  refine R.assign ?_
  refine R.fin [0, 1] ?_
  refine W.seq ?_
  refine AW.seqR ?_
  refine R.assign ?_
  refine R.fin [0, 1, 5] ?_
  refine AW.loopC (α := Nat) (fun x => ⟨18, setF 0 (strsA l) (setF 1 (strA s) (setF 5 (intA (x : Nat)) (fun _ => .any))), Hp, [], [], none⟩) (fun x => x ≤ l.length ∧ ∀ (j : Nat) (w : Str), j < x → l[j]? = some w → (w == s) = false) (fun x => l.length - x) (0) ⟨Nat.zero_le _, fun j w h => by omega⟩ (StLe.refl _) rfl (fun x hx => ?_)
  refine W.seq ?_
  refine AW.seqR ?_
  refine R.move ?_
  refine R.move ?_
  refine R.len Tryz.underlying50 ?_
  refine R.lss ?_
  refine R.fin [0, 1, 5, 9] ?_
  refine W.cond (fun ht9 => ?_) (fun ht9 => ?_)
  · skip
    have hlt : x < l.length := by simpa using ht9
    refine AW.skip ?_
    refine K.thN ?_
    refine W.seq ?_
    refine AW.block ?_
    refine AW.seqR ?_
    refine R.move ?_
    refine R.move ?_
    refine R.indexAddr (x) (strA l[x]) Tryz.underlying50 Tryz.sizeOf9 (getMap hlt) ?_
    refine R.loadRo Tryz.isAgg9 ?_
    refine R.move ?_
    refine R.seql ?_
    refine R.fin [0, 1, 5, 17] ?_
    refine W.cond (fun ht17 => ?_) (fun ht17 => ?_)
    · skip
      refine AW.seqR ?_
      refine R.assign ?_
      refine R.fin [4] ?_
      refine AW.ret ?_
      refine K.blR ?_
      refine K.thR ?_
      refine K.lpR ?_
      refine K.thR ?_
      exact K.fin (V.one V.tmp) ⟨by rw [show l.contains s = true from by rw [List.contains_iff_mem]; rw [beq_iff_eq] at ht17; rw [← ht17]; exact List.getElem_mem hlt], rfl⟩
    · skip
      refine AW.skip ?_
      refine K.blN ?_
      refine K.thN ?_
      refine AW.region ?_
      refine R.move ?_
      refine R.add64 ?_
      refine R.assign ?_
      refine R.fin [0, 1, 5] ?_
      exact K.lpN (x + 1) ⟨hlt, upto_succ hlt hx.2 ht17⟩ (by omega) (StCut.of_eq rfl)
  · skip
    have hxe : l.length ≤ x := by simpa using ht9
    refine AW.exit ?_
    refine K.thE ?_
    refine K.lpE ?_
    refine K.thN ?_
    refine AW.seqR ?_
    refine R.assign ?_
    refine R.fin [4] ?_
    refine AW.ret ?_
    exact K.fin (V.one V.tmp) ⟨by rw [contains_upto fun j w hj hw => hx.2 j w (by omega) hw], rfl⟩

end Go.SX.Nb
namespace Go.SX.Nb
open Go Go.SX Go.Proofs
variable [ErrAt]
set_option maxRecDepth 4000
theorem put_in {s : Str} {y x : Expr} (h : ((x.op == 2) && (x.text == s)) = true) : putE s y x = y := by rw [putE_eq, if_pos h]
theorem put_out {s : Str} {y x : Expr} (h : ((x.op == 2) && (x.text == s)) = false) : putE s y x = .mk x.op x.text x.val (x.kids.map (putE s y)) := by rw [putE_eq, if_neg (by rw [h]; simp)]
theorem mk_agg (o : Int) (t : Str) (v : Val) (k : List Expr) : exprA (.mk o t v k) = .agg [intA o, .v (sv t), intA v.kind, intA v.n, .v (sv v.s), .slice false 6 (k.map exprA)] := by rw [exprA_eq]; rfl
theorem take_map {α β : Type} {f : α → β} {l : List α} {x : Nat} (h : x < l.length) : (l.take (x + 1)).map f = (l.take x).map f ++ [f l[x]] := by rw [List.take_succ_eq_append_getElem h, List.map_append]; rfl
theorem low_kids {n : Nat} {x : Expr} {o : Bool} {l : List Expr} : ObjLow n (.cells 69 [intA x.op, .v (sv x.text), intA x.val.kind, intA x.val.n, .v (sv x.val.s), .slice o 6 (l.map exprA)]) := by
  show ∀ z ∈ [intA x.op, AV.v (sv x.text), intA x.val.kind, intA x.val.n, AV.v (sv x.val.s), AV.slice o 6 (l.map exprA)], Low n z
  intro z hz
  simp only [List.mem_cons, List.not_mem_nil, or_false] at hz
  rcases hz with rfl | rfl | rfl | rfl | rfl | rfl
  all_goals first | exact low_exprs | simp
theorem mem2 {α : Type} {P : α → Prop} {a b : α} (h1 : P a) (h2 : P b) : ∀ x ∈ [a, b], P x := by
  intro x hx
  simp only [List.mem_cons, List.not_mem_nil, or_false] at hx
  rcases hx with rfl | rfl
  · exact h1
  · exact h2
theorem c52 (s : Str) (y : Expr) : ∀ (n : Nat) (x : Expr), okE n x → ∀ Hp : List AObj, AFun Tryz.prog 52 [exprA x, strA s, exprA y] Hp (exprA (putE s y x)) := by
  intro n
  induction n with
  | zero => exact fun x h => h.elim
  | succ n ih =>
  intro x hok Hp
  refine ACall.body [.cell 6 69] [0, 1, 2] Tryz.func52 Tryz.ntmps52 (fun d => ?_)
  refine AW.seqR ?_
  refine R.box ?_
  refine R.boxRo ?_
  refine R.alloc Tryz.zeroValue69 ?_
  refine R.fin [1, 3, 5, 6] ?_
  refine W.seq ?_
  refine AW.seqR ?_
  refine R.fieldAddrPtr (fo := 0) Tryz.underlying69 Tryz.sizeOf3 ?_
  refine R.loadOwn Tryz.isAgg3 ?_
  refine R.eql ?_
  refine R.move ?_
  refine G.fieldAddrPtr (fo := 1) Tryz.underlying69 Tryz.sizeOf9 ?_
  refine G.loadOwn Tryz.isAgg9 ?_
  refine G.move ?_
  refine G.seql ?_
  refine R.pickAnd ?_
  refine R.fin [1, 3, 5, 6, 18] ?_
  refine W.cond (fun ht18 => ?_) (fun ht18 => ?_)
  · skip
    refine AW.seqR ?_
    refine R.loadRoN Tryz.isAgg69 Tryz.sizeOf69 ?_
    refine R.storeOwn Tryz.sizeOf69 ?_
    refine R.fin [6] ?_
    refine AW.ret ?_
    refine K.thR ?_
    exact K.fin (V.one (V.cellN Tryz.isAgg69 Tryz.sizeOf69)) ⟨by rw [put_in ht18, exprA_eq], rfl⟩ (hlow := low_agg _)
  · skip
    refine AW.skip ?_
    refine K.thN ?_
    refine AW.seqR ?_
    refine R.fieldAddrPtr (fo := 5) Tryz.underlying69 Tryz.sizeOf67 ?_
    refine R.loadOwn Tryz.isAgg67 ?_
    refine R.assign ?_
    refine R.fin [1, 3, 5, 6, 7] ?_
    refine AW.seqR ?_
    refine R.fieldAddrPtr (fo := 5) Tryz.underlying69 Tryz.sizeOf67 ?_
    refine R.storeOwn Tryz.sizeOf67 ?_
    refine R.fin [1, 3, 5, 6, 7] ?_
    refine W.seq ?_
    refine AW.seqR ?_
    refine R.nilCell 0 5 6 ?_
    refine R.move ?_
    refine R.len Tryz.underlying67 ?_
    refine R.move ?_
    refine R.fin [1, 3, 5, 6, 23, 24, 25] ?_
    refine AW.loopC (α := Nat) (fun i => ⟨40, setF 1 (strA s) (setF 3 (.ptr (oid Hp.length 0) 0) (setF 5 (.ro (exprC y)) (setF 6 (.ptr (oid Hp.length 1) 0) (setF 23 (.slice false 6 (x.kids.map exprA)) (setF 24 (intA (x.kids.length : Nat)) (setF 25 (intA (i : Nat)) (fun _ => .any))))))), Hp, [.cells 69 [intA x.op, .v (sv x.text), intA x.val.kind, intA x.val.n, .v (sv x.val.s), .slice true 6 (((x.kids.take i).map (putE s y)).map exprA)], .cells 69 [intA 0, strA [], intA 0, intA 0, strA [], .nil]], [], none⟩) (fun i => i ≤ x.kids.length) (fun i => x.kids.length - i) (0) (Nat.zero_le _) (StLe.of_eq (by simp)) rfl (fun i hi => ?_)
    refine AW.seqR ?_
    refine R.lss ?_
    refine R.fin [1, 3, 5, 6, 23, 24, 25, 26] ?_
    refine W.condX (fun ht26 => ?_) (fun ht26 => ?_)
    · skip
      have hlt : i < x.kids.length := by simpa using ht26
      have hkl := hok.2.1
      refine W.seq ?_
      refine AW.block ?_
      refine AW.seqR ?_
      refine R.indexAddr (i) (exprA x.kids[i]) Tryz.underlying67 Tryz.sizeOf69 (getMap hlt) ?_
      refine R.loadRoN Tryz.isAgg69 Tryz.sizeOf69 ?_
      refine R.alloc Tryz.zeroValue69 ?_
      refine R.storeOwn Tryz.sizeOf69 ?_
      refine R.fin [1, 3, 5, 6, 9, 23, 24, 25] ?_
      refine W.drawY0 [0, 1, 0, 0, 0, 28, 60, 127, 255, 511] [1] [.q 1 [] [0], .s [30] (some 0) [] [], .q 5 [] []] (fun _ => Hp) (fun B => [.cells 69 (if B 0 = true then [intA x.op, .v (sv x.text), intA x.val.kind, intA x.val.n, .v (sv x.val.s), .slice false 6 (((x.kids.take i).map (putE s y)).map exprA)] else [intA x.op, .v (sv x.text), intA x.val.kind, intA x.val.n, .v (sv x.val.s), .slice true 6 (((x.kids.take i).map (putE s y)).map exprA)]), .cells 69 [intA 0, strA [], intA 0, intA 0, strA [], .nil], .cells 69 (exprC x.kids[i])]) Tryzmixed (by kernel_rfl) rfl rfl (fun _ => rfl) ?_
      apply Y.q
      case h1 =>
        intro B hT hF
        refine D.fieldAddrPtr (fo := 5) Tryz.underlying69 Tryz.sizeOf67 ?_
        exact D.end rfl rfl
      case hTF => decide
      refine Y.loadOwnT (u := Hp.length) (n := 0) (t' := 69) (cs := [intA x.op, .v (sv x.text), intA x.val.kind, intA x.val.n, .v (sv x.val.s), .slice true 6 (((x.kids.take i).map (putE s y)).map exprA)]) (cs' := [intA x.op, .v (sv x.text), intA x.val.kind, intA x.val.n, .v (sv x.val.s), .slice false 6 (((x.kids.take i).map (putE s y)).map exprA)]) Tryz.isAgg67 (fun B hB => ⟨rfl, by simp only [hB]; rfl, by simp [upd], rfl⟩) ?_
      apply Y.q
      case h1 =>
        intro B hT hF
        refine D.loadOwnN Tryz.isAgg69 Tryz.sizeOf69 ?_
        refine D.move ?_
        refine D.loadRoN Tryz.isAgg69 Tryz.sizeOf69 ?_
        refine D.call Tryz.call52 (ih x.kids[i] (hok.2.2 _ (List.getElem_mem hlt)) _) ?_
        refine D.buildSlice Tryz.underlying67 Tryz.sizeOf69 Tryz.zeroValue69 ?_
        exact D.end rfl rfl
      case hTF => decide
      refine Y.tail (tn := [1]) (O := [.cells 69 [intA x.op, .v (sv x.text), intA x.val.kind, intA x.val.n, .v (sv x.val.s), .slice false 6 (((x.kids.take i).map (putE s y)).map exprA)], .cells 69 [intA 0, strA [], intA 0, intA 0, strA [], .nil], .cells 69 (exprC x.kids[i])]) ?_
      refine R.append Tryz.underlying67 Tryz.type69 ?_ ?_ ?_
      · simp only [List.length_map, List.length_take, List.length_cons, List.length_nil, Tryz.t69]; omega
      · simp only [List.length_map, List.length_take, List.length_cons, List.length_nil, Tryz.t69]; omega
      refine R.fieldAddrPtr (fo := 5) Tryz.underlying69 Tryz.sizeOf67 ?_
      refine R.storeOwnT Tryz.sizeOf67 ?_
      refine R.fin [1, 3, 5, 6, 23, 24, 25] ?_
      refine K.blN ?_
      refine K.thN ?_
      refine AW.region ?_
      refine R.add64 ?_
      refine R.move ?_
      refine R.fin [1, 3, 5, 6, 23, 24, 25] ?_
      refine K.lpN (i + 1) hlt (by omega) ?_
      have hlo := fun m => low_kids (n := m) (x := x) (o := true) (l := (x.kids.take i).map (putE s y) ++ [putE s y x.kids[i]])
      simp only [List.map_append, List.map_cons, List.map_nil, exprA_eq] at hlo
      simp only [show Tryz.t69.size = 6 from rfl]
      rw [take_map hlt, List.map_append, List.map_cons, List.map_nil, exprA_eq]
      exact StCut.take (fun _ => .refl _) (by repeat (first | exact lowF_any | refine lowF_set (by first | exact low_exprs | (simp [oid, exprA_low]; done) | (simp [oid] <;> omega)) ?_)) (mem2 (hlo _) low_z69) (by simp)
    · skip
      have hxe : x.kids.length ≤ i := by simpa using ht26
      refine K.lpE ?_
      refine K.thN ?_
      refine AW.seqR ?_
      refine R.loadOwnN Tryz.isAgg69 Tryz.sizeOf69 ?_
      refine R.storeOwn Tryz.sizeOf69 ?_
      refine R.fin [6] ?_
      refine AW.ret ?_
      exact K.fin (V.one (V.cellN Tryz.isAgg69 Tryz.sizeOf69)) ⟨by rw [put_out ht18, mk_agg, List.take_of_length_le hxe], rfl⟩ (hlow := by have := exprA_low Hp.length (putE s y x); rw [put_out ht18, mk_agg] at this; rw [List.take_of_length_le hxe]; exact this)

theorem c54 (s : Str) (y : Expr) : ∀ (n : Nat) (x : Expr), okE n x → ∀ Hp : List AObj, AFun Tryz.prog 54 [exprA x, strA s, exprA y] Hp (exprA (putE s y x)) := by
  intro n
  induction n with
  | zero => exact fun x h => h.elim
  | succ n ih =>
  intro x hok Hp
  refine ACall.body [.cell 6 69] [0, 1, 2] Tryz.func54 Tryz.ntmps54 (fun d => ?_)
  refine AW.seqR ?_
  refine R.boxRo ?_
  refine R.boxRo ?_
  refine R.alloc Tryz.zeroValue69 ?_
  refine R.fin [1, 3, 5, 6] ?_
  refine W.seq ?_
  refine AW.seqR ?_
  refine R.fieldAddrRo (off := 0) Tryz.underlying69 Tryz.sizeOf3 ?_
  refine R.loadRo Tryz.isAgg3 ?_
  refine R.eql ?_
  refine R.move ?_
  refine G.fieldAddrRo (off := 1) Tryz.underlying69 Tryz.sizeOf9 ?_
  refine G.loadRo Tryz.isAgg9 ?_
  refine G.move ?_
  refine G.seql ?_
  refine R.pickAnd ?_
  refine R.fin [1, 3, 5, 6, 17] ?_
  refine W.cond (fun ht17 => ?_) (fun ht17 => ?_)
  · skip
    refine AW.seqR ?_
    refine R.loadRoN Tryz.isAgg69 Tryz.sizeOf69 ?_
    refine R.storeOwn Tryz.sizeOf69 ?_
    refine R.fin [6] ?_
    refine AW.ret ?_
    refine K.thR ?_
    exact K.fin (V.one (V.cellN Tryz.isAgg69 Tryz.sizeOf69)) ⟨by rw [put_in ht17, exprA_eq], rfl⟩ (hlow := low_agg _)
  · skip
    refine AW.skip ?_
    refine K.thN ?_
    refine AW.seqR ?_
    refine R.fieldAddrRo (off := 0) Tryz.underlying69 Tryz.sizeOf3 ?_
    refine R.loadRo Tryz.isAgg3 ?_
    refine R.fieldAddrRo (off := 1) Tryz.underlying69 Tryz.sizeOf9 ?_
    refine R.loadRo Tryz.isAgg9 ?_
    refine R.fieldAddrRo (off := 2) Tryz.underlying69 Tryz.sizeOf36 ?_
    refine R.loadRoN Tryz.isAgg36 Tryz.sizeOf36 ?_
    refine R.build (places := #[(0, 1), (1, 1), (2, 3), (5, 1)]) Tryz.underlying69 (fun w => by simp) Tryz.zeroValue69 ?_
    refine R.alloc Tryz.zeroValue69 ?_
    refine R.storeOwn Tryz.sizeOf69 ?_
    refine R.fin [1, 3, 5, 6, 7] ?_
    refine W.seq ?_
    refine AW.seqR ?_
    refine R.nilCell 1 5 6 ?_
    refine R.assign ?_
    refine R.fin [1, 3, 5, 6, 7, 8] ?_
    refine AW.loopC (α := Nat) (fun i => ⟨47, setF 1 (strA s) (setF 3 (.ro (exprC x)) (setF 5 (.ro (exprC y)) (setF 6 (.ptr (oid Hp.length 0) 0) (setF 7 (.ptr (oid Hp.length 1) 0) (setF 8 (intA (i : Nat)) (fun _ => .any)))))), Hp, [.cells 69 [intA 0, strA [], intA 0, intA 0, strA [], .nil], .cells 69 [intA x.op, .v (sv x.text), intA x.val.kind, intA x.val.n, .v (sv x.val.s), .slice true 6 (((x.kids.take i).map (putE s y)).map exprA)]], [], none⟩) (fun i => i ≤ x.kids.length) (fun i => x.kids.length - i) (0) (Nat.zero_le _) (StLe.of_eq (by simp)) rfl (fun i hi => ?_)
    refine W.seq ?_
    refine AW.seqR ?_
    refine R.move ?_
    refine R.fieldAddrRo (off := 5) Tryz.underlying69 Tryz.sizeOf67 ?_
    refine R.loadRo Tryz.isAgg67 ?_
    refine R.len Tryz.underlying67 ?_
    refine R.lss ?_
    refine R.fin [1, 3, 5, 6, 7, 8, 30] ?_
    refine W.cond (fun ht30 => ?_) (fun ht30 => ?_)
    · skip
      have hlt : i < x.kids.length := by simpa using ht30
      have hkl := hok.2.1
      refine AW.skip ?_
      refine K.thN ?_
      refine W.seq ?_
      refine AW.block ?_
      refine W.drawY0 [0, 1, 0, 4, 0, 28, 60, 0, 0, 508, 1020, 2047, 4095, 8191] [1] [.q 1 [] [0], .s [34] (some 0) [] [], .q 9 [] []] (fun _ => Hp) (fun B => [.cells 69 [intA 0, strA [], intA 0, intA 0, strA [], .nil], .cells 69 (if B 0 = true then [intA x.op, .v (sv x.text), intA x.val.kind, intA x.val.n, .v (sv x.val.s), .slice false 6 (((x.kids.take i).map (putE s y)).map exprA)] else [intA x.op, .v (sv x.text), intA x.val.kind, intA x.val.n, .v (sv x.val.s), .slice true 6 (((x.kids.take i).map (putE s y)).map exprA)])]) Tryzmixed (by kernel_rfl) rfl rfl (fun _ => rfl) ?_
      apply Y.q
      case h1 =>
        intro B hT hF
        refine D.fieldAddrPtr (fo := 5) Tryz.underlying69 Tryz.sizeOf67 ?_
        exact D.end rfl rfl
      case hTF => decide
      refine Y.loadOwnT (u := Hp.length) (n := 1) (t' := 69) (cs := [intA x.op, .v (sv x.text), intA x.val.kind, intA x.val.n, .v (sv x.val.s), .slice true 6 (((x.kids.take i).map (putE s y)).map exprA)]) (cs' := [intA x.op, .v (sv x.text), intA x.val.kind, intA x.val.n, .v (sv x.val.s), .slice false 6 (((x.kids.take i).map (putE s y)).map exprA)]) Tryz.isAgg67 (fun B hB => ⟨rfl, by simp only [hB]; rfl, by simp [upd], rfl⟩) ?_
      apply Y.q
      case h1 =>
        intro B hT hF
        refine D.fieldAddrRo (off := 5) Tryz.underlying69 Tryz.sizeOf67 ?_
        refine D.loadRo Tryz.isAgg67 ?_
        refine D.move ?_
        refine D.indexAddr (i) (exprA x.kids[i]) Tryz.underlying67 Tryz.sizeOf69 (getMap hlt) ?_
        refine D.loadRoN Tryz.isAgg69 Tryz.sizeOf69 ?_
        refine D.move ?_
        refine D.loadRoN Tryz.isAgg69 Tryz.sizeOf69 ?_
        refine D.call Tryz.call54 (ih x.kids[i] (hok.2.2 _ (List.getElem_mem hlt)) _) ?_
        refine D.buildSlice Tryz.underlying67 Tryz.sizeOf69 Tryz.zeroValue69 ?_
        exact D.end rfl rfl
      case hTF => decide
      refine Y.tail (tn := [1]) (O := [.cells 69 [intA 0, strA [], intA 0, intA 0, strA [], .nil], .cells 69 [intA x.op, .v (sv x.text), intA x.val.kind, intA x.val.n, .v (sv x.val.s), .slice false 6 (((x.kids.take i).map (putE s y)).map exprA)]]) ?_
      refine R.append Tryz.underlying67 Tryz.type69 ?_ ?_ ?_
      · simp only [List.length_map, List.length_take, List.length_cons, List.length_nil, Tryz.t69]; omega
      · simp only [List.length_map, List.length_take, List.length_cons, List.length_nil, Tryz.t69]; omega
      refine R.fieldAddrPtr (fo := 5) Tryz.underlying69 Tryz.sizeOf67 ?_
      refine R.storeOwnT Tryz.sizeOf67 ?_
      refine R.fin [1, 3, 5, 6, 7, 8] ?_
      refine K.blN ?_
      refine K.thN ?_
      refine AW.region ?_
      refine R.move ?_
      refine R.add64 ?_
      refine R.assign ?_
      refine R.fin [1, 3, 5, 6, 7, 8] ?_
      refine K.lpN (i + 1) hlt (by omega) (StCut.of_eq ?_)
      rw [take_map hlt, List.map_append, List.map_cons, List.map_nil, exprA_eq]
      rfl
    · skip
      have hxe : x.kids.length ≤ i := by simpa using ht30
      refine AW.exit ?_
      refine K.thE ?_
      refine K.lpE ?_
      refine K.thN ?_
      refine AW.seqR ?_
      refine R.loadOwnN Tryz.isAgg69 Tryz.sizeOf69 ?_
      refine R.storeOwn Tryz.sizeOf69 ?_
      refine R.fin [6] ?_
      refine AW.ret ?_
      exact K.fin (V.one (V.cellN Tryz.isAgg69 Tryz.sizeOf69)) ⟨by rw [put_out ht17, mk_agg, List.take_of_length_le hxe], rfl⟩ (hlow := by have := exprA_low Hp.length (putE s y x); rw [put_out ht17, mk_agg] at this; rw [List.take_of_length_le hxe]; exact this)

end Go.SX.Nb
namespace Go.SX.Nb
open Go Go.SX Go.Proofs
variable [ErrAt]
set_option maxRecDepth 4000
theorem c9 (x : Expr) (nm : Str) (Hp : List AObj) : AFun Tryz.prog 9 [exprA x, strA nm] Hp (boolA true) := by
  refine ACall.body [.tmp 4] [0, 1] Tryz.func9 Tryz.ntmps9 (fun d => ?_)
  refine AW.seqR ?_
  refine R.boxRo ?_
  refine R.assign ?_
  refine R.fin [1, 2] ?_
  refine W.seq ?_
  refine AW.seqR ?_
  refine R.call Tryz.call39 (c39 _) ?_
  refine R.not ?_
  refine R.fin [1, 2, 6] ?_
  refine W.cond (fun ht6 => ?_) (fun ht6 => ?_)
  · skip
    cases ht6
  · skip
    refine AW.skip ?_
    refine K.thN ?_
    refine W.seq ?_
    refine AW.seqR ?_
    refine R.loadRoN Tryz.isAgg69 Tryz.sizeOf69 ?_
    refine R.call Tryz.call40 (c40 x _) ?_
    refine R.move ?_
    refine G.move ?_
    refine G.slen Tryz.underlying9 ?_
    refine G.gtr ?_
    refine R.pickOr ?_
    refine R.fin [1, 2, 13] ?_
    refine W.cond (fun ht13 => ?_) (fun ht13 => ?_)
    · skip
      refine AW.seqR ?_
      refine R.assign ?_
      refine R.fin [4] ?_
      refine AW.ret ?_
      refine K.thR ?_
      exact K.fin (V.one V.tmp)
    · skip
      have hw : wideM x = false := by simp only [Bool.or_eq_false_iff] at ht13; exact ht13.1
      have hs := slim_of hw
      have hz : sizeE x ≤ 1048576 := by have := hs.size; omega
      have hnl : (exprNamesM x).length ≤ 1048576 := by
        have h1 := fold_len (nodesE x) []
        rw [nodes_len] at h1
        show ((nodesE x).foldl addName []).length ≤ _
        have := hs.size
        simp only [List.length_nil] at h1
        omega
      refine AW.skip ?_
      refine K.thN ?_
      refine W.draw [0, 1, 0, 7, 15, 31, 63, 127, 63, 511, 1023, 2047, 4095, 8191, 16383, 8191, 65535, 131071, 262143, 524287, 1048575, 2097151, 1048575, 8388607, 16777215, 33554431, 67108863, 134217727, 268435455, 134217727, 1073741823, 2147483647, 4294967295, 8589934591] 30 Tryzmixed (by kernel_rfl) ?_
      refine D.loadRoN Tryz.isAgg69 Tryz.sizeOf69 ?_
      refine D.call Tryz.call41 (c41 61 x hs.ok (by decide) _) ?_
      refine D.loadRoN Tryz.isAgg69 Tryz.sizeOf69 ?_
      refine D.call Tryz.call42 (c42 61 x hs.ok (by decide) hz _) ?_
      refine D.beql Tryz.underlying4 ?_
      refine D.move ?_
      refine H.loadRoN Tryz.isAgg69 Tryz.sizeOf69 ?_
      refine H.call Tryz.call43 (fun hB => c43 61 x hs.ok (by decide) hz _) ?_
      refine H.loadRoN Tryz.isAgg69 Tryz.sizeOf69 ?_
      refine H.call Tryz.call44 (fun hB => c44 61 x hs.ok (by decide) _) ?_
      refine H.eql ?_
      refine D.pickAnd ?_
      refine D.move ?_
      refine H.loadRoN Tryz.isAgg69 Tryz.sizeOf69 ?_
      refine H.call Tryz.call45 (fun hB => c45 61 x hs.ok (by decide) hz _) ?_
      refine H.loadRoN Tryz.isAgg69 Tryz.sizeOf69 ?_
      refine H.call Tryz.call46 (fun hB => c46 61 x hs.ok hz _) ?_
      refine H.eql ?_
      refine D.pickAnd ?_
      refine D.move ?_
      refine H.loadRoN Tryz.isAgg69 Tryz.sizeOf69 ?_
      refine H.call Tryz.call48 (fun hB => c48 61 x hs.ok (by decide) hz _) ?_
      refine H.loadRoN Tryz.isAgg69 Tryz.sizeOf69 ?_
      refine H.call Tryz.call49 (fun hB => c49 x hz _) ?_
      refine H.call Tryz.call47 (fun hB => c47 _ _ hnl _) ?_
      refine D.pickAnd ?_
      refine D.move ?_
      refine H.move ?_
      refine H.call Tryz.call50 (fun hB => c50 nm _) ?_
      refine H.move ?_
      refine D.tail ?_
      refine G.call Tryz.call51 (fun hB => c51 nm _) ?_
      refine G.eql ?_
      refine R.pickAnd ?_
      refine R.assign ?_
      refine R.fin [4] ?_
      refine AW.ret ?_
      exact K.fin (V.one V.tmp) ⟨by simp [exprRight_eq, arity_ref], rfl⟩

end Go.SX.Nb
namespace Go.SX.Nb
open Go Go.SX Go.Proofs
variable [ErrAt]
set_option maxRecDepth 4000
theorem put_ok {s : Str} {y : Expr} {m : Nat} (hy : okE m y) : ∀ (n : Nat) (x : Expr), okE n x → okE (n + m) (putE s y x)
  | 0, x, h => h.elim
  | n + 1, x, h => by
    cases hc : (x.op == 2) && (x.text == s) with
    | true => rw [put_in hc]; exact okE_le (by omega) hy
    | false =>
      rw [put_out hc, show n + 1 + m = (n + m) + 1 by omega]
      refine ⟨h.1, by show (x.kids.map (putE s y)).length ≤ _; rw [List.length_map]; exact h.2.1, fun z hz => ?_⟩
      have hz' : z ∈ x.kids.map (putE s y) := hz
      obtain ⟨k, hk, rfl⟩ := List.mem_map.1 hz'
      exact put_ok hy n k (h.2.2 k hk)
mutual
theorem put_size (s : Str) (y : Expr) (S : Nat) (h1 : 1 ≤ S) (hy : sizeE y ≤ S) : ∀ x : Expr, sizeE (putE s y x) ≤ sizeE x * S
  | .mk o t v k => by
    rw [putE]
    split
    · rw [sizeE]
      have : S ≤ (1 + sizeL k) * S := Nat.le_mul_of_pos_left _ (by omega)
      omega
    · rw [sizeE, sizeE, Nat.add_mul]
      have := putL_size s y S h1 hy k
      omega
theorem putL_size (s : Str) (y : Expr) (S : Nat) (h1 : 1 ≤ S) (hy : sizeE y ≤ S) : ∀ l : List Expr, sizeL (putL s y l) ≤ sizeL l * S
  | [] => by simp [putL, sizeL]
  | e :: r => by
    rw [putL, sizeL, sizeL, Nat.add_mul]
    have a := put_size s y S h1 hy e
    have b := putL_size s y S h1 hy r
    omega
 end
theorem names_len (e : Expr) : (exprNamesM e).length ≤ sizeE e := by
  have h1 := fold_len (nodesE e) []
  rw [nodes_len] at h1
  have h2 : (exprNamesM e).length = ((nodesE e).foldl addName []).length := rfl
  simp only [List.length_nil] at h1
  omega
theorem c10 (x y : Expr) (s : Str) (Hp : List AObj) : AFun Tryz.prog 10 [exprA x, exprA y, strA s] Hp (boolA true) := by
  refine ACall.body [.tmp 6] [0, 1, 2] Tryz.func10 Tryz.ntmps10 (fun d => ?_)
  refine AW.seqR ?_
  refine R.boxRo ?_
  refine R.boxRo ?_
  refine R.assign ?_
  refine R.fin [2, 3, 4] ?_
  refine W.seq ?_
  refine AW.seqR ?_
  refine R.call Tryz.call39 (c39 _) ?_
  refine R.not ?_
  refine R.fin [2, 3, 4, 11] ?_
  refine W.cond (fun ht11 => ?_) (fun ht11 => ?_)
  · skip
    cases ht11
  · skip
    refine AW.skip ?_
    refine K.thN ?_
    refine W.seq ?_
    refine AW.seqR ?_
    refine R.loadRoN Tryz.isAgg69 Tryz.sizeOf69 ?_
    refine R.call Tryz.call40 (c40 x _) ?_
    refine R.move ?_
    refine G.loadRoN Tryz.isAgg69 Tryz.sizeOf69 ?_
    refine G.call Tryz.call40 (fun hB => c40 y _) ?_
    refine R.pickOr ?_
    refine R.move ?_
    refine G.move ?_
    refine G.slen Tryz.underlying9 ?_
    refine G.gtr ?_
    refine R.pickOr ?_
    refine R.fin [2, 3, 4, 22] ?_
    refine W.cond (fun ht22 => ?_) (fun ht22 => ?_)
    · skip
      refine AW.seqR ?_
      refine R.assign ?_
      refine R.fin [6] ?_
      refine AW.ret ?_
      refine K.thR ?_
      exact K.fin (V.one V.tmp)
    · skip
      simp only [Bool.or_eq_false_iff] at ht22
      have hsx := slim_of ht22.1.1
      have hsy := slim_of ht22.1.2
      have hzx : sizeE x ≤ 1048576 := by have := hsx.size; omega
      have hzy : sizeE y ≤ 1048576 := by have := hsy.size; omega
      have hzo : okE 122 (putE s y x) := put_ok hsy.ok 61 x hsx.ok
      have hzz : sizeE (putE s y x) ≤ 1048576 := by
        have h1 := put_size s y 500 (by decide) hsy.size x
        have := hsx.size
        omega
      have hlaw := exprPuts_true x y s
      refine AW.skip ?_
      refine K.thN ?_
      refine AW.seqR ?_
      refine R.loadRoN Tryz.isAgg69 Tryz.sizeOf69 ?_
      refine R.move ?_
      refine R.loadRoN Tryz.isAgg69 Tryz.sizeOf69 ?_
      refine R.call Tryz.call52 (c52 s y 61 x hsx.ok _) ?_
      refine R.alloc Tryz.zeroValue69 ?_
      refine R.storeOwn Tryz.sizeOf69 ?_
      refine R.fin [2, 3, 4, 7] ?_
      refine W.seq ?_
      refine W.draw [0, 0, 0, 0, 14, 31, 63, 127, 255, 255, 1023, 255, 255, 8191, 16383, 32767, 65535, 131071, 131071, 524287, 1048575, 2097151] 19 Tryzmixed (by kernel_rfl) ?_
      refine D.loadOwnN Tryz.isAgg69 Tryz.sizeOf69 ?_
      refine D.loadRoN Tryz.isAgg69 Tryz.sizeOf69 ?_
      refine D.move ?_
      refine D.loadRoN Tryz.isAgg69 Tryz.sizeOf69 ?_
      refine D.call Tryz.call54 (c54 s y 61 x hsx.ok _) ?_
      refine D.call Tryz.call53 (c53 122 _ hzo _ _) ?_
      refine D.not ?_
      refine D.move ?_
      refine H.loadRoN Tryz.isAgg69 Tryz.sizeOf69 ?_
      refine H.loadRoN Tryz.isAgg69 Tryz.sizeOf69 ?_
      refine H.call Tryz.call55 (fun hB => c55 61 x hsx.ok y _) ?_
      refine H.loadRoN Tryz.isAgg69 Tryz.sizeOf69 ?_
      refine H.loadRoN Tryz.isAgg69 Tryz.sizeOf69 ?_
      refine H.call Tryz.call53 (fun hB => c53 61 x hsx.ok y _) ?_
      refine H.bneq Tryz.underlying4 ?_
      refine D.pickOr ?_
      refine D.move ?_
      refine H.loadRoN Tryz.isAgg69 Tryz.sizeOf69 ?_
      refine H.loadRoN Tryz.isAgg69 Tryz.sizeOf69 ?_
      refine D.tail ?_
      refine G.call Tryz.call55 (fun hB => c55 61 x hsx.ok x _) ?_
      refine G.not ?_
      refine R.pickOr ?_
      refine R.fin [2, 3, 4, 7, 48] ?_
      refine W.cond (fun ht48 => ?_) (fun ht48 => ?_)
      · skip
        simp [eqE_refl] at ht48
      · skip
        refine AW.skip ?_
        refine K.thN ?_
        refine W.draw [0, 1, 0, 7, 0, 31, 0, 127, 255, 511] 7 Tryzmixed (by kernel_rfl) ?_
        refine D.loadRoN Tryz.isAgg69 Tryz.sizeOf69 ?_
        refine D.call Tryz.call48 (c48 61 x hsx.ok (by decide) hzx _) ?_
        refine D.move ?_
        refine D.call Tryz.call56 (c56 (exprNamesM x) s (by have := names_len x; omega) _) ?_
        refine D.loadRoN Tryz.isAgg69 Tryz.sizeOf69 ?_
        refine D.call Tryz.call48 (c48 61 y hsy.ok (by decide) hzy _) ?_
        refine D.move ?_
        refine D.tail ?_
        refine R.call Tryz.call56 (c56 (exprNamesM y) s (by have := names_len y; omega) _) ?_
        refine R.assign ?_
        refine R.assign ?_
        refine R.fin [2, 3, 7, 8, 9] ?_
        refine W.seq ?_
        refine AW.seqR ?_
        refine R.move ?_
        refine R.move ?_
        refine G.move ?_
        refine R.pickAnd ?_
        refine R.fin [2, 3, 7, 8, 60] ?_
        refine W.cond (fun ht60 => ?_) (fun ht60 => ?_)
        · skip
          refine AW.seqR ?_
          refine R.loadOwnN Tryz.isAgg69 Tryz.sizeOf69 ?_
          refine R.call Tryz.call48 (c48 122 _ hzo (by decide) hzz _) ?_
          refine R.move ?_
          refine R.call Tryz.call56 (c56 (exprNamesM (putE s y x)) s (by have := names_len (putE s y x); omega) _) ?_
          refine R.assign ?_
          refine R.fin [6] ?_
          refine AW.ret ?_
          refine K.thR ?_
          exact K.fin (V.one V.tmp) ⟨by rw [if_pos ht60] at hlaw; rw [hlaw], rfl⟩
        · skip
          refine AW.skip ?_
          refine K.thN ?_
          refine AW.seqR ?_
          refine R.move ?_
          refine R.move ?_
          refine G.loadOwnN Tryz.isAgg69 Tryz.sizeOf69 ?_
          refine G.loadRoN Tryz.isAgg69 Tryz.sizeOf69 ?_
          refine G.call Tryz.call55 (fun hB => c55 122 _ hzo x _) ?_
          refine R.pickOr ?_
          refine R.assign ?_
          refine R.fin [6] ?_
          refine AW.ret ?_
          exact K.fin (V.one V.tmp) ⟨by rw [if_neg (by rw [ht60]; simp)] at hlaw; rw [hlaw], rfl⟩

end Go.SX.Nb
