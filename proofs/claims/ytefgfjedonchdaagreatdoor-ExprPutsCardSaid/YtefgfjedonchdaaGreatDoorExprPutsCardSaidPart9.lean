/- Texts on the way to this: ExprPuts answers true for whatever can be read: the card of the law. (part 9) -/
import Derived.Test.YtefgfjedonchdaaGreatDoorExprPutsCardSaidPart8
set_option linter.all false
namespace Go.SX.Nb
open Go Go.SX Go.Proofs
variable [ErrAt]
set_option maxRecDepth 4000
abbrev pr (l : List Tok) (S : PS) : AObj := .cells 190 [.slice false 3 (l.map tokA), intA (S.i : Int), intA (S.nest : Int), intA S.code, intA S.at_]
theorem low_pr {n : Nat} {l : List Tok} {S : PS} : ObjLow n (pr l S) := by
  show ∀ y ∈ [AV.slice false 3 (l.map tokA), intA (S.i : Int), intA (S.nest : Int), intA S.code, intA S.at_], Low n y
  intro y hy
  simp only [List.mem_cons, List.not_mem_nil, or_false] at hy
  rcases hy with rfl | rfl | rfl | rfl | rfl
  · simp [or_imp, forall_and]
  all_goals simp
theorem leafX_le (o : Int) (t : Str) (v : Val) : Le (.agg [intA o, strA t, intA v.kind, intA v.n, strA v.s, .nil]) (exprA (.mk o t v [])) := by
  rw [exprA_eq]
  refine .agg _ _ rfl (by simp [AV.one, Value.oneCell', sv]) fun i y y' h1 h2 => ?_
  match i with
  | 0 => simp at h1 h2; subst h1; subst h2; exact .inl rfl
  | 1 => simp at h1 h2; subst h1; subst h2; exact .inl rfl
  | 2 => simp at h1 h2; subst h1; subst h2; exact .inl rfl
  | 3 => simp at h1 h2; subst h1; subst h2; exact .inl rfl
  | 4 => simp at h1 h2; subst h1; subst h2; exact .inl rfl
  | 5 => simp at h1 h2; subst h1; subst h2; exact .inr ⟨rfl, 6, rfl⟩
  | i + 6 => simp at h1
theorem nullX_le : Le (.agg [intA 0, strA [], intA 0, intA 0, strA [], .nil]) (exprA nullX) := leafX_le 0 [] noV
theorem c225 (l : List Tok) (S : PS) (o : Nat) (Hp : List AObj) (ho : Hp[o]? = some (pr l S)) (hi : S.i < l.length) : AFun Tryz.prog 225 [.ptr o 0] Hp (tokA (tokAt l S.i)) := by
  refine ACall.body [.cell 2 31] [0] Tryz.func225 Tryz.ntmps225 (fun d => ?_)
  refine AW.seqR ?_
  refine R.alloc Tryz.zeroValue31 ?_
  refine R.fin [0, 2] ?_
  refine W.draw [0, 1, 3, 7, 0, 16, 48, 112, 255, 511, 1023] 8 Tryzmixed (by kernel_rfl) ?_
  refine D.move ?_
  refine D.nilPtr ?_
  refine D.fieldAddrPtr (fo := 0) Tryz.underlying190 Tryz.sizeOf24 ?_
  refine D.loadUp Tryz.isAgg24 ho ?_
  refine D.move ?_
  refine D.nilPtr ?_
  refine D.fieldAddrPtr (fo := 1) Tryz.underlying190 Tryz.sizeOf3 ?_
  refine D.loadUp Tryz.isAgg3 ho ?_
  refine D.tail ?_
  refine R.indexAddr (S.i) (tokA (tokAt l S.i)) Tryz.underlying24 Tryz.sizeOf31 (getTok hi) ?_
  refine R.loadRoN Tryz.isAgg31 Tryz.sizeOf31 ?_
  refine R.storeOwn Tryz.sizeOf31 ?_
  refine R.fin [2] ?_
  refine AW.ret ?_
  exact K.fin (V.one (V.cellN Tryz.isAgg31 Tryz.sizeOf31))

theorem c204 (l : List Tok) (S : PS) (of : Str) (o : Nat) (Hp : List AObj) (ho : Hp[o]? = some (pr l S)) (hi : S.i < l.length) (hl : TokEnd l) (hof : of.length ≤ 1048576) : AFun Tryz.prog 204 [.ptr o 0, strA of] Hp (boolA (isM l of S)) := by
  refine ACall.body [.tmp 4] [0, 1] Tryz.func204 Tryz.ntmps204 (fun d => ?_)
  refine AW.seqR ?_
  refine R.assign ?_
  refine R.fin [0, 1] ?_
  refine AW.seqR ?_
  refine R.move ?_
  refine R.call Tryz.call225 (c225 l S o _ (get_up ho) hi) ?_
  refine R.alloc Tryz.zeroValue31 ?_
  refine R.storeOwn Tryz.sizeOf31 ?_
  refine R.fin [1, 5] ?_
  refine AW.seqR ?_
  refine R.fieldAddrPtr (fo := 0) Tryz.underlying31 Tryz.sizeOf3 ?_
  refine R.loadOwn Tryz.isAgg3 ?_
  refine R.eql ?_
  refine R.move ?_
  refine G.fieldAddrPtr (fo := 0) Tryz.underlying31 Tryz.sizeOf3 ?_
  refine G.loadOwn Tryz.isAgg3 ?_
  refine G.eql ?_
  refine R.pickOr ?_
  refine R.move ?_
  refine G.fieldAddrPtr (fo := 1) Tryz.underlying31 Tryz.sizeOf9 ?_
  refine G.loadOwn Tryz.isAgg9 ?_
  refine G.move ?_
  refine G.call Tryz.call125 (fun hB => c125 (tokAt l S.i).text of (hl.text _) hof _) ?_
  refine R.pickAnd ?_
  refine R.assign ?_
  refine R.fin [4] ?_
  refine AW.ret ?_
  exact K.fin (V.one V.tmp)

theorem c205 (l : List Tok) (S : PS) (o : Nat) (Hp : List AObj) (ho : Hp[o]? = some (pr l S)) (hi : S.i < l.length) (hll : l.length ≤ 1048576) : ACall Tryz.prog 205 [.ptr o 0] Hp (fun r H' => r = tokA (tokAt l S.i) ∧ H' = Hp.set o (pr l (nextM S))) := by
  refine ACall.body [.cell 2 31] [0] Tryz.func205 Tryz.ntmps205 (fun d => ?_)
  refine AW.seqR ?_
  refine R.alloc Tryz.zeroValue31 ?_
  refine R.fin [0, 2] ?_
  refine AW.seqR ?_
  refine R.move ?_
  refine R.call Tryz.call225 (c225 l S o _ (get_up ho) hi) ?_
  refine R.alloc Tryz.zeroValue31 ?_
  refine R.storeOwn Tryz.sizeOf31 ?_
  refine R.fin [0, 2, 3] ?_
  refine AW.seqR ?_
  refine R.move ?_
  refine R.nilPtr ?_
  refine R.fieldAddrPtr (fo := 1) Tryz.underlying190 Tryz.sizeOf3 ?_
  refine R.loadUp Tryz.isAgg3 ho ?_
  refine R.add64 ?_
  refine R.nilPtr ?_
  refine R.fieldAddrPtr (fo := 1) Tryz.underlying190 Tryz.sizeOf3 ?_
  refine R.storeUp Tryz.sizeOf3 ho ?_ ?_
  · simp
  refine R.fin [2, 3] ?_
  refine AW.seqR ?_
  refine R.loadOwnN Tryz.isAgg31 Tryz.sizeOf31 ?_
  refine R.storeOwn Tryz.sizeOf31 ?_
  refine R.fin [2] ?_
  refine AW.ret ?_
  exact K.fin (V.one (V.cellN Tryz.isAgg31 Tryz.sizeOf31))

theorem c156 (l : List Tok) (S : PS) (e a : Int) (o : Nat) (Hp : List AObj) (ho : Hp[o]? = some (pr l S)) : ACall Tryz.prog 156 [.ptr o 0, intA e, intA a] Hp (fun r H' => r = exprA nullX ∧ H' = Hp.set o (pr l (failM e a S))) := by
  refine ACall.body [.cell 6 69] [0, 1, 2] Tryz.func156 Tryz.ntmps156 (fun d => ?_)
  refine AW.seqR ?_
  refine R.alloc Tryz.zeroValue69 ?_
  refine R.fin [0, 1, 2, 6] ?_
  refine W.seq ?_
  refine AW.seqR ?_
  refine R.move ?_
  refine R.nilPtr ?_
  refine R.fieldAddrPtr (fo := 3) Tryz.underlying190 Tryz.sizeOf27 ?_
  refine R.fieldAddrPtr (fo := 0) Tryz.underlying27 Tryz.sizeOf25 ?_
  refine R.loadUp Tryz.isAgg25 ho ?_
  refine R.eql ?_
  refine R.fin [0, 1, 2, 6, 12] ?_
  refine W.cond (fun ht12 => ?_) (fun ht12 => ?_)
  · skip
    have e : failM e a S = ⟨S.i, S.nest, e, a⟩ := if_pos ht12
    refine AW.region ?_
    refine R.move ?_
    refine R.move ?_
    refine R.move ?_
    refine R.build (places := #[(0, 1), (1, 1)]) Tryz.underlying27 (fun w => by simp) Tryz.zeroValue27 ?_
    refine R.nilPtr ?_
    refine R.fieldAddrPtr (fo := 3) Tryz.underlying190 Tryz.sizeOf27 ?_
    refine R.storeUp Tryz.sizeOf27 ho ?_ ?_
    · simp
    refine R.fin [6] ?_
    refine K.thN ?_
    refine AW.seqR ?_
    refine R.build (places := #[(0, 1), (1, 1), (2, 3), (5, 1)]) Tryz.underlying69 (fun w => by simp) Tryz.zeroValue69 ?_
    refine R.wk 19 _ nullX_le ?_
    refine R.storeOwn Tryz.sizeOf69 ?_
    refine R.fin [6] ?_
    refine AW.ret ?_
    exact K.fin (V.one (V.cellN Tryz.isAgg69 Tryz.sizeOf69)) ⟨rfl, by rw [e]⟩ (hlow := exprA_low _ nullX)
  · skip
    have e : failM e a S = S := if_neg (by rw [ht12]; simp)
    refine AW.skip ?_
    refine K.thN ?_
    refine AW.seqR ?_
    refine R.build (places := #[(0, 1), (1, 1), (2, 3), (5, 1)]) Tryz.underlying69 (fun w => by simp) Tryz.zeroValue69 ?_
    refine R.wk 19 _ nullX_le ?_
    refine R.storeOwn Tryz.sizeOf69 ?_
    refine R.fin [6] ?_
    refine AW.ret ?_
    exact K.fin (V.one (V.cellN Tryz.isAgg69 Tryz.sizeOf69)) ⟨rfl, by rw [e]; exact (set_same ho).symm⟩ (hlow := exprA_low _ nullX)

theorem c281 (v : Val) (Hp : List AObj) : AFun Tryz.prog 281 [valA v] Hp (exprA (valX v)) := by
  refine ACall.body [.cell 2 69] [0] Tryz.func281 Tryz.ntmps281 (fun d => ?_)
  refine AW.seqR ?_
  refine R.boxRo ?_
  refine R.alloc Tryz.zeroValue69 ?_
  refine R.fin [1, 2] ?_
  refine AW.seqR ?_
  refine R.loadRoN Tryz.isAgg36 Tryz.sizeOf36 ?_
  refine R.build (places := #[(0, 1), (1, 1), (2, 3), (5, 1)]) Tryz.underlying69 (fun w => by simp) Tryz.zeroValue69 ?_
  refine R.wk 4 _ (leafX_le 1 [] v) ?_
  refine R.storeOwn Tryz.sizeOf69 ?_
  refine R.fin [2] ?_
  refine AW.ret ?_
  exact K.fin (V.one (V.cellN Tryz.isAgg69 Tryz.sizeOf69)) ⟨rfl, rfl⟩ (hlow := exprA_low _ (valX v))

theorem c283 (l : List Tok) (S : PS) (s : Str) (o : Nat) (Hp : List AObj) (ho : Hp[o]? = some (pr l S)) (hi : S.i < l.length) (hll : l.length ≤ 1048576) : ACall Tryz.prog 283 [.ptr o 0, strA s] Hp (fun r H' => r = .v (.tuple #[]) ∧ H' = Hp.set o (pr l (wantM l s S))) := by
  refine ACall.body [] [0, 1] Tryz.func283 Tryz.ntmps283 (fun d => ?_)
  refine W.seq ?_
  refine AW.seqR ?_
  refine R.move ?_
  refine R.nilPtr ?_
  refine R.fieldAddrPtr (fo := 3) Tryz.underlying190 Tryz.sizeOf27 ?_
  refine R.fieldAddrPtr (fo := 0) Tryz.underlying27 Tryz.sizeOf25 ?_
  refine R.loadUp Tryz.isAgg25 ho ?_
  refine R.neq ?_
  refine R.fin [0, 1, 10] ?_
  refine W.cond (fun ht10 => ?_) (fun ht10 => ?_)
  · skip
    have e : wantM l s S = S := if_pos ht10
    refine AW.ret ?_
    refine K.thR ?_
    exact K.fin .nores (hp := ⟨rfl, by rw [e]; exact (set_same ho).symm⟩)
  · skip
    have e0 : ¬ (S.code != 0) = true := by rw [ht10]; simp
    refine AW.skip ?_
    refine K.thN ?_
    refine W.seq ?_
    refine AW.seqR ?_
    refine R.move ?_
    refine R.call Tryz.call225 (c225 l S o _ (get_up ho) hi) ?_
    refine R.alloc Tryz.zeroValue31 ?_
    refine R.storeOwn Tryz.sizeOf31 ?_
    refine R.fin [0, 1, 4] ?_
    refine AW.seqR ?_
    refine R.fieldAddrPtr (fo := 0) Tryz.underlying31 Tryz.sizeOf3 ?_
    refine R.loadOwn Tryz.isAgg3 ?_
    refine R.neq ?_
    refine R.move ?_
    refine G.fieldAddrPtr (fo := 1) Tryz.underlying31 Tryz.sizeOf9 ?_
    refine G.loadOwn Tryz.isAgg9 ?_
    refine G.move ?_
    refine G.sneq ?_
    refine R.pickOr ?_
    refine R.fin [0, 4, 21] ?_
    refine W.cond (fun ht21 => ?_) (fun ht21 => ?_)
    · skip
      have e : wantM l s S = failM 8 (tokAt l S.i).at_ S := by unfold wantM; rw [if_neg e0, if_pos ht21]
      refine AW.seqR ?_
      refine R.move ?_
      refine R.fieldAddrPtr (fo := 2) Tryz.underlying31 Tryz.sizeOf3 ?_
      refine R.loadOwn Tryz.isAgg3 ?_
      refine R.callUp Tryz.call156 ho (by simp) low_pr (c156 l S 8 (tokAt l S.i).at_ o _ (get_up ho)) ?_
      refine R.fin [] ?_
      refine AW.ret ?_
      refine K.thR ?_
      exact K.fin .nores (hp := ⟨rfl, by rw [e]⟩)
    · skip
      have e : wantM l s S = nextM S := by unfold wantM; rw [if_neg e0, if_neg (by rw [ht21]; simp)]
      refine AW.skip ?_
      refine K.thN ?_
      refine AW.region ?_
      refine R.move ?_
      refine R.nilPtr ?_
      refine R.fieldAddrPtr (fo := 1) Tryz.underlying190 Tryz.sizeOf3 ?_
      refine R.loadUp Tryz.isAgg3 ho ?_
      refine R.add64 ?_
      refine R.nilPtr ?_
      refine R.fieldAddrPtr (fo := 1) Tryz.underlying190 Tryz.sizeOf3 ?_
      refine R.storeUp Tryz.sizeOf3 ho ?_ ?_
      · simp
      refine R.fin [] ?_
      exact K.finN .nores (hp := ⟨rfl, by rw [e]; rfl⟩)

end Go.SX.Nb
namespace Go.SX
variable [GI : GlobInv]
open Classical
section
variable {P : Program} {d : Nat} {ops : Array Oper} {rest : List Oper} {sz s : Nat} {fr : Nat → AV} {up own up' own' : List AObj} {dfs : List Nat} {rnd : Option Nat} {Q : St → Prop} {ty : TypeId} {pos : String} {aft : Array Edge}
/-- A call of a function value that leaves up' of whoever waits, and own' of this activation. -/
theorem R.callVX {f : Operand} {g : FuncId} {xs : List Operand} {ats : Array TypeId} {first caps args : List AV} {r : AV} (hcall : ∀ args w, (callFunc g args).run P w = .ok (.enter g args) w)
    (h : ACall P g args (up ++ own) (fun y H' => y = r ∧ H' = up' ++ own')) (hl : up'.length = up.length) (hlow : (∀ x ∈ up, ObjLow up.length x) → ∀ x ∈ up', ObjLow up.length x)
    (hr : ARun P d ops rest ⟨sz, setF s r fr, up', own', dfs, rnd⟩ Q) (hd : ∀ o ∈ dfs, (up ++ own)[o]? = some .defs → (up' ++ own')[o]? = some .defs := by simp)
    (hf : frEv fr f = .fn (.func g) first caps := by simp only [go_sem, ↓reduceIte, Nat.reduceEqDiff, Nat.reduceAdd] <;> rfl) (ha : first ++ xs.map (frEv fr) ++ caps = args := by simp only [go_sem, ↓reduceIte, Nat.reduceEqDiff, Nat.reduceAdd] <;> rfl) (hs : Nat.blt s sz = true := by rfl) :
    ARun P d ops (⟨some s, .call ⟨.value f, xs.toArray, ats⟩, ty, pos, aft, none⟩ :: rest) ⟨sz, fr, up, own, dfs, rnd⟩ Q := by
  refine ARun.op rfl (AOp.callG (st := ⟨sz, fr, up, own, dfs, rnd⟩) (Q := (· = ⟨sz, setF s r fr, up', own', dfs, rnd⟩)) (first := first) (caps := caps) hcall hf (by rw [← ha] <;> rfl) h (by simpa using hs) (fun y H' _ hy => ?_)) (fun s' e => by subst e; exact hr)
  obtain ⟨rfl, rfl⟩ := hy
  exact ⟨up', own', rfl, hl, fun h => by rw [hl] at h ⊢; exact hlow h, fun hdd o ho => hd o ho (hdd o ho), rfl⟩
end
section
variable {P : Program} {d : Nat} {sz : Nat} {dfs : List Nat} {rnd : Option Nat} {l0 : List Oper} {up own : (Nat → Bool) → List AObj} {E : List Oper → (Nat → AV) → Prop} {S : List SegY} {l : List Oper} {fr : Nat → AV} {ty : TypeId} {pos : String} {aft : Array Edge} {s : Nat} {T F : List Nat}
/-- The p-th of those that turn the heap: a store into an own object. -/
theorem Y.storeOwn {t t' : TypeId} {p x : Operand} {n off k u pn : Nat} {y : AV} {ys cs cs' : List AV} (hsz : ∀ w, (Go.sizeOf t).run P w = .ok k w)
    (hU : ∀ B : Nat → Bool, B pn = false → (up B).length = u ∧ (own B)[n]? = some (.cells t' cs) ∧ own (upd B pn) = (own B).set n (.cells t' cs') ∧ up (upd B pn) = up B)
    (h : ChainY P d l0 sz up own dfs rnd E S l fr)
    (hp : frEv fr p = .ptr (oid u n) off := by simp only [go_sem, ↓reduceIte, Nat.reduceEqDiff, Nat.reduceAdd] <;> rfl) (hx : frEv fr x = y := by simp only [go_sem, ↓reduceIte, Nat.reduceEqDiff, Nat.reduceAdd] <;> rfl) (hc : y.cells = ys := by simp only [go_sem, ↓reduceIte, Nat.reduceEqDiff, Nat.reduceAdd] <;> rfl) (hk : ys.length = k := by rfl)
    (h1 : ys.all AV.one = true := by simp only [go_sem, ↓reduceIte, Nat.reduceEqDiff, Nat.reduceAdd]) (hfit : off + k ≤ cs.length := by simp only [go_sem, ↓reduceIte, Nat.reduceEqDiff, Nat.reduceAdd] <;> omega) (hput : putCells cs off ys = cs' := by simp only [go_sem, ↓reduceIte, Nat.reduceEqDiff, Nat.reduceAdd] <;> rfl) :
    ChainY P d l0 sz up own dfs rnd E (.s [] (some pn) T F :: S) (⟨none, .store t p x, ty, pos, aft, none⟩ :: l) fr := by
  subst hput
  subst hc
  refine ⟨_, l, [], rfl, ⟨rfl, rfl, fun B f _ _ hB hf => ?_⟩, h⟩
  obtain ⟨a0, a1, a2, a3⟩ := hU B (hB pn rfl)
  have e : frEv f p = .ptr (oid u n) off := by rw [agr hf (by simp [Op.operands])]; exact hp
  have ex : frEv f x = y := by rw [agr hf (by simp [Op.operands])]; exact hx
  refine AOp.eqTo (AOp.storeOwn (st := ⟨sz, f, up B, own B, dfs, rnd⟩) hsz (by show frEv f p = _; rw [e, ← a0]; rfl) a1 ex hk h1 hfit) ?_
  show _ = St.mk sz f (up (upd B pn)) (own (upd B pn)) dfs rnd
  rw [a2, a3]
theorem Y.buildSlice {t e : TypeId} {k len : Nat} {z : Value} {parts : List (Nat × Operand)} {ys : List AV} (hu : P.underlying t = some (.slice e)) (hsz : ∀ w, (Go.sizeOf e).run P w = .ok k w) (hz : ∀ w, (zeroValue e).run P w = .ok z w)
    (h : ChainY P d l0 sz up own dfs rnd E S l (setF s (.slice true k ys) fr)) (hp : parts.toArray = (((parts.map Prod.snd).zipIdx).map fun x => (x.2, x.1)).toArray := by rfl) (hev : (parts.map Prod.snd).map (frEv fr) = ys := by simp only [go_sem, ↓reduceIte, Nat.reduceEqDiff, Nat.reduceAdd] <;> rfl)
    (hk : ys.all (fun y => decide (y.cells.length = k) && y.cells.all AV.one) = true := by simp [go_sem]) (hl : len = ys.length := by rfl) (hlen : ys.length * k ≤ 16777216 := by simp only [go_sem, ↓reduceIte, Nat.reduceEqDiff, Nat.reduceAdd] <;> omega) (hs : Nat.blt s sz = true := by rfl) :
    ChainY P d l0 sz up own dfs rnd E (.s [s] none T F :: S) (⟨some s, .buildSlice t len parts.toArray, ty, pos, aft, none⟩ :: l) fr := by
  have h2 : ∀ y ∈ ys, y.cells.length = k ∧ y.cells.all AV.one = true := fun y hy => by simpa using List.all_eq_true.1 hk y hy
  refine ⟨_, l, [(s, .slice true k ys)], rfl, ⟨rfl, rfl, fun B f _ _ _ hf => ?_⟩, h⟩
  have hev' : (parts.map Prod.snd).map (frEv f) = ys := by
    rw [← hev]
    refine List.map_congr_left fun x hx => ?_
    refine agr hf ?_
    simp only [Op.operands, List.toList_toArray, Array.toList_map, List.mem_map] at hx ⊢
    exact hx
  exact AOp.eqTo (AOp.buildSlice (st := ⟨sz, f, up B, own B, dfs, rnd⟩) hu hsz hz hev' (fun y hy => (h2 y hy).1) (fun y hy c hc => List.all_eq_true.1 (h2 y hy).2 c hc) hlen (by simpa using hs) hl hp) rfl
/-- The p-th of those that turn the heap: it takes what a cell of an own object owns. -/
theorem Y.loadOwnT {t t' : TypeId} {p : Operand} {n off u pn : Nat} {y z : AV} {cs cs' : List AV} (hagg : ∀ w, (isAgg t).run P w = .ok false w)
    (hU : ∀ B : Nat → Bool, B pn = false → (up B).length = u ∧ (own B)[n]? = some (.cells t' cs) ∧ own (upd B pn) = (own B).set n (.cells t' cs') ∧ up (upd B pn) = up B)
    (h : ChainY P d l0 sz up own dfs rnd E S l (setF s y fr))
    (hp : frEv fr p = .ptr (oid u n) off := by simp only [go_sem, ↓reduceIte, Nat.reduceEqDiff, Nat.reduceAdd] <;> rfl) (hy : cs[off]? = some y := by rfl) (hz : y.strip = z := by simp only [go_sem, ↓reduceIte, Nat.reduceEqDiff, Nat.reduceAdd] <;> rfl) (hcs : cs.set off z = cs' := by simp only [go_sem, ↓reduceIte, Nat.reduceEqDiff, Nat.reduceAdd] <;> rfl) (hs : Nat.blt s sz = true := by rfl) :
    ChainY P d l0 sz up own dfs rnd E (.s [s] (some pn) T F :: S) (⟨some s, .load t p, ty, pos, aft, none⟩ :: l) fr := by
  subst hz
  subst hcs
  refine ⟨_, l, [(s, y)], rfl, ⟨rfl, rfl, fun B f _ _ hB hf => ?_⟩, h⟩
  obtain ⟨a0, a1, a2, a3⟩ := hU B (hB pn rfl)
  have e : frEv f p = .ptr (oid u n) off := by rw [agr hf (by simp [Op.operands])]; exact hp
  refine AOp.eqTo (AOp.loadOwnT (st := ⟨sz, f, up B, own B, dfs, rnd⟩) hagg (by show frEv f p = _; rw [e, ← a0]; rfl) a1 hy (by simpa using hs)) ?_
  show _ = St.mk sz (setWs [(s, y)] f) (up (upd B pn)) (own (upd B pn)) dfs rnd
  rw [a2, a3]
  rfl
end
end Go.SX
