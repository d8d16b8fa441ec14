/- SchemaPrints answers true for whatever can be read: the card of the law. -/
import Derived.Test.YtefgfjedonchdaaGreatDoorSchemaPrintsCardSaidPart9
set_option linter.all false
namespace Go.SX.Nb
open Go Go.SX Go.Proofs
variable [ErrAt]
set_option maxRecDepth 4000
def kindM (s : Str) : Int := if kindNameM 1 == s then 1 else if kindNameM 2 == s then 2 else if kindNameM 3 == s then 3 else 0
structure KindUpto (s : Str) (x : Nat) : Prop where
  le : x ≤ 3
  a : 1 ≤ x → (kindNameM 1 == s) = false
  b : 2 ≤ x → (kindNameM 2 == s) = false
  c : 3 ≤ x → (kindNameM 3 == s) = false
theorem kind_at {s : Str} {x : Nat} (h : KindUpto s x) (hx : x < 3) (e : (kindNameM ((x : Int) + 1) == s) = true) : kindM s = (x : Int) + 1 := by
  have h3 : x = 0 ∨ x = 1 ∨ x = 2 := by omega
  unfold kindM
  rcases h3 with rfl | rfl | rfl
  · have e : (kindNameM 1 == s) = true := e
    rw [if_pos e]; rfl
  · have e : (kindNameM 2 == s) = true := e
    rw [if_neg (by rw [h.a (by omega)]; simp), if_pos e]; rfl
  · have e : (kindNameM 3 == s) = true := e
    rw [if_neg (by rw [h.a (by omega)]; simp), if_neg (by rw [h.b (by omega)]; simp), if_pos e]; rfl
theorem kind_on {s : Str} {x : Nat} (h : KindUpto s x) (hx : x < 3) (e : (kindNameM ((x : Int) + 1) == s) = false) : KindUpto s (x + 1) := by
  have h3 : x = 0 ∨ x = 1 ∨ x = 2 := by omega
  rcases h3 with rfl | rfl | rfl
  · exact ⟨by omega, fun _ => e, fun h => by omega, fun h => by omega⟩
  · exact ⟨by omega, fun _ => h.a (by omega), fun _ => e, fun h => by omega⟩
  · exact ⟨by omega, fun _ => h.a (by omega), fun _ => h.b (by omega), fun _ => e⟩
theorem kind_no {s : Str} {x : Nat} (h : KindUpto s x) (hx : 3 ≤ x) : kindM s = 0 := by
  unfold kindM
  rw [if_neg (by rw [h.a (by omega)]; simp), if_neg (by rw [h.b (by omega)]; simp), if_neg (by rw [h.c (by omega)]; simp)]
theorem c109 (s : Str) (Hp : List AObj) : AFun Tryz.prog 109 [strA s] Hp (intA (kindM s)) := by
  refine ACall.body [.tmp 2] [0] Tryz.func109 Tryz.ntmps109 (fun d => ?_)
  refine AW.seqR ?_
  refine R.assign ?_
  refine R.fin [0] ?_
  refine W.seq ?_
  refine AW.seqR ?_
  refine R.assign ?_
  refine R.fin [0, 3] ?_
  refine AW.loopC (α := Nat) (fun x => ⟨13, setF 0 (strA s) (setF 3 (intA ((x : Nat) + 1)) (fun _ => .any)), Hp, [], [], none⟩) (fun x => KindUpto s x) (fun x => 3 - x) (0) ⟨by omega, fun h => by omega, fun h => by omega, fun h => by omega⟩ (StLe.refl _) rfl (fun x hx => ?_)
  refine W.seq ?_
  refine AW.seqR ?_
  refine R.move ?_
  refine R.leq ?_
  refine R.fin [0, 3, 5] ?_
  refine W.cond (fun ht5 => ?_) (fun ht5 => ?_)
  · skip
    have hx3 : x < 3 := by simp at ht5; omega
    refine AW.skip ?_
    refine K.thN ?_
    refine W.seq ?_
    refine AW.block ?_
    refine AW.seqR ?_
    refine R.move ?_
    refine R.call Tryz.call69 (c69 _ _) ?_
    refine R.move ?_
    refine R.seql ?_
    refine R.fin [0, 3, 11] ?_
    refine W.cond (fun ht11 => ?_) (fun ht11 => ?_)
    · skip
      refine AW.seqR ?_
      refine R.move ?_
      refine R.assign ?_
      refine R.fin [2] ?_
      refine AW.ret ?_
      refine K.blR ?_
      refine K.thR ?_
      refine K.lpR ?_
      refine K.thR ?_
      exact K.fin (V.one V.tmp) ⟨by rw [kind_at hx hx3 (by simpa using ht11)], rfl⟩
    · skip
      refine AW.skip ?_
      refine K.blN ?_
      refine K.thN ?_
      refine AW.region ?_
      refine R.move ?_
      refine R.add64 ?_
      refine R.assign ?_
      refine R.fin [0, 3] ?_
      exact K.lpN (x + 1) (kind_on hx hx3 (by simpa using ht11)) (by omega) (StCut.of_eq (by simp))
  · skip
    have hx3 : 3 ≤ x := by simp at ht5; omega
    refine AW.exit ?_
    refine K.thE ?_
    refine K.lpE ?_
    refine K.thN ?_
    refine AW.seqR ?_
    refine R.assign ?_
    refine R.fin [2] ?_
    refine AW.ret ?_
    exact K.fin (V.one V.tmp) ⟨by rw [kind_no hx hx3], rfl⟩

theorem c74 (e : Int) (t : Tok) (Hp : List AObj) : AFun Tryz.prog 74 [intA e, tokA t] Hp (.agg [intA e, intA (t.at_ : Int)]) := by
  refine ACall.body [.cell 4 27] [0, 1] Tryz.func74 Tryz.ntmps74 (fun d => ?_)
  refine AW.seqR ?_
  refine R.box ?_
  refine R.alloc Tryz.zeroValue27 ?_
  refine R.fin [0, 3, 4] ?_
  refine AW.seqR ?_
  refine R.move ?_
  refine R.fieldAddrPtr (fo := 2) Tryz.underlying31 Tryz.sizeOf3 ?_
  refine R.loadOwn Tryz.isAgg3 ?_
  refine R.build (places := #[(0, 1), (1, 1)]) Tryz.underlying27 (fun w => by simp) Tryz.zeroValue27 ?_
  refine R.storeOwn Tryz.sizeOf27 ?_
  refine R.fin [4] ?_
  refine AW.ret ?_
  exact K.fin (V.one (V.cellN Tryz.isAgg27 Tryz.sizeOf27))

abbrev rdr (l : List Tok) (acc : List Col) : AObj := .cells 100 [.slice false 3 (l.map tokA), .slice true 2 (acc.map colA)]
def colF (l : List Tok) (acc : List Col) : Int × Int :=
  if (tokAt l 0).kind != 1 then (8, (tokAt l 0).at_) else if ((tokAt l 1).kind != 2) || (kindM (tokAt l 1).text == 0) then (8, (tokAt l 1).at_)
  else if decide (0 ≤ findM (tokAt l 0).text acc) then (9, (tokAt l 0).at_) else if (acc.length : Int) == 12 then (3, (tokAt l 0).at_) else (0, 0)
def colN (l : List Tok) : Col := ⟨(tokAt l 0).text, kindM (tokAt l 1).text⟩
theorem c73 (l : List Tok) (acc : List Col) (o : Nat) (Hp : List AObj) (ho : Hp[o]? = some (rdr l acc)) (hl : 1 ≤ l.length) (hl2 : (tokAt l 0).kind = 1 → 2 ≤ l.length) (hc : OkCols acc) : ACall Tryz.prog 73 [.ptr o 0] Hp (fun r H' => r = .agg [intA (colF l acc).1, intA (colF l acc).2] ∧ H' = if (colF l acc).1 = 0 then Hp.set o (rdr (l.drop 2) (acc ++ [colN l])) else Hp) := by
  refine ACall.body [.cell 2 27] [0] Tryz.func73 Tryz.ntmps73 (fun d => ?_)
  refine AW.seqR ?_
  refine R.alloc Tryz.zeroValue27 ?_
  refine R.fin [0, 2] ?_
  refine AW.seqR ?_
  refine R.move ?_
  refine R.nilPtr ?_
  refine R.fieldAddrPtr (fo := 0) Tryz.underlying100 Tryz.sizeOf24 ?_
  refine R.loadUp Tryz.isAgg24 ho ?_
  refine R.indexAddr (0) (tokA (tokAt l 0)) Tryz.underlying24 Tryz.sizeOf31 (getTok hl) ?_
  refine R.loadRoN Tryz.isAgg31 Tryz.sizeOf31 ?_
  refine R.alloc Tryz.zeroValue31 ?_
  refine R.storeOwn Tryz.sizeOf31 ?_
  refine R.fin [0, 2, 3] ?_
  refine W.seq ?_
  refine AW.seqR ?_
  refine R.fieldAddrPtr (fo := 0) Tryz.underlying31 Tryz.sizeOf3 ?_
  refine R.loadOwn Tryz.isAgg3 ?_
  refine R.neq ?_
  refine R.fin [0, 2, 3, 14] ?_
  refine W.cond (fun ht14 => ?_) (fun ht14 => ?_)
  · skip
    refine AW.seqR ?_
    refine R.loadOwnN Tryz.isAgg31 Tryz.sizeOf31 ?_
    refine R.call Tryz.call74 (c74 _ _ _) ?_
    refine R.storeOwn Tryz.sizeOf27 ?_
    refine R.fin [2] ?_
    refine AW.ret ?_
    refine K.thR ?_
    have e : colF l acc = (8, ((tokAt l 0).at_ : Int)) := by
      unfold colF
      rw [if_pos ht14]
    exact K.fin (V.one (V.cellN Tryz.isAgg27 Tryz.sizeOf27)) ⟨by rw [e], by rw [e]; rfl⟩
  · skip
    have hk1 : (tokAt l 0).kind = 1 := by simpa using ht14
    have hk2 : 2 ≤ l.length := hl2 hk1
    refine AW.skip ?_
    refine K.thN ?_
    refine AW.seqR ?_
    refine R.move ?_
    refine R.nilPtr ?_
    refine R.fieldAddrPtr (fo := 0) Tryz.underlying100 Tryz.sizeOf24 ?_
    refine R.loadUp Tryz.isAgg24 ho ?_
    refine R.indexAddr (1) (tokA (tokAt l 1)) Tryz.underlying24 Tryz.sizeOf31 (getTok hk2) ?_
    refine R.loadRoN Tryz.isAgg31 Tryz.sizeOf31 ?_
    refine R.alloc Tryz.zeroValue31 ?_
    refine R.storeOwn Tryz.sizeOf31 ?_
    refine R.fin [0, 2, 3, 4] ?_
    refine AW.seqR ?_
    refine R.fieldAddrPtr (fo := 1) Tryz.underlying31 Tryz.sizeOf9 ?_
    refine R.loadOwn Tryz.isAgg9 ?_
    refine R.call Tryz.call109 (c109 _ _) ?_
    refine R.assign ?_
    refine R.fin [0, 2, 3, 4, 5] ?_
    refine W.seq ?_
    refine AW.block ?_
    refine AW.seqR ?_
    refine R.fieldAddrPtr (fo := 0) Tryz.underlying31 Tryz.sizeOf3 ?_
    refine R.loadOwn Tryz.isAgg3 ?_
    refine R.neq ?_
    refine R.move ?_
    refine G.move ?_
    refine G.eql ?_
    refine R.pickOr ?_
    refine R.assign ?_
    refine R.fin [0, 2, 3, 4, 5, 26] ?_
    refine W.cond (fun ht26 => ?_) (fun ht26 => ?_)
    · skip
      refine AW.seqR ?_
      refine R.loadOwnN Tryz.isAgg31 Tryz.sizeOf31 ?_
      refine R.call Tryz.call74 (c74 _ _ _) ?_
      refine R.storeOwn Tryz.sizeOf27 ?_
      refine R.fin [2] ?_
      refine AW.ret ?_
      refine K.blR ?_
      refine K.thR ?_
      have e : colF l acc = (8, ((tokAt l 1).at_ : Int)) := by
        unfold colF
        rw [if_neg (by rw [ht14]; simp), if_pos ht26]
      exact K.fin (V.one (V.cellN Tryz.isAgg27 Tryz.sizeOf27)) ⟨by rw [e], by rw [e]; rfl⟩
    · skip
      refine W.draw [0, 1, 3, 7, 0, 16, 63, 127, 255] 6 Tryzmixed (by kernel_rfl) ?_
      refine D.move ?_
      refine D.nilPtr ?_
      refine D.fieldAddrPtr (fo := 1) Tryz.underlying100 Tryz.sizeOf37 ?_
      refine D.loadUp Tryz.isAgg37 ho ?_
      refine D.fieldAddrPtr (fo := 1) Tryz.underlying31 Tryz.sizeOf9 ?_
      refine D.loadOwn Tryz.isAgg9 ?_
      refine D.tail ?_
      refine R.call Tryz.call100 (c100 acc hc _ _) ?_
      refine R.geq ?_
      refine R.assign ?_
      refine R.fin [0, 2, 3, 5, 36] ?_
      refine W.cond (fun ht36 => ?_) (fun ht36 => ?_)
      · skip
        refine AW.seqR ?_
        refine R.loadOwnN Tryz.isAgg31 Tryz.sizeOf31 ?_
        refine R.call Tryz.call74 (c74 _ _ _) ?_
        refine R.storeOwn Tryz.sizeOf27 ?_
        refine R.fin [2] ?_
        refine AW.ret ?_
        refine K.blR ?_
        refine K.thR ?_
        have e : colF l acc = (9, ((tokAt l 0).at_ : Int)) := by
          unfold colF
          rw [if_neg (by rw [ht14]; simp), if_neg (by rw [ht26]; simp), if_pos ht36]
        exact K.fin (V.one (V.cellN Tryz.isAgg27 Tryz.sizeOf27)) ⟨by rw [e], by rw [e]; rfl⟩
      · skip
        refine AW.seqR ?_
        refine R.move ?_
        refine R.nilPtr ?_
        refine R.fieldAddrPtr (fo := 1) Tryz.underlying100 Tryz.sizeOf37 ?_
        refine R.loadUp Tryz.isAgg37 ho ?_
        refine R.len Tryz.underlying37 ?_
        refine R.eql ?_
        refine R.assign ?_
        refine R.fin [0, 2, 3, 5, 47] ?_
        refine W.cond (fun ht47 => ?_) (fun ht47 => ?_)
        · skip
          refine AW.seqR ?_
          refine R.loadOwnN Tryz.isAgg31 Tryz.sizeOf31 ?_
          refine R.call Tryz.call74 (c74 _ _ _) ?_
          refine R.storeOwn Tryz.sizeOf27 ?_
          refine R.fin [2] ?_
          refine AW.ret ?_
          refine K.blR ?_
          refine K.thR ?_
          have e : colF l acc = (3, ((tokAt l 0).at_ : Int)) := by
            unfold colF
            rw [if_neg (by rw [ht14]; simp), if_neg (by rw [ht26]; simp), if_neg (by rw [ht36]; simp), if_pos (by simpa using ht47)]
          exact K.fin (V.one (V.cellN Tryz.isAgg27 Tryz.sizeOf27)) ⟨by rw [e], by rw [e]; rfl⟩
        · skip
          refine AW.skip ?_
          refine K.blN ?_
          refine K.thN ?_
          refine W.drawY [0, 0, 2, 6, 14, 0, 32, 0, 224, 480, 1022, 2047, 4095, 8191] [.q 4 0 1, .s [60] true 0 0, .q 5 0 1, .s [60, 66] false 1 1] 1 (fun b => Hp.set o (if b = 0 then rdr l acc else .cells 100 [.slice false 3 (l.map tokA), .slice false 2 (acc.map colA)])) (fun _ => [.cells 27 [intA 0, intA 0], .cells 31 [intA (tokAt l 0).kind, strA (tokAt l 0).text, intA (tokAt l 0).at_], .cells 31 [intA (tokAt l 1).kind, strA (tokAt l 1).text, intA (tokAt l 1).at_]]) Tryzmixed (by kernel_rfl) (by kernel_rfl) (set_same ho) rfl (fun b => by simp) ?_
          apply Y.q
          case h1 =>
            intro b hb1 hb2
            refine D.move ?_
            refine D.move ?_
            refine D.nilPtr ?_
            refine D.fieldAddrPtr (fo := 1) Tryz.underlying100 Tryz.sizeOf37 ?_
            exact D.end rfl rfl
          case hlh => rfl
          refine Y.loadUpT Tryz.isAgg37 (U0 := Hp.set o (rdr l acc)) (getset ho) ?_ (fun b _ hb => by obtain rfl : b = 0 := (by omega); exact ⟨rfl, (List.set_set ..).symm, rfl⟩)
          apply Y.q
          case h1 =>
            intro b hb1 hb2
            refine D.fieldAddrPtr (fo := 1) Tryz.underlying31 Tryz.sizeOf9 ?_
            refine D.loadOwn Tryz.isAgg9 ?_
            refine D.move ?_
            refine D.build (places := #[(0, 1), (1, 1)]) Tryz.underlying65 (fun w => by simp) Tryz.zeroValue65 ?_
            refine D.buildSlice Tryz.underlying37 Tryz.sizeOf65 Tryz.zeroValue65 ?_
            exact D.end rfl rfl
          case hlh => rfl
          refine Y.append Tryz.underlying37 Tryz.type65 ?_ ?_ ?_
          · have := hc.len; simp [Tryz.t65]; omega
          · have := hc.len; simp [Tryz.t65]; omega
          refine Y.tail (U := Hp.set o (.cells 100 [.slice false 3 (l.map tokA), .slice false 2 (acc.map colA)])) ?_
          refine R.nilPtr ?_
          refine R.fieldAddrPtr (fo := 1) Tryz.underlying100 Tryz.sizeOf37 ?_
          refine R.storeUpT Tryz.sizeOf37 (getset ho) ?_ ?_
          · simp [or_imp, forall_and]
          refine R.fin [0, 2] ?_
          refine AW.seqR ?_
          refine R.move ?_
          refine R.move ?_
          refine R.nilPtr ?_
          refine R.fieldAddrPtr (fo := 0) Tryz.underlying100 Tryz.sizeOf24 ?_
          refine R.loadUp Tryz.isAgg24 (getset (getset ho)) ?_
          refine R.cutL 2 Tryz.underlying24 Tryz.sizeOf31 (show 2 ≤ (l.map tokA).length by simpa using hk2) (Nat.le_refl _) ?_
          refine R.nilPtr ?_
          refine R.fieldAddrPtr (fo := 0) Tryz.underlying100 Tryz.sizeOf24 ?_
          refine R.storeUp Tryz.sizeOf24 (getset (getset ho)) ?_ ?_
          · simp
            intro x hx
            obtain ⟨t, _, rfl⟩ := List.mem_map.1 (List.mem_of_mem_drop hx)
            simp [or_imp, forall_and]
          refine R.fin [2] ?_
          refine AW.seqR ?_
          refine R.build (places := #[(0, 1), (1, 1)]) Tryz.underlying27 (fun w => by simp) Tryz.zeroValue27 ?_
          refine R.storeOwn Tryz.sizeOf27 ?_
          refine R.fin [2] ?_
          refine AW.ret ?_
          have e : colF l acc = (0, 0) := by
            unfold colF
            rw [if_neg (by rw [ht14]; simp), if_neg (by rw [ht26]; simp), if_neg (by rw [ht36]; simp), if_neg (by rw [List.length_map] at ht47; rw [ht47]; simp)]
          exact K.fin (V.one (V.cellN Tryz.isAgg27 Tryz.sizeOf27)) ⟨by rw [e], by rw [e, if_pos rfl, List.set_set, List.set_set, rdr, List.map_drop, List.map_append]; rfl⟩

end Go.SX.Nb
namespace Go.SX.Nb
open Go Go.SX Go.Proofs
variable [ErrAt]
set_option maxRecDepth 4000
theorem wrap_u64 {n : Int} (h1 : 0 ≤ n) (h2 : n < 18446744073709551616) : IntKind.u64.wrap n = n := by
  have e1 : (2 ^ IntKind.u64.bits : Int) = 18446744073709551616 := rfl
  have e3 : IntKind.u64.signed = false := rfl
  unfold IntKind.wrap
  simp only [e1, e3, Bool.false_and]
  simp
  omega
theorem u64_range (n : Int) : 0 ≤ IntKind.u64.wrap n ∧ IntKind.u64.wrap n < 18446744073709551616 := by
  have e1 : (2 ^ IntKind.u64.bits : Int) = 18446744073709551616 := rfl
  have e3 : IntKind.u64.signed = false := rfl
  unfold IntKind.wrap
  simp only [e1, e3, Bool.false_and]
  simp
  omega
theorem k_mod (m : Int) (N : Nat) (h1 : 1 ≤ N) (hN : N ≤ 100000) : ∃ K : Nat, K < N ∧ IntKind.i64.wrap ((IntKind.u64.wrap m).tmod (IntKind.u64.wrap (N : Int))) = (K : Int) := by
  have hr := u64_range m
  rw [wrap_u64 (n := (N : Int)) (by omega) (by omega), Int.tmod_eq_emod_of_nonneg hr.1]
  have g1 := Int.emod_nonneg (IntKind.u64.wrap m) (b := (N : Int)) (by omega)
  have g2 := Int.emod_lt_of_pos (IntKind.u64.wrap m) (b := (N : Int)) (by omega)
  refine ⟨((IntKind.u64.wrap m) % (N : Int)).toNat, by omega, ?_⟩
  rw [wrap_i64 (by omega) (by omega)]
  omega
theorem lexM_len {s : Str} (h : (lexM s).2.1 = 0) : 1 ≤ (lexM s).1.length ∧ (lexM s).1.length ≤ s.length + 2 := by
  obtain ⟨_, _, hl⟩ := lexM_ok h
  rw [hl]
  have := itemsT_len s
  simp
  omega
theorem tok_at_le {s : Str} {i : Nat} (h : (lexM s).2.1 = 0) (hi : i < (lexM s).1.length) : (tokAt (lexM s).1 i).at_ ≤ s.length := by
  obtain ⟨_, _, hl⟩ := lexM_ok h
  rw [hl] at hi ⊢
  simp only [List.length_append, List.length_map, List.length_cons, List.length_nil] at hi
  unfold tokAt
  rw [List.getD_eq_getElem?_getD]
  rcases Nat.lt_or_ge i (itemsT s).length with hlt | hge
  · have hit : (itemsT s)[i]? = some (itemsT s)[i] := List.getElem?_eq_getElem hlt
    simp only
    rw [List.getElem?_append_left (by simpa using hlt), List.getElem?_map, hit]
    exact items_at_le hit
  · simp only
    rw [List.getElem?_append_right (by simpa using hge), show i - ((itemsT s).map (·.1)).length = 0 by simp; omega]
    exact Nat.le_refl _
def gapL (k d : Nat) (L : List Tok) : List Tok := L.take k ++ (L.drop k).map (shiftTok d)
theorem gapL_len {k d : Nat} {L : List Tok} (hk : k < L.length) : (gapL k d L).length = L.length := by unfold gapL; simp; omega
theorem gapL_at {k d i : Nat} {L : List Tok} (hk : k < L.length) (hi : i < L.length) : tokAt (gapL k d L) i = if i < k then tokAt L i else shiftTok d (tokAt L i) := by
  unfold gapL tokAt
  simp only [List.getD_eq_getElem?_getD]
  split
  · rename_i h
    rw [List.getElem?_append_left (by simp; omega), List.getElem?_take, if_pos h]
  · rename_i h
    rw [List.getElem?_append_right (by simp; omega), List.getElem?_map, List.getElem?_drop, List.length_take, show k + (i - min k L.length) = i by omega, List.getElem?_eq_getElem hi]
    rfl
theorem gap_far0 {a : Tok} : ((((a.kind != a.kind) || !(a.text == a.text)) || (((a.at_ : Nat) : Int) != (a.at_ : Nat) + 0))) = false := by simp
theorem gap_far {a : Tok} {d : Nat} {n : Int} (h : n = (d : Nat)) : (((((shiftTok d a).kind != a.kind) || !((shiftTok d a).text == a.text)) || ((((shiftTok d a).at_ : Nat) : Int) != (a.at_ : Nat) + n))) = false := by
  subst h
  simp [shiftTok]
theorem new_eq (src note : Str) (p : Nat) : (((src.take p ++ [32, 9, 35]) ++ note) ++ [10, 32]) ++ src.drop p = src.take p ++ (insX note ++ src.drop p) := by simp [insX]
theorem c4 (src : Str) (at_ : Int) (note : Str) (Hp : List AObj) : AFun Tryz.prog 4 [strA src, intA at_, strA note] Hp (boolA true) := by
  refine ACall.body [.tmp 6] [0, 1, 2] Tryz.func4 Tryz.ntmps4 (fun d => ?_)
  refine AW.seqR ?_
  refine R.assign ?_
  refine R.fin [0, 1, 2] ?_
  refine W.seq ?_
  refine AW.seqR ?_
  refine R.call Tryz.call13 (c13 _) ?_
  refine R.not ?_
  refine R.fin [0, 1, 2, 17] ?_
  refine W.cond (fun ht17 => ?_) (fun ht17 => ?_)
  · skip
    cases ht17
  · skip
    refine AW.skip ?_
    refine K.thN ?_
    refine W.seq ?_
    refine AW.seqR ?_
    refine R.move ?_
    refine R.slen Tryz.underlying9 ?_
    refine R.gtr ?_
    refine R.move ?_
    refine G.move ?_
    refine G.slen Tryz.underlying9 ?_
    refine G.gtr ?_
    refine R.pickOr ?_
    refine R.fin [0, 1, 2, 25] ?_
    refine W.cond (fun ht25 => ?_) (fun ht25 => ?_)
    · skip
      refine AW.seqR ?_
      refine R.assign ?_
      refine R.fin [6] ?_
      refine AW.ret ?_
      refine K.thR ?_
      exact K.fin (V.one V.tmp)
    · skip
      have hls : src.length ≤ 2000 ∧ note.length ≤ 1000 := by simp at ht25; omega
      refine AW.skip ?_
      refine K.thN ?_
      refine AW.seqR ?_
      refine R.move ?_
      refine R.call Tryz.call15 (c15 src (by omega) _) ?_
      refine R.move ?_
      refine R.extract ?_
      refine R.extract ?_
      refine R.alloc Tryz.zeroValue27 ?_
      refine R.assign ?_
      refine R.storeOwn Tryz.sizeOf27 ?_
      refine R.fin [0, 1, 2, 7, 8] ?_
      refine W.seq ?_
      refine AW.seqR ?_
      refine R.fieldAddrPtr (fo := 0) Tryz.underlying27 Tryz.sizeOf25 ?_
      refine R.loadOwn Tryz.isAgg25 ?_
      refine R.neq ?_
      refine R.fin [0, 1, 2, 7, 33] ?_
      refine W.cond (fun ht33 => ?_) (fun ht33 => ?_)
      · skip
        refine AW.seqR ?_
        refine R.assign ?_
        refine R.fin [6] ?_
        refine AW.ret ?_
        refine K.thR ?_
        exact K.fin (V.one V.tmp)
      · skip
        have hf0 : (lexM src).2.1 = 0 := by simpa using ht33
        have hLm : (List.map tokA (lexM src).1).length = (lexM src).1.length := List.length_map _
        refine AW.skip ?_
        refine K.thN ?_
        refine W.seq ?_
        refine AW.seqR ?_
        refine R.assign ?_
        refine R.fin [0, 1, 2, 7, 9] ?_
        refine AW.loopC (α := Nat) (fun x => ⟨137, setF 0 (strA src) (setF 1 (intA at_) (setF 2 (strA note) (setF 7 (toksA (lexM src).1) (setF 9 (intA (x : Nat)) (fun _ => .any))))), Hp, [AObj.cells 27 [intA (lexM src).2.1, intA (lexM src).2.2]], [], none⟩) (fun x => x ≤ note.length ∧ ∀ (j : Nat) (b : UInt8), j < x → note[j]? = some b → b ≠ 10) (fun x => note.length - x) (0) ⟨Nat.zero_le _, fun j b h => by omega⟩ (StLe.refl _) rfl (fun x hx => ?_)
        refine W.seq ?_
        refine AW.seqR ?_
        refine R.move ?_
        refine R.move ?_
        refine R.slen Tryz.underlying9 ?_
        refine R.lss ?_
        refine R.fin [0, 1, 2, 7, 9, 37] ?_
        refine W.cond (fun ht37 => ?_) (fun ht37 => ?_)
        · skip
          have hxl : x < note.length := by simp at ht37; omega
          refine AW.skip ?_
          refine K.thN ?_
          refine W.seq ?_
          refine AW.block ?_
          refine AW.seqR ?_
          refine R.move ?_
          refine R.move ?_
          refine R.sindex x note[x] Tryz.underlying9 (List.getElem?_eq_getElem hxl) ?_
          refine R.eql ?_
          refine R.fin [0, 1, 2, 7, 9, 43] ?_
          refine W.cond (fun ht43 => ?_) (fun ht43 => ?_)
          · skip
            refine AW.seqR ?_
            refine R.assign ?_
            refine R.fin [6] ?_
            refine AW.ret ?_
            refine K.blR ?_
            refine K.thR ?_
            refine K.lpR ?_
            refine K.thR ?_
            exact K.fin (V.one V.tmp)
          · skip
            have hx10 : note[x] ≠ 10 := fun e => by rw [e] at ht43; simp at ht43
            refine AW.skip ?_
            refine K.blN ?_
            refine K.thN ?_
            refine AW.region ?_
            refine R.move ?_
            refine R.add64 ?_
            refine R.assign ?_
            refine R.fin [0, 1, 2, 7, 9] ?_
            exact K.lpN (x + 1) ⟨by omega, fun j b hj hjb => (by
              rcases Nat.lt_or_ge j x with h | h
              · exact hx.2 j b h hjb
              · have : j = x := by omega
                subst this
                rw [List.getElem?_eq_getElem hxl] at hjb
                injection hjb with hjb
                rw [← hjb]; exact hx10)⟩ (by omega) (StCut.of_eq rfl)
        · skip
          have hxe : note.length ≤ x := by simp at ht37; omega
          refine AW.exit ?_
          refine K.thE ?_
          refine K.lpE ?_
          refine K.thN ?_
          refine AW.seqR ?_
          have hnl : ∀ b ∈ note, b ≠ 10 := fun b hb => by
            obtain ⟨j, hj, e⟩ := List.mem_iff_getElem.1 hb
            exact hx.2 j b (by simp at ht37; omega) (by rw [List.getElem?_eq_getElem hj, e])
          have hLl := lexM_len hf0
          refine R.move ?_
          refine R.iconv Tryz.underlying3 Tryz.underlying32 ?_
          refine R.move ?_
          refine R.len Tryz.underlying24 ?_
          refine R.iconv Tryz.underlying3 Tryz.underlying32 ?_
          refine R.rem (h0 := by rw [List.length_map, wrap_u64 (by omega) (by omega)]; omega) ?_
          refine R.iconv Tryz.underlying32 Tryz.underlying3 ?_
          obtain ⟨k, hkl, hke⟩ := k_mod at_ (lexM src).1.length hLl.1 (by omega)
          rw [hLm, hke]
          refine R.assign ?_
          refine R.fin [0, 2, 7, 10] ?_
          refine W.seq ?_
          refine AW.seqR ?_
          refine R.move ?_
          refine R.move ?_
          refine R.len Tryz.underlying24 ?_
          refine R.sub64 ?_
          refine R.eql ?_
          refine R.fin [0, 2, 7, 10, 55] ?_
          refine W.cond (fun ht55 => ?_) (fun ht55 => ?_)
          · skip
            refine AW.seqR ?_
            refine R.assign ?_
            refine R.fin [6] ?_
            refine AW.ret ?_
            refine K.thR ?_
            exact K.fin (V.one V.tmp)
          · skip
            have hk1 : k + 1 < (lexM src).1.length := by simp at ht55; omega
            obtain ⟨hpl, hM⟩ := lex_gaps hls.1 hls.2 hf0 hnl hk1
            obtain ⟨p, hp⟩ : ∃ p, (tokAt (lexM src).1 k).at_ = p := ⟨_, rfl⟩
            rw [hp] at hpl hM
            have htp : (src.take p).length ≤ src.length := by rw [List.length_take]; omega
            have hdp : (src.drop p).length ≤ src.length := by rw [List.length_drop]; omega
            have hcall : ∀ Hp, AFun Tryz.prog 15 [strA ((((src.take p ++ [32, 9, 35]) ++ note) ++ [10, 32]) ++ src.drop p)] Hp (.tup [toksA (gapL k (note.length + 5) (lexM src).1), .agg [intA 0, intA 0]]) := fun Hp => by
              have := c15 ((((src.take p ++ [32, 9, 35]) ++ note) ++ [10, 32]) ++ src.drop p) (by simp; omega) Hp
              rw [new_eq, hM] at this
              rw [new_eq]
              exact this
            refine AW.skip ?_
            refine K.thN ?_
            refine AW.seqR ?_
            refine R.move ?_
            refine R.move ?_
            refine R.indexAddr (k) (tokA (tokAt (lexM src).1 k)) Tryz.underlying24 Tryz.sizeOf31 (getTok hkl) ?_
            refine R.fieldAddrRo (off := 2) Tryz.underlying31 Tryz.sizeOf3 ?_
            refine R.loadRo Tryz.isAgg3 ?_
            rw [hp]
            refine R.assign ?_
            refine R.fin [0, 2, 7, 10, 11] ?_
            apply W.drawXO [0, 0, 3, 7, 0, 31, 63, 0, 0, 384, 1023, 2047, 4095, 8191, 8191, 0, 49151, 131071] 15 1 13 (.ptr (oid Hp.length 1) 0) ([AObj.cells 27 [intA (lexM src).2.1, intA (lexM src).2.2], AObj.cells 27 [intA 0, intA 0]]) Tryzmixed
            case hok => kernel_rfl
            case h1 =>
              intro b
              refine D.move ?_
              refine D.move ?_
              refine D.scutH p Tryz.underlying9 (Nat.zero_le _) hpl ?_
              refine D.sadd ?_
              refine D.move ?_
              refine D.sadd ?_
              refine D.sadd ?_
              refine D.move ?_
              refine D.move ?_
              refine D.scutL p Tryz.underlying9 hpl (Nat.le_refl _) ?_
              refine D.sadd ?_
              refine D.call Tryz.call15 (hcall _) ?_
              refine D.move ?_
              refine D.extract ?_
              refine D.extract ?_
              exact D.end rfl rfl
            case h2 =>
              intro b
              refine D.assign ?_
              exact D.end rfl rfl
            case hE =>
              intro f hf
              exact X.alloc Tryz.zeroValue27 rfl rfl (by decide)
            case hx => kernel_rfl
            case hlen => simp
            refine R.storeOwn Tryz.sizeOf27 ?_
            refine R.fin [2, 7, 10, 12, 13] ?_
            refine W.seq ?_
            refine AW.seqR ?_
            refine R.fieldAddrPtr (fo := 0) Tryz.underlying27 Tryz.sizeOf25 ?_
            refine R.loadOwn Tryz.isAgg25 ?_
            refine R.neq ?_
            refine R.move ?_
            refine G.move ?_
            refine G.len Tryz.underlying24 ?_
            refine G.move ?_
            refine G.len Tryz.underlying24 ?_
            refine G.neq ?_
            refine R.pickOr ?_
            refine R.fin [2, 7, 10, 12, 85] ?_
            refine W.cond (fun ht85 => ?_) (fun ht85 => ?_)
            · skip
              exact absurd ht85 (by simp [gapL_len hkl])
            · skip
              refine AW.skip ?_
              refine K.thN ?_
              refine W.seq ?_
              refine AW.seqR ?_
              refine R.assign ?_
              refine R.fin [2, 7, 10, 12, 14] ?_
              refine AW.loopC (α := Nat) (fun x => ⟨137, setF 2 (strA note) (setF 7 (toksA (lexM src).1) (setF 10 (intA (k : Nat)) (setF 12 (toksA (gapL k (note.length + 5) (lexM src).1)) (setF 14 (intA (x : Nat)) (fun _ => .any))))), Hp, [AObj.cells 27 [intA (lexM src).2.1, intA (lexM src).2.2], AObj.cells 27 [intA 0, intA 0]], [], none⟩) (fun x => x ≤ (lexM src).1.length) (fun x => (lexM src).1.length - x) (0) (Nat.zero_le _) (StLe.refl _) rfl (fun x hx => ?_)
              refine W.seq ?_
              refine AW.seqR ?_
              refine R.move ?_
              refine R.move ?_
              refine R.len Tryz.underlying24 ?_
              refine R.lss ?_
              refine R.fin [2, 7, 10, 12, 14, 89] ?_
              refine W.cond (fun ht89 => ?_) (fun ht89 => ?_)
              · skip
                have hxl : x < (lexM src).1.length := by simp at ht89; omega
                have hat := tok_at_le hf0 hxl
                have hxm : x < (gapL k (note.length + 5) (lexM src).1).length := by rw [gapL_len hkl]; exact hxl
                refine AW.skip ?_
                refine K.thN ?_
                refine W.seq ?_
                refine AW.block ?_
                refine AW.seqR ?_
                refine R.assign ?_
                refine R.fin [2, 7, 10, 12, 14, 15] ?_
                refine W.seq ?_
                refine AW.seqR ?_
                refine R.move ?_
                refine R.move ?_
                refine R.geq ?_
                refine R.fin [2, 7, 10, 12, 14, 15, 94] ?_
                refine W.cond (fun ht94 => ?_) (fun ht94 => ?_)
                · skip
                  have hkx : k ≤ x := by simp at ht94; omega
                  have hmx : tokAt (gapL k (note.length + 5) (lexM src).1) x = shiftTok (note.length + 5) (tokAt (lexM src).1 x) := by rw [gapL_at hkl hxl, if_neg (by omega)]
                  refine AW.region ?_
                  refine R.move ?_
                  refine R.slen Tryz.underlying9 ?_
                  refine R.add64 ?_
                  refine R.assign ?_
                  refine R.fin [2, 7, 10, 12, 14, 15] ?_
                  refine K.thN ?_
                  refine W.draw [0, 0, 3, 7, 15, 0, 0, 96, 224, 480, 1023, 2047, 4095, 4095, 16383, 32767, 65535, 4095, 4095, 397311, 921599, 1970175, 4194303, 8388607, 16777215, 33554431, 33554431, 134217727, 268435455, 536870911, 33554431, 33554431, 3254779903, 7549747199, 16139681791, 33554431, 67679289343, 137438953471, 274877906943] 37 Tryzmixed (by kernel_rfl) ?_
                  refine D.move ?_
                  refine D.move ?_
                  refine D.indexAddr (x) (tokA (tokAt (gapL k (note.length + 5) (lexM src).1) x)) Tryz.underlying24 Tryz.sizeOf31 (getTok hxm) ?_
                  refine D.fieldAddrRo (off := 0) Tryz.underlying31 Tryz.sizeOf3 ?_
                  refine D.loadRo Tryz.isAgg3 ?_
                  refine D.move ?_
                  refine D.move ?_
                  refine D.indexAddr (x) (tokA (tokAt (lexM src).1 x)) Tryz.underlying24 Tryz.sizeOf31 (getTok hxl) ?_
                  refine D.fieldAddrRo (off := 0) Tryz.underlying31 Tryz.sizeOf3 ?_
                  refine D.loadRo Tryz.isAgg3 ?_
                  refine D.neq ?_
                  refine D.move ?_
                  refine H.move ?_
                  refine H.move ?_
                  refine H.indexAddr (x) (tokA (tokAt (gapL k (note.length + 5) (lexM src).1) x)) Tryz.underlying24 Tryz.sizeOf31 (fun _ => getTok hxm) ?_
                  refine H.fieldAddrRo (off := 1) Tryz.underlying31 Tryz.sizeOf9 ?_
                  refine H.loadRo Tryz.isAgg9 ?_
                  refine H.move ?_
                  refine H.move ?_
                  refine H.indexAddr (x) (tokA (tokAt (lexM src).1 x)) Tryz.underlying24 Tryz.sizeOf31 (fun _ => getTok hxl) ?_
                  refine H.fieldAddrRo (off := 1) Tryz.underlying31 Tryz.sizeOf9 ?_
                  refine H.loadRo Tryz.isAgg9 ?_
                  refine H.sneq ?_
                  refine D.pickOr ?_
                  refine D.move ?_
                  refine H.move ?_
                  refine H.move ?_
                  refine H.indexAddr (x) (tokA (tokAt (gapL k (note.length + 5) (lexM src).1) x)) Tryz.underlying24 Tryz.sizeOf31 (fun _ => getTok hxm) ?_
                  refine H.fieldAddrRo (off := 2) Tryz.underlying31 Tryz.sizeOf3 ?_
                  refine H.loadRo Tryz.isAgg3 ?_
                  refine H.move ?_
                  refine H.move ?_
                  refine H.indexAddr (x) (tokA (tokAt (lexM src).1 x)) Tryz.underlying24 Tryz.sizeOf31 (fun _ => getTok hxl) ?_
                  refine H.fieldAddrRo (off := 2) Tryz.underlying31 Tryz.sizeOf3 ?_
                  refine H.loadRo Tryz.isAgg3 ?_
                  refine H.move ?_
                  refine H.add64 ?_
                  refine D.tail ?_
                  refine G.neq ?_
                  refine R.pickOr ?_
                  refine R.fin [2, 7, 10, 12, 14, 136] ?_
                  refine W.cond (fun ht136 => ?_) (fun ht136 => ?_)
                  · skip
                    first | exact absurd ht136 (by rw [hmx, gap_far0]; simp) | exact absurd ht136 (by rw [hmx, gap_far (by simp)]; simp)
                  · skip
                    refine AW.skip ?_
                    refine K.blN ?_
                    refine K.thN ?_
                    refine AW.region ?_
                    refine R.move ?_
                    refine R.add64 ?_
                    refine R.assign ?_
                    refine R.fin [2, 7, 10, 12, 14] ?_
                    exact K.lpN (x + 1) hxl (by omega) (StCut.of_eq rfl)
                · skip
                  have hkx : x < k := by simp at ht94; omega
                  have hmx : tokAt (gapL k (note.length + 5) (lexM src).1) x = tokAt (lexM src).1 x := by rw [gapL_at hkl hxl, if_pos hkx]
                  refine AW.skip ?_
                  refine K.thN ?_
                  refine W.draw [0, 0, 3, 7, 15, 0, 0, 96, 224, 480, 1023, 2047, 4095, 4095, 16383, 32767, 65535, 4095, 4095, 397311, 921599, 1970175, 4194303, 8388607, 16777215, 33554431, 33554431, 134217727, 268435455, 536870911, 33554431, 33554431, 3254779903, 7549747199, 16139681791, 33554431, 67679289343, 137438953471, 274877906943] 37 Tryzmixed (by kernel_rfl) ?_
                  refine D.move ?_
                  refine D.move ?_
                  refine D.indexAddr (x) (tokA (tokAt (gapL k (note.length + 5) (lexM src).1) x)) Tryz.underlying24 Tryz.sizeOf31 (getTok hxm) ?_
                  refine D.fieldAddrRo (off := 0) Tryz.underlying31 Tryz.sizeOf3 ?_
                  refine D.loadRo Tryz.isAgg3 ?_
                  refine D.move ?_
                  refine D.move ?_
                  refine D.indexAddr (x) (tokA (tokAt (lexM src).1 x)) Tryz.underlying24 Tryz.sizeOf31 (getTok hxl) ?_
                  refine D.fieldAddrRo (off := 0) Tryz.underlying31 Tryz.sizeOf3 ?_
                  refine D.loadRo Tryz.isAgg3 ?_
                  refine D.neq ?_
                  refine D.move ?_
                  refine H.move ?_
                  refine H.move ?_
                  refine H.indexAddr (x) (tokA (tokAt (gapL k (note.length + 5) (lexM src).1) x)) Tryz.underlying24 Tryz.sizeOf31 (fun _ => getTok hxm) ?_
                  refine H.fieldAddrRo (off := 1) Tryz.underlying31 Tryz.sizeOf9 ?_
                  refine H.loadRo Tryz.isAgg9 ?_
                  refine H.move ?_
                  refine H.move ?_
                  refine H.indexAddr (x) (tokA (tokAt (lexM src).1 x)) Tryz.underlying24 Tryz.sizeOf31 (fun _ => getTok hxl) ?_
                  refine H.fieldAddrRo (off := 1) Tryz.underlying31 Tryz.sizeOf9 ?_
                  refine H.loadRo Tryz.isAgg9 ?_
                  refine H.sneq ?_
                  refine D.pickOr ?_
                  refine D.move ?_
                  refine H.move ?_
                  refine H.move ?_
                  refine H.indexAddr (x) (tokA (tokAt (gapL k (note.length + 5) (lexM src).1) x)) Tryz.underlying24 Tryz.sizeOf31 (fun _ => getTok hxm) ?_
                  refine H.fieldAddrRo (off := 2) Tryz.underlying31 Tryz.sizeOf3 ?_
                  refine H.loadRo Tryz.isAgg3 ?_
                  refine H.move ?_
                  refine H.move ?_
                  refine H.indexAddr (x) (tokA (tokAt (lexM src).1 x)) Tryz.underlying24 Tryz.sizeOf31 (fun _ => getTok hxl) ?_
                  refine H.fieldAddrRo (off := 2) Tryz.underlying31 Tryz.sizeOf3 ?_
                  refine H.loadRo Tryz.isAgg3 ?_
                  refine H.move ?_
                  refine H.add64 ?_
                  refine D.tail ?_
                  refine G.neq ?_
                  refine R.pickOr ?_
                  refine R.fin [2, 7, 10, 12, 14, 136] ?_
                  refine W.cond (fun ht136 => ?_) (fun ht136 => ?_)
                  · skip
                    first | exact absurd ht136 (by rw [hmx, gap_far0]; simp) | exact absurd ht136 (by rw [hmx, gap_far (by simp)]; simp)
                  · skip
                    refine AW.skip ?_
                    refine K.blN ?_
                    refine K.thN ?_
                    refine AW.region ?_
                    refine R.move ?_
                    refine R.add64 ?_
                    refine R.assign ?_
                    refine R.fin [2, 7, 10, 12, 14] ?_
                    exact K.lpN (x + 1) hxl (by omega) (StCut.of_eq rfl)
              · skip
                refine AW.exit ?_
                refine K.thE ?_
                refine K.lpE ?_
                refine K.thN ?_
                refine AW.seqR ?_
                refine R.assign ?_
                refine R.fin [6] ?_
                refine AW.ret ?_
                exact K.fin (V.one V.tmp)

end Go.SX.Nb
namespace Go.SX.Nb
open Go Go.SX Go.Proofs
variable [ErrAt]
set_option maxRecDepth 4000
theorem dblM_ge : ∀ t : Str, t.length ≤ (dblM t).length
  | [] => Nat.le_refl _
  | c :: r => by
    have := dblM_ge r
    rw [dblM_cons, List.length_append, List.length_cons]
    have h : 1 ≤ (dblC c).length := by unfold dblC; split <;> simp
    omega
theorem text_le (t : Tok) : t.text.length ≤ (spell t).length := by
  unfold spell
  split
  · have := dblM_ge t.text
    simp only [List.length_append, List.length_cons, List.length_nil]
    omega
  · exact Nat.le_refl _
theorem joinT_take (l : List Tok) (x : Nat) : (joinT (l.take x)).length ≤ (joinT l).length := by
  unfold joinT
  conv => rhs; rw [← List.take_append_drop x l, List.flatMap_append, List.length_append]
  omega
theorem joinT_succ {l : List Tok} {x : Nat} (h : x < l.length) : joinT (l.take (x + 1)) = joinT (l.take x) ++ spell (tokAt l x) ++ [32] := by
  unfold joinT tokAt
  rw [List.take_succ, List.getElem?_eq_getElem h, List.flatMap_append, List.getD_eq_getElem?_getD, List.getElem?_eq_getElem h]
  simp
theorem lex_again {s : Str} (hs : s.length ≤ 2000) (hf : (lexM s).2.1 = 0) : (joinT ((lexM s).1.take ((lexM s).1.length - 1))).length ≤ 4000 ∧ ∃ M, lexM (joinT ((lexM s).1.take ((lexM s).1.length - 1))) = (M, 0, 0) ∧ M.length = (lexM s).1.length ∧ ∀ i, i < (lexM s).1.length → (tokAt M i).kind = (tokAt (lexM s).1 i).kind ∧ (tokAt M i).text = (tokAt (lexM s).1 i).text := by
  obtain ⟨_, hok, hl⟩ := lexM_ok hf
  rw [hl]
  simp only
  have hT : ((itemsT s).map (·.1) ++ [(⟨0, [], s.length⟩ : Tok)]).take (((itemsT s).map (·.1) ++ [(⟨0, [], s.length⟩ : Tok)]).length - 1) = (itemsT s).map (·.1) := by
    rw [List.length_append, List.length_singleton, Nat.add_sub_cancel, List.take_left]
  rw [hT]
  have hG := itemsT_G s
  obtain ⟨h1, h2⟩ := lex_twice (s.length + 1) 0 s (by omega) (by rw [← hG]; exact hok)
  rw [← hG] at h1 h2
  refine ⟨by omega, ?_⟩
  obtain ⟨S, hS⟩ : ∃ S, joinT ((itemsT s).map (·.1)) = S := ⟨_, rfl⟩
  rw [hS] at h1 h2 ⊢
  have h3 := h2 (S.length + 1) 0 (by omega)
  rw [← itemsT_G] at h3
  have hlen : (itemsT S).length = (itemsT s).length := by have := congrArg List.length h3; simpa using this
  have hat : ∀ i (h : i < (itemsT s).length), sameT ((itemsT S)[i]'(by omega)) = sameT (itemsT s)[i] := fun i h => by
    have := congrArg (·[i]?) h3
    simp only [List.getElem?_map, List.getElem?_eq_getElem h, List.getElem?_eq_getElem (show i < (itemsT S).length by omega), Option.map_some] at this
    exact Option.some.inj this
  refine ⟨_, lexM_of (by omega) (fun it hit => ?_), by simp [hlen], fun i hi => ?_⟩
  · obtain ⟨i, hi, rfl⟩ := List.mem_iff_getElem.1 hit
    have := congrArg (·.2.2) (hat i (by omega))
    have e : ((itemsT S)[i]).2 = ((itemsT s)[i]'(by omega)).2 := this
    rw [e]
    exact hok _ (List.getElem_mem _)
  · simp only [List.length_append, List.length_map, List.length_singleton] at hi
    unfold tokAt
    rw [List.getD_eq_getElem?_getD, List.getD_eq_getElem?_getD]
    rcases Nat.lt_or_ge i (itemsT s).length with hlt | hge
    · rw [List.getElem?_append_left (by simp; omega), List.getElem?_append_left (by simpa using hlt), List.getElem?_map, List.getElem?_map, List.getElem?_eq_getElem hlt, List.getElem?_eq_getElem (show i < (itemsT S).length by omega)]
      have := hat i hlt
      exact ⟨congrArg (·.1) this, congrArg (·.2.1) this⟩
    · have e : i = (itemsT s).length := by omega
      subst e
      rw [List.getElem?_append_right (by simp [hlen]), List.getElem?_append_right (by simp)]
      simp [hlen]
theorem lex_bad {s : Str} (h : (lexM s).2.1 ≠ 0) : (lexM s).1 = [] := by
  unfold lexM at h ⊢
  split
  · rfl
  · rename_i hl
    rw [if_neg hl] at h
    split
    · rfl
    · rename_i hf
      rw [hf] at h
      exact absurd rfl h
theorem c5 (src : Str) (Hp : List AObj) : AFun Tryz.prog 5 [strA src] Hp (boolA true) := by
  refine ACall.body [.tmp 2] [0] Tryz.func5 Tryz.ntmps5 (fun d => ?_)
  refine AW.seqR ?_
  refine R.assign ?_
  refine R.fin [0] ?_
  refine W.seq ?_
  refine AW.seqR ?_
  refine R.call Tryz.call13 (c13 _) ?_
  refine R.not ?_
  refine R.fin [0, 12] ?_
  refine W.cond (fun ht12 => ?_) (fun ht12 => ?_)
  · skip
    cases ht12
  · skip
    refine AW.skip ?_
    refine K.thN ?_
    refine W.seq ?_
    refine AW.seqR ?_
    refine R.move ?_
    refine R.slen Tryz.underlying9 ?_
    refine R.gtr ?_
    refine R.fin [0, 15] ?_
    refine W.cond (fun ht15 => ?_) (fun ht15 => ?_)
    · skip
      refine AW.seqR ?_
      refine R.assign ?_
      refine R.fin [2] ?_
      refine AW.ret ?_
      refine K.thR ?_
      exact K.fin (V.one V.tmp) ⟨by first | rfl | (rw [hbad]; rfl), rfl⟩
    · skip
      have hls : src.length ≤ 2000 := by simp at ht15; omega
      refine AW.skip ?_
      refine K.thN ?_
      refine AW.seqR ?_
      refine R.move ?_
      refine R.call Tryz.call15 (c15 src (by omega) _) ?_
      refine R.move ?_
      refine R.extract ?_
      refine R.extract ?_
      refine R.alloc Tryz.zeroValue27 ?_
      refine R.assign ?_
      refine R.storeOwn Tryz.sizeOf27 ?_
      refine R.fin [3, 4] ?_
      refine W.seq ?_
      refine AW.seqR ?_
      refine R.fieldAddrPtr (fo := 0) Tryz.underlying27 Tryz.sizeOf25 ?_
      refine R.loadOwn Tryz.isAgg25 ?_
      refine R.neq ?_
      refine R.fin [3, 23] ?_
      refine W.cond (fun ht23 => ?_) (fun ht23 => ?_)
      · skip
        have hbad := lex_bad (s := src) (by simpa using ht23)
        refine AW.seqR ?_
        refine R.move ?_
        refine R.len Tryz.underlying24 ?_
        refine R.eql ?_
        refine R.assign ?_
        refine R.fin [2] ?_
        refine AW.ret ?_
        refine K.thR ?_
        exact K.fin (V.one V.tmp) ⟨by first | rfl | (rw [hbad]; rfl), rfl⟩
      · skip
        have hf0 : (lexM src).2.1 = 0 := by simpa using ht23
        have hLm : (List.map tokA (lexM src).1).length = (lexM src).1.length := List.length_map _
        have hLl := lexM_len hf0
        obtain ⟨hj4, M, hM, hMl, hMt⟩ := lex_again hls hf0
        refine AW.skip ?_
        refine K.thN ?_
        refine AW.seqR ?_
        refine R.assign ?_
        refine R.fin [3, 5] ?_
        refine W.seq ?_
        refine AW.seqR ?_
        refine R.assign ?_
        refine R.fin [3, 5, 6] ?_
        refine AW.loopC (α := Nat) (fun x => ⟨97, setF 3 (toksA (lexM src).1) (setF 5 (strA (joinT ((lexM src).1.take x))) (setF 6 (intA (x : Nat)) (fun _ => .any))), Hp, [AObj.cells 27 [intA (lexM src).2.1, intA (lexM src).2.2]], [], none⟩) (fun x => x ≤ (lexM src).1.length - 1) (fun x => (lexM src).1.length - x) (0) (Nat.zero_le _) (StLe.refl _) rfl (fun x hx => ?_)
        refine W.seq ?_
        refine AW.seqR ?_
        refine R.move ?_
        refine R.move ?_
        refine R.len Tryz.underlying24 ?_
        refine R.sub64 ?_
        refine R.lss ?_
        refine R.fin [3, 5, 6, 31] ?_
        refine W.cond (fun ht31 => ?_) (fun ht31 => ?_)
        · skip
          have hxl : x < (lexM src).1.length := by simp at ht31; omega
          have hx1 : x + 1 ≤ (lexM src).1.length - 1 := by simp at ht31; omega
          have hjs := joinT_succ hxl
          have hj5 : (joinT ((lexM src).1.take (x + 1))).length ≤ 4000 := by
            have e : (lexM src).1.take (x + 1) = ((lexM src).1.take ((lexM src).1.length - 1)).take (x + 1) := by rw [List.take_take, Nat.min_eq_left hx1]
            rw [e]
            exact Nat.le_trans (joinT_take _ _) hj4
          rw [hjs, List.length_append, List.length_append] at hj5
          have htx : (tokAt (lexM src).1 x).text.length ≤ 1048576 := by have := text_le (tokAt (lexM src).1 x); omega
          have htl := text_le (tokAt (lexM src).1 x)
          refine AW.skip ?_
          refine K.thN ?_
          refine W.seq ?_
          refine AW.block ?_
          refine AW.seqR ?_
          refine R.move ?_
          refine R.move ?_
          refine R.indexAddr (x) (tokA (tokAt (lexM src).1 x)) Tryz.underlying24 Tryz.sizeOf31 (getTok hxl) ?_
          refine R.fieldAddrRo (off := 1) Tryz.underlying31 Tryz.sizeOf9 ?_
          refine R.loadRo Tryz.isAgg9 ?_
          refine R.assign ?_
          refine R.fin [3, 5, 6, 7] ?_
          refine W.seq ?_
          refine AW.seqR ?_
          refine R.move ?_
          refine R.move ?_
          refine R.indexAddr (x) (tokA (tokAt (lexM src).1 x)) Tryz.underlying24 Tryz.sizeOf31 (getTok hxl) ?_
          refine R.fieldAddrRo (off := 0) Tryz.underlying31 Tryz.sizeOf3 ?_
          refine R.loadRo Tryz.isAgg3 ?_
          refine R.eql ?_
          refine R.fin [3, 5, 6, 7, 44] ?_
          refine W.cond (fun ht44 => ?_) (fun ht44 => ?_)
          · skip
            have hk4 : (tokAt (lexM src).1 x).kind = 4 := by simpa using ht44
            have hsp : spell (tokAt (lexM src).1 x) = [39] ++ dblM (tokAt (lexM src).1 x).text ++ [39] := by unfold spell; rw [if_pos hk4]
            rw [hsp] at hjs hj5
            simp only [List.length_append, List.length_cons, List.length_nil] at hj5
            refine AW.region ?_
            refine R.move ?_
            refine R.build (places := #[(0, 1), (1, 1), (2, 1)]) Tryz.underlying36 (fun w => by simp) Tryz.zeroValue36 ?_
            refine R.call Tryz.call19 (c19 (tokAt (lexM src).1 x).text htx _) ?_
            refine R.assign ?_
            refine R.fin [3, 5, 6, 7] ?_
            refine K.thN ?_
            refine AW.region ?_
            refine R.move ?_
            refine R.move ?_
            refine R.sadd (hl := by first | (simp only [List.length_append, List.length_cons, List.length_nil]; omega) | omega) ?_
            refine R.sadd ?_
            refine R.assign ?_
            refine R.fin [3, 5, 6] ?_
            refine K.blN ?_
            refine K.thN ?_
            refine AW.region ?_
            refine R.move ?_
            refine R.add64 ?_
            refine R.assign ?_
            refine R.fin [3, 5, 6] ?_
            exact K.lpN (x + 1) hx1 (by omega) (StCut.of_eq (by rw [hjs]; rfl))
          · skip
            have hk4 : (tokAt (lexM src).1 x).kind ≠ 4 := by simpa using ht44
            have hsp : spell (tokAt (lexM src).1 x) = (tokAt (lexM src).1 x).text := by unfold spell; rw [if_neg hk4]
            rw [hsp] at hjs hj5
            refine AW.skip ?_
            refine K.thN ?_
            refine AW.region ?_
            refine R.move ?_
            refine R.move ?_
            refine R.sadd (hl := by first | (simp only [List.length_append, List.length_cons, List.length_nil]; omega) | omega) ?_
            refine R.sadd ?_
            refine R.assign ?_
            refine R.fin [3, 5, 6] ?_
            refine K.blN ?_
            refine K.thN ?_
            refine AW.region ?_
            refine R.move ?_
            refine R.add64 ?_
            refine R.assign ?_
            refine R.fin [3, 5, 6] ?_
            exact K.lpN (x + 1) hx1 (by omega) (StCut.of_eq (by rw [hjs]; rfl))
        · skip
          have hxe : x = (lexM src).1.length - 1 := by simp at ht31; omega
          have hcall : ∀ Hp, AFun Tryz.prog 15 [strA (joinT ((lexM src).1.take x))] Hp (.tup [toksA M, .agg [intA 0, intA 0]]) := fun Hp => by
            have := c15 (joinT ((lexM src).1.take ((lexM src).1.length - 1))) (by omega) Hp
            rw [hM] at this
            rw [hxe]
            exact this
          refine AW.exit ?_
          refine K.thE ?_
          refine K.lpE ?_
          refine K.thN ?_
          refine AW.seqR ?_
          refine R.move ?_
          refine R.call Tryz.call15 (hcall _) ?_
          refine R.move ?_
          refine R.extract ?_
          refine R.extract ?_
          refine R.alloc Tryz.zeroValue27 ?_
          refine R.assign ?_
          refine R.storeOwn Tryz.sizeOf27 ?_
          refine R.fin [3, 8, 9] ?_
          refine W.seq ?_
          refine AW.seqR ?_
          refine R.fieldAddrPtr (fo := 0) Tryz.underlying27 Tryz.sizeOf25 ?_
          refine R.loadOwn Tryz.isAgg25 ?_
          refine R.neq ?_
          refine R.move ?_
          refine G.move ?_
          refine G.len Tryz.underlying24 ?_
          refine G.move ?_
          refine G.len Tryz.underlying24 ?_
          refine G.neq ?_
          refine R.pickOr ?_
          refine R.fin [3, 8, 66] ?_
          refine W.cond (fun ht66 => ?_) (fun ht66 => ?_)
          · skip
            exact absurd ht66 (by simp [hMl])
          · skip
            refine AW.skip ?_
            refine K.thN ?_
            refine W.seq ?_
            refine AW.seqR ?_
            refine R.assign ?_
            refine R.fin [3, 8, 10] ?_
            refine AW.loopC (α := Nat) (fun x => ⟨97, setF 3 (toksA (lexM src).1) (setF 8 (toksA M) (setF 10 (intA (x : Nat)) (fun _ => .any))), Hp, [AObj.cells 27 [intA (lexM src).2.1, intA (lexM src).2.2], AObj.cells 27 [intA 0, intA 0]], [], none⟩) (fun x => x ≤ (lexM src).1.length) (fun x => (lexM src).1.length - x) (0) (Nat.zero_le _) (StLe.refl _) rfl (fun x hx => ?_)
            refine W.seq ?_
            refine AW.seqR ?_
            refine R.move ?_
            refine R.move ?_
            refine R.len Tryz.underlying24 ?_
            refine R.lss ?_
            refine R.fin [3, 8, 10, 70] ?_
            refine W.cond (fun ht70 => ?_) (fun ht70 => ?_)
            · skip
              have hxl : x < (lexM src).1.length := by simp at ht70; omega
              have hxm : x < M.length := by omega
              obtain ⟨hmk, hmt⟩ := hMt x hxl
              refine AW.skip ?_
              refine K.thN ?_
              refine W.seq ?_
              refine AW.block ?_
              refine W.draw [0, 0, 3, 7, 15, 0, 0, 96, 224, 480, 1023, 2047, 4095, 4095, 16383, 32767, 65535, 4095, 4095, 397311, 921599, 1970175, 4194303, 8388607] 22 Tryzmixed (by kernel_rfl) ?_
              refine D.move ?_
              refine D.move ?_
              refine D.indexAddr (x) (tokA (tokAt M x)) Tryz.underlying24 Tryz.sizeOf31 (getTok hxm) ?_
              refine D.fieldAddrRo (off := 0) Tryz.underlying31 Tryz.sizeOf3 ?_
              refine D.loadRo Tryz.isAgg3 ?_
              refine D.move ?_
              refine D.move ?_
              refine D.indexAddr (x) (tokA (tokAt (lexM src).1 x)) Tryz.underlying24 Tryz.sizeOf31 (getTok hxl) ?_
              refine D.fieldAddrRo (off := 0) Tryz.underlying31 Tryz.sizeOf3 ?_
              refine D.loadRo Tryz.isAgg3 ?_
              refine D.neq ?_
              refine D.move ?_
              refine H.move ?_
              refine H.move ?_
              refine H.indexAddr (x) (tokA (tokAt M x)) Tryz.underlying24 Tryz.sizeOf31 (fun _ => getTok hxm) ?_
              refine H.fieldAddrRo (off := 1) Tryz.underlying31 Tryz.sizeOf9 ?_
              refine H.loadRo Tryz.isAgg9 ?_
              refine H.move ?_
              refine H.move ?_
              refine H.indexAddr (x) (tokA (tokAt (lexM src).1 x)) Tryz.underlying24 Tryz.sizeOf31 (fun _ => getTok hxl) ?_
              refine H.fieldAddrRo (off := 1) Tryz.underlying31 Tryz.sizeOf9 ?_
              refine H.loadRo Tryz.isAgg9 ?_
              refine D.tail ?_
              refine G.sneq ?_
              refine R.pickOr ?_
              refine R.fin [3, 8, 10, 96] ?_
              refine W.cond (fun ht96 => ?_) (fun ht96 => ?_)
              · skip
                exact absurd ht96 (by rw [hmk, hmt]; simp)
              · skip
                refine AW.skip ?_
                refine K.blN ?_
                refine K.thN ?_
                refine AW.region ?_
                refine R.move ?_
                refine R.add64 ?_
                refine R.assign ?_
                refine R.fin [3, 8, 10] ?_
                exact K.lpN (x + 1) hxl (by omega) (StCut.of_eq rfl)
            · skip
              refine AW.exit ?_
              refine K.thE ?_
              refine K.lpE ?_
              refine K.thN ?_
              refine AW.seqR ?_
              refine R.assign ?_
              refine R.fin [2] ?_
              refine AW.ret ?_
              exact K.fin (V.one V.tmp) ⟨by first | rfl | (rw [hbad]; rfl), rfl⟩

end Go.SX.Nb
namespace Go.SX.Nb
open Go Go.SX Go.Proofs
variable [ErrAt]
set_option maxRecDepth 4000
theorem low_map {α : Type} {n : Nat} {f : α → AV} {l : List α} (h : ∀ a, Low n (f a)) : ∀ y ∈ l.map f, Low n y := by
  intro y hy
  obtain ⟨a, _, rfl⟩ := List.mem_map.1 hy
  exact h a
theorem low_strs1 {n k : Nat} {o : Bool} {l : List Str} {z : Str} : Low n (.slice o k (l.map strA ++ [strA z])) := by
  refine .slice _ _ _ (fun y hy => ?_)
  rcases List.mem_append.1 hy with hy | hy
  · obtain ⟨a, _, rfl⟩ := List.mem_map.1 hy
    intro z hz
    rw [List.mem_singleton.1 (show z ∈ [strA a] from hz)]
    exact .v _
  · rw [List.mem_singleton.1 hy]
    intro z' hz
    rw [List.mem_singleton.1 (show z' ∈ [strA z] from hz)]
    exact .v _
theorem low_rdr {n : Nat} {l : List Tok} {acc : List Col} : ObjLow n (rdr l acc) := by
  show ∀ y ∈ [AV.slice false 3 (l.map tokA), AV.slice true 2 (acc.map colA)], Low n y
  intro y hy
  simp only [List.mem_cons, List.not_mem_nil, or_false] at hy
  rcases hy with rfl | rfl
  · simp [or_imp, forall_and]
  · simp [or_imp, forall_and]
theorem low_ints {n : Nat} {t : TypeId} {a b : Int} : ObjLow n (.cells t [intA a, intA b]) := by
  show ∀ y ∈ [intA a, intA b], Low n y
  simp
theorem mem3 {α : Type} {P : α → Prop} {a b c : α} (h1 : P a) (h2 : P b) (h3 : P c) : ∀ x ∈ [a, b, c], P x := by
  intro x hx
  simp only [List.mem_cons, List.not_mem_nil, or_false] at hx
  rcases hx with rfl | rfl | rfl
  · exact h1
  · exact h2
  · exact h3
def schPrintM (c : List Col) : Str := if rightP c then colsT c else []
theorem c22 (c : List Col) (hc : OkCols c) (Hp : List AObj) : AFun Tryz.prog 22 [colsA c] Hp (strA (schPrintM c)) := by
  refine ACall.body [.tmp 2] [0] Tryz.func22 Tryz.ntmps22 (fun d => ?_)
  refine AW.seqR ?_
  refine R.assign ?_
  refine R.fin [0] ?_
  refine W.seq ?_
  refine AW.seqR ?_
  refine R.move ?_
  refine R.call Tryz.call23 (c23 c hc _) ?_
  refine R.not ?_
  refine R.fin [0, 8] ?_
  refine W.cond (fun ht8 => ?_) (fun ht8 => ?_)
  · skip
    have hr : rightP c = false := by simpa using ht8
    refine AW.seqR ?_
    refine R.assign ?_
    refine R.fin [2] ?_
    refine AW.ret ?_
    refine K.thR ?_
    exact K.fin (V.one V.tmp) ⟨by rw [schPrintM, if_neg (by rw [hr]; simp)], rfl⟩
  · skip
    have hr : rightP c = true := by simpa using ht8
    have h12 : c.length ≤ 12 := by unfold rightP at hr; simp at hr; omega
    refine AW.skip ?_
    refine K.thN ?_
    refine AW.seqR ?_
    refine R.assign ?_
    refine R.fin [0, 3] ?_
    refine W.seq ?_
    refine AW.seqR ?_
    refine R.nilSl 3 1 ?_
    refine R.move ?_
    refine R.len Tryz.underlying37 ?_
    refine R.move ?_
    refine R.fin [3, 9, 10, 11] ?_
    refine AW.loopC (α := Nat) (fun x => ⟨28, setF 3 (.slice true 1 (((c.take x).map colT).map strA)) (setF 9 (colsA c) (setF 10 (intA c.length) (setF 11 (intA (x : Nat)) (fun _ => .any)))), Hp, [], [], none⟩) (fun x => x ≤ c.length) (fun x => c.length - x) (0) (Nat.zero_le _) (StLe.of_eq (by simp)) rfl (fun x hx => ?_)
    refine AW.seqR ?_
    refine R.lss ?_
    refine R.fin [3, 9, 10, 11, 12] ?_
    refine W.condX (fun ht12 => ?_) (fun ht12 => ?_)
    · skip
      have hlt : x < c.length := by simpa using ht12
      have hcl := hc.len
      have hb2 := hc.2 c[x] (List.getElem_mem hlt)
      have hb3 := kindName_len c[x].kind
      have htk : c.take (x + 1) = c.take x ++ [c[x]] := by rw [List.take_succ, List.getElem?_eq_getElem hlt]; rfl
      refine W.seq ?_
      refine AW.block ?_
      refine AW.seqR ?_
      refine R.indexAddr (x) (colA c[x]) Tryz.underlying37 Tryz.sizeOf65 (getMap hlt) ?_
      refine R.loadRoN Tryz.isAgg65 Tryz.sizeOf65 ?_
      refine R.alloc Tryz.zeroValue65 ?_
      refine R.storeOwn Tryz.sizeOf65 ?_
      refine R.fin [3, 5, 9, 10, 11] ?_
      refine W.drawY0 [0, 0, 2, 6, 0, 16, 48, 126, 254, 511, 1023] [.s [3, 15] false 0 0, .q 8 0 0] 0 (fun _ => Hp) (fun _ => [.cells 65 [strA c[x].name, intA c[x].kind]]) Tryzmixed (by kernel_rfl) (by kernel_rfl) rfl rfl (fun _ => rfl) ?_
      refine Y.moveT ?_
      apply Y.q
      case h1 =>
        intro b hb1 hb2
        refine D.fieldAddrPtr (fo := 0) Tryz.underlying65 Tryz.sizeOf9 ?_
        refine D.loadOwn Tryz.isAgg9 ?_
        refine D.sadd ?_
        refine D.fieldAddrPtr (fo := 1) Tryz.underlying65 Tryz.sizeOf3 ?_
        refine D.loadOwn Tryz.isAgg3 ?_
        refine D.call Tryz.call69 (c69 _ _) ?_
        refine D.sadd ?_
        refine D.buildSlice Tryz.underlying50 Tryz.sizeOf9 Tryz.zeroValue9 ?_
        exact D.end rfl rfl
      case hlh => rfl
      refine Y.tail (N := 0)  ?_
      refine R.append Tryz.underlying50 Tryz.type9 ?_ ?_ ?_
      · have := hc.len; simp [Tryz.t9]; omega
      · have := hc.len; simp [Tryz.t9]; omega
      refine R.assignT ?_
      refine R.fin [3, 9, 10, 11] ?_
      refine K.blN ?_
      refine K.thN ?_
      refine AW.region ?_
      refine R.add64 ?_
      refine R.move ?_
      refine R.fin [3, 9, 10, 11] ?_
      refine K.lpN (x + 1) hlt (by omega) ?_
      simp only [htk, List.map_append, List.map_cons, List.map_nil, colT]
      exact StCut.take (own := []) (fun _ => .refl _) (by repeat (first | exact lowF_any | refine lowF_set (by first | (simp [or_imp, forall_and]; done) | exact low_strs1) ?_)) (by simp) (by simp)
    · skip
      have hx12 : x ≤ 12 := by omega
      have hxe : c.take x = c := List.take_of_length_le (by simp at ht12; omega)
      refine K.lpE ?_
      refine K.thN ?_
      refine AW.seqR ?_
      refine R.move ?_
      refine R.call Tryz.call70 (c70 ((c.take x).map colT) [44, 32] (by have := hc.len; simp; omega) (Nat.le_trans (colsT_len hc x) (by omega)) _) ?_
      refine R.assign ?_
      refine R.fin [2] ?_
      refine AW.ret ?_
      exact K.fin (V.one V.tmp) ⟨by rw [schPrintM, if_pos hr, hxe]; rfl, rfl⟩

/-- Words with an end. -/
structure TokEnd (l : List Tok) : Prop where
  split : ∃ L z, l = L ++ [z] ∧ z.kind = 0 ∧ ∀ t ∈ L, t.kind ≠ 0
  texts : ∀ t ∈ l, t.text.length ≤ 1048576
theorem TokEnd.pos {l : List Tok} (h : TokEnd l) : 1 ≤ l.length := by
  obtain ⟨L, z, rfl, _, _⟩ := h.split
  simp
theorem TokEnd.next {l : List Tok} (h : TokEnd l) (h0 : (tokAt l 0).kind ≠ 0) : TokEnd (l.drop 1) ∧ 2 ≤ l.length := by
  obtain ⟨L, z, rfl, hz, hL⟩ := h.split
  cases L with
  | nil => exact absurd hz h0
  | cons t L => exact ⟨⟨⟨L, z, rfl, hz, fun u hu => hL u (by simp [hu])⟩, fun u hu => h.texts u (by simp at hu ⊢; exact .inr hu)⟩, by simp⟩
theorem tokAt_drop (l : List Tok) (k i : Nat) : tokAt (l.drop k) i = tokAt l (k + i) := by
  unfold tokAt
  rw [List.getD_eq_getElem?_getD, List.getElem?_drop, List.getD_eq_getElem?_getD]
theorem TokEnd.text {l : List Tok} (h : TokEnd l) (i : Nat) : (tokAt l i).text.length ≤ 1048576 := by
  unfold tokAt
  rcases Nat.lt_or_ge i l.length with hi | hi
  · rw [List.getD_eq_getElem?_getD, List.getElem?_eq_getElem hi]
    exact h.texts _ (List.getElem_mem hi)
  · rw [List.getD_eq_getElem?_getD, List.getElem?_eq_none hi]
    exact Nat.zero_le _
def nextR (l : List Tok) (acc : List Col) : AObj := if (colF l acc).1 = 0 then rdr (l.drop 2) (acc ++ [colN l]) else rdr l acc
theorem c73' (l : List Tok) (acc : List Col) (o : Nat) (Hp : List AObj) (ho : Hp[o]? = some (rdr l acc)) (hl : TokEnd l) (hc : OkCols acc) : ACall Tryz.prog 73 [.ptr o 0] Hp (fun r H' => r = .agg [intA (colF l acc).1, intA (colF l acc).2] ∧ H' = Hp.set o (nextR l acc)) := by
  have h := c73 l acc o Hp ho hl.pos (fun h => (hl.next (by rw [h]; decide)).2) hc
  have e : (if (colF l acc).1 = 0 then Hp.set o (rdr (l.drop 2) (acc ++ [colN l])) else Hp) = Hp.set o (nextR l acc) := by
    unfold nextR
    split
    · rfl
    · exact (set_same ho).symm
  rw [e] at h
  exact h
theorem colF_ok {l : List Tok} {acc : List Col} (h : (colF l acc).1 = 0) : (tokAt l 0).kind = 1 ∧ (tokAt l 1).kind = 2 ∧ acc.length ≠ 12 := by
  unfold colF at h
  split at h
  · exact absurd (show (8 : Int) = 0 from h) (by decide)
  · rename_i h1
    split at h
    · exact absurd (show (8 : Int) = 0 from h) (by decide)
    · rename_i h2
      split at h
      · exact absurd (show (9 : Int) = 0 from h) (by decide)
      · split at h
        · exact absurd (show (3 : Int) = 0 from h) (by decide)
        · rename_i h4
          simp only [bne_iff_ne, ne_eq, Classical.not_not, Bool.or_eq_true, not_or, beq_iff_eq] at h1 h2 h4
          exact ⟨h1, h2.1, fun e => h4 (by omega)⟩
theorem TokEnd.three {l : List Tok} {acc : List Col} (hl : TokEnd l) (h : (colF l acc).1 = 0) : TokEnd (l.drop 2) ∧ 3 ≤ l.length := by
  obtain ⟨h1, h2, _⟩ := colF_ok h
  obtain ⟨a1, a2⟩ := hl.next (by rw [h1]; decide)
  obtain ⟨b1, b2⟩ := a1.next (by rw [tokAt_drop]; show (tokAt l 1).kind ≠ 0; rw [h2]; decide)
  rw [List.drop_drop] at b1
  rw [List.length_drop] at b2
  exact ⟨b1, by omega⟩
def readF : Nat → List Tok → List Col → List Col × Int × Int
  | 0, _, _ => ([], 0, 0)
  | f + 1, l, acc => if (colF l acc).1 != 0 then ([], (colF l acc).1, (colF l acc).2)
    else if (tokAt l 2).kind == 0 then (acc ++ [colN l], 0, 0)
    else if ((tokAt l 2).kind != 5) || !((tokAt l 2).text == [44]) then ([], 8, (tokAt l 2).at_)
    else readF f (l.drop 3) (acc ++ [colN l])
def schReadM (s : Str) : List Col × Int × Int :=
  if ((lexM s).2.1 != 0) || (((lexM s).1.length : Int) == 1) then ([], (lexM s).2.1, (lexM s).2.2) else readF ((lexM s).1.length + 1) (lexM s).1 []
theorem word_nz (s : Str) (he : (wordM s).2.2.2 = 0) : (wordM s).1 ≠ 0 := by
  revert he
  unfold wordM namedM numberM quotedM signM
  repeat' split
  all_goals simp
theorem items_nz : ∀ (f q : Nat) (s : Str), (∀ it ∈ itemsF f q s, it.2 = 0) → ∀ it ∈ itemsF f q s, it.1.kind ≠ 0 ∧ it.1.text.length ≤ s.length
  | 0, _, _, _, it, hm => by cases hm
  | f + 1, q, s, h, it, hm => by
    by_cases hs : s = []
    · subst hs; cases hm
    · obtain ⟨n, h1, h2⟩ := itemsF_step (f := f) (q := q) hs
      rw [h1] at hm h
      have h0 : (wordM s).2.2.2 = 0 := h (⟨(wordM s).1, (wordM s).2.1, q⟩, (wordM s).2.2.2) (List.mem_cons_self ..)
      obtain ⟨hn, hn1, hn2⟩ := h2 h0
      rw [if_pos h0] at hm h
      rcases List.mem_cons.1 hm with rfl | hm
      · refine ⟨word_nz s h0, ?_⟩
        have hs1 : 1 ≤ s.length := by cases s with | nil => exact absurd rfl hs | cons c r => simp
        have := word_spell (p := q) hs1 h0 hn
        have h3 := text_le ⟨(wordM s).1, (wordM s).2.1, q⟩
        rw [this] at h3
        simp only [List.length_take] at h3
        show (wordM s).2.1.length ≤ s.length
        omega
      · have := items_nz f _ _ (fun it hit => h it (List.mem_cons_of_mem _ hit)) it hm
        simp only [List.length_drop] at this
        exact ⟨this.1, by omega⟩
theorem lex_end {s : Str} (h : (lexM s).2.1 = 0) : TokEnd (lexM s).1 := by
  by_cases h4 : 4000 < s.length
  · unfold lexM at h
    rw [if_pos h4] at h
    exact absurd h (by decide)
  · have e : lexM s = ((itemsT s).map (·.1) ++ [⟨0, [], s.length⟩], 0, 0) ∧ ∀ it ∈ itemsT s, it.2 = 0 := by
      unfold lexM at h ⊢
      rw [if_neg h4] at h ⊢
      cases hf : (itemsT s).find? (fun it => it.2 != 0) with
      | none =>
        rw [List.find?_eq_none] at hf
        exact ⟨rfl, fun it hit => by simpa using hf it hit⟩
      | some it =>
        rw [hf] at h
        have := List.find?_some hf
        simp only [bne_iff_ne] at this
        exact absurd h this
    obtain ⟨e, hz⟩ := e
    have hnz := items_nz _ _ _ hz
    rw [e]
    refine ⟨⟨_, _, rfl, rfl, fun t ht => ?_⟩, fun t ht => ?_⟩
    · obtain ⟨it, hit, rfl⟩ := List.mem_map.1 ht
      exact (hnz it hit).1
    · rcases List.mem_append.1 ht with ht | ht
      · obtain ⟨it, hit, rfl⟩ := List.mem_map.1 ht
        have := (hnz it hit).2
        simp only [List.length_drop] at this
        omega
      · have e : t = ⟨0, [], s.length⟩ := by simpa using ht
        subst e
        exact Nat.zero_le _
structure ReadAt (s : Str) (x : List Tok × List Col) : Prop where
  toks : TokEnd x.1
  cols : OkCols x.2
  n12 : x.2.length ≤ 12
  eq : ∃ f, x.1.length < f ∧ schReadM s = readF f x.1 x.2
theorem ReadAt.on {s : Str} {x : List Tok × List Col} (h : ReadAt s x) (h0 : (colF x.1 x.2).1 = 0) (h1 : ((tokAt x.1 2).kind == 0) = false) (h2 : (((tokAt x.1 2).kind != 5) || !((tokAt x.1 2).text == [44])) = false) : ReadAt s (x.1.drop 3, x.2 ++ [colN x.1]) ∧ 3 ≤ x.1.length := by
  obtain ⟨f, hf, e⟩ := h.eq
  obtain ⟨a1, a2⟩ := h.toks.three h0
  obtain ⟨b1, b2⟩ := a1.next (by rw [tokAt_drop]; simpa using h1)
  rw [List.drop_drop] at b1
  obtain ⟨_, _, hn⟩ := colF_ok h0
  refine ⟨⟨b1, ⟨?_, ?_⟩, ?_, ?_⟩, a2⟩
  · have := h.n12; simp only [List.length_append, List.length_cons, List.length_nil]; omega
  · intro y hy
    rcases List.mem_append.1 hy with hy | hy
    · exact h.cols.2 y hy
    · have e : y = colN x.1 := by simpa using hy
      subst e
      exact h.toks.text 0
  · have := h.n12; simp only [List.length_append, List.length_cons, List.length_nil]; omega
  · obtain ⟨g, rfl⟩ : ∃ g, f = g + 1 := ⟨f - 1, by omega⟩
    refine ⟨g, by simp only [List.length_drop]; omega, ?_⟩
    rw [e, readF, if_neg (by rw [h0]; decide), if_neg (by rw [h1]; simp), if_neg (by rw [h2]; simp)]
theorem ReadAt.out {s : Str} {x : List Tok × List Col} (h : ReadAt s x) : ∃ f, schReadM s = readF (f + 1) x.1 x.2 := by
  obtain ⟨f, hf, e⟩ := h.eq
  exact ⟨f - 1, by rw [e, show f - 1 + 1 = f by omega]⟩
theorem c25 (s : Str) (hs : s.length ≤ 1048576) (Hp : List AObj) : AFun Tryz.prog 25 [strA s] Hp (.tup [colsA (schReadM s).1, .agg [intA (schReadM s).2.1, intA (schReadM s).2.2]]) := by
  refine ACall.body [.tmp 2, .cell 3 27] [0] Tryz.func25 Tryz.ntmps25 (fun d => ?_)
  refine AW.seqR ?_
  refine R.assign ?_
  refine R.alloc Tryz.zeroValue27 ?_
  refine R.fin [0, 3] ?_
  refine AW.seqR ?_
  refine R.move ?_
  refine R.call Tryz.call15 (c15 s hs _) ?_
  refine R.move ?_
  refine R.extract ?_
  refine R.extract ?_
  refine R.alloc Tryz.zeroValue27 ?_
  refine R.assign ?_
  refine R.storeOwn Tryz.sizeOf27 ?_
  refine R.fin [3, 4, 5] ?_
  refine W.seq ?_
  refine AW.seqR ?_
  refine R.fieldAddrPtr (fo := 0) Tryz.underlying27 Tryz.sizeOf25 ?_
  refine R.loadOwn Tryz.isAgg25 ?_
  refine R.neq ?_
  refine R.move ?_
  refine G.move ?_
  refine G.len Tryz.underlying24 ?_
  refine G.eql ?_
  refine R.pickOr ?_
  refine R.fin [3, 4, 5, 21] ?_
  refine W.cond (fun ht21 => ?_) (fun ht21 => ?_)
  · skip
    have hm : schReadM s = ([], (lexM s).2.1, ((lexM s).2.2 : Int)) := by unfold schReadM; rw [if_pos (by simpa using ht21)]
    refine W.draw [0, 0, 3] 2 Tryzmixed (by kernel_rfl) ?_
    refine D.loadOwnN Tryz.isAgg27 Tryz.sizeOf27 ?_
    refine D.assign ?_
    refine D.tail ?_
    refine R.nilSl 2 2 ?_
    refine R.storeOwn Tryz.sizeOf27 ?_
    refine R.fin [2, 3] ?_
    refine AW.ret ?_
    refine K.thR ?_
    exact K.fin (V.two V.tmp (V.cellN Tryz.isAgg27 Tryz.sizeOf27)) ⟨by rw [hm]; try rfl, rfl⟩
  · skip
    have hb : (((lexM s).2.1 != 0) || (((lexM s).1.length : Int) == 1)) = false := by simpa using ht21
    have hm : schReadM s = readF ((lexM s).1.length + 1) (lexM s).1 [] := by unfold schReadM; rw [if_neg (by rw [hb]; simp)]
    have hle := lex_end (s := s) (by have := hb; simp at this; exact this.1)
    refine AW.skip ?_
    refine K.thN ?_
    refine AW.seqR ?_
    refine R.move ?_
    refine R.build (places := #[(0, 1), (1, 1)]) Tryz.underlying100 (fun w => by simp) Tryz.zeroValue100 ?_
    refine R.box ?_
    refine R.nilCell 2 1 2 ?_
    refine R.assign ?_
    refine R.fin [3, 6] ?_
    refine AW.loopC (α := List Tok × List Col) (fun x => ⟨66, setF 3 (.ptr (oid Hp.length 0) 0) (setF 6 (.ptr (oid Hp.length 2) 0) (fun _ => .any)), Hp, [.cells 27 [intA 0, intA 0], .cells 27 [intA (lexM s).2.1, intA ((lexM s).2.2 : Nat)], rdr x.1 x.2], [], none⟩) (fun x => ReadAt s x) (fun x => x.1.length) (((lexM s).1, [])) ⟨hle, ⟨by simp, by simp⟩, by simp, _, by simp, hm⟩ (StLe.refl _) rfl (fun x hx => ?_)
    refine AW.block ?_
    refine W.seq ?_
    refine AW.seqR ?_
    refine R.move ?_
    refine R.callOwn (n := 2) (x := nextR x.1 x.2) Tryz.call73 (c73' x.1 x.2 (oid Hp.length 2) _ (by rw [get_oid]; rfl) hx.toks hx.cols) ?_
    refine R.alloc Tryz.zeroValue27 ?_
    refine R.storeOwn Tryz.sizeOf27 ?_
    refine R.fin [3, 6, 7] ?_
    refine AW.seqR ?_
    refine R.fieldAddrPtr (fo := 0) Tryz.underlying27 Tryz.sizeOf25 ?_
    refine R.loadOwn Tryz.isAgg25 ?_
    refine R.neq ?_
    refine R.fin [3, 6, 7, 30] ?_
    refine W.cond (fun ht30 => ?_) (fun ht30 => ?_)
    · skip
      refine W.draw [0, 0, 3] 2 Tryzmixed (by kernel_rfl) ?_
      refine D.loadOwnN Tryz.isAgg27 Tryz.sizeOf27 ?_
      refine D.assign ?_
      refine D.tail ?_
      refine R.nilSl 2 2 ?_
      refine R.storeOwn Tryz.sizeOf27 ?_
      refine R.fin [2, 3] ?_
      refine AW.ret ?_
      refine K.thR ?_
      refine K.blR ?_
      refine K.lpR ?_
      obtain ⟨f, e⟩ := hx.out
      have e2 : schReadM s = ([], (colF x.1 x.2).1, (colF x.1 x.2).2) := by rw [e, readF, if_pos ht30]
      exact K.fin (V.two V.tmp (V.cellN Tryz.isAgg27 Tryz.sizeOf27)) ⟨by rw [e2]; try rfl, rfl⟩
    · skip
      have h0 : (colF x.1 x.2).1 = 0 := by simpa using ht30
      have h3 := hx.toks.three h0
      have hnx : nextR x.1 x.2 = rdr (x.1.drop 2) (x.2 ++ [colN x.1]) := if_pos h0
      rw [hnx]
      refine AW.skip ?_
      refine K.thN ?_
      refine AW.seqR ?_
      refine R.move ?_
      refine R.nilPtr ?_
      refine R.fieldAddrPtr (fo := 0) Tryz.underlying100 Tryz.sizeOf24 ?_
      refine R.loadOwn Tryz.isAgg24 ?_
      refine R.indexAddr (0) (tokA (tokAt (x.1.drop 2) 0)) Tryz.underlying24 Tryz.sizeOf31 (getTok h3.1.pos) ?_
      refine R.loadRoN Tryz.isAgg31 Tryz.sizeOf31 ?_
      refine R.alloc Tryz.zeroValue31 ?_
      refine R.storeOwn Tryz.sizeOf31 ?_
      refine R.fin [3, 6, 8] ?_
      refine W.seq ?_
      refine AW.block ?_
      refine AW.seqR ?_
      refine R.fieldAddrPtr (fo := 0) Tryz.underlying31 Tryz.sizeOf3 ?_
      refine R.loadOwn Tryz.isAgg3 ?_
      refine R.eql ?_
      refine R.assign ?_
      refine R.fin [3, 6, 8, 38] ?_
      refine W.cond (fun ht38 => ?_) (fun ht38 => ?_)
      · skip
        have hk0 : ((tokAt x.1 2).kind == 0) = true := by rw [tokAt_drop] at ht38; simpa using ht38
        refine AW.seqR ?_
        refine R.move ?_
        refine R.nilPtr ?_
        refine R.fieldAddrPtr (fo := 1) Tryz.underlying100 Tryz.sizeOf37 ?_
        refine R.loadOwn Tryz.isAgg37 ?_
        refine R.build (places := #[(0, 1), (1, 1)]) Tryz.underlying27 (fun w => by simp) Tryz.zeroValue27 ?_
        refine R.assign ?_
        refine R.storeOwn Tryz.sizeOf27 ?_
        refine R.fin [2, 3] ?_
        refine AW.ret ?_
        refine K.blR ?_
        refine K.thR ?_
        refine K.blR ?_
        refine K.lpR ?_
        obtain ⟨f, e⟩ := hx.out
        have e2 : schReadM s = (x.2 ++ [colN x.1], 0, 0) := by rw [e, readF, if_neg (by rw [h0]; decide), if_pos hk0]
        exact K.fin (V.two V.tmp (V.cellN Tryz.isAgg27 Tryz.sizeOf27)) ⟨by rw [e2, colsA]; try rfl, rfl⟩ (hlow := by simp [or_imp, forall_and])
      · skip
        have hk0 : ((tokAt x.1 2).kind == 0) = false := by rw [tokAt_drop] at ht38; simpa using ht38
        refine AW.seqR ?_
        refine R.fieldAddrPtr (fo := 0) Tryz.underlying31 Tryz.sizeOf3 ?_
        refine R.loadOwn Tryz.isAgg3 ?_
        refine R.neq ?_
        refine R.move ?_
        refine G.fieldAddrPtr (fo := 1) Tryz.underlying31 Tryz.sizeOf9 ?_
        refine G.loadOwn Tryz.isAgg9 ?_
        refine G.sneq ?_
        refine R.pickOr ?_
        refine R.assign ?_
        refine R.fin [3, 6, 8, 47] ?_
        refine W.cond (fun ht47 => ?_) (fun ht47 => ?_)
        · skip
          have hk5 : (((tokAt x.1 2).kind != 5) || !((tokAt x.1 2).text == [44])) = true := by rw [tokAt_drop] at ht47; exact ht47
          refine AW.seqR ?_
          refine R.loadOwnN Tryz.isAgg31 Tryz.sizeOf31 ?_
          refine R.call Tryz.call74 (c74 _ _ _) ?_
          refine R.assign ?_
          refine R.nilSl 2 2 ?_
          refine R.storeOwn Tryz.sizeOf27 ?_
          refine R.fin [2, 3] ?_
          refine AW.ret ?_
          refine K.blR ?_
          refine K.thR ?_
          refine K.blR ?_
          refine K.lpR ?_
          obtain ⟨f, e⟩ := hx.out
          have e2 : schReadM s = ([], 8, ((tokAt x.1 2).at_ : Int)) := by rw [e, readF, if_neg (by rw [h0]; decide), if_neg (by rw [hk0]; simp), if_pos hk5]
          exact K.fin (V.two V.tmp (V.cellN Tryz.isAgg27 Tryz.sizeOf27)) ⟨by rw [e2, tokAt_drop]; try rfl, rfl⟩
        · skip
          have hk5 : (((tokAt x.1 2).kind != 5) || !((tokAt x.1 2).text == [44])) = false := by rw [tokAt_drop] at ht47; exact ht47
          refine AW.skip ?_
          refine K.blN ?_
          refine K.thN ?_
          refine AW.region ?_
          refine R.move ?_
          refine R.move ?_
          refine R.nilPtr ?_
          refine R.fieldAddrPtr (fo := 0) Tryz.underlying100 Tryz.sizeOf24 ?_
          refine R.loadOwn Tryz.isAgg24 ?_
          refine R.cutL 1 Tryz.underlying24 Tryz.sizeOf31 (show 1 ≤ ((x.1.drop 2).map tokA).length by have := h3.1.pos; simpa using this) (Nat.le_refl _) ?_
          refine R.nilPtr ?_
          refine R.fieldAddrPtr (fo := 0) Tryz.underlying100 Tryz.sizeOf24 ?_
          refine R.storeOwn Tryz.sizeOf24 ?_
          refine R.fin [3, 6] ?_
          refine K.blN ?_
          have hon := hx.on h0 hk0 hk5
          refine K.lpN (x.1.drop 3, x.2 ++ [colN x.1]) hon.1 (by have := hon.2; simp only [List.length_drop]; omega) ?_
          have e3 : ((x.1.drop 2).map tokA).drop 1 = (x.1.drop 3).map tokA := by rw [← List.map_drop, List.drop_drop]
          rw [e3]
          exact StCut.take (own := [.cells 27 [intA 0, intA 0], .cells 27 [intA (lexM s).2.1, intA ((lexM s).2.2 : Nat)], rdr (x.1.drop 3) (x.2 ++ [colN x.1])]) (fun _ => .refl _) (by repeat (first | exact lowF_any | refine lowF_set (by simp [oid] <;> omega) ?_)) (mem3 low_ints low_ints low_rdr) (by simp)

end Go.SX.Nb
namespace Go.SX.Nb
open Go Go.SX Go.Proofs
variable [ErrAt]
set_option maxRecDepth 4000
/-! What is printed of a schema is read. -/
theorem findM_no {nm : Str} {c : List Col} (h : ∀ y ∈ c, y.name ≠ nm) : findM nm c = -1 := findM_none fun _ y hj => h y (List.mem_of_getElem? hj)
theorem kind_back {k : Int} (h1 : 1 ≤ k) (h3 : k ≤ 3) : kindM (kindNameM k) = k := by
  rcases kind_cases h1 h3 with rfl | rfl | rfl <;> kernel_rfl
theorem readF_exp : ∀ (r : List Col) (x : Col) (acc : List Col) (L : List Tok) (f n : Nat), ColOk x → (∀ y ∈ r, ColOk y) → (acc ++ x :: r).length ≤ 12 → ((acc ++ x :: r).map (·.name)).Nodup → L.map ktT = expT (x :: r) → L.length < f →
    readF f (L ++ [⟨0, [], n⟩]) acc = (acc ++ x :: r, 0, 0) := by
  intro r
  induction r with
  | nil =>
    intro x acc L f n hx _ h12 hnd hL hf
    match L, hL with
    | [a, b], hL =>
      have e : (ktT a, ktT b) = ((1, x.name), (2, kindNameM x.kind)) := by simpa [expT, expR] using hL
      simp only [ktT, Prod.mk.injEq] at e
      obtain ⟨⟨a1, a2⟩, b1, b2⟩ := e
      obtain ⟨g, rfl⟩ : ∃ g, f = g + 1 := ⟨f - 1, by simp at hf; omega⟩
      have hfn : findM a.text acc = -1 := findM_no fun y hy e => by
        rw [List.map_append, List.nodup_append] at hnd
        exact hnd.2.2 y.name (List.mem_map_of_mem hy) x.name (by simp) (e.trans a2)
      have hc : colF ([a, b] ++ [⟨0, [], n⟩]) acc = (0, 0) := by
        unfold colF
        have t0 : tokAt ([a, b] ++ [⟨0, [], n⟩]) 0 = a := rfl
        have t1 : tokAt ([a, b] ++ [⟨0, [], n⟩]) 1 = b := rfl
        have hk := kind_back hx.lo hx.hi
        have hlo := hx.lo
        have hkz : (kindM b.text == 0) = false := by rw [b2, hk, beq_eq_false_iff_ne]; omega
        have hln : ((acc.length : Int) == 12) = false := by simp at h12 ⊢; omega
        rw [t0, t1, a1, b1, hkz, hfn, hln]
        rfl
      have hN : colN ([a, b] ++ [⟨0, [], n⟩]) = x := by
        unfold colN
        have t0 : tokAt ([a, b] ++ [⟨0, [], n⟩]) 0 = a := rfl
        have t1 : tokAt ([a, b] ++ [⟨0, [], n⟩]) 1 = b := rfl
        rw [t0, t1, a2, b2, kind_back hx.lo hx.hi]
      rw [readF, hc, hN]
      rfl
    | [], hL => simp [expT] at hL
    | [_], hL => simp [expT] at hL
    | _ :: _ :: _ :: _, hL => simp [expT, expR] at hL
  | cons y r ih =>
    intro x acc L f n hx hr h12 hnd hL hf
    match L, hL with
    | [], hL => simp [expT] at hL
    | [_], hL => simp [expT] at hL
    | [_, _], hL => simp [expT, expR] at hL
    | a :: b :: c :: L, hL =>
      have e : (ktT a, ktT b, ktT c, L.map ktT) = ((1, x.name), (2, kindNameM x.kind), (5, [44]), expT (y :: r)) := by
        simp only [expT, expR, List.map_cons, List.cons.injEq] at hL
        simp only [expT, Prod.mk.injEq]
        exact ⟨hL.1, hL.2.1, hL.2.2.1, hL.2.2.2⟩
      simp only [ktT, Prod.mk.injEq] at e
      obtain ⟨⟨a1, a2⟩, ⟨b1, b2⟩, ⟨c1, c2⟩, hL'⟩ := e
      obtain ⟨g, rfl⟩ : ∃ g, f = g + 1 := ⟨f - 1, by simp at hf; omega⟩
      have hfn : findM a.text acc = -1 := findM_no fun y hy e => by
        rw [List.map_append, List.nodup_append] at hnd
        exact hnd.2.2 y.name (List.mem_map_of_mem hy) x.name (by simp) (e.trans a2)
      have t0 : tokAt ((a :: b :: c :: L) ++ [⟨0, [], n⟩]) 0 = a := rfl
      have t1 : tokAt ((a :: b :: c :: L) ++ [⟨0, [], n⟩]) 1 = b := rfl
      have t2 : tokAt ((a :: b :: c :: L) ++ [⟨0, [], n⟩]) 2 = c := rfl
      have hc : colF ((a :: b :: c :: L) ++ [⟨0, [], n⟩]) acc = (0, 0) := by
        unfold colF
        have hk := kind_back hx.lo hx.hi
        have hlo := hx.lo
        have hkz : (kindM b.text == 0) = false := by rw [b2, hk, beq_eq_false_iff_ne]; omega
        have hln : ((acc.length : Int) == 12) = false := by simp at h12 ⊢; omega
        rw [t0, t1, a1, b1, hkz, hfn, hln]
        rfl
      have hN : colN ((a :: b :: c :: L) ++ [⟨0, [], n⟩]) = x := by
        unfold colN
        rw [t0, t1, a2, b2, kind_back hx.lo hx.hi]
      rw [readF, hc, hN, t2, c1, c2, if_neg (by decide), if_neg (by decide), if_neg (by decide)]
      have hd : ((a :: b :: c :: L) ++ ([⟨0, [], n⟩] : List Tok)).drop 3 = L ++ [⟨0, [], n⟩] := rfl
      rw [hd]
      have := ih y (acc ++ [x]) L g n (hr y (by simp)) (fun z hz => hr z (by simp [hz])) (by simpa using h12) (by simpa using hnd) hL' (by simp at hf; omega)
      rw [this]
      simp
/-- What goes together: names of their own. -/
theorem colsM_ok {c : List Col} (h : colsM c = true) : (∀ y ∈ c, ColOk y) ∧ (c.map (·.name)).Nodup := by
  rw [colsM_true] at h
  have hat : ∀ (j : Nat) (y : Col), c[j]? = some y → nameM y.name = true ∧ 1 ≤ y.kind ∧ y.kind ≤ 3 ∧ findM y.name c = (j : Int) := by
    intro j y hj
    have := h j y hj
    unfold colAt at this
    simp only [Bool.not_eq_true', Bool.or_eq_false_iff, Bool.not_eq_false', decide_eq_false_iff_not, bne_eq_false_iff_eq] at this
    obtain ⟨⟨⟨h1, h2⟩, h3⟩, h4⟩ := this
    exact ⟨h1, by omega, by omega, h4⟩
  refine ⟨fun y hy => ?_, ?_⟩
  · obtain ⟨j, hj⟩ := List.getElem?_of_mem hy
    obtain ⟨h1, h2, h3, _⟩ := hat j y hj
    exact ⟨by rw [lexName_eq]; exact h1, h2, h3⟩
  · show List.Pairwise _ _
    rw [List.pairwise_iff_getElem]
    intro i j hi hj hij e
    simp only [List.length_map] at hi hj
    simp only [List.getElem_map] at e
    have e1 := (hat i c[i] (List.getElem?_eq_getElem hi)).2.2.2
    have e2 := (hat j c[j] (List.getElem?_eq_getElem hj)).2.2.2
    rw [e] at e1
    omega
theorem right_ok {c : List Col} (h : rightP c = true) : c.length ≤ 12 ∧ (∀ y ∈ c, ColOk y) ∧ (c.map (·.name)).Nodup := by
  rw [right_eq] at h
  unfold rightM at h
  rw [Bool.and_eq_true] at h
  obtain ⟨h1, h2⟩ := h
  have := of_decide_eq_true h1
  exact ⟨by omega, colsM_ok h2⟩
theorem print_read {c : List Col} (h : rightP c = true) : schReadM (colsT c) = (c, 0, 0) := by
  obtain ⟨h12, hok, hnd⟩ := right_ok h
  obtain ⟨L, n, hl, hL⟩ := sch_lex hok h12
  unfold schReadM
  rw [hl]
  cases c with
  | nil =>
    have : L = [] := by simpa [expT] using hL
    subst this
    rfl
  | cons x r =>
    have hlen : L.length = (expT (x :: r)).length := by rw [← hL, List.length_map]
    rw [if_neg (by
      have : (((L ++ [⟨0, [], n⟩] : List Tok).length : Int) == 1) = false := by
        rw [beq_eq_false_iff_ne]
        simp [expT] at hlen
        simp
        omega
      simp only [this]
      decide)]
    have := readF_exp r x [] L ((L ++ ([⟨0, [], n⟩] : List Tok)).length + 1) n (hok x (by simp)) (fun y hy => hok y (by simp [hy])) h12 hnd hL (by simp; omega)
    exact this
end Go.SX.Nb
namespace Go.SX.Nb
open Go Go.SX Go.Proofs
variable [ErrAt]
set_option maxRecDepth 4000
def awakeC : List Col := [⟨[97], 1⟩, ⟨[116], 2⟩]
def awakeT : Str := [97, 32, 105, 110, 116, 44, 32, 116, 32, 116, 101, 120, 116]
theorem awake_text : awakeT = colsT awakeC := by kernel_rfl
theorem awake_right : rightP awakeC = true := by rw [right_eq]; kernel_rfl
theorem awake_cols : OkCols awakeC := ⟨by decide, by decide⟩
theorem c25a (Hp : List AObj) : AFun Tryz.prog 25 [strA awakeT] Hp (.tup [colsA awakeC, .agg [intA 0, intA 0]]) := by
  have := c25 awakeT (by decide) Hp
  rw [awake_text, print_read awake_right, ← awake_text] at this
  exact this
theorem c22a (Hp : List AObj) : AFun Tryz.prog 22 [colsA awakeC] Hp (strA awakeT) := by
  have := c22 awakeC awake_cols Hp
  rw [schPrintM, if_pos awake_right, ← awake_text] at this
  exact this
theorem c20 (Hp : List AObj) : AFun Tryz.prog 20 [] Hp (boolA true) := by
  refine ACall.body [.tmp 0] [] Tryz.func20 Tryz.ntmps20 (fun d => ?_)
  refine AW.seqR ?_
  refine R.assign ?_
  refine R.fin [] ?_
  refine AW.seqR ?_
  refine R.call Tryz.call25 (c25a _) ?_
  refine R.move ?_
  refine R.extract ?_
  refine R.extract ?_
  refine R.alloc Tryz.zeroValue27 ?_
  refine R.assign ?_
  refine R.storeOwn Tryz.sizeOf27 ?_
  refine R.fin [1, 2] ?_
  refine AW.seqR ?_
  refine R.fieldAddrPtr (fo := 0) Tryz.underlying27 Tryz.sizeOf25 ?_
  refine R.loadOwn Tryz.isAgg25 ?_
  refine R.eql ?_
  refine R.move ?_
  refine G.move ?_
  refine G.len Tryz.underlying37 ?_
  refine G.eql ?_
  refine R.pickAnd ?_
  refine R.move ?_
  refine G.move ?_
  refine G.indexAddr (1) (colA ⟨[116], 2⟩) Tryz.underlying37 Tryz.sizeOf65 (fun _ => rfl) ?_
  refine G.loadRoN Tryz.isAgg65 Tryz.sizeOf65 ?_
  refine G.build (places := #[(0, 1), (1, 1)]) Tryz.underlying65 (fun w => by simp) Tryz.zeroValue65 ?_
  refine G.eqlAgg eg65 (equal65 2 2 [116] [116]) ?_
  refine R.pickAnd ?_
  refine R.move ?_
  refine G.move ?_
  refine G.call Tryz.call22 (fun hB => c22a _) ?_
  refine G.seql ?_
  refine R.pickAnd ?_
  refine R.assign ?_
  refine R.fin [0] ?_
  refine AW.ret ?_
  exact K.fin (V.one V.tmp) ⟨by kernel_rfl, rfl⟩

theorem c21u (c : List Col) (Hp : List AObj) : AFun Tryz.prog 21 [colsA c] Hp (boolA (manyM c)) := by
  refine ACall.body [.tmp 2] [0] Tryz.func21 Tryz.ntmps21 (fun d => ?_)
  refine AW.seqR ?_
  refine R.assign ?_
  refine R.fin [0] ?_
  refine W.seq ?_
  refine AW.seqR ?_
  refine R.move ?_
  refine R.len Tryz.underlying37 ?_
  refine R.gtr ?_
  refine R.fin [0, 6] ?_
  refine W.cond (fun ht6 => ?_) (fun ht6 => ?_)
  · skip
    refine AW.seqR ?_
    refine R.assign ?_
    refine R.fin [2] ?_
    refine AW.ret ?_
    refine K.thR ?_
    exact K.fin (V.one V.tmp) ⟨by simp [manyM] at ht6 ⊢; omega, rfl⟩
  · skip
    refine AW.skip ?_
    refine K.thN ?_
    refine W.seq ?_
    refine AW.seqR ?_
    refine R.assign ?_
    refine R.fin [0, 3] ?_
    refine AW.loopC (α := Nat) (fun x => ⟨20, setF 0 (colsA c) (setF 3 (intA (x : Nat)) (fun _ => .any)), Hp, [], [], none⟩) (fun x => x ≤ c.length ∧ ∀ (j : Nat) (y : Col), j < x → c[j]? = some y → decide ((100 : Int) < y.name.length) = false) (fun x => c.length - x) (0) (by simp) (StLe.refl _) rfl (fun x hx => ?_)
    refine W.seq ?_
    refine AW.seqR ?_
    refine R.move ?_
    refine R.move ?_
    refine R.len Tryz.underlying37 ?_
    refine R.lss ?_
    refine R.fin [0, 3, 10] ?_
    refine W.cond (fun ht10 => ?_) (fun ht10 => ?_)
    · skip
      have hlt : x < c.length := by simpa using ht10
      have hcl : c.length ≤ 50 := by simp at ht6; omega
      refine AW.skip ?_
      refine K.thN ?_
      refine W.seq ?_
      refine AW.block ?_
      refine AW.seqR ?_
      refine R.move ?_
      refine R.move ?_
      refine R.indexAddr (x) (colA c[x]) Tryz.underlying37 Tryz.sizeOf65 (getMap hlt) ?_
      refine R.fieldAddrRo (off := 0) Tryz.underlying65 Tryz.sizeOf9 ?_
      refine R.loadRo Tryz.isAgg9 ?_
      refine R.slen Tryz.underlying9 ?_
      refine R.gtr ?_
      refine R.fin [0, 3, 19] ?_
      refine W.cond (fun ht19 => ?_) (fun ht19 => ?_)
      · skip
        refine AW.seqR ?_
        refine R.assign ?_
        refine R.fin [2] ?_
        refine AW.ret ?_
        refine K.blR ?_
        refine K.thR ?_
        refine K.lpR ?_
        refine K.thR ?_
        exact K.fin (V.one V.tmp) ⟨by rw [show manyM c = true from by unfold manyM; rw [any_at (p := fun y : Col => decide ((100 : Int) < y.name.length)) hlt ht19, Bool.or_true]], rfl⟩
      · skip
        refine AW.skip ?_
        refine K.blN ?_
        refine K.thN ?_
        refine AW.region ?_
        refine R.move ?_
        refine R.add64 ?_
        refine R.assign ?_
        refine R.fin [0, 3] ?_
        exact K.lpN (x + 1) ⟨hlt, upto_succ hlt hx.2 ht19⟩ (by omega) (StCut.of_eq rfl)
    · skip
      refine AW.exit ?_
      refine K.thE ?_
      refine K.lpE ?_
      refine K.thN ?_
      refine AW.seqR ?_
      refine R.assign ?_
      refine R.fin [2] ?_
      refine AW.ret ?_
      exact K.fin (V.one V.tmp) ⟨by rw [show manyM c = false from by unfold manyM; rw [any_none (upto_all (by simp at ht10; omega) hx.2)]; simpa using ht6], rfl⟩
theorem many_ok {c : List Col} (h : manyM c = false) : OkCols c := by
  unfold manyM at h
  simp only [Bool.or_eq_false_iff, decide_eq_false_iff_not, List.any_eq_false, decide_eq_true_eq] at h
  refine ⟨by omega, fun y hy => ?_⟩
  have := h.2 y hy
  omega
def schPrintsM (c : List Col) : Bool := if manyM c then true else if rightP c != rightM c then false else if !rightM c then schPrintM c == [] else
  ((schPrintM c == colsT c) && ((schReadM (schPrintM c)).2.1 == 0)) && decide (c = (schReadM (schPrintM c)).1)
theorem schPrint_len {c : List Col} (hm : manyM c = false) : (schPrintM c).length ≤ 1048576 := by
  unfold schPrintM
  split
  · rename_i h
    obtain ⟨h12, hok, _⟩ := right_ok h
    cases c with
    | nil => decide
    | cons x r =>
      have h1 := sch_len r (fun y hy => hok y (by simp [hy]))
      obtain ⟨_, _, _, h16⟩ := name_word (hok x (by simp)).name
      have h4 := kindName_len x.kind
      rw [colsT_cons]
      simp only [List.length_append, colT, List.length_cons, List.length_nil] at h1 h12 ⊢
      omega
  · simp
theorem schPrints_true (c : List Col) : schPrintsM c = true := by
  unfold schPrintsM
  split
  · rfl
  · rw [right_eq]
    simp only [bne_self_eq_false, Bool.false_eq_true, if_false]
    by_cases h : rightM c = true
    · have h' : rightP c = true := by rw [right_eq]; exact h
      rw [h]
      simp only [Bool.not_true, Bool.false_eq_true, if_false]
      rw [schPrintM, if_pos h', print_read h']
      simp
    · have h' : ¬ rightP c = true := by rw [right_eq]; exact h
      rw [if_pos (by simpa using h), schPrintM, if_neg h']
      rfl
theorem c6 (c : List Col) (Hp : List AObj) : AFun Tryz.prog 6 [colsA c] Hp (boolA true) := by
  refine ACall.body [.tmp 2] [0] Tryz.func6 Tryz.ntmps6 (fun d => ?_)
  refine AW.seqR ?_
  refine R.assign ?_
  refine R.fin [0] ?_
  refine W.seq ?_
  refine AW.seqR ?_
  refine R.call Tryz.call20 (c20 _) ?_
  refine R.not ?_
  refine R.fin [0, 7] ?_
  refine W.cond (fun ht7 => ?_) (fun ht7 => ?_)
  · skip
    cases ht7
  · skip
    refine AW.skip ?_
    refine K.thN ?_
    refine W.seq ?_
    refine AW.seqR ?_
    refine R.move ?_
    refine R.call Tryz.call21 (c21u c _) ?_
    refine R.fin [0, 9] ?_
    refine W.cond (fun ht9 => ?_) (fun ht9 => ?_)
    · skip
      refine AW.seqR ?_
      refine R.assign ?_
      refine R.fin [2] ?_
      refine AW.ret ?_
      refine K.thR ?_
      exact K.fin (V.one V.tmp)
    · skip
      have hm : manyM c = false := by simpa using ht9
      have hc := many_ok hm
      have ht := schPrints_true c
      unfold schPrintsM at ht
      rw [if_neg (by rw [hm]; simp)] at ht
      refine AW.skip ?_
      refine K.thN ?_
      refine AW.seqR ?_
      refine R.move ?_
      refine R.call Tryz.call22 (c22 c hc _) ?_
      refine R.assign ?_
      refine R.fin [0, 3] ?_
      refine W.seq ?_
      refine AW.seqR ?_
      refine R.move ?_
      refine R.call Tryz.call23 (c23 c hc _) ?_
      refine R.move ?_
      refine R.call Tryz.call24 (c24 c hc _) ?_
      refine R.bneq Tryz.underlying4 ?_
      refine R.fin [0, 3, 16] ?_
      refine W.cond (fun ht16 => ?_) (fun ht16 => ?_)
      · skip
        rw [right_eq] at ht16
        simp at ht16
      · skip
        rw [if_neg (by rw [right_eq]; simp)] at ht
        refine AW.skip ?_
        refine K.thN ?_
        refine W.seq ?_
        refine AW.seqR ?_
        refine R.move ?_
        refine R.call Tryz.call24 (c24 c hc _) ?_
        refine R.not ?_
        refine R.fin [0, 3, 19] ?_
        refine W.cond (fun ht19 => ?_) (fun ht19 => ?_)
        · skip
          rw [if_pos ht19] at ht
          refine AW.seqR ?_
          refine R.move ?_
          refine R.seql ?_
          refine R.assign ?_
          refine R.fin [2] ?_
          refine AW.ret ?_
          refine K.thR ?_
          exact K.fin (V.one V.tmp) ⟨by rw [ht], rfl⟩
        · skip
          rw [if_neg (by rw [ht19]; simp)] at ht
          refine AW.skip ?_
          refine K.thN ?_
          refine AW.seqR ?_
          refine R.move ?_
          refine R.call Tryz.call25 (c25 (schPrintM c) (schPrint_len hm) _) ?_
          refine R.move ?_
          refine R.extract ?_
          refine R.extract ?_
          refine R.alloc Tryz.zeroValue27 ?_
          refine R.assign ?_
          refine R.storeOwn Tryz.sizeOf27 ?_
          refine R.fin [0, 3, 4, 5] ?_
          refine AW.seqR ?_
          refine R.move ?_
          refine R.move ?_
          refine R.call Tryz.call26 (c26 c hc _) ?_
          refine R.seql ?_
          refine R.move ?_
          refine G.fieldAddrPtr (fo := 0) Tryz.underlying27 Tryz.sizeOf25 ?_
          refine G.loadOwn Tryz.isAgg25 ?_
          refine G.eql ?_
          refine R.pickAnd ?_
          refine R.move ?_
          refine G.move ?_
          refine G.move ?_
          refine G.call Tryz.call27 (fun hB => c27 c _ hc.len _) ?_
          refine R.pickAnd ?_
          refine R.assign ?_
          refine R.fin [2] ?_
          refine AW.ret ?_
          exact K.fin (V.one V.tmp) ⟨by rw [ht], rfl⟩

end Go.SX.Nb
namespace Go.Proofs.YtefgfjedonchdaaGreatDoor
open Go Go.SX Go.SX.Nb Go.ChangeShapes Go.RowKit
set_option maxRecDepth 100000
theorem plain : PlainT Tryz.prog (· ∈ [37, 65, 9, 3]) := ⟨fun t ht => by
  simp only [List.mem_cons, List.mem_nil_iff, or_false] at ht
  rcases ht with rfl | rfl | rfl | rfl
  · exact .inl ⟨by kernel_rfl, .inr (.inr (.inr ⟨_, Tryz.underlying37, by simp, by rw [show Tryz.prog.cellsOf 65 = 2 by kernel_rfl]; decide⟩))⟩
  · refine .inr ⟨_, Tryz.underlying65, fun f hf => ?_, kids.struct (of_decide_eq_true (by kernel_rfl)) Tryz.underlying65 |>.2⟩
    simp only [List.mem_cons, List.mem_nil_iff, or_false] at hf
    rcases hf with rfl | rfl <;> simp
  · exact .inl ⟨by kernel_rfl, .inr (.inr (.inl Tryz.underlying9))⟩
  · exact .inl ⟨by kernel_rfl, .inl ⟨_, Tryz.underlying3⟩⟩⟩
theorem col_any {H : Type} [ErrAt] (d : DataW H) (y : AV) (h : DRep Tryz.prog 65 d y) : ∃ c : Col, y = colA c := by
  obtain ⟨ys, hn, rfl, hh⟩ := h.struct' bulk Tryz.underlying65
  match ys, hn with
  | [y0, y1], _ =>
    obtain ⟨d0, b0, h0⟩ := hh 0 _ y0 rfl rfl
    obtain ⟨d1, b1, h1⟩ := hh 1 _ y1 rfl rfl
    obtain ⟨s, rfl, rfl⟩ := h0.str' Tryz.underlying9
    obtain ⟨k, rfl, rfl, _⟩ := h1.int' Tryz.underlying3
    exact ⟨⟨s, k⟩, rfl⟩
theorem cols_any {H : Type} [ErrAt] (d : DataW H) (y : AV) (h : DRep Tryz.prog 37 d y) : ∃ c : List Col, y = colsA c := by
  obtain ⟨l, rfl, _⟩ := h.slice' bulk colA (fun _ => True) Tryz.underlying37 (Nat.le_refl _) (fun d y _ hr => (col_any d y hr).imp fun c h => ⟨h, trivial⟩)
  exact ⟨l, by rw [show Tryz.prog.cellsOf 65 = 2 by kernel_rfl]⟩
theorem main {H : Type} [ErrAt] (ds : List (DataW H)) (ys : List AV) (h : DReps Tryz.prog Tryz.f6.params.toList ds ys) : AFun Tryz.prog 6 ys [] (boolA true) := by
  rw [Tryz.params6] at h
  obtain ⟨d0, ds, y0, ys, rfl, rfl, h0, h⟩ := h.cons'
  obtain ⟨rfl, rfl⟩ := h.nil'
  obtain ⟨c, rfl⟩ := cols_any d0 y0 h0
  exact c6 c []
theorem laid_met (os : Os) : laidMet Tryz.prog Rows.schemaPrintsRow.laid ((World.laidAll Tryz.prog os Rows.schemaPrintsRow.laid).forCall (fun _ _ => 0) ⟨#[], #[.slice none 0 0], []⟩).memory :=
  laidMet_laidAll _ (by kernel_rfl) (by kernel_rfl)
theorem reads (os : Os) {H : Type} (enc : TypeId × Value → H) : DataW.whole enc Tryz.prog ((World.laidAll Tryz.prog os Rows.schemaPrintsRow.laid).forCall (fun _ _ => 0) ⟨#[], #[.slice none 0 0], []⟩).memory Tryz.f6.params.toList Rows.schemaPrintsSpec.vars false
    #[.slice none 0 0].toList 8 = some ([.nil], [], []) := by kernel_rfl
theorem witness (os : Os) {H : Type} (enc : TypeId × Value → H) : ∃ (w : World) (tape : Tape) (i : Input), w.os = os ∧ (w.forCall tape i).Shaped Tryz.prog ∧ i.vars = [] ∧ Input.okWide Tryz.prog (w.forCall tape i) .any w.heap.size 6 i ∧
      (OpenSpec.ofChange Rows.schemaPrintsSpec).preRow enc Tryz.prog Tryz.f6 Rows.schemaPrintsRow.domain false Rows.schemaPrintsRow.laid (w.forCall tape i).memory i.args ∧ ({ modest := false } : Assume).holds Tryz.prog (lone (Frame.enter Tryz.prog 6 i.args .normal) [] (w.forCall tape i)) := by
  refine ⟨World.laidAll Tryz.prog os Rows.schemaPrintsRow.laid, fun _ _ => 0, ⟨#[], #[.slice none 0 0], []⟩, World.laidAll_os _ _ _, World.shaped_of_ZipB (by kernel_rfl) (by kernel_rfl), rfl, (Input.okWide_of_okWideB (by kernel_rfl)).2,
    OpenSpec.preRow_of_cond 8 (reads os enc) (by kernel_rfl) (fun k hk => by cases hk) (by kernel_rfl) ?_, ?_⟩
  · rw [MakeChecks.laidMetH_plain _ _ _ (by kernel_rfl)]
    exact laid_met os
  · simp only [Assume.holds]
    exact ⟨by simp, by simp, fun h => (by cases h), by simp, by simp⟩
theorem lifted (os : Os) (started : os.Started) (H : Type) (enc : TypeId × Value → H) (F : Stop.Interp) :
    ReturnsInHanded {} Tryz.checked os 6 .any ((OpenSpec.ofChange Rows.schemaPrintsSpec).preRow enc Tryz.prog Tryz.f6 Rows.schemaPrintsRow.domain false Rows.schemaPrintsRow.laid) (((OpenSpec.ofChange Rows.schemaPrintsSpec).at F).post enc Tryz.prog Tryz.f6 false true false false) := by
  refine returnsInHanded_of_row (C := Tryz.checked) (s := (OpenSpec.ofChange Rows.schemaPrintsSpec)) own started (by kernel_rfl) Tryz.func6 (witness os enc) ?_
  intro W base args ds gs before hval hW _ hcond _ hL hsh _
  rw [MakeChecks.laidMetH_plain _ _ _ (by kernel_rfl)] at hL
  obtain ⟨b, hbv⟩ := err_var hL
  letI E : ErrAt := ⟨b⟩
  have hgs : gs = [] := by
    obtain ⟨p, q, _, hV, _⟩ := hW
    exact (trodVars_none hV).1
  subst hgs
  refine card_true (fn := Tryz.f6) (tb := 4) kids full plain (fun t ht => ?_) Tryz.underlying4 (by kernel_rfl) rfl (fun ds hd => ?_) hval hW (glob hsh hL hbv) (fun ys hy => main ds ys hy)
  · rw [Tryz.params6] at ht
    refine ⟨?_, ?_⟩
    · have : ∀ t ∈ [37], t ∈ [37, 65, 9, 3] := by decide
      exact this t ht
    · have : ([37].all fun t => decide (t < Tryz.prog.types.size)) = true := by kernel_rfl
      exact of_decide_eq_true (List.all_eq_true.1 this t ht)
  · have e : Tryz.f6.params.size = 1 := by rw [Tryz.params6]; rfl
    rw [e] at hd
    match ds, hd with
    | [_], _ => rfl
theorem fact_name : Tryz.pinned.checked.prog.funcNamed Rows.schemaPrintsRow.func = some 6 := by kernel_rfl
theorem fact_cells : joinedFacts Tryz.pinned.checked.prog 6 Tryz.f6 (OpenSpec.ofChange Rows.schemaPrintsSpec).bare Rows.schemaPrintsRow = true := by kernel_rfl
theorem fact_inst : Tryz.f6.isInstance Tryz.pinned.checked.prog Rows.schemaPrintsRow.origin Rows.schemaPrintsRow.targs := of_decide_eq_true (by kernel_rfl)
theorem fact_wrap : Tryz.f6.isWrapper Tryz.pinned.checked.prog Rows.schemaPrintsRow.wrapper Rows.schemaPrintsRow.mainSum := by
  unfold Func.isWrapper
  first | (rw [if_pos (by decide +kernel)]; kernel_rfl) | (rw [if_neg (by decide +kernel)]; exact ⟨rfl, rfl⟩)
theorem said : Rows.SchemaPrintsSaid :=
  OpenClaim.holds_of_cond 6 Tryz.f6 rfl rfl rfl rfl rfl rfl rfl ⟨rfl, rfl, rfl, rfl, rfl⟩ rfl rfl rfl rfl rfl fact_name Tryz.func6 fact_cells
    fact_inst fact_wrap
    (fun os started H enc _ F => by rw [OpenClaim.pre_eq_preRow]; exact lifted os started H enc F)
theorem noStand (f : FuncId) (fn : Func) (hf : Tryz.pinned.checked.prog.funcNamed "needlebeam/needlebeamlaw17.SchemaPrints" = some f) (hfn : Tryz.pinned.checked.prog.funcs[f]? = some fn) :
    true = Tryz.pinned.checked.prog.looks [] ∧ ∀ (j : Nat) t, fn.params[j]? = some t → Tryz.pinned.checked.prog.wantsStandIn t = false := by
  obtain rfl : f = 6 := Option.some.inj ((show Tryz.prog.funcNamed "needlebeam/needlebeamlaw17.SchemaPrints" = some 6 by kernel_rfl).symm.trans hf) |>.symm
  obtain rfl : fn = Tryz.f6 := (Option.some.inj (Tryz.func6.symm.trans hfn)).symm
  refine ⟨by kernel_rfl, fun j t ht => ?_⟩
  rw [Tryz.params6] at ht
  have hm : t ∈ [37] := by simpa using Array.mem_of_getElem? ht
  have hall : ([37].all fun u => !Tryz.prog.wantsStandIn u) = true := by kernel_rfl
  exact (show Tryz.prog.wantsStandIn t = false by simpa using List.all_eq_true.1 hall t hm)
theorem schema_prints_card : Rows.SchemaPrintsCardSaid :=
  Claim7.holds_tied_plain_at .later [] _ _ _ _ said (fun _ h => by cases h) (by kernel_rfl) (fun _ h => by cases h) schemaPrints_row_tie rfl ⟨rfl, rfl⟩ (by kernel_rfl) rfl noStand (by kernel_rfl)
end Go.Proofs.YtefgfjedonchdaaGreatDoor
