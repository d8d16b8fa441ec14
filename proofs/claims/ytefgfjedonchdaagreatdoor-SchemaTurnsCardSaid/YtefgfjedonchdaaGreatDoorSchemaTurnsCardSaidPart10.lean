/- Texts on the way to this: SchemaTurns answers true for whatever can be read: the card of the law. (part 10) -/
import Derived.Test.YtefgfjedonchdaaGreatDoorSchemaTurnsCardSaidPart9
set_option linter.all false
namespace Go.SX.Nb
open Go Go.SX Go.Proofs
variable [ErrAt]
set_option maxRecDepth 4000
def kindM (s : Str) : Int := if kindNameM 1 == s then 1 else if kindNameM 2 == s then 2 else if kindNameM 3 == s then 3 else 0
structure KindUpto (s : Str) (x : Nat) : Prop where
  le : x ≤ 3
  a : 1 ≤ x → (kindNameM 1 == s) = false
  b : 2 ≤ x → (kindNameM 2 == s) = false
  c : 3 ≤ x → (kindNameM 3 == s) = false
theorem kind_at {s : Str} {x : Nat} (h : KindUpto s x) (hx : x < 3) (e : (kindNameM ((x : Int) + 1) == s) = true) : kindM s = (x : Int) + 1 := by
  have h3 : x = 0 ∨ x = 1 ∨ x = 2 := by omega
  unfold kindM
  rcases h3 with rfl | rfl | rfl
  · have e : (kindNameM 1 == s) = true := e
    rw [if_pos e]; rfl
  · have e : (kindNameM 2 == s) = true := e
    rw [if_neg (by rw [h.a (by omega)]; simp), if_pos e]; rfl
  · have e : (kindNameM 3 == s) = true := e
    rw [if_neg (by rw [h.a (by omega)]; simp), if_neg (by rw [h.b (by omega)]; simp), if_pos e]; rfl
theorem kind_on {s : Str} {x : Nat} (h : KindUpto s x) (hx : x < 3) (e : (kindNameM ((x : Int) + 1) == s) = false) : KindUpto s (x + 1) := by
  have h3 : x = 0 ∨ x = 1 ∨ x = 2 := by omega
  rcases h3 with rfl | rfl | rfl
  · exact ⟨by omega, fun _ => e, fun h => by omega, fun h => by omega⟩
  · exact ⟨by omega, fun _ => h.a (by omega), fun _ => e, fun h => by omega⟩
  · exact ⟨by omega, fun _ => h.a (by omega), fun _ => h.b (by omega), fun _ => e⟩
theorem kind_no {s : Str} {x : Nat} (h : KindUpto s x) (hx : 3 ≤ x) : kindM s = 0 := by
  unfold kindM
  rw [if_neg (by rw [h.a (by omega)]; simp), if_neg (by rw [h.b (by omega)]; simp), if_neg (by rw [h.c (by omega)]; simp)]
theorem c109 (s : Str) (Hp : List AObj) : AFun Tryz.prog 109 [strA s] Hp (intA (kindM s)) := by
  refine ACall.body [.tmp 2] [0] Tryz.func109 Tryz.ntmps109 (fun d => ?_)
  refine AW.seqR ?_
  refine R.assign ?_
  refine R.fin [0] ?_
  refine W.seq ?_
  refine AW.seqR ?_
  refine R.assign ?_
  refine R.fin [0, 3] ?_
  refine AW.loopC (α := Nat) (fun x => ⟨13, setF 0 (strA s) (setF 3 (intA ((x : Nat) + 1)) (fun _ => .any)), Hp, [], [], none⟩) (fun x => KindUpto s x) (fun x => 3 - x) (0) ⟨by omega, fun h => by omega, fun h => by omega, fun h => by omega⟩ (StLe.refl _) rfl (fun x hx => ?_)
  refine W.seq ?_
  refine AW.seqR ?_
  refine R.move ?_
  refine R.leq ?_
  refine R.fin [0, 3, 5] ?_
  refine W.cond (fun ht5 => ?_) (fun ht5 => ?_)
  · skip
    have hx3 : x < 3 := by simp at ht5; omega
    refine AW.skip ?_
    refine K.thN ?_
    refine W.seq ?_
    refine AW.block ?_
    refine AW.seqR ?_
    refine R.move ?_
    refine R.call Tryz.call69 (c69 _ _) ?_
    refine R.move ?_
    refine R.seql ?_
    refine R.fin [0, 3, 11] ?_
    refine W.cond (fun ht11 => ?_) (fun ht11 => ?_)
    · skip
      refine AW.seqR ?_
      refine R.move ?_
      refine R.assign ?_
      refine R.fin [2] ?_
      refine AW.ret ?_
      refine K.blR ?_
      refine K.thR ?_
      refine K.lpR ?_
      refine K.thR ?_
      exact K.fin (V.one V.tmp) ⟨by rw [kind_at hx hx3 (by simpa using ht11)], rfl⟩
    · skip
      refine AW.skip ?_
      refine K.blN ?_
      refine K.thN ?_
      refine AW.region ?_
      refine R.move ?_
      refine R.add64 ?_
      refine R.assign ?_
      refine R.fin [0, 3] ?_
      exact K.lpN (x + 1) (kind_on hx hx3 (by simpa using ht11)) (by omega) (StCut.of_eq (by simp))
  · skip
    have hx3 : 3 ≤ x := by simp at ht5; omega
    refine AW.exit ?_
    refine K.thE ?_
    refine K.lpE ?_
    refine K.thN ?_
    refine AW.seqR ?_
    refine R.assign ?_
    refine R.fin [2] ?_
    refine AW.ret ?_
    exact K.fin (V.one V.tmp) ⟨by rw [kind_no hx hx3], rfl⟩

theorem c74 (e : Int) (t : Tok) (Hp : List AObj) : AFun Tryz.prog 74 [intA e, tokA t] Hp (.agg [intA e, intA (t.at_ : Int)]) := by
  refine ACall.body [.cell 4 27] [0, 1] Tryz.func74 Tryz.ntmps74 (fun d => ?_)
  refine AW.seqR ?_
  refine R.box ?_
  refine R.alloc Tryz.zeroValue27 ?_
  refine R.fin [0, 3, 4] ?_
  refine AW.seqR ?_
  refine R.move ?_
  refine R.fieldAddrPtr (fo := 2) Tryz.underlying31 Tryz.sizeOf3 ?_
  refine R.loadOwn Tryz.isAgg3 ?_
  refine R.build (places := #[(0, 1), (1, 1)]) Tryz.underlying27 (fun w => by simp) Tryz.zeroValue27 ?_
  refine R.storeOwn Tryz.sizeOf27 ?_
  refine R.fin [4] ?_
  refine AW.ret ?_
  exact K.fin (V.one (V.cellN Tryz.isAgg27 Tryz.sizeOf27))

abbrev rdr (l : List Tok) (acc : List Col) : AObj := .cells 100 [.slice false 3 (l.map tokA), .slice true 2 (acc.map colA)]
def colF (l : List Tok) (acc : List Col) : Int × Int :=
  if (tokAt l 0).kind != 1 then (8, (tokAt l 0).at_) else if ((tokAt l 1).kind != 2) || (kindM (tokAt l 1).text == 0) then (8, (tokAt l 1).at_)
  else if decide (0 ≤ findM (tokAt l 0).text acc) then (9, (tokAt l 0).at_) else if (acc.length : Int) == 12 then (3, (tokAt l 0).at_) else (0, 0)
def colN (l : List Tok) : Col := ⟨(tokAt l 0).text, kindM (tokAt l 1).text⟩
theorem c73 (l : List Tok) (acc : List Col) (o : Nat) (Hp : List AObj) (ho : Hp[o]? = some (rdr l acc)) (hl : 1 ≤ l.length) (hl2 : (tokAt l 0).kind = 1 → 2 ≤ l.length) (hc : OkCols acc) : ACall Tryz.prog 73 [.ptr o 0] Hp (fun r H' => r = .agg [intA (colF l acc).1, intA (colF l acc).2] ∧ H' = if (colF l acc).1 = 0 then Hp.set o (rdr (l.drop 2) (acc ++ [colN l])) else Hp) := by
  refine ACall.body [.cell 2 27] [0] Tryz.func73 Tryz.ntmps73 (fun d => ?_)
  refine AW.seqR ?_
  refine R.alloc Tryz.zeroValue27 ?_
  refine R.fin [0, 2] ?_
  refine AW.seqR ?_
  refine R.move ?_
  refine R.nilPtr ?_
  refine R.fieldAddrPtr (fo := 0) Tryz.underlying100 Tryz.sizeOf24 ?_
  refine R.loadUp Tryz.isAgg24 ho ?_
  refine R.indexAddr (0) (tokA (tokAt l 0)) Tryz.underlying24 Tryz.sizeOf31 (getTok hl) ?_
  refine R.loadRoN Tryz.isAgg31 Tryz.sizeOf31 ?_
  refine R.alloc Tryz.zeroValue31 ?_
  refine R.storeOwn Tryz.sizeOf31 ?_
  refine R.fin [0, 2, 3] ?_
  refine W.seq ?_
  refine AW.seqR ?_
  refine R.fieldAddrPtr (fo := 0) Tryz.underlying31 Tryz.sizeOf3 ?_
  refine R.loadOwn Tryz.isAgg3 ?_
  refine R.neq ?_
  refine R.fin [0, 2, 3, 14] ?_
  refine W.cond (fun ht14 => ?_) (fun ht14 => ?_)
  · skip
    refine AW.seqR ?_
    refine R.loadOwnN Tryz.isAgg31 Tryz.sizeOf31 ?_
    refine R.call Tryz.call74 (c74 _ _ _) ?_
    refine R.storeOwn Tryz.sizeOf27 ?_
    refine R.fin [2] ?_
    refine AW.ret ?_
    refine K.thR ?_
    have e : colF l acc = (8, ((tokAt l 0).at_ : Int)) := by
      unfold colF
      rw [if_pos ht14]
    exact K.fin (V.one (V.cellN Tryz.isAgg27 Tryz.sizeOf27)) ⟨by rw [e], by rw [e]; rfl⟩
  · skip
    have hk1 : (tokAt l 0).kind = 1 := by simpa using ht14
    have hk2 : 2 ≤ l.length := hl2 hk1
    refine AW.skip ?_
    refine K.thN ?_
    refine AW.seqR ?_
    refine R.move ?_
    refine R.nilPtr ?_
    refine R.fieldAddrPtr (fo := 0) Tryz.underlying100 Tryz.sizeOf24 ?_
    refine R.loadUp Tryz.isAgg24 ho ?_
    refine R.indexAddr (1) (tokA (tokAt l 1)) Tryz.underlying24 Tryz.sizeOf31 (getTok hk2) ?_
    refine R.loadRoN Tryz.isAgg31 Tryz.sizeOf31 ?_
    refine R.alloc Tryz.zeroValue31 ?_
    refine R.storeOwn Tryz.sizeOf31 ?_
    refine R.fin [0, 2, 3, 4] ?_
    refine AW.seqR ?_
    refine R.fieldAddrPtr (fo := 1) Tryz.underlying31 Tryz.sizeOf9 ?_
    refine R.loadOwn Tryz.isAgg9 ?_
    refine R.call Tryz.call109 (c109 _ _) ?_
    refine R.assign ?_
    refine R.fin [0, 2, 3, 4, 5] ?_
    refine W.seq ?_
    refine AW.block ?_
    refine AW.seqR ?_
    refine R.fieldAddrPtr (fo := 0) Tryz.underlying31 Tryz.sizeOf3 ?_
    refine R.loadOwn Tryz.isAgg3 ?_
    refine R.neq ?_
    refine R.move ?_
    refine G.move ?_
    refine G.eql ?_
    refine R.pickOr ?_
    refine R.assign ?_
    refine R.fin [0, 2, 3, 4, 5, 26] ?_
    refine W.cond (fun ht26 => ?_) (fun ht26 => ?_)
    · skip
      refine AW.seqR ?_
      refine R.loadOwnN Tryz.isAgg31 Tryz.sizeOf31 ?_
      refine R.call Tryz.call74 (c74 _ _ _) ?_
      refine R.storeOwn Tryz.sizeOf27 ?_
      refine R.fin [2] ?_
      refine AW.ret ?_
      refine K.blR ?_
      refine K.thR ?_
      have e : colF l acc = (8, ((tokAt l 1).at_ : Int)) := by
        unfold colF
        rw [if_neg (by rw [ht14]; simp), if_pos ht26]
      exact K.fin (V.one (V.cellN Tryz.isAgg27 Tryz.sizeOf27)) ⟨by rw [e], by rw [e]; rfl⟩
    · skip
      refine W.draw [0, 1, 3, 7, 0, 16, 63, 127, 255] 6 Tryzmixed (by kernel_rfl) ?_
      refine D.move ?_
      refine D.nilPtr ?_
      refine D.fieldAddrPtr (fo := 1) Tryz.underlying100 Tryz.sizeOf37 ?_
      refine D.loadUp Tryz.isAgg37 ho ?_
      refine D.fieldAddrPtr (fo := 1) Tryz.underlying31 Tryz.sizeOf9 ?_
      refine D.loadOwn Tryz.isAgg9 ?_
      refine D.tail ?_
      refine R.call Tryz.call100 (c100 acc hc _ _) ?_
      refine R.geq ?_
      refine R.assign ?_
      refine R.fin [0, 2, 3, 5, 36] ?_
      refine W.cond (fun ht36 => ?_) (fun ht36 => ?_)
      · skip
        refine AW.seqR ?_
        refine R.loadOwnN Tryz.isAgg31 Tryz.sizeOf31 ?_
        refine R.call Tryz.call74 (c74 _ _ _) ?_
        refine R.storeOwn Tryz.sizeOf27 ?_
        refine R.fin [2] ?_
        refine AW.ret ?_
        refine K.blR ?_
        refine K.thR ?_
        have e : colF l acc = (9, ((tokAt l 0).at_ : Int)) := by
          unfold colF
          rw [if_neg (by rw [ht14]; simp), if_neg (by rw [ht26]; simp), if_pos ht36]
        exact K.fin (V.one (V.cellN Tryz.isAgg27 Tryz.sizeOf27)) ⟨by rw [e], by rw [e]; rfl⟩
      · skip
        refine AW.seqR ?_
        refine R.move ?_
        refine R.nilPtr ?_
        refine R.fieldAddrPtr (fo := 1) Tryz.underlying100 Tryz.sizeOf37 ?_
        refine R.loadUp Tryz.isAgg37 ho ?_
        refine R.len Tryz.underlying37 ?_
        refine R.eql ?_
        refine R.assign ?_
        refine R.fin [0, 2, 3, 5, 47] ?_
        refine W.cond (fun ht47 => ?_) (fun ht47 => ?_)
        · skip
          refine AW.seqR ?_
          refine R.loadOwnN Tryz.isAgg31 Tryz.sizeOf31 ?_
          refine R.call Tryz.call74 (c74 _ _ _) ?_
          refine R.storeOwn Tryz.sizeOf27 ?_
          refine R.fin [2] ?_
          refine AW.ret ?_
          refine K.blR ?_
          refine K.thR ?_
          have e : colF l acc = (3, ((tokAt l 0).at_ : Int)) := by
            unfold colF
            rw [if_neg (by rw [ht14]; simp), if_neg (by rw [ht26]; simp), if_neg (by rw [ht36]; simp), if_pos (by simpa using ht47)]
          exact K.fin (V.one (V.cellN Tryz.isAgg27 Tryz.sizeOf27)) ⟨by rw [e], by rw [e]; rfl⟩
        · skip
          refine AW.skip ?_
          refine K.blN ?_
          refine K.thN ?_
          refine W.drawY [0, 0, 2, 6, 14, 0, 32, 0, 224, 480, 1022, 2047, 4095, 8191] [4] [.q 4 [] [], .s [60] (some 0) [] [], .q 5 [] [], .s [60, 66] none [0] []] (fun B => Hp.set o (if B 0 = true then .cells 100 [.slice false 3 (l.map tokA), .slice false 2 (acc.map colA)] else rdr l acc)) (fun _ => [.cells 27 [intA 0, intA 0], .cells 31 [intA (tokAt l 0).kind, strA (tokAt l 0).text, intA (tokAt l 0).at_], .cells 31 [intA (tokAt l 1).kind, strA (tokAt l 1).text, intA (tokAt l 1).at_]]) Tryzmixed (by kernel_rfl) (set_same ho) rfl (fun B => by simp) ?_
          apply Y.q
          case h1 =>
            intro B hT hF
            refine D.move ?_
            refine D.move ?_
            refine D.nilPtr ?_
            refine D.fieldAddrPtr (fo := 1) Tryz.underlying100 Tryz.sizeOf37 ?_
            exact D.end rfl rfl
          case hTF => decide
          refine Y.loadUpT (o := o) (t' := 100) (cs := [.slice false 3 (l.map tokA), .slice true 2 (acc.map colA)]) (cs' := [.slice false 3 (l.map tokA), .slice false 2 (acc.map colA)]) Tryz.isAgg37 (fun B hB => ⟨by simp only [hB]; exact getset ho, (List.set_set ..).symm, rfl⟩) ?_
          apply Y.q
          case h1 =>
            intro B hT hF
            refine D.fieldAddrPtr (fo := 1) Tryz.underlying31 Tryz.sizeOf9 ?_
            refine D.loadOwn Tryz.isAgg9 ?_
            refine D.move ?_
            refine D.build (places := #[(0, 1), (1, 1)]) Tryz.underlying65 (fun w => by simp) Tryz.zeroValue65 ?_
            refine D.buildSlice Tryz.underlying37 Tryz.sizeOf65 Tryz.zeroValue65 ?_
            exact D.end rfl rfl
          case hTF => decide
          refine Y.append Tryz.underlying37 Tryz.type65 ?_ ?_ ?_
          · have := hc.len; simp [Tryz.t65]; omega
          · have := hc.len; simp [Tryz.t65]; omega
          refine Y.tail (tn := [4]) (U := Hp.set o (.cells 100 [.slice false 3 (l.map tokA), .slice false 2 (acc.map colA)])) ?_
          refine R.nilPtr ?_
          refine R.fieldAddrPtr (fo := 1) Tryz.underlying100 Tryz.sizeOf37 ?_
          refine R.storeUpT Tryz.sizeOf37 (getset ho) ?_ ?_
          · simp [or_imp, forall_and]
          refine R.fin [0, 2] ?_
          refine AW.seqR ?_
          refine R.move ?_
          refine R.move ?_
          refine R.nilPtr ?_
          refine R.fieldAddrPtr (fo := 0) Tryz.underlying100 Tryz.sizeOf24 ?_
          refine R.loadUp Tryz.isAgg24 (getset (getset ho)) ?_
          refine R.cutL 2 Tryz.underlying24 Tryz.sizeOf31 (show 2 ≤ (l.map tokA).length by simpa using hk2) (Nat.le_refl _) ?_
          refine R.nilPtr ?_
          refine R.fieldAddrPtr (fo := 0) Tryz.underlying100 Tryz.sizeOf24 ?_
          refine R.storeUp Tryz.sizeOf24 (getset (getset ho)) ?_ ?_
          · simp
            intro x hx
            obtain ⟨t, _, rfl⟩ := List.mem_map.1 (List.mem_of_mem_drop hx)
            simp [or_imp, forall_and]
          refine R.fin [2] ?_
          refine AW.seqR ?_
          refine R.build (places := #[(0, 1), (1, 1)]) Tryz.underlying27 (fun w => by simp) Tryz.zeroValue27 ?_
          refine R.storeOwn Tryz.sizeOf27 ?_
          refine R.fin [2] ?_
          refine AW.ret ?_
          have e : colF l acc = (0, 0) := by
            unfold colF
            rw [if_neg (by rw [ht14]; simp), if_neg (by rw [ht26]; simp), if_neg (by rw [ht36]; simp), if_neg (by rw [List.length_map] at ht47; rw [ht47]; simp)]
          exact K.fin (V.one (V.cellN Tryz.isAgg27 Tryz.sizeOf27)) ⟨by rw [e], by rw [e, if_pos rfl, List.set_set, List.set_set, rdr, List.map_drop, List.map_append]; rfl⟩

end Go.SX.Nb
namespace Go.SX.Nb
open Go Go.SX Go.Proofs
variable [ErrAt]
set_option maxRecDepth 4000
theorem wrap_u64 {n : Int} (h1 : 0 ≤ n) (h2 : n < 18446744073709551616) : IntKind.u64.wrap n = n := by
  have e1 : (2 ^ IntKind.u64.bits : Int) = 18446744073709551616 := rfl
  have e3 : IntKind.u64.signed = false := rfl
  unfold IntKind.wrap
  simp only [e1, e3, Bool.false_and]
  simp
  omega
theorem u64_range (n : Int) : 0 ≤ IntKind.u64.wrap n ∧ IntKind.u64.wrap n < 18446744073709551616 := by
  have e1 : (2 ^ IntKind.u64.bits : Int) = 18446744073709551616 := rfl
  have e3 : IntKind.u64.signed = false := rfl
  unfold IntKind.wrap
  simp only [e1, e3, Bool.false_and]
  simp
  omega
theorem k_mod (m : Int) (N : Nat) (h1 : 1 ≤ N) (hN : N ≤ 100000) : ∃ K : Nat, K < N ∧ IntKind.i64.wrap ((IntKind.u64.wrap m).tmod (IntKind.u64.wrap (N : Int))) = (K : Int) := by
  have hr := u64_range m
  rw [wrap_u64 (n := (N : Int)) (by omega) (by omega), Int.tmod_eq_emod_of_nonneg hr.1]
  have g1 := Int.emod_nonneg (IntKind.u64.wrap m) (b := (N : Int)) (by omega)
  have g2 := Int.emod_lt_of_pos (IntKind.u64.wrap m) (b := (N : Int)) (by omega)
  refine ⟨((IntKind.u64.wrap m) % (N : Int)).toNat, by omega, ?_⟩
  rw [wrap_i64 (by omega) (by omega)]
  omega
theorem lexM_len {s : Str} (h : (lexM s).2.1 = 0) : 1 ≤ (lexM s).1.length ∧ (lexM s).1.length ≤ s.length + 2 := by
  obtain ⟨_, _, hl⟩ := lexM_ok h
  rw [hl]
  have := itemsT_len s
  simp
  omega
theorem tok_at_le {s : Str} {i : Nat} (h : (lexM s).2.1 = 0) (hi : i < (lexM s).1.length) : (tokAt (lexM s).1 i).at_ ≤ s.length := by
  obtain ⟨_, _, hl⟩ := lexM_ok h
  rw [hl] at hi ⊢
  simp only [List.length_append, List.length_map, List.length_cons, List.length_nil] at hi
  unfold tokAt
  rw [List.getD_eq_getElem?_getD]
  rcases Nat.lt_or_ge i (itemsT s).length with hlt | hge
  · have hit : (itemsT s)[i]? = some (itemsT s)[i] := List.getElem?_eq_getElem hlt
    simp only
    rw [List.getElem?_append_left (by simpa using hlt), List.getElem?_map, hit]
    exact items_at_le hit
  · simp only
    rw [List.getElem?_append_right (by simpa using hge), show i - ((itemsT s).map (·.1)).length = 0 by simp; omega]
    exact Nat.le_refl _
def gapL (k d : Nat) (L : List Tok) : List Tok := L.take k ++ (L.drop k).map (shiftTok d)
theorem gapL_len {k d : Nat} {L : List Tok} (hk : k < L.length) : (gapL k d L).length = L.length := by unfold gapL; simp; omega
theorem gapL_at {k d i : Nat} {L : List Tok} (hk : k < L.length) (hi : i < L.length) : tokAt (gapL k d L) i = if i < k then tokAt L i else shiftTok d (tokAt L i) := by
  unfold gapL tokAt
  simp only [List.getD_eq_getElem?_getD]
  split
  · rename_i h
    rw [List.getElem?_append_left (by simp; omega), List.getElem?_take, if_pos h]
  · rename_i h
    rw [List.getElem?_append_right (by simp; omega), List.getElem?_map, List.getElem?_drop, List.length_take, show k + (i - min k L.length) = i by omega, List.getElem?_eq_getElem hi]
    rfl
theorem gap_far0 {a : Tok} : ((((a.kind != a.kind) || !(a.text == a.text)) || (((a.at_ : Nat) : Int) != (a.at_ : Nat) + 0))) = false := by simp
theorem gap_far {a : Tok} {d : Nat} {n : Int} (h : n = (d : Nat)) : (((((shiftTok d a).kind != a.kind) || !((shiftTok d a).text == a.text)) || ((((shiftTok d a).at_ : Nat) : Int) != (a.at_ : Nat) + n))) = false := by
  subst h
  simp [shiftTok]
theorem new_eq (src note : Str) (p : Nat) : (((src.take p ++ [32, 9, 35]) ++ note) ++ [10, 32]) ++ src.drop p = src.take p ++ (insX note ++ src.drop p) := by simp [insX]
theorem c4 (src : Str) (at_ : Int) (note : Str) (Hp : List AObj) : AFun Tryz.prog 4 [strA src, intA at_, strA note] Hp (boolA true) := by
  refine ACall.body [.tmp 6] [0, 1, 2] Tryz.func4 Tryz.ntmps4 (fun d => ?_)
  refine AW.seqR ?_
  refine R.assign ?_
  refine R.fin [0, 1, 2] ?_
  refine W.seq ?_
  refine AW.seqR ?_
  refine R.call Tryz.call13 (c13 _) ?_
  refine R.not ?_
  refine R.fin [0, 1, 2, 17] ?_
  refine W.cond (fun ht17 => ?_) (fun ht17 => ?_)
  · skip
    cases ht17
  · skip
    refine AW.skip ?_
    refine K.thN ?_
    refine W.seq ?_
    refine AW.seqR ?_
    refine R.move ?_
    refine R.slen Tryz.underlying9 ?_
    refine R.gtr ?_
    refine R.move ?_
    refine G.move ?_
    refine G.slen Tryz.underlying9 ?_
    refine G.gtr ?_
    refine R.pickOr ?_
    refine R.fin [0, 1, 2, 25] ?_
    refine W.cond (fun ht25 => ?_) (fun ht25 => ?_)
    · skip
      refine AW.seqR ?_
      refine R.assign ?_
      refine R.fin [6] ?_
      refine AW.ret ?_
      refine K.thR ?_
      exact K.fin (V.one V.tmp)
    · skip
      have hls : src.length ≤ 2000 ∧ note.length ≤ 1000 := by simp at ht25; omega
      refine AW.skip ?_
      refine K.thN ?_
      refine AW.seqR ?_
      refine R.move ?_
      refine R.call Tryz.call15 (c15 src (by omega) _) ?_
      refine R.move ?_
      refine R.extract ?_
      refine R.extract ?_
      refine R.alloc Tryz.zeroValue27 ?_
      refine R.assign ?_
      refine R.storeOwn Tryz.sizeOf27 ?_
      refine R.fin [0, 1, 2, 7, 8] ?_
      refine W.seq ?_
      refine AW.seqR ?_
      refine R.fieldAddrPtr (fo := 0) Tryz.underlying27 Tryz.sizeOf25 ?_
      refine R.loadOwn Tryz.isAgg25 ?_
      refine R.neq ?_
      refine R.fin [0, 1, 2, 7, 33] ?_
      refine W.cond (fun ht33 => ?_) (fun ht33 => ?_)
      · skip
        refine AW.seqR ?_
        refine R.assign ?_
        refine R.fin [6] ?_
        refine AW.ret ?_
        refine K.thR ?_
        exact K.fin (V.one V.tmp)
      · skip
        have hf0 : (lexM src).2.1 = 0 := by simpa using ht33
        have hLm : (List.map tokA (lexM src).1).length = (lexM src).1.length := List.length_map _
        refine AW.skip ?_
        refine K.thN ?_
        refine W.seq ?_
        refine AW.seqR ?_
        refine R.assign ?_
        refine R.fin [0, 1, 2, 7, 9] ?_
        refine AW.loopC (α := Nat) (fun x => ⟨137, setF 0 (strA src) (setF 1 (intA at_) (setF 2 (strA note) (setF 7 (toksA (lexM src).1) (setF 9 (intA (x : Nat)) (fun _ => .any))))), Hp, [AObj.cells 27 [intA (lexM src).2.1, intA (lexM src).2.2]], [], none⟩) (fun x => x ≤ note.length ∧ ∀ (j : Nat) (b : UInt8), j < x → note[j]? = some b → b ≠ 10) (fun x => note.length - x) (0) ⟨Nat.zero_le _, fun j b h => by omega⟩ (StLe.refl _) rfl (fun x hx => ?_)
        refine W.seq ?_
        refine AW.seqR ?_
        refine R.move ?_
        refine R.move ?_
        refine R.slen Tryz.underlying9 ?_
        refine R.lss ?_
        refine R.fin [0, 1, 2, 7, 9, 37] ?_
        refine W.cond (fun ht37 => ?_) (fun ht37 => ?_)
        · skip
          have hxl : x < note.length := by simp at ht37; omega
          refine AW.skip ?_
          refine K.thN ?_
          refine W.seq ?_
          refine AW.block ?_
          refine AW.seqR ?_
          refine R.move ?_
          refine R.move ?_
          refine R.sindex x note[x] Tryz.underlying9 (List.getElem?_eq_getElem hxl) ?_
          refine R.eql ?_
          refine R.fin [0, 1, 2, 7, 9, 43] ?_
          refine W.cond (fun ht43 => ?_) (fun ht43 => ?_)
          · skip
            refine AW.seqR ?_
            refine R.assign ?_
            refine R.fin [6] ?_
            refine AW.ret ?_
            refine K.blR ?_
            refine K.thR ?_
            refine K.lpR ?_
            refine K.thR ?_
            exact K.fin (V.one V.tmp)
          · skip
            have hx10 : note[x] ≠ 10 := fun e => by rw [e] at ht43; simp at ht43
            refine AW.skip ?_
            refine K.blN ?_
            refine K.thN ?_
            refine AW.region ?_
            refine R.move ?_
            refine R.add64 ?_
            refine R.assign ?_
            refine R.fin [0, 1, 2, 7, 9] ?_
            exact K.lpN (x + 1) ⟨by omega, fun j b hj hjb => (by
              rcases Nat.lt_or_ge j x with h | h
              · exact hx.2 j b h hjb
              · have : j = x := by omega
                subst this
                rw [List.getElem?_eq_getElem hxl] at hjb
                injection hjb with hjb
                rw [← hjb]; exact hx10)⟩ (by omega) (StCut.of_eq rfl)
        · skip
          have hxe : note.length ≤ x := by simp at ht37; omega
          refine AW.exit ?_
          refine K.thE ?_
          refine K.lpE ?_
          refine K.thN ?_
          refine AW.seqR ?_
          have hnl : ∀ b ∈ note, b ≠ 10 := fun b hb => by
            obtain ⟨j, hj, e⟩ := List.mem_iff_getElem.1 hb
            exact hx.2 j b (by simp at ht37; omega) (by rw [List.getElem?_eq_getElem hj, e])
          have hLl := lexM_len hf0
          refine R.move ?_
          refine R.iconv Tryz.underlying3 Tryz.underlying32 ?_
          refine R.move ?_
          refine R.len Tryz.underlying24 ?_
          refine R.iconv Tryz.underlying3 Tryz.underlying32 ?_
          refine R.rem (h0 := by rw [List.length_map, wrap_u64 (by omega) (by omega)]; omega) ?_
          refine R.iconv Tryz.underlying32 Tryz.underlying3 ?_
          obtain ⟨k, hkl, hke⟩ := k_mod at_ (lexM src).1.length hLl.1 (by omega)
          rw [hLm, hke]
          refine R.assign ?_
          refine R.fin [0, 2, 7, 10] ?_
          refine W.seq ?_
          refine AW.seqR ?_
          refine R.move ?_
          refine R.move ?_
          refine R.len Tryz.underlying24 ?_
          refine R.sub64 ?_
          refine R.eql ?_
          refine R.fin [0, 2, 7, 10, 55] ?_
          refine W.cond (fun ht55 => ?_) (fun ht55 => ?_)
          · skip
            refine AW.seqR ?_
            refine R.assign ?_
            refine R.fin [6] ?_
            refine AW.ret ?_
            refine K.thR ?_
            exact K.fin (V.one V.tmp)
          · skip
            have hk1 : k + 1 < (lexM src).1.length := by simp at ht55; omega
            obtain ⟨hpl, hM⟩ := lex_gaps hls.1 hls.2 hf0 hnl hk1
            obtain ⟨p, hp⟩ : ∃ p, (tokAt (lexM src).1 k).at_ = p := ⟨_, rfl⟩
            rw [hp] at hpl hM
            have htp : (src.take p).length ≤ src.length := by rw [List.length_take]; omega
            have hdp : (src.drop p).length ≤ src.length := by rw [List.length_drop]; omega
            have hcall : ∀ Hp, AFun Tryz.prog 15 [strA ((((src.take p ++ [32, 9, 35]) ++ note) ++ [10, 32]) ++ src.drop p)] Hp (.tup [toksA (gapL k (note.length + 5) (lexM src).1), .agg [intA 0, intA 0]]) := fun Hp => by
              have := c15 ((((src.take p ++ [32, 9, 35]) ++ note) ++ [10, 32]) ++ src.drop p) (by simp; omega) Hp
              rw [new_eq, hM] at this
              rw [new_eq]
              exact this
            refine AW.skip ?_
            refine K.thN ?_
            refine AW.seqR ?_
            refine R.move ?_
            refine R.move ?_
            refine R.indexAddr (k) (tokA (tokAt (lexM src).1 k)) Tryz.underlying24 Tryz.sizeOf31 (getTok hkl) ?_
            refine R.fieldAddrRo (off := 2) Tryz.underlying31 Tryz.sizeOf3 ?_
            refine R.loadRo Tryz.isAgg3 ?_
            rw [hp]
            refine R.assign ?_
            refine R.fin [0, 2, 7, 10, 11] ?_
            apply W.drawXO [0, 0, 3, 7, 0, 31, 63, 0, 0, 384, 1023, 2047, 4095, 8191, 8191, 0, 49151, 131071] 15 1 13 (.ptr (oid Hp.length 1) 0) ([AObj.cells 27 [intA (lexM src).2.1, intA (lexM src).2.2], AObj.cells 27 [intA 0, intA 0]]) Tryzmixed
            case hok => kernel_rfl
            case h1 =>
              intro b
              refine D.move ?_
              refine D.move ?_
              refine D.scutH p Tryz.underlying9 (Nat.zero_le _) hpl ?_
              refine D.sadd ?_
              refine D.move ?_
              refine D.sadd ?_
              refine D.sadd ?_
              refine D.move ?_
              refine D.move ?_
              refine D.scutL p Tryz.underlying9 hpl (Nat.le_refl _) ?_
              refine D.sadd ?_
              refine D.call Tryz.call15 (hcall _) ?_
              refine D.move ?_
              refine D.extract ?_
              refine D.extract ?_
              exact D.end rfl rfl
            case h2 =>
              intro b
              refine D.assign ?_
              exact D.end rfl rfl
            case hE =>
              intro f hf
              exact X.alloc Tryz.zeroValue27 rfl rfl (by decide)
            case hx => kernel_rfl
            case hlen => simp
            refine R.storeOwn Tryz.sizeOf27 ?_
            refine R.fin [2, 7, 10, 12, 13] ?_
            refine W.seq ?_
            refine AW.seqR ?_
            refine R.fieldAddrPtr (fo := 0) Tryz.underlying27 Tryz.sizeOf25 ?_
            refine R.loadOwn Tryz.isAgg25 ?_
            refine R.neq ?_
            refine R.move ?_
            refine G.move ?_
            refine G.len Tryz.underlying24 ?_
            refine G.move ?_
            refine G.len Tryz.underlying24 ?_
            refine G.neq ?_
            refine R.pickOr ?_
            refine R.fin [2, 7, 10, 12, 85] ?_
            refine W.cond (fun ht85 => ?_) (fun ht85 => ?_)
            · skip
              exact absurd ht85 (by simp [gapL_len hkl])
            · skip
              refine AW.skip ?_
              refine K.thN ?_
              refine W.seq ?_
              refine AW.seqR ?_
              refine R.assign ?_
              refine R.fin [2, 7, 10, 12, 14] ?_
              refine AW.loopC (α := Nat) (fun x => ⟨137, setF 2 (strA note) (setF 7 (toksA (lexM src).1) (setF 10 (intA (k : Nat)) (setF 12 (toksA (gapL k (note.length + 5) (lexM src).1)) (setF 14 (intA (x : Nat)) (fun _ => .any))))), Hp, [AObj.cells 27 [intA (lexM src).2.1, intA (lexM src).2.2], AObj.cells 27 [intA 0, intA 0]], [], none⟩) (fun x => x ≤ (lexM src).1.length) (fun x => (lexM src).1.length - x) (0) (Nat.zero_le _) (StLe.refl _) rfl (fun x hx => ?_)
              refine W.seq ?_
              refine AW.seqR ?_
              refine R.move ?_
              refine R.move ?_
              refine R.len Tryz.underlying24 ?_
              refine R.lss ?_
              refine R.fin [2, 7, 10, 12, 14, 89] ?_
              refine W.cond (fun ht89 => ?_) (fun ht89 => ?_)
              · skip
                have hxl : x < (lexM src).1.length := by simp at ht89; omega
                have hat := tok_at_le hf0 hxl
                have hxm : x < (gapL k (note.length + 5) (lexM src).1).length := by rw [gapL_len hkl]; exact hxl
                refine AW.skip ?_
                refine K.thN ?_
                refine W.seq ?_
                refine AW.block ?_
                refine AW.seqR ?_
                refine R.assign ?_
                refine R.fin [2, 7, 10, 12, 14, 15] ?_
                refine W.seq ?_
                refine AW.seqR ?_
                refine R.move ?_
                refine R.move ?_
                refine R.geq ?_
                refine R.fin [2, 7, 10, 12, 14, 15, 94] ?_
                refine W.cond (fun ht94 => ?_) (fun ht94 => ?_)
                · skip
                  have hkx : k ≤ x := by simp at ht94; omega
                  have hmx : tokAt (gapL k (note.length + 5) (lexM src).1) x = shiftTok (note.length + 5) (tokAt (lexM src).1 x) := by rw [gapL_at hkl hxl, if_neg (by omega)]
                  refine AW.region ?_
                  refine R.move ?_
                  refine R.slen Tryz.underlying9 ?_
                  refine R.add64 ?_
                  refine R.assign ?_
                  refine R.fin [2, 7, 10, 12, 14, 15] ?_
                  refine K.thN ?_
                  refine W.draw [0, 0, 3, 7, 15, 0, 0, 96, 224, 480, 1023, 2047, 4095, 4095, 16383, 32767, 65535, 4095, 4095, 397311, 921599, 1970175, 4194303, 8388607, 16777215, 33554431, 33554431, 134217727, 268435455, 536870911, 33554431, 33554431, 3254779903, 7549747199, 16139681791, 33554431, 67679289343, 137438953471, 274877906943] 37 Tryzmixed (by kernel_rfl) ?_
                  refine D.move ?_
                  refine D.move ?_
                  refine D.indexAddr (x) (tokA (tokAt (gapL k (note.length + 5) (lexM src).1) x)) Tryz.underlying24 Tryz.sizeOf31 (getTok hxm) ?_
                  refine D.fieldAddrRo (off := 0) Tryz.underlying31 Tryz.sizeOf3 ?_
                  refine D.loadRo Tryz.isAgg3 ?_
                  refine D.move ?_
                  refine D.move ?_
                  refine D.indexAddr (x) (tokA (tokAt (lexM src).1 x)) Tryz.underlying24 Tryz.sizeOf31 (getTok hxl) ?_
                  refine D.fieldAddrRo (off := 0) Tryz.underlying31 Tryz.sizeOf3 ?_
                  refine D.loadRo Tryz.isAgg3 ?_
                  refine D.neq ?_
                  refine D.move ?_
                  refine H.move ?_
                  refine H.move ?_
                  refine H.indexAddr (x) (tokA (tokAt (gapL k (note.length + 5) (lexM src).1) x)) Tryz.underlying24 Tryz.sizeOf31 (fun _ => getTok hxm) ?_
                  refine H.fieldAddrRo (off := 1) Tryz.underlying31 Tryz.sizeOf9 ?_
                  refine H.loadRo Tryz.isAgg9 ?_
                  refine H.move ?_
                  refine H.move ?_
                  refine H.indexAddr (x) (tokA (tokAt (lexM src).1 x)) Tryz.underlying24 Tryz.sizeOf31 (fun _ => getTok hxl) ?_
                  refine H.fieldAddrRo (off := 1) Tryz.underlying31 Tryz.sizeOf9 ?_
                  refine H.loadRo Tryz.isAgg9 ?_
                  refine H.sneq ?_
                  refine D.pickOr ?_
                  refine D.move ?_
                  refine H.move ?_
                  refine H.move ?_
                  refine H.indexAddr (x) (tokA (tokAt (gapL k (note.length + 5) (lexM src).1) x)) Tryz.underlying24 Tryz.sizeOf31 (fun _ => getTok hxm) ?_
                  refine H.fieldAddrRo (off := 2) Tryz.underlying31 Tryz.sizeOf3 ?_
                  refine H.loadRo Tryz.isAgg3 ?_
                  refine H.move ?_
                  refine H.move ?_
                  refine H.indexAddr (x) (tokA (tokAt (lexM src).1 x)) Tryz.underlying24 Tryz.sizeOf31 (fun _ => getTok hxl) ?_
                  refine H.fieldAddrRo (off := 2) Tryz.underlying31 Tryz.sizeOf3 ?_
                  refine H.loadRo Tryz.isAgg3 ?_
                  refine H.move ?_
                  refine H.add64 ?_
                  refine D.tail ?_
                  refine G.neq ?_
                  refine R.pickOr ?_
                  refine R.fin [2, 7, 10, 12, 14, 136] ?_
                  refine W.cond (fun ht136 => ?_) (fun ht136 => ?_)
                  · skip
                    first | exact absurd ht136 (by rw [hmx, gap_far0]; simp) | exact absurd ht136 (by rw [hmx, gap_far (by simp)]; simp)
                  · skip
                    refine AW.skip ?_
                    refine K.blN ?_
                    refine K.thN ?_
                    refine AW.region ?_
                    refine R.move ?_
                    refine R.add64 ?_
                    refine R.assign ?_
                    refine R.fin [2, 7, 10, 12, 14] ?_
                    exact K.lpN (x + 1) hxl (by omega) (StCut.of_eq rfl)
                · skip
                  have hkx : x < k := by simp at ht94; omega
                  have hmx : tokAt (gapL k (note.length + 5) (lexM src).1) x = tokAt (lexM src).1 x := by rw [gapL_at hkl hxl, if_pos hkx]
                  refine AW.skip ?_
                  refine K.thN ?_
                  refine W.draw [0, 0, 3, 7, 15, 0, 0, 96, 224, 480, 1023, 2047, 4095, 4095, 16383, 32767, 65535, 4095, 4095, 397311, 921599, 1970175, 4194303, 8388607, 16777215, 33554431, 33554431, 134217727, 268435455, 536870911, 33554431, 33554431, 3254779903, 7549747199, 16139681791, 33554431, 67679289343, 137438953471, 274877906943] 37 Tryzmixed (by kernel_rfl) ?_
                  refine D.move ?_
                  refine D.move ?_
                  refine D.indexAddr (x) (tokA (tokAt (gapL k (note.length + 5) (lexM src).1) x)) Tryz.underlying24 Tryz.sizeOf31 (getTok hxm) ?_
                  refine D.fieldAddrRo (off := 0) Tryz.underlying31 Tryz.sizeOf3 ?_
                  refine D.loadRo Tryz.isAgg3 ?_
                  refine D.move ?_
                  refine D.move ?_
                  refine D.indexAddr (x) (tokA (tokAt (lexM src).1 x)) Tryz.underlying24 Tryz.sizeOf31 (getTok hxl) ?_
                  refine D.fieldAddrRo (off := 0) Tryz.underlying31 Tryz.sizeOf3 ?_
                  refine D.loadRo Tryz.isAgg3 ?_
                  refine D.neq ?_
                  refine D.move ?_
                  refine H.move ?_
                  refine H.move ?_
                  refine H.indexAddr (x) (tokA (tokAt (gapL k (note.length + 5) (lexM src).1) x)) Tryz.underlying24 Tryz.sizeOf31 (fun _ => getTok hxm) ?_
                  refine H.fieldAddrRo (off := 1) Tryz.underlying31 Tryz.sizeOf9 ?_
                  refine H.loadRo Tryz.isAgg9 ?_
                  refine H.move ?_
                  refine H.move ?_
                  refine H.indexAddr (x) (tokA (tokAt (lexM src).1 x)) Tryz.underlying24 Tryz.sizeOf31 (fun _ => getTok hxl) ?_
                  refine H.fieldAddrRo (off := 1) Tryz.underlying31 Tryz.sizeOf9 ?_
                  refine H.loadRo Tryz.isAgg9 ?_
                  refine H.sneq ?_
                  refine D.pickOr ?_
                  refine D.move ?_
                  refine H.move ?_
                  refine H.move ?_
                  refine H.indexAddr (x) (tokA (tokAt (gapL k (note.length + 5) (lexM src).1) x)) Tryz.underlying24 Tryz.sizeOf31 (fun _ => getTok hxm) ?_
                  refine H.fieldAddrRo (off := 2) Tryz.underlying31 Tryz.sizeOf3 ?_
                  refine H.loadRo Tryz.isAgg3 ?_
                  refine H.move ?_
                  refine H.move ?_
                  refine H.indexAddr (x) (tokA (tokAt (lexM src).1 x)) Tryz.underlying24 Tryz.sizeOf31 (fun _ => getTok hxl) ?_
                  refine H.fieldAddrRo (off := 2) Tryz.underlying31 Tryz.sizeOf3 ?_
                  refine H.loadRo Tryz.isAgg3 ?_
                  refine H.move ?_
                  refine H.add64 ?_
                  refine D.tail ?_
                  refine G.neq ?_
                  refine R.pickOr ?_
                  refine R.fin [2, 7, 10, 12, 14, 136] ?_
                  refine W.cond (fun ht136 => ?_) (fun ht136 => ?_)
                  · skip
                    first | exact absurd ht136 (by rw [hmx, gap_far0]; simp) | exact absurd ht136 (by rw [hmx, gap_far (by simp)]; simp)
                  · skip
                    refine AW.skip ?_
                    refine K.blN ?_
                    refine K.thN ?_
                    refine AW.region ?_
                    refine R.move ?_
                    refine R.add64 ?_
                    refine R.assign ?_
                    refine R.fin [2, 7, 10, 12, 14] ?_
                    exact K.lpN (x + 1) hxl (by omega) (StCut.of_eq rfl)
              · skip
                refine AW.exit ?_
                refine K.thE ?_
                refine K.lpE ?_
                refine K.thN ?_
                refine AW.seqR ?_
                refine R.assign ?_
                refine R.fin [6] ?_
                refine AW.ret ?_
                exact K.fin (V.one V.tmp)

end Go.SX.Nb
namespace Go.SX.Nb
open Go Go.SX Go.Proofs
variable [ErrAt]
set_option maxRecDepth 4000
theorem dblM_ge : ∀ t : Str, t.length ≤ (dblM t).length
  | [] => Nat.le_refl _
  | c :: r => by
    have := dblM_ge r
    rw [dblM_cons, List.length_append, List.length_cons]
    have h : 1 ≤ (dblC c).length := by unfold dblC; split <;> simp
    omega
theorem text_le (t : Tok) : t.text.length ≤ (spell t).length := by
  unfold spell
  split
  · have := dblM_ge t.text
    simp only [List.length_append, List.length_cons, List.length_nil]
    omega
  · exact Nat.le_refl _
theorem joinT_take (l : List Tok) (x : Nat) : (joinT (l.take x)).length ≤ (joinT l).length := by
  unfold joinT
  conv => rhs; rw [← List.take_append_drop x l, List.flatMap_append, List.length_append]
  omega
theorem joinT_succ {l : List Tok} {x : Nat} (h : x < l.length) : joinT (l.take (x + 1)) = joinT (l.take x) ++ spell (tokAt l x) ++ [32] := by
  unfold joinT tokAt
  rw [List.take_succ, List.getElem?_eq_getElem h, List.flatMap_append, List.getD_eq_getElem?_getD, List.getElem?_eq_getElem h]
  simp
theorem lex_again {s : Str} (hs : s.length ≤ 2000) (hf : (lexM s).2.1 = 0) : (joinT ((lexM s).1.take ((lexM s).1.length - 1))).length ≤ 4000 ∧ ∃ M, lexM (joinT ((lexM s).1.take ((lexM s).1.length - 1))) = (M, 0, 0) ∧ M.length = (lexM s).1.length ∧ ∀ i, i < (lexM s).1.length → (tokAt M i).kind = (tokAt (lexM s).1 i).kind ∧ (tokAt M i).text = (tokAt (lexM s).1 i).text := by
  obtain ⟨_, hok, hl⟩ := lexM_ok hf
  rw [hl]
  simp only
  have hT : ((itemsT s).map (·.1) ++ [(⟨0, [], s.length⟩ : Tok)]).take (((itemsT s).map (·.1) ++ [(⟨0, [], s.length⟩ : Tok)]).length - 1) = (itemsT s).map (·.1) := by
    rw [List.length_append, List.length_singleton, Nat.add_sub_cancel, List.take_left]
  rw [hT]
  have hG := itemsT_G s
  obtain ⟨h1, h2⟩ := lex_twice (s.length + 1) 0 s (by omega) (by rw [← hG]; exact hok)
  rw [← hG] at h1 h2
  refine ⟨by omega, ?_⟩
  obtain ⟨S, hS⟩ : ∃ S, joinT ((itemsT s).map (·.1)) = S := ⟨_, rfl⟩
  rw [hS] at h1 h2 ⊢
  have h3 := h2 (S.length + 1) 0 (by omega)
  rw [← itemsT_G] at h3
  have hlen : (itemsT S).length = (itemsT s).length := by have := congrArg List.length h3; simpa using this
  have hat : ∀ i (h : i < (itemsT s).length), sameT ((itemsT S)[i]'(by omega)) = sameT (itemsT s)[i] := fun i h => by
    have := congrArg (·[i]?) h3
    simp only [List.getElem?_map, List.getElem?_eq_getElem h, List.getElem?_eq_getElem (show i < (itemsT S).length by omega), Option.map_some] at this
    exact Option.some.inj this
  refine ⟨_, lexM_of (by omega) (fun it hit => ?_), by simp [hlen], fun i hi => ?_⟩
  · obtain ⟨i, hi, rfl⟩ := List.mem_iff_getElem.1 hit
    have := congrArg (·.2.2) (hat i (by omega))
    have e : ((itemsT S)[i]).2 = ((itemsT s)[i]'(by omega)).2 := this
    rw [e]
    exact hok _ (List.getElem_mem _)
  · simp only [List.length_append, List.length_map, List.length_singleton] at hi
    unfold tokAt
    rw [List.getD_eq_getElem?_getD, List.getD_eq_getElem?_getD]
    rcases Nat.lt_or_ge i (itemsT s).length with hlt | hge
    · rw [List.getElem?_append_left (by simp; omega), List.getElem?_append_left (by simpa using hlt), List.getElem?_map, List.getElem?_map, List.getElem?_eq_getElem hlt, List.getElem?_eq_getElem (show i < (itemsT S).length by omega)]
      have := hat i hlt
      exact ⟨congrArg (·.1) this, congrArg (·.2.1) this⟩
    · have e : i = (itemsT s).length := by omega
      subst e
      rw [List.getElem?_append_right (by simp [hlen]), List.getElem?_append_right (by simp)]
      simp [hlen]
theorem lex_bad {s : Str} (h : (lexM s).2.1 ≠ 0) : (lexM s).1 = [] := by
  unfold lexM at h ⊢
  split
  · rfl
  · rename_i hl
    rw [if_neg hl] at h
    split
    · rfl
    · rename_i hf
      rw [hf] at h
      exact absurd rfl h
theorem c5 (src : Str) (Hp : List AObj) : AFun Tryz.prog 5 [strA src] Hp (boolA true) := by
  refine ACall.body [.tmp 2] [0] Tryz.func5 Tryz.ntmps5 (fun d => ?_)
  refine AW.seqR ?_
  refine R.assign ?_
  refine R.fin [0] ?_
  refine W.seq ?_
  refine AW.seqR ?_
  refine R.call Tryz.call13 (c13 _) ?_
  refine R.not ?_
  refine R.fin [0, 12] ?_
  refine W.cond (fun ht12 => ?_) (fun ht12 => ?_)
  · skip
    cases ht12
  · skip
    refine AW.skip ?_
    refine K.thN ?_
    refine W.seq ?_
    refine AW.seqR ?_
    refine R.move ?_
    refine R.slen Tryz.underlying9 ?_
    refine R.gtr ?_
    refine R.fin [0, 15] ?_
    refine W.cond (fun ht15 => ?_) (fun ht15 => ?_)
    · skip
      refine AW.seqR ?_
      refine R.assign ?_
      refine R.fin [2] ?_
      refine AW.ret ?_
      refine K.thR ?_
      exact K.fin (V.one V.tmp) ⟨by first | rfl | (rw [hbad]; rfl), rfl⟩
    · skip
      have hls : src.length ≤ 2000 := by simp at ht15; omega
      refine AW.skip ?_
      refine K.thN ?_
      refine AW.seqR ?_
      refine R.move ?_
      refine R.call Tryz.call15 (c15 src (by omega) _) ?_
      refine R.move ?_
      refine R.extract ?_
      refine R.extract ?_
      refine R.alloc Tryz.zeroValue27 ?_
      refine R.assign ?_
      refine R.storeOwn Tryz.sizeOf27 ?_
      refine R.fin [3, 4] ?_
      refine W.seq ?_
      refine AW.seqR ?_
      refine R.fieldAddrPtr (fo := 0) Tryz.underlying27 Tryz.sizeOf25 ?_
      refine R.loadOwn Tryz.isAgg25 ?_
      refine R.neq ?_
      refine R.fin [3, 23] ?_
      refine W.cond (fun ht23 => ?_) (fun ht23 => ?_)
      · skip
        have hbad := lex_bad (s := src) (by simpa using ht23)
        refine AW.seqR ?_
        refine R.move ?_
        refine R.len Tryz.underlying24 ?_
        refine R.eql ?_
        refine R.assign ?_
        refine R.fin [2] ?_
        refine AW.ret ?_
        refine K.thR ?_
        exact K.fin (V.one V.tmp) ⟨by first | rfl | (rw [hbad]; rfl), rfl⟩
      · skip
        have hf0 : (lexM src).2.1 = 0 := by simpa using ht23
        have hLm : (List.map tokA (lexM src).1).length = (lexM src).1.length := List.length_map _
        have hLl := lexM_len hf0
        obtain ⟨hj4, M, hM, hMl, hMt⟩ := lex_again hls hf0
        refine AW.skip ?_
        refine K.thN ?_
        refine AW.seqR ?_
        refine R.assign ?_
        refine R.fin [3, 5] ?_
        refine W.seq ?_
        refine AW.seqR ?_
        refine R.assign ?_
        refine R.fin [3, 5, 6] ?_
        refine AW.loopC (α := Nat) (fun x => ⟨97, setF 3 (toksA (lexM src).1) (setF 5 (strA (joinT ((lexM src).1.take x))) (setF 6 (intA (x : Nat)) (fun _ => .any))), Hp, [AObj.cells 27 [intA (lexM src).2.1, intA (lexM src).2.2]], [], none⟩) (fun x => x ≤ (lexM src).1.length - 1) (fun x => (lexM src).1.length - x) (0) (Nat.zero_le _) (StLe.refl _) rfl (fun x hx => ?_)
        refine W.seq ?_
        refine AW.seqR ?_
        refine R.move ?_
        refine R.move ?_
        refine R.len Tryz.underlying24 ?_
        refine R.sub64 ?_
        refine R.lss ?_
        refine R.fin [3, 5, 6, 31] ?_
        refine W.cond (fun ht31 => ?_) (fun ht31 => ?_)
        · skip
          have hxl : x < (lexM src).1.length := by simp at ht31; omega
          have hx1 : x + 1 ≤ (lexM src).1.length - 1 := by simp at ht31; omega
          have hjs := joinT_succ hxl
          have hj5 : (joinT ((lexM src).1.take (x + 1))).length ≤ 4000 := by
            have e : (lexM src).1.take (x + 1) = ((lexM src).1.take ((lexM src).1.length - 1)).take (x + 1) := by rw [List.take_take, Nat.min_eq_left hx1]
            rw [e]
            exact Nat.le_trans (joinT_take _ _) hj4
          rw [hjs, List.length_append, List.length_append] at hj5
          have htx : (tokAt (lexM src).1 x).text.length ≤ 1048576 := by have := text_le (tokAt (lexM src).1 x); omega
          have htl := text_le (tokAt (lexM src).1 x)
          refine AW.skip ?_
          refine K.thN ?_
          refine W.seq ?_
          refine AW.block ?_
          refine AW.seqR ?_
          refine R.move ?_
          refine R.move ?_
          refine R.indexAddr (x) (tokA (tokAt (lexM src).1 x)) Tryz.underlying24 Tryz.sizeOf31 (getTok hxl) ?_
          refine R.fieldAddrRo (off := 1) Tryz.underlying31 Tryz.sizeOf9 ?_
          refine R.loadRo Tryz.isAgg9 ?_
          refine R.assign ?_
          refine R.fin [3, 5, 6, 7] ?_
          refine W.seq ?_
          refine AW.seqR ?_
          refine R.move ?_
          refine R.move ?_
          refine R.indexAddr (x) (tokA (tokAt (lexM src).1 x)) Tryz.underlying24 Tryz.sizeOf31 (getTok hxl) ?_
          refine R.fieldAddrRo (off := 0) Tryz.underlying31 Tryz.sizeOf3 ?_
          refine R.loadRo Tryz.isAgg3 ?_
          refine R.eql ?_
          refine R.fin [3, 5, 6, 7, 44] ?_
          refine W.cond (fun ht44 => ?_) (fun ht44 => ?_)
          · skip
            have hk4 : (tokAt (lexM src).1 x).kind = 4 := by simpa using ht44
            have hsp : spell (tokAt (lexM src).1 x) = [39] ++ dblM (tokAt (lexM src).1 x).text ++ [39] := by unfold spell; rw [if_pos hk4]
            rw [hsp] at hjs hj5
            simp only [List.length_append, List.length_cons, List.length_nil] at hj5
            refine AW.region ?_
            refine R.move ?_
            refine R.build (places := #[(0, 1), (1, 1), (2, 1)]) Tryz.underlying36 (fun w => by simp) Tryz.zeroValue36 ?_
            refine R.call Tryz.call19 (c19 (tokAt (lexM src).1 x).text htx _) ?_
            refine R.assign ?_
            refine R.fin [3, 5, 6, 7] ?_
            refine K.thN ?_
            refine AW.region ?_
            refine R.move ?_
            refine R.move ?_
            refine R.sadd (hl := by first | (simp only [List.length_append, List.length_cons, List.length_nil]; omega) | omega) ?_
            refine R.sadd ?_
            refine R.assign ?_
            refine R.fin [3, 5, 6] ?_
            refine K.blN ?_
            refine K.thN ?_
            refine AW.region ?_
            refine R.move ?_
            refine R.add64 ?_
            refine R.assign ?_
            refine R.fin [3, 5, 6] ?_
            exact K.lpN (x + 1) hx1 (by omega) (StCut.of_eq (by rw [hjs]; rfl))
          · skip
            have hk4 : (tokAt (lexM src).1 x).kind ≠ 4 := by simpa using ht44
            have hsp : spell (tokAt (lexM src).1 x) = (tokAt (lexM src).1 x).text := by unfold spell; rw [if_neg hk4]
            rw [hsp] at hjs hj5
            refine AW.skip ?_
            refine K.thN ?_
            refine AW.region ?_
            refine R.move ?_
            refine R.move ?_
            refine R.sadd (hl := by first | (simp only [List.length_append, List.length_cons, List.length_nil]; omega) | omega) ?_
            refine R.sadd ?_
            refine R.assign ?_
            refine R.fin [3, 5, 6] ?_
            refine K.blN ?_
            refine K.thN ?_
            refine AW.region ?_
            refine R.move ?_
            refine R.add64 ?_
            refine R.assign ?_
            refine R.fin [3, 5, 6] ?_
            exact K.lpN (x + 1) hx1 (by omega) (StCut.of_eq (by rw [hjs]; rfl))
        · skip
          have hxe : x = (lexM src).1.length - 1 := by simp at ht31; omega
          have hcall : ∀ Hp, AFun Tryz.prog 15 [strA (joinT ((lexM src).1.take x))] Hp (.tup [toksA M, .agg [intA 0, intA 0]]) := fun Hp => by
            have := c15 (joinT ((lexM src).1.take ((lexM src).1.length - 1))) (by omega) Hp
            rw [hM] at this
            rw [hxe]
            exact this
          refine AW.exit ?_
          refine K.thE ?_
          refine K.lpE ?_
          refine K.thN ?_
          refine AW.seqR ?_
          refine R.move ?_
          refine R.call Tryz.call15 (hcall _) ?_
          refine R.move ?_
          refine R.extract ?_
          refine R.extract ?_
          refine R.alloc Tryz.zeroValue27 ?_
          refine R.assign ?_
          refine R.storeOwn Tryz.sizeOf27 ?_
          refine R.fin [3, 8, 9] ?_
          refine W.seq ?_
          refine AW.seqR ?_
          refine R.fieldAddrPtr (fo := 0) Tryz.underlying27 Tryz.sizeOf25 ?_
          refine R.loadOwn Tryz.isAgg25 ?_
          refine R.neq ?_
          refine R.move ?_
          refine G.move ?_
          refine G.len Tryz.underlying24 ?_
          refine G.move ?_
          refine G.len Tryz.underlying24 ?_
          refine G.neq ?_
          refine R.pickOr ?_
          refine R.fin [3, 8, 66] ?_
          refine W.cond (fun ht66 => ?_) (fun ht66 => ?_)
          · skip
            exact absurd ht66 (by simp [hMl])
          · skip
            refine AW.skip ?_
            refine K.thN ?_
            refine W.seq ?_
            refine AW.seqR ?_
            refine R.assign ?_
            refine R.fin [3, 8, 10] ?_
            refine AW.loopC (α := Nat) (fun x => ⟨97, setF 3 (toksA (lexM src).1) (setF 8 (toksA M) (setF 10 (intA (x : Nat)) (fun _ => .any))), Hp, [AObj.cells 27 [intA (lexM src).2.1, intA (lexM src).2.2], AObj.cells 27 [intA 0, intA 0]], [], none⟩) (fun x => x ≤ (lexM src).1.length) (fun x => (lexM src).1.length - x) (0) (Nat.zero_le _) (StLe.refl _) rfl (fun x hx => ?_)
            refine W.seq ?_
            refine AW.seqR ?_
            refine R.move ?_
            refine R.move ?_
            refine R.len Tryz.underlying24 ?_
            refine R.lss ?_
            refine R.fin [3, 8, 10, 70] ?_
            refine W.cond (fun ht70 => ?_) (fun ht70 => ?_)
            · skip
              have hxl : x < (lexM src).1.length := by simp at ht70; omega
              have hxm : x < M.length := by omega
              obtain ⟨hmk, hmt⟩ := hMt x hxl
              refine AW.skip ?_
              refine K.thN ?_
              refine W.seq ?_
              refine AW.block ?_
              refine W.draw [0, 0, 3, 7, 15, 0, 0, 96, 224, 480, 1023, 2047, 4095, 4095, 16383, 32767, 65535, 4095, 4095, 397311, 921599, 1970175, 4194303, 8388607] 22 Tryzmixed (by kernel_rfl) ?_
              refine D.move ?_
              refine D.move ?_
              refine D.indexAddr (x) (tokA (tokAt M x)) Tryz.underlying24 Tryz.sizeOf31 (getTok hxm) ?_
              refine D.fieldAddrRo (off := 0) Tryz.underlying31 Tryz.sizeOf3 ?_
              refine D.loadRo Tryz.isAgg3 ?_
              refine D.move ?_
              refine D.move ?_
              refine D.indexAddr (x) (tokA (tokAt (lexM src).1 x)) Tryz.underlying24 Tryz.sizeOf31 (getTok hxl) ?_
              refine D.fieldAddrRo (off := 0) Tryz.underlying31 Tryz.sizeOf3 ?_
              refine D.loadRo Tryz.isAgg3 ?_
              refine D.neq ?_
              refine D.move ?_
              refine H.move ?_
              refine H.move ?_
              refine H.indexAddr (x) (tokA (tokAt M x)) Tryz.underlying24 Tryz.sizeOf31 (fun _ => getTok hxm) ?_
              refine H.fieldAddrRo (off := 1) Tryz.underlying31 Tryz.sizeOf9 ?_
              refine H.loadRo Tryz.isAgg9 ?_
              refine H.move ?_
              refine H.move ?_
              refine H.indexAddr (x) (tokA (tokAt (lexM src).1 x)) Tryz.underlying24 Tryz.sizeOf31 (fun _ => getTok hxl) ?_
              refine H.fieldAddrRo (off := 1) Tryz.underlying31 Tryz.sizeOf9 ?_
              refine H.loadRo Tryz.isAgg9 ?_
              refine D.tail ?_
              refine G.sneq ?_
              refine R.pickOr ?_
              refine R.fin [3, 8, 10, 96] ?_
              refine W.cond (fun ht96 => ?_) (fun ht96 => ?_)
              · skip
                exact absurd ht96 (by rw [hmk, hmt]; simp)
              · skip
                refine AW.skip ?_
                refine K.blN ?_
                refine K.thN ?_
                refine AW.region ?_
                refine R.move ?_
                refine R.add64 ?_
                refine R.assign ?_
                refine R.fin [3, 8, 10] ?_
                exact K.lpN (x + 1) hxl (by omega) (StCut.of_eq rfl)
            · skip
              refine AW.exit ?_
              refine K.thE ?_
              refine K.lpE ?_
              refine K.thN ?_
              refine AW.seqR ?_
              refine R.assign ?_
              refine R.fin [2] ?_
              refine AW.ret ?_
              exact K.fin (V.one V.tmp) ⟨by first | rfl | (rw [hbad]; rfl), rfl⟩

end Go.SX.Nb
namespace Go.SX.Nb
open Go Go.SX Go.Proofs
variable [ErrAt]
set_option maxRecDepth 4000
theorem low_map {α : Type} {n : Nat} {f : α → AV} {l : List α} (h : ∀ a, Low n (f a)) : ∀ y ∈ l.map f, Low n y := by
  intro y hy
  obtain ⟨a, _, rfl⟩ := List.mem_map.1 hy
  exact h a
theorem low_strs1 {n k : Nat} {o : Bool} {l : List Str} {z : Str} : Low n (.slice o k (l.map strA ++ [strA z])) := by
  refine .slice _ _ _ (fun y hy => ?_)
  rcases List.mem_append.1 hy with hy | hy
  · obtain ⟨a, _, rfl⟩ := List.mem_map.1 hy
    intro z hz
    rw [List.mem_singleton.1 (show z ∈ [strA a] from hz)]
    exact .v _
  · rw [List.mem_singleton.1 hy]
    intro z' hz
    rw [List.mem_singleton.1 (show z' ∈ [strA z] from hz)]
    exact .v _
theorem low_rdr {n : Nat} {l : List Tok} {acc : List Col} : ObjLow n (rdr l acc) := by
  show ∀ y ∈ [AV.slice false 3 (l.map tokA), AV.slice true 2 (acc.map colA)], Low n y
  intro y hy
  simp only [List.mem_cons, List.not_mem_nil, or_false] at hy
  rcases hy with rfl | rfl
  · simp [or_imp, forall_and]
  · simp [or_imp, forall_and]
theorem low_ints {n : Nat} {t : TypeId} {a b : Int} : ObjLow n (.cells t [intA a, intA b]) := by
  show ∀ y ∈ [intA a, intA b], Low n y
  simp
theorem mem3 {α : Type} {P : α → Prop} {a b c : α} (h1 : P a) (h2 : P b) (h3 : P c) : ∀ x ∈ [a, b, c], P x := by
  intro x hx
  simp only [List.mem_cons, List.not_mem_nil, or_false] at hx
  rcases hx with rfl | rfl | rfl
  · exact h1
  · exact h2
  · exact h3
def schPrintM (c : List Col) : Str := if rightP c then colsT c else []
theorem c22 (c : List Col) (hc : OkCols c) (Hp : List AObj) : AFun Tryz.prog 22 [colsA c] Hp (strA (schPrintM c)) := by
  refine ACall.body [.tmp 2] [0] Tryz.func22 Tryz.ntmps22 (fun d => ?_)
  refine AW.seqR ?_
  refine R.assign ?_
  refine R.fin [0] ?_
  refine W.seq ?_
  refine AW.seqR ?_
  refine R.move ?_
  refine R.call Tryz.call23 (c23 c hc _) ?_
  refine R.not ?_
  refine R.fin [0, 8] ?_
  refine W.cond (fun ht8 => ?_) (fun ht8 => ?_)
  · skip
    have hr : rightP c = false := by simpa using ht8
    refine AW.seqR ?_
    refine R.assign ?_
    refine R.fin [2] ?_
    refine AW.ret ?_
    refine K.thR ?_
    exact K.fin (V.one V.tmp) ⟨by rw [schPrintM, if_neg (by rw [hr]; simp)], rfl⟩
  · skip
    have hr : rightP c = true := by simpa using ht8
    have h12 : c.length ≤ 12 := by unfold rightP at hr; simp at hr; omega
    refine AW.skip ?_
    refine K.thN ?_
    refine AW.seqR ?_
    refine R.assign ?_
    refine R.fin [0, 3] ?_
    refine W.seq ?_
    refine AW.seqR ?_
    refine R.nilSl 3 1 ?_
    refine R.move ?_
    refine R.len Tryz.underlying37 ?_
    refine R.move ?_
    refine R.fin [3, 9, 10, 11] ?_
    refine AW.loopC (α := Nat) (fun x => ⟨28, setF 3 (.slice true 1 (((c.take x).map colT).map strA)) (setF 9 (colsA c) (setF 10 (intA c.length) (setF 11 (intA (x : Nat)) (fun _ => .any)))), Hp, [], [], none⟩) (fun x => x ≤ c.length) (fun x => c.length - x) (0) (Nat.zero_le _) (StLe.of_eq (by simp)) rfl (fun x hx => ?_)
    refine AW.seqR ?_
    refine R.lss ?_
    refine R.fin [3, 9, 10, 11, 12] ?_
    refine W.condX (fun ht12 => ?_) (fun ht12 => ?_)
    · skip
      have hlt : x < c.length := by simpa using ht12
      have hcl := hc.len
      have hb2 := hc.2 c[x] (List.getElem_mem hlt)
      have hb3 := kindName_len c[x].kind
      have htk : c.take (x + 1) = c.take x ++ [c[x]] := by rw [List.take_succ, List.getElem?_eq_getElem hlt]; rfl
      refine W.seq ?_
      refine AW.block ?_
      refine AW.seqR ?_
      refine R.indexAddr (x) (colA c[x]) Tryz.underlying37 Tryz.sizeOf65 (getMap hlt) ?_
      refine R.loadRoN Tryz.isAgg65 Tryz.sizeOf65 ?_
      refine R.alloc Tryz.zeroValue65 ?_
      refine R.storeOwn Tryz.sizeOf65 ?_
      refine R.fin [3, 5, 9, 10, 11] ?_
      refine W.drawY0 [0, 0, 2, 6, 0, 16, 48, 126, 254, 511, 1023] [] [.s [3, 15] none [] [], .q 8 [] []] (fun _ => Hp) (fun _ => [.cells 65 [strA c[x].name, intA c[x].kind]]) Tryzmixed (by kernel_rfl) rfl rfl (fun _ => rfl) ?_
      refine Y.moveT ?_
      apply Y.q
      case h1 =>
        intro B hT hF
        refine D.fieldAddrPtr (fo := 0) Tryz.underlying65 Tryz.sizeOf9 ?_
        refine D.loadOwn Tryz.isAgg9 ?_
        refine D.sadd ?_
        refine D.fieldAddrPtr (fo := 1) Tryz.underlying65 Tryz.sizeOf3 ?_
        refine D.loadOwn Tryz.isAgg3 ?_
        refine D.call Tryz.call69 (c69 _ _) ?_
        refine D.sadd ?_
        refine D.buildSlice Tryz.underlying50 Tryz.sizeOf9 Tryz.zeroValue9 ?_
        exact D.end rfl rfl
      case hTF => decide
      refine Y.tail (tn := [])  ?_
      refine R.append Tryz.underlying50 Tryz.type9 ?_ ?_ ?_
      · have := hc.len; simp [Tryz.t9]; omega
      · have := hc.len; simp [Tryz.t9]; omega
      refine R.assignT ?_
      refine R.fin [3, 9, 10, 11] ?_
      refine K.blN ?_
      refine K.thN ?_
      refine AW.region ?_
      refine R.add64 ?_
      refine R.move ?_
      refine R.fin [3, 9, 10, 11] ?_
      refine K.lpN (x + 1) hlt (by omega) ?_
      simp only [htk, List.map_append, List.map_cons, List.map_nil, colT]
      exact StCut.take (own := []) (fun _ => .refl _) (by repeat (first | exact lowF_any | refine lowF_set (by first | (simp [or_imp, forall_and]; done) | exact low_strs1) ?_)) (by simp) (by simp)
    · skip
      have hx12 : x ≤ 12 := by omega
      have hxe : c.take x = c := List.take_of_length_le (by simp at ht12; omega)
      refine K.lpE ?_
      refine K.thN ?_
      refine AW.seqR ?_
      refine R.move ?_
      refine R.call Tryz.call70 (c70 ((c.take x).map colT) [44, 32] (by have := hc.len; simp; omega) (Nat.le_trans (colsT_len hc x) (by omega)) _) ?_
      refine R.assign ?_
      refine R.fin [2] ?_
      refine AW.ret ?_
      exact K.fin (V.one V.tmp) ⟨by rw [schPrintM, if_pos hr, hxe]; rfl, rfl⟩

/-- Words with an end. -/
structure TokEnd (l : List Tok) : Prop where
  split : ∃ L z, l = L ++ [z] ∧ z.kind = 0 ∧ ∀ t ∈ L, t.kind ≠ 0
  texts : ∀ t ∈ l, t.text.length ≤ 1048576
theorem TokEnd.pos {l : List Tok} (h : TokEnd l) : 1 ≤ l.length := by
  obtain ⟨L, z, rfl, _, _⟩ := h.split
  simp
theorem TokEnd.next {l : List Tok} (h : TokEnd l) (h0 : (tokAt l 0).kind ≠ 0) : TokEnd (l.drop 1) ∧ 2 ≤ l.length := by
  obtain ⟨L, z, rfl, hz, hL⟩ := h.split
  cases L with
  | nil => exact absurd hz h0
  | cons t L => exact ⟨⟨⟨L, z, rfl, hz, fun u hu => hL u (by simp [hu])⟩, fun u hu => h.texts u (by simp at hu ⊢; exact .inr hu)⟩, by simp⟩
theorem tokAt_drop (l : List Tok) (k i : Nat) : tokAt (l.drop k) i = tokAt l (k + i) := by
  unfold tokAt
  rw [List.getD_eq_getElem?_getD, List.getElem?_drop, List.getD_eq_getElem?_getD]
theorem TokEnd.text {l : List Tok} (h : TokEnd l) (i : Nat) : (tokAt l i).text.length ≤ 1048576 := by
  unfold tokAt
  rcases Nat.lt_or_ge i l.length with hi | hi
  · rw [List.getD_eq_getElem?_getD, List.getElem?_eq_getElem hi]
    exact h.texts _ (List.getElem_mem hi)
  · rw [List.getD_eq_getElem?_getD, List.getElem?_eq_none hi]
    exact Nat.zero_le _
def nextR (l : List Tok) (acc : List Col) : AObj := if (colF l acc).1 = 0 then rdr (l.drop 2) (acc ++ [colN l]) else rdr l acc
theorem c73' (l : List Tok) (acc : List Col) (o : Nat) (Hp : List AObj) (ho : Hp[o]? = some (rdr l acc)) (hl : TokEnd l) (hc : OkCols acc) : ACall Tryz.prog 73 [.ptr o 0] Hp (fun r H' => r = .agg [intA (colF l acc).1, intA (colF l acc).2] ∧ H' = Hp.set o (nextR l acc)) := by
  have h := c73 l acc o Hp ho hl.pos (fun h => (hl.next (by rw [h]; decide)).2) hc
  have e : (if (colF l acc).1 = 0 then Hp.set o (rdr (l.drop 2) (acc ++ [colN l])) else Hp) = Hp.set o (nextR l acc) := by
    unfold nextR
    split
    · rfl
    · exact (set_same ho).symm
  rw [e] at h
  exact h
theorem colF_ok {l : List Tok} {acc : List Col} (h : (colF l acc).1 = 0) : (tokAt l 0).kind = 1 ∧ (tokAt l 1).kind = 2 ∧ acc.length ≠ 12 := by
  unfold colF at h
  split at h
  · exact absurd (show (8 : Int) = 0 from h) (by decide)
  · rename_i h1
    split at h
    · exact absurd (show (8 : Int) = 0 from h) (by decide)
    · rename_i h2
      split at h
      · exact absurd (show (9 : Int) = 0 from h) (by decide)
      · split at h
        · exact absurd (show (3 : Int) = 0 from h) (by decide)
        · rename_i h4
          simp only [bne_iff_ne, ne_eq, Classical.not_not, Bool.or_eq_true, not_or, beq_iff_eq] at h1 h2 h4
          exact ⟨h1, h2.1, fun e => h4 (by omega)⟩
theorem TokEnd.three {l : List Tok} {acc : List Col} (hl : TokEnd l) (h : (colF l acc).1 = 0) : TokEnd (l.drop 2) ∧ 3 ≤ l.length := by
  obtain ⟨h1, h2, _⟩ := colF_ok h
  obtain ⟨a1, a2⟩ := hl.next (by rw [h1]; decide)
  obtain ⟨b1, b2⟩ := a1.next (by rw [tokAt_drop]; show (tokAt l 1).kind ≠ 0; rw [h2]; decide)
  rw [List.drop_drop] at b1
  rw [List.length_drop] at b2
  exact ⟨b1, by omega⟩
def readF : Nat → List Tok → List Col → List Col × Int × Int
  | 0, _, _ => ([], 0, 0)
  | f + 1, l, acc => if (colF l acc).1 != 0 then ([], (colF l acc).1, (colF l acc).2)
    else if (tokAt l 2).kind == 0 then (acc ++ [colN l], 0, 0)
    else if ((tokAt l 2).kind != 5) || !((tokAt l 2).text == [44]) then ([], 8, (tokAt l 2).at_)
    else readF f (l.drop 3) (acc ++ [colN l])
def schReadM (s : Str) : List Col × Int × Int :=
  if ((lexM s).2.1 != 0) || (((lexM s).1.length : Int) == 1) then ([], (lexM s).2.1, (lexM s).2.2) else readF ((lexM s).1.length + 1) (lexM s).1 []
theorem word_nz (s : Str) (he : (wordM s).2.2.2 = 0) : (wordM s).1 ≠ 0 := by
  revert he
  unfold wordM namedM numberM quotedM signM
  repeat' split
  all_goals simp
theorem items_nz : ∀ (f q : Nat) (s : Str), (∀ it ∈ itemsF f q s, it.2 = 0) → ∀ it ∈ itemsF f q s, it.1.kind ≠ 0 ∧ it.1.text.length ≤ s.length
  | 0, _, _, _, it, hm => by cases hm
  | f + 1, q, s, h, it, hm => by
    by_cases hs : s = []
    · subst hs; cases hm
    · obtain ⟨n, h1, h2⟩ := itemsF_step (f := f) (q := q) hs
      rw [h1] at hm h
      have h0 : (wordM s).2.2.2 = 0 := h (⟨(wordM s).1, (wordM s).2.1, q⟩, (wordM s).2.2.2) (List.mem_cons_self ..)
      obtain ⟨hn, hn1, hn2⟩ := h2 h0
      rw [if_pos h0] at hm h
      rcases List.mem_cons.1 hm with rfl | hm
      · refine ⟨word_nz s h0, ?_⟩
        have hs1 : 1 ≤ s.length := by cases s with | nil => exact absurd rfl hs | cons c r => simp
        have := word_spell (p := q) hs1 h0 hn
        have h3 := text_le ⟨(wordM s).1, (wordM s).2.1, q⟩
        rw [this] at h3
        simp only [List.length_take] at h3
        show (wordM s).2.1.length ≤ s.length
        omega
      · have := items_nz f _ _ (fun it hit => h it (List.mem_cons_of_mem _ hit)) it hm
        simp only [List.length_drop] at this
        exact ⟨this.1, by omega⟩
theorem lex_end {s : Str} (h : (lexM s).2.1 = 0) : TokEnd (lexM s).1 := by
  by_cases h4 : 4000 < s.length
  · unfold lexM at h
    rw [if_pos h4] at h
    exact absurd h (by decide)
  · have e : lexM s = ((itemsT s).map (·.1) ++ [⟨0, [], s.length⟩], 0, 0) ∧ ∀ it ∈ itemsT s, it.2 = 0 := by
      unfold lexM at h ⊢
      rw [if_neg h4] at h ⊢
      cases hf : (itemsT s).find? (fun it => it.2 != 0) with
      | none =>
        rw [List.find?_eq_none] at hf
        exact ⟨rfl, fun it hit => by simpa using hf it hit⟩
      | some it =>
        rw [hf] at h
        have := List.find?_some hf
        simp only [bne_iff_ne] at this
        exact absurd h this
    obtain ⟨e, hz⟩ := e
    have hnz := items_nz _ _ _ hz
    rw [e]
    refine ⟨⟨_, _, rfl, rfl, fun t ht => ?_⟩, fun t ht => ?_⟩
    · obtain ⟨it, hit, rfl⟩ := List.mem_map.1 ht
      exact (hnz it hit).1
    · rcases List.mem_append.1 ht with ht | ht
      · obtain ⟨it, hit, rfl⟩ := List.mem_map.1 ht
        have := (hnz it hit).2
        simp only [List.length_drop] at this
        omega
      · have e : t = ⟨0, [], s.length⟩ := by simpa using ht
        subst e
        exact Nat.zero_le _
structure ReadAt (s : Str) (x : List Tok × List Col) : Prop where
  toks : TokEnd x.1
  cols : OkCols x.2
  n12 : x.2.length ≤ 12
  eq : ∃ f, x.1.length < f ∧ schReadM s = readF f x.1 x.2
theorem ReadAt.on {s : Str} {x : List Tok × List Col} (h : ReadAt s x) (h0 : (colF x.1 x.2).1 = 0) (h1 : ((tokAt x.1 2).kind == 0) = false) (h2 : (((tokAt x.1 2).kind != 5) || !((tokAt x.1 2).text == [44])) = false) : ReadAt s (x.1.drop 3, x.2 ++ [colN x.1]) ∧ 3 ≤ x.1.length := by
  obtain ⟨f, hf, e⟩ := h.eq
  obtain ⟨a1, a2⟩ := h.toks.three h0
  obtain ⟨b1, b2⟩ := a1.next (by rw [tokAt_drop]; simpa using h1)
  rw [List.drop_drop] at b1
  obtain ⟨_, _, hn⟩ := colF_ok h0
  refine ⟨⟨b1, ⟨?_, ?_⟩, ?_, ?_⟩, a2⟩
  · have := h.n12; simp only [List.length_append, List.length_cons, List.length_nil]; omega
  · intro y hy
    rcases List.mem_append.1 hy with hy | hy
    · exact h.cols.2 y hy
    · have e : y = colN x.1 := by simpa using hy
      subst e
      exact h.toks.text 0
  · have := h.n12; simp only [List.length_append, List.length_cons, List.length_nil]; omega
  · obtain ⟨g, rfl⟩ : ∃ g, f = g + 1 := ⟨f - 1, by omega⟩
    refine ⟨g, by simp only [List.length_drop]; omega, ?_⟩
    rw [e, readF, if_neg (by rw [h0]; decide), if_neg (by rw [h1]; simp), if_neg (by rw [h2]; simp)]
theorem ReadAt.out {s : Str} {x : List Tok × List Col} (h : ReadAt s x) : ∃ f, schReadM s = readF (f + 1) x.1 x.2 := by
  obtain ⟨f, hf, e⟩ := h.eq
  exact ⟨f - 1, by rw [e, show f - 1 + 1 = f by omega]⟩
theorem c25 (s : Str) (hs : s.length ≤ 1048576) (Hp : List AObj) : AFun Tryz.prog 25 [strA s] Hp (.tup [colsA (schReadM s).1, .agg [intA (schReadM s).2.1, intA (schReadM s).2.2]]) := by
  refine ACall.body [.tmp 2, .cell 3 27] [0] Tryz.func25 Tryz.ntmps25 (fun d => ?_)
  refine AW.seqR ?_
  refine R.assign ?_
  refine R.alloc Tryz.zeroValue27 ?_
  refine R.fin [0, 3] ?_
  refine AW.seqR ?_
  refine R.move ?_
  refine R.call Tryz.call15 (c15 s hs _) ?_
  refine R.move ?_
  refine R.extract ?_
  refine R.extract ?_
  refine R.alloc Tryz.zeroValue27 ?_
  refine R.assign ?_
  refine R.storeOwn Tryz.sizeOf27 ?_
  refine R.fin [3, 4, 5] ?_
  refine W.seq ?_
  refine AW.seqR ?_
  refine R.fieldAddrPtr (fo := 0) Tryz.underlying27 Tryz.sizeOf25 ?_
  refine R.loadOwn Tryz.isAgg25 ?_
  refine R.neq ?_
  refine R.move ?_
  refine G.move ?_
  refine G.len Tryz.underlying24 ?_
  refine G.eql ?_
  refine R.pickOr ?_
  refine R.fin [3, 4, 5, 21] ?_
  refine W.cond (fun ht21 => ?_) (fun ht21 => ?_)
  · skip
    have hm : schReadM s = ([], (lexM s).2.1, ((lexM s).2.2 : Int)) := by unfold schReadM; rw [if_pos (by simpa using ht21)]
    refine W.draw [0, 0, 3] 2 Tryzmixed (by kernel_rfl) ?_
    refine D.loadOwnN Tryz.isAgg27 Tryz.sizeOf27 ?_
    refine D.assign ?_
    refine D.tail ?_
    refine R.nilSl 2 2 ?_
    refine R.storeOwn Tryz.sizeOf27 ?_
    refine R.fin [2, 3] ?_
    refine AW.ret ?_
    refine K.thR ?_
    exact K.fin (V.two V.tmp (V.cellN Tryz.isAgg27 Tryz.sizeOf27)) ⟨by rw [hm]; try rfl, rfl⟩
  · skip
    have hb : (((lexM s).2.1 != 0) || (((lexM s).1.length : Int) == 1)) = false := by simpa using ht21
    have hm : schReadM s = readF ((lexM s).1.length + 1) (lexM s).1 [] := by unfold schReadM; rw [if_neg (by rw [hb]; simp)]
    have hle := lex_end (s := s) (by have := hb; simp at this; exact this.1)
    refine AW.skip ?_
    refine K.thN ?_
    refine AW.seqR ?_
    refine R.move ?_
    refine R.build (places := #[(0, 1), (1, 1)]) Tryz.underlying100 (fun w => by simp) Tryz.zeroValue100 ?_
    refine R.box ?_
    refine R.nilCell 2 1 2 ?_
    refine R.assign ?_
    refine R.fin [3, 6] ?_
    refine AW.loopC (α := List Tok × List Col) (fun x => ⟨66, setF 3 (.ptr (oid Hp.length 0) 0) (setF 6 (.ptr (oid Hp.length 2) 0) (fun _ => .any)), Hp, [.cells 27 [intA 0, intA 0], .cells 27 [intA (lexM s).2.1, intA ((lexM s).2.2 : Nat)], rdr x.1 x.2], [], none⟩) (fun x => ReadAt s x) (fun x => x.1.length) (((lexM s).1, [])) ⟨hle, ⟨by simp, by simp⟩, by simp, _, by simp, hm⟩ (StLe.refl _) rfl (fun x hx => ?_)
    refine AW.block ?_
    refine W.seq ?_
    refine AW.seqR ?_
    refine R.move ?_
    refine R.callOwn (n := 2) (x := nextR x.1 x.2) Tryz.call73 (c73' x.1 x.2 (oid Hp.length 2) _ (by rw [get_oid]; rfl) hx.toks hx.cols) ?_
    refine R.alloc Tryz.zeroValue27 ?_
    refine R.storeOwn Tryz.sizeOf27 ?_
    refine R.fin [3, 6, 7] ?_
    refine AW.seqR ?_
    refine R.fieldAddrPtr (fo := 0) Tryz.underlying27 Tryz.sizeOf25 ?_
    refine R.loadOwn Tryz.isAgg25 ?_
    refine R.neq ?_
    refine R.fin [3, 6, 7, 30] ?_
    refine W.cond (fun ht30 => ?_) (fun ht30 => ?_)
    · skip
      refine W.draw [0, 0, 3] 2 Tryzmixed (by kernel_rfl) ?_
      refine D.loadOwnN Tryz.isAgg27 Tryz.sizeOf27 ?_
      refine D.assign ?_
      refine D.tail ?_
      refine R.nilSl 2 2 ?_
      refine R.storeOwn Tryz.sizeOf27 ?_
      refine R.fin [2, 3] ?_
      refine AW.ret ?_
      refine K.thR ?_
      refine K.blR ?_
      refine K.lpR ?_
      obtain ⟨f, e⟩ := hx.out
      have e2 : schReadM s = ([], (colF x.1 x.2).1, (colF x.1 x.2).2) := by rw [e, readF, if_pos ht30]
      exact K.fin (V.two V.tmp (V.cellN Tryz.isAgg27 Tryz.sizeOf27)) ⟨by rw [e2]; try rfl, rfl⟩
    · skip
      have h0 : (colF x.1 x.2).1 = 0 := by simpa using ht30
      have h3 := hx.toks.three h0
      have hnx : nextR x.1 x.2 = rdr (x.1.drop 2) (x.2 ++ [colN x.1]) := if_pos h0
      rw [hnx]
      refine AW.skip ?_
      refine K.thN ?_
      refine AW.seqR ?_
      refine R.move ?_
      refine R.nilPtr ?_
      refine R.fieldAddrPtr (fo := 0) Tryz.underlying100 Tryz.sizeOf24 ?_
      refine R.loadOwn Tryz.isAgg24 ?_
      refine R.indexAddr (0) (tokA (tokAt (x.1.drop 2) 0)) Tryz.underlying24 Tryz.sizeOf31 (getTok h3.1.pos) ?_
      refine R.loadRoN Tryz.isAgg31 Tryz.sizeOf31 ?_
      refine R.alloc Tryz.zeroValue31 ?_
      refine R.storeOwn Tryz.sizeOf31 ?_
      refine R.fin [3, 6, 8] ?_
      refine W.seq ?_
      refine AW.block ?_
      refine AW.seqR ?_
      refine R.fieldAddrPtr (fo := 0) Tryz.underlying31 Tryz.sizeOf3 ?_
      refine R.loadOwn Tryz.isAgg3 ?_
      refine R.eql ?_
      refine R.assign ?_
      refine R.fin [3, 6, 8, 38] ?_
      refine W.cond (fun ht38 => ?_) (fun ht38 => ?_)
      · skip
        have hk0 : ((tokAt x.1 2).kind == 0) = true := by rw [tokAt_drop] at ht38; simpa using ht38
        refine AW.seqR ?_
        refine R.move ?_
        refine R.nilPtr ?_
        refine R.fieldAddrPtr (fo := 1) Tryz.underlying100 Tryz.sizeOf37 ?_
        refine R.loadOwn Tryz.isAgg37 ?_
        refine R.build (places := #[(0, 1), (1, 1)]) Tryz.underlying27 (fun w => by simp) Tryz.zeroValue27 ?_
        refine R.assign ?_
        refine R.storeOwn Tryz.sizeOf27 ?_
        refine R.fin [2, 3] ?_
        refine AW.ret ?_
        refine K.blR ?_
        refine K.thR ?_
        refine K.blR ?_
        refine K.lpR ?_
        obtain ⟨f, e⟩ := hx.out
        have e2 : schReadM s = (x.2 ++ [colN x.1], 0, 0) := by rw [e, readF, if_neg (by rw [h0]; decide), if_pos hk0]
        exact K.fin (V.two V.tmp (V.cellN Tryz.isAgg27 Tryz.sizeOf27)) ⟨by rw [e2, colsA]; try rfl, rfl⟩ (hlow := by simp [or_imp, forall_and])
      · skip
        have hk0 : ((tokAt x.1 2).kind == 0) = false := by rw [tokAt_drop] at ht38; simpa using ht38
        refine AW.seqR ?_
        refine R.fieldAddrPtr (fo := 0) Tryz.underlying31 Tryz.sizeOf3 ?_
        refine R.loadOwn Tryz.isAgg3 ?_
        refine R.neq ?_
        refine R.move ?_
        refine G.fieldAddrPtr (fo := 1) Tryz.underlying31 Tryz.sizeOf9 ?_
        refine G.loadOwn Tryz.isAgg9 ?_
        refine G.sneq ?_
        refine R.pickOr ?_
        refine R.assign ?_
        refine R.fin [3, 6, 8, 47] ?_
        refine W.cond (fun ht47 => ?_) (fun ht47 => ?_)
        · skip
          have hk5 : (((tokAt x.1 2).kind != 5) || !((tokAt x.1 2).text == [44])) = true := by rw [tokAt_drop] at ht47; exact ht47
          refine AW.seqR ?_
          refine R.loadOwnN Tryz.isAgg31 Tryz.sizeOf31 ?_
          refine R.call Tryz.call74 (c74 _ _ _) ?_
          refine R.assign ?_
          refine R.nilSl 2 2 ?_
          refine R.storeOwn Tryz.sizeOf27 ?_
          refine R.fin [2, 3] ?_
          refine AW.ret ?_
          refine K.blR ?_
          refine K.thR ?_
          refine K.blR ?_
          refine K.lpR ?_
          obtain ⟨f, e⟩ := hx.out
          have e2 : schReadM s = ([], 8, ((tokAt x.1 2).at_ : Int)) := by rw [e, readF, if_neg (by rw [h0]; decide), if_neg (by rw [hk0]; simp), if_pos hk5]
          exact K.fin (V.two V.tmp (V.cellN Tryz.isAgg27 Tryz.sizeOf27)) ⟨by rw [e2, tokAt_drop]; try rfl, rfl⟩
        · skip
          have hk5 : (((tokAt x.1 2).kind != 5) || !((tokAt x.1 2).text == [44])) = false := by rw [tokAt_drop] at ht47; exact ht47
          refine AW.skip ?_
          refine K.blN ?_
          refine K.thN ?_
          refine AW.region ?_
          refine R.move ?_
          refine R.move ?_
          refine R.nilPtr ?_
          refine R.fieldAddrPtr (fo := 0) Tryz.underlying100 Tryz.sizeOf24 ?_
          refine R.loadOwn Tryz.isAgg24 ?_
          refine R.cutL 1 Tryz.underlying24 Tryz.sizeOf31 (show 1 ≤ ((x.1.drop 2).map tokA).length by have := h3.1.pos; simpa using this) (Nat.le_refl _) ?_
          refine R.nilPtr ?_
          refine R.fieldAddrPtr (fo := 0) Tryz.underlying100 Tryz.sizeOf24 ?_
          refine R.storeOwn Tryz.sizeOf24 ?_
          refine R.fin [3, 6] ?_
          refine K.blN ?_
          have hon := hx.on h0 hk0 hk5
          refine K.lpN (x.1.drop 3, x.2 ++ [colN x.1]) hon.1 (by have := hon.2; simp only [List.length_drop]; omega) ?_
          have e3 : ((x.1.drop 2).map tokA).drop 1 = (x.1.drop 3).map tokA := by rw [← List.map_drop, List.drop_drop]
          rw [e3]
          exact StCut.take (own := [.cells 27 [intA 0, intA 0], .cells 27 [intA (lexM s).2.1, intA ((lexM s).2.2 : Nat)], rdr (x.1.drop 3) (x.2 ++ [colN x.1])]) (fun _ => .refl _) (by repeat (first | exact lowF_any | refine lowF_set (by simp [oid] <;> omega) ?_)) (mem3 low_ints low_ints low_rdr) (by simp)

end Go.SX.Nb
namespace Go.SX.Nb
open Go Go.SX Go.Proofs
variable [ErrAt]
set_option maxRecDepth 4000
/-! What is printed of a schema is read. -/
theorem findM_no {nm : Str} {c : List Col} (h : ∀ y ∈ c, y.name ≠ nm) : findM nm c = -1 := findM_none fun _ y hj => h y (List.mem_of_getElem? hj)
theorem kind_back {k : Int} (h1 : 1 ≤ k) (h3 : k ≤ 3) : kindM (kindNameM k) = k := by
  rcases kind_cases h1 h3 with rfl | rfl | rfl <;> kernel_rfl
theorem readF_exp : ∀ (r : List Col) (x : Col) (acc : List Col) (L : List Tok) (f n : Nat), ColOk x → (∀ y ∈ r, ColOk y) → (acc ++ x :: r).length ≤ 12 → ((acc ++ x :: r).map (·.name)).Nodup → L.map ktT = expT (x :: r) → L.length < f →
    readF f (L ++ [⟨0, [], n⟩]) acc = (acc ++ x :: r, 0, 0) := by
  intro r
  induction r with
  | nil =>
    intro x acc L f n hx _ h12 hnd hL hf
    match L, hL with
    | [a, b], hL =>
      have e : (ktT a, ktT b) = ((1, x.name), (2, kindNameM x.kind)) := by simpa [expT, expR] using hL
      simp only [ktT, Prod.mk.injEq] at e
      obtain ⟨⟨a1, a2⟩, b1, b2⟩ := e
      obtain ⟨g, rfl⟩ : ∃ g, f = g + 1 := ⟨f - 1, by simp at hf; omega⟩
      have hfn : findM a.text acc = -1 := findM_no fun y hy e => by
        rw [List.map_append, List.nodup_append] at hnd
        exact hnd.2.2 y.name (List.mem_map_of_mem hy) x.name (by simp) (e.trans a2)
      have hc : colF ([a, b] ++ [⟨0, [], n⟩]) acc = (0, 0) := by
        unfold colF
        have t0 : tokAt ([a, b] ++ [⟨0, [], n⟩]) 0 = a := rfl
        have t1 : tokAt ([a, b] ++ [⟨0, [], n⟩]) 1 = b := rfl
        have hk := kind_back hx.lo hx.hi
        have hlo := hx.lo
        have hkz : (kindM b.text == 0) = false := by rw [b2, hk, beq_eq_false_iff_ne]; omega
        have hln : ((acc.length : Int) == 12) = false := by simp at h12 ⊢; omega
        rw [t0, t1, a1, b1, hkz, hfn, hln]
        rfl
      have hN : colN ([a, b] ++ [⟨0, [], n⟩]) = x := by
        unfold colN
        have t0 : tokAt ([a, b] ++ [⟨0, [], n⟩]) 0 = a := rfl
        have t1 : tokAt ([a, b] ++ [⟨0, [], n⟩]) 1 = b := rfl
        rw [t0, t1, a2, b2, kind_back hx.lo hx.hi]
      rw [readF, hc, hN]
      rfl
    | [], hL => simp [expT] at hL
    | [_], hL => simp [expT] at hL
    | _ :: _ :: _ :: _, hL => simp [expT, expR] at hL
  | cons y r ih =>
    intro x acc L f n hx hr h12 hnd hL hf
    match L, hL with
    | [], hL => simp [expT] at hL
    | [_], hL => simp [expT] at hL
    | [_, _], hL => simp [expT, expR] at hL
    | a :: b :: c :: L, hL =>
      have e : (ktT a, ktT b, ktT c, L.map ktT) = ((1, x.name), (2, kindNameM x.kind), (5, [44]), expT (y :: r)) := by
        simp only [expT, expR, List.map_cons, List.cons.injEq] at hL
        simp only [expT, Prod.mk.injEq]
        exact ⟨hL.1, hL.2.1, hL.2.2.1, hL.2.2.2⟩
      simp only [ktT, Prod.mk.injEq] at e
      obtain ⟨⟨a1, a2⟩, ⟨b1, b2⟩, ⟨c1, c2⟩, hL'⟩ := e
      obtain ⟨g, rfl⟩ : ∃ g, f = g + 1 := ⟨f - 1, by simp at hf; omega⟩
      have hfn : findM a.text acc = -1 := findM_no fun y hy e => by
        rw [List.map_append, List.nodup_append] at hnd
        exact hnd.2.2 y.name (List.mem_map_of_mem hy) x.name (by simp) (e.trans a2)
      have t0 : tokAt ((a :: b :: c :: L) ++ [⟨0, [], n⟩]) 0 = a := rfl
      have t1 : tokAt ((a :: b :: c :: L) ++ [⟨0, [], n⟩]) 1 = b := rfl
      have t2 : tokAt ((a :: b :: c :: L) ++ [⟨0, [], n⟩]) 2 = c := rfl
      have hc : colF ((a :: b :: c :: L) ++ [⟨0, [], n⟩]) acc = (0, 0) := by
        unfold colF
        have hk := kind_back hx.lo hx.hi
        have hlo := hx.lo
        have hkz : (kindM b.text == 0) = false := by rw [b2, hk, beq_eq_false_iff_ne]; omega
        have hln : ((acc.length : Int) == 12) = false := by simp at h12 ⊢; omega
        rw [t0, t1, a1, b1, hkz, hfn, hln]
        rfl
      have hN : colN ((a :: b :: c :: L) ++ [⟨0, [], n⟩]) = x := by
        unfold colN
        rw [t0, t1, a2, b2, kind_back hx.lo hx.hi]
      rw [readF, hc, hN, t2, c1, c2, if_neg (by decide), if_neg (by decide), if_neg (by decide)]
      have hd : ((a :: b :: c :: L) ++ ([⟨0, [], n⟩] : List Tok)).drop 3 = L ++ [⟨0, [], n⟩] := rfl
      rw [hd]
      have := ih y (acc ++ [x]) L g n (hr y (by simp)) (fun z hz => hr z (by simp [hz])) (by simpa using h12) (by simpa using hnd) hL' (by simp at hf; omega)
      rw [this]
      simp
/-- What goes together: names of their own. -/
theorem colsM_ok {c : List Col} (h : colsM c = true) : (∀ y ∈ c, ColOk y) ∧ (c.map (·.name)).Nodup := by
  rw [colsM_true] at h
  have hat : ∀ (j : Nat) (y : Col), c[j]? = some y → nameM y.name = true ∧ 1 ≤ y.kind ∧ y.kind ≤ 3 ∧ findM y.name c = (j : Int) := by
    intro j y hj
    have := h j y hj
    unfold colAt at this
    simp only [Bool.not_eq_true', Bool.or_eq_false_iff, Bool.not_eq_false', decide_eq_false_iff_not, bne_eq_false_iff_eq] at this
    obtain ⟨⟨⟨h1, h2⟩, h3⟩, h4⟩ := this
    exact ⟨h1, by omega, by omega, h4⟩
  refine ⟨fun y hy => ?_, ?_⟩
  · obtain ⟨j, hj⟩ := List.getElem?_of_mem hy
    obtain ⟨h1, h2, h3, _⟩ := hat j y hj
    exact ⟨by rw [lexName_eq]; exact h1, h2, h3⟩
  · show List.Pairwise _ _
    rw [List.pairwise_iff_getElem]
    intro i j hi hj hij e
    simp only [List.length_map] at hi hj
    simp only [List.getElem_map] at e
    have e1 := (hat i c[i] (List.getElem?_eq_getElem hi)).2.2.2
    have e2 := (hat j c[j] (List.getElem?_eq_getElem hj)).2.2.2
    rw [e] at e1
    omega
theorem right_ok {c : List Col} (h : rightP c = true) : c.length ≤ 12 ∧ (∀ y ∈ c, ColOk y) ∧ (c.map (·.name)).Nodup := by
  rw [right_eq] at h
  unfold rightM at h
  rw [Bool.and_eq_true] at h
  obtain ⟨h1, h2⟩ := h
  have := of_decide_eq_true h1
  exact ⟨by omega, colsM_ok h2⟩
theorem print_read {c : List Col} (h : rightP c = true) : schReadM (colsT c) = (c, 0, 0) := by
  obtain ⟨h12, hok, hnd⟩ := right_ok h
  obtain ⟨L, n, hl, hL⟩ := sch_lex hok h12
  unfold schReadM
  rw [hl]
  cases c with
  | nil =>
    have : L = [] := by simpa [expT] using hL
    subst this
    rfl
  | cons x r =>
    have hlen : L.length = (expT (x :: r)).length := by rw [← hL, List.length_map]
    rw [if_neg (by
      have : (((L ++ [⟨0, [], n⟩] : List Tok).length : Int) == 1) = false := by
        rw [beq_eq_false_iff_ne]
        simp [expT] at hlen
        simp
        omega
      simp only [this]
      decide)]
    have := readF_exp r x [] L ((L ++ ([⟨0, [], n⟩] : List Tok)).length + 1) n (hok x (by simp)) (fun y hy => hok y (by simp [hy])) h12 hnd hL (by simp; omega)
    exact this
end Go.SX.Nb
namespace Go.SX.Nb
open Go Go.SX Go.Proofs
variable [ErrAt]
set_option maxRecDepth 4000
def awakeC : List Col := [⟨[97], 1⟩, ⟨[116], 2⟩]
def awakeT : Str := [97, 32, 105, 110, 116, 44, 32, 116, 32, 116, 101, 120, 116]
theorem awake_text : awakeT = colsT awakeC := by kernel_rfl
theorem awake_right : rightP awakeC = true := by rw [right_eq]; kernel_rfl
theorem awake_cols : OkCols awakeC := ⟨by decide, by decide⟩
theorem c25a (Hp : List AObj) : AFun Tryz.prog 25 [strA awakeT] Hp (.tup [colsA awakeC, .agg [intA 0, intA 0]]) := by
  have := c25 awakeT (by decide) Hp
  rw [awake_text, print_read awake_right, ← awake_text] at this
  exact this
theorem c22a (Hp : List AObj) : AFun Tryz.prog 22 [colsA awakeC] Hp (strA awakeT) := by
  have := c22 awakeC awake_cols Hp
  rw [schPrintM, if_pos awake_right, ← awake_text] at this
  exact this
theorem c20 (Hp : List AObj) : AFun Tryz.prog 20 [] Hp (boolA true) := by
  refine ACall.body [.tmp 0] [] Tryz.func20 Tryz.ntmps20 (fun d => ?_)
  refine AW.seqR ?_
  refine R.assign ?_
  refine R.fin [] ?_
  refine AW.seqR ?_
  refine R.call Tryz.call25 (c25a _) ?_
  refine R.move ?_
  refine R.extract ?_
  refine R.extract ?_
  refine R.alloc Tryz.zeroValue27 ?_
  refine R.assign ?_
  refine R.storeOwn Tryz.sizeOf27 ?_
  refine R.fin [1, 2] ?_
  refine AW.seqR ?_
  refine R.fieldAddrPtr (fo := 0) Tryz.underlying27 Tryz.sizeOf25 ?_
  refine R.loadOwn Tryz.isAgg25 ?_
  refine R.eql ?_
  refine R.move ?_
  refine G.move ?_
  refine G.len Tryz.underlying37 ?_
  refine G.eql ?_
  refine R.pickAnd ?_
  refine R.move ?_
  refine G.move ?_
  refine G.indexAddr (1) (colA ⟨[116], 2⟩) Tryz.underlying37 Tryz.sizeOf65 (fun _ => rfl) ?_
  refine G.loadRoN Tryz.isAgg65 Tryz.sizeOf65 ?_
  refine G.build (places := #[(0, 1), (1, 1)]) Tryz.underlying65 (fun w => by simp) Tryz.zeroValue65 ?_
  refine G.eqlAgg eg65 (equal65 2 2 [116] [116]) ?_
  refine R.pickAnd ?_
  refine R.move ?_
  refine G.move ?_
  refine G.call Tryz.call22 (fun hB => c22a _) ?_
  refine G.seql ?_
  refine R.pickAnd ?_
  refine R.assign ?_
  refine R.fin [0] ?_
  refine AW.ret ?_
  exact K.fin (V.one V.tmp) ⟨by kernel_rfl, rfl⟩

theorem c21u (c : List Col) (Hp : List AObj) : AFun Tryz.prog 21 [colsA c] Hp (boolA (manyM c)) := by
  refine ACall.body [.tmp 2] [0] Tryz.func21 Tryz.ntmps21 (fun d => ?_)
  refine AW.seqR ?_
  refine R.assign ?_
  refine R.fin [0] ?_
  refine W.seq ?_
  refine AW.seqR ?_
  refine R.move ?_
  refine R.len Tryz.underlying37 ?_
  refine R.gtr ?_
  refine R.fin [0, 6] ?_
  refine W.cond (fun ht6 => ?_) (fun ht6 => ?_)
  · skip
    refine AW.seqR ?_
    refine R.assign ?_
    refine R.fin [2] ?_
    refine AW.ret ?_
    refine K.thR ?_
    exact K.fin (V.one V.tmp) ⟨by simp [manyM] at ht6 ⊢; omega, rfl⟩
  · skip
    refine AW.skip ?_
    refine K.thN ?_
    refine W.seq ?_
    refine AW.seqR ?_
    refine R.assign ?_
    refine R.fin [0, 3] ?_
    refine AW.loopC (α := Nat) (fun x => ⟨20, setF 0 (colsA c) (setF 3 (intA (x : Nat)) (fun _ => .any)), Hp, [], [], none⟩) (fun x => x ≤ c.length ∧ ∀ (j : Nat) (y : Col), j < x → c[j]? = some y → decide ((100 : Int) < y.name.length) = false) (fun x => c.length - x) (0) (by simp) (StLe.refl _) rfl (fun x hx => ?_)
    refine W.seq ?_
    refine AW.seqR ?_
    refine R.move ?_
    refine R.move ?_
    refine R.len Tryz.underlying37 ?_
    refine R.lss ?_
    refine R.fin [0, 3, 10] ?_
    refine W.cond (fun ht10 => ?_) (fun ht10 => ?_)
    · skip
      have hlt : x < c.length := by simpa using ht10
      have hcl : c.length ≤ 50 := by simp at ht6; omega
      refine AW.skip ?_
      refine K.thN ?_
      refine W.seq ?_
      refine AW.block ?_
      refine AW.seqR ?_
      refine R.move ?_
      refine R.move ?_
      refine R.indexAddr (x) (colA c[x]) Tryz.underlying37 Tryz.sizeOf65 (getMap hlt) ?_
      refine R.fieldAddrRo (off := 0) Tryz.underlying65 Tryz.sizeOf9 ?_
      refine R.loadRo Tryz.isAgg9 ?_
      refine R.slen Tryz.underlying9 ?_
      refine R.gtr ?_
      refine R.fin [0, 3, 19] ?_
      refine W.cond (fun ht19 => ?_) (fun ht19 => ?_)
      · skip
        refine AW.seqR ?_
        refine R.assign ?_
        refine R.fin [2] ?_
        refine AW.ret ?_
        refine K.blR ?_
        refine K.thR ?_
        refine K.lpR ?_
        refine K.thR ?_
        exact K.fin (V.one V.tmp) ⟨by rw [show manyM c = true from by unfold manyM; rw [any_at (p := fun y : Col => decide ((100 : Int) < y.name.length)) hlt ht19, Bool.or_true]], rfl⟩
      · skip
        refine AW.skip ?_
        refine K.blN ?_
        refine K.thN ?_
        refine AW.region ?_
        refine R.move ?_
        refine R.add64 ?_
        refine R.assign ?_
        refine R.fin [0, 3] ?_
        exact K.lpN (x + 1) ⟨hlt, upto_succ hlt hx.2 ht19⟩ (by omega) (StCut.of_eq rfl)
    · skip
      refine AW.exit ?_
      refine K.thE ?_
      refine K.lpE ?_
      refine K.thN ?_
      refine AW.seqR ?_
      refine R.assign ?_
      refine R.fin [2] ?_
      refine AW.ret ?_
      exact K.fin (V.one V.tmp) ⟨by rw [show manyM c = false from by unfold manyM; rw [any_none (upto_all (by simp at ht10; omega) hx.2)]; simpa using ht6], rfl⟩
theorem many_ok {c : List Col} (h : manyM c = false) : OkCols c := by
  unfold manyM at h
  simp only [Bool.or_eq_false_iff, decide_eq_false_iff_not, List.any_eq_false, decide_eq_true_eq] at h
  refine ⟨by omega, fun y hy => ?_⟩
  have := h.2 y hy
  omega
def schPrintsM (c : List Col) : Bool := if manyM c then true else if rightP c != rightM c then false else if !rightM c then schPrintM c == [] else
  ((schPrintM c == colsT c) && ((schReadM (schPrintM c)).2.1 == 0)) && decide (c = (schReadM (schPrintM c)).1)
theorem schPrint_len {c : List Col} (hm : manyM c = false) : (schPrintM c).length ≤ 1048576 := by
  unfold schPrintM
  split
  · rename_i h
    obtain ⟨h12, hok, _⟩ := right_ok h
    cases c with
    | nil => decide
    | cons x r =>
      have h1 := sch_len r (fun y hy => hok y (by simp [hy]))
      obtain ⟨_, _, _, h16⟩ := name_word (hok x (by simp)).name
      have h4 := kindName_len x.kind
      rw [colsT_cons]
      simp only [List.length_append, colT, List.length_cons, List.length_nil] at h1 h12 ⊢
      omega
  · simp
theorem schPrints_true (c : List Col) : schPrintsM c = true := by
  unfold schPrintsM
  split
  · rfl
  · rw [right_eq]
    simp only [bne_self_eq_false, Bool.false_eq_true, if_false]
    by_cases h : rightM c = true
    · have h' : rightP c = true := by rw [right_eq]; exact h
      rw [h]
      simp only [Bool.not_true, Bool.false_eq_true, if_false]
      rw [schPrintM, if_pos h', print_read h']
      simp
    · have h' : ¬ rightP c = true := by rw [right_eq]; exact h
      rw [if_pos (by simpa using h), schPrintM, if_neg h']
      rfl
theorem c6 (c : List Col) (Hp : List AObj) : AFun Tryz.prog 6 [colsA c] Hp (boolA true) := by
  refine ACall.body [.tmp 2] [0] Tryz.func6 Tryz.ntmps6 (fun d => ?_)
  refine AW.seqR ?_
  refine R.assign ?_
  refine R.fin [0] ?_
  refine W.seq ?_
  refine AW.seqR ?_
  refine R.call Tryz.call20 (c20 _) ?_
  refine R.not ?_
  refine R.fin [0, 7] ?_
  refine W.cond (fun ht7 => ?_) (fun ht7 => ?_)
  · skip
    cases ht7
  · skip
    refine AW.skip ?_
    refine K.thN ?_
    refine W.seq ?_
    refine AW.seqR ?_
    refine R.move ?_
    refine R.call Tryz.call21 (c21u c _) ?_
    refine R.fin [0, 9] ?_
    refine W.cond (fun ht9 => ?_) (fun ht9 => ?_)
    · skip
      refine AW.seqR ?_
      refine R.assign ?_
      refine R.fin [2] ?_
      refine AW.ret ?_
      refine K.thR ?_
      exact K.fin (V.one V.tmp)
    · skip
      have hm : manyM c = false := by simpa using ht9
      have hc := many_ok hm
      have ht := schPrints_true c
      unfold schPrintsM at ht
      rw [if_neg (by rw [hm]; simp)] at ht
      refine AW.skip ?_
      refine K.thN ?_
      refine AW.seqR ?_
      refine R.move ?_
      refine R.call Tryz.call22 (c22 c hc _) ?_
      refine R.assign ?_
      refine R.fin [0, 3] ?_
      refine W.seq ?_
      refine AW.seqR ?_
      refine R.move ?_
      refine R.call Tryz.call23 (c23 c hc _) ?_
      refine R.move ?_
      refine R.call Tryz.call24 (c24 c hc _) ?_
      refine R.bneq Tryz.underlying4 ?_
      refine R.fin [0, 3, 16] ?_
      refine W.cond (fun ht16 => ?_) (fun ht16 => ?_)
      · skip
        rw [right_eq] at ht16
        simp at ht16
      · skip
        rw [if_neg (by rw [right_eq]; simp)] at ht
        refine AW.skip ?_
        refine K.thN ?_
        refine W.seq ?_
        refine AW.seqR ?_
        refine R.move ?_
        refine R.call Tryz.call24 (c24 c hc _) ?_
        refine R.not ?_
        refine R.fin [0, 3, 19] ?_
        refine W.cond (fun ht19 => ?_) (fun ht19 => ?_)
        · skip
          rw [if_pos ht19] at ht
          refine AW.seqR ?_
          refine R.move ?_
          refine R.seql ?_
          refine R.assign ?_
          refine R.fin [2] ?_
          refine AW.ret ?_
          refine K.thR ?_
          exact K.fin (V.one V.tmp) ⟨by rw [ht], rfl⟩
        · skip
          rw [if_neg (by rw [ht19]; simp)] at ht
          refine AW.skip ?_
          refine K.thN ?_
          refine AW.seqR ?_
          refine R.move ?_
          refine R.call Tryz.call25 (c25 (schPrintM c) (schPrint_len hm) _) ?_
          refine R.move ?_
          refine R.extract ?_
          refine R.extract ?_
          refine R.alloc Tryz.zeroValue27 ?_
          refine R.assign ?_
          refine R.storeOwn Tryz.sizeOf27 ?_
          refine R.fin [0, 3, 4, 5] ?_
          refine AW.seqR ?_
          refine R.move ?_
          refine R.move ?_
          refine R.call Tryz.call26 (c26 c hc _) ?_
          refine R.seql ?_
          refine R.move ?_
          refine G.fieldAddrPtr (fo := 0) Tryz.underlying27 Tryz.sizeOf25 ?_
          refine G.loadOwn Tryz.isAgg25 ?_
          refine G.eql ?_
          refine R.pickAnd ?_
          refine R.move ?_
          refine G.move ?_
          refine G.move ?_
          refine G.call Tryz.call27 (fun hB => c27 c _ hc.len _) ?_
          refine R.pickAnd ?_
          refine R.assign ?_
          refine R.fin [2] ?_
          refine AW.ret ?_
          exact K.fin (V.one V.tmp) ⟨by rw [ht], rfl⟩

end Go.SX.Nb
namespace Go.SX.Nb
open Go Go.SX Go.Proofs
variable [ErrAt]
set_option maxRecDepth 4000
def idxM {α : Type} [BEq α] (v : α) (l : List α) : Int := match l.findIdx? (· == v) with | some i => i | none => -1
theorem idx_at {α : Type} [BEq α] [LawfulBEq α] {v : α} {l : List α} {x : Nat} (h : x < l.length) (h1 : l[x] = v) (h2 : ∀ (j : Nat) (y : α), j < x → l[j]? = some y → ¬ (y = v)) : idxM v l = x := by
  have : l.findIdx? (· == v) = some x := by
    rw [List.findIdx?_eq_some_iff_getElem]
    exact ⟨h, by simpa using h1, fun j hj => by simpa using h2 j l[j] hj (List.getElem?_eq_getElem _)⟩
  simp [idxM, this]
theorem idx_none {α : Type} [BEq α] [LawfulBEq α] {v : α} {l : List α} (h : ∀ (j : Nat) (y : α), l[j]? = some y → ¬ (y = v)) : idxM v l = -1 := by
  have : l.findIdx? (· == v) = none := by
    rw [List.findIdx?_eq_none_iff]
    intro y hy
    obtain ⟨j, hj⟩ := List.getElem?_of_mem hy
    simpa using h j y hj
  simp [idxM, this]
theorem idx_has {α : Type} [BEq α] [LawfulBEq α] (v : α) (l : List α) : decide (0 ≤ idxM v l) = l.contains v := by
  unfold idxM
  cases h : l.findIdx? (· == v) with
  | none =>
    rw [List.findIdx?_eq_none_iff] at h
    have : l.contains v = false := by
      rw [Bool.eq_false_iff]
      intro hc
      have := h v (by simpa using hc)
      simp at this
    rw [this]; rfl
  | some i =>
    rw [List.findIdx?_eq_some_iff_getElem] at h
    obtain ⟨hi, e, _⟩ := h
    have : l.contains v = true := by
      have : l[i] = v := by simpa using e
      rw [← this]
      simp
    rw [this]
    simp only [decide_eq_true_eq]
    omega
theorem c127 (l : List Str) (v : Str) (hl : l.length ≤ 1048576) (Hp : List AObj) : AFun Tryz.prog 127 [strsA l, strA v] Hp (intA (idxM v l)) := by
  refine ACall.body [.tmp 4] [0, 1] Tryz.func127 Tryz.ntmps127 (fun d => ?_)
  refine AW.seqR ?_
  refine R.assign ?_
  refine R.fin [0, 1] ?_
  refine W.seq ?_
  refine AW.seqR ?_
  refine R.move ?_
  refine R.len Tryz.underlying50 ?_
  refine R.move ?_
  refine R.fin [0, 1, 7, 8] ?_
  refine AW.loopC (α := Nat) (fun x => ⟨19, setF 0 (strsA l) (setF 1 (strA v) (setF 7 (intA l.length) (setF 8 (intA (x : Nat)) (fun _ => .any)))), Hp, [], [], none⟩) (fun x => x ≤ l.length ∧ ∀ (j : Nat) (y : Str), j < x → l[j]? = some y → ¬ (y = v)) (fun x => l.length - x) (0) (by simp) (StLe.of_eq (by simp)) rfl (fun x hx => ?_)
  refine AW.seqR ?_
  refine R.lss ?_
  refine R.fin [0, 1, 7, 8, 9] ?_
  refine W.condX (fun ht9 => ?_) (fun ht9 => ?_)
  · skip
    have hlt : x < l.length := by simpa using ht9
    refine W.seq ?_
    refine AW.block ?_
    refine AW.seqR ?_
    refine R.move ?_
    refine R.assign ?_
    refine R.fin [0, 1, 5, 7, 8] ?_
    refine AW.seqR ?_
    refine R.move ?_
    refine R.move ?_
    refine R.move ?_
    refine R.indexAddr (x) (strA l[x]) Tryz.underlying50 Tryz.sizeOf9 (getMap hlt) ?_
    refine R.loadRo Tryz.isAgg9 ?_
    refine R.seql ?_
    refine R.fin [0, 1, 5, 7, 8, 16] ?_
    refine W.cond (fun ht16 => ?_) (fun ht16 => ?_)
    · skip
      refine AW.seqR ?_
      refine R.move ?_
      refine R.assign ?_
      refine R.fin [4] ?_
      refine AW.ret ?_
      refine K.blR ?_
      refine K.thR ?_
      refine K.lpR ?_
      refine K.thR ?_
      exact K.fin (V.one V.tmp) ⟨by rw [idx_at hlt (by simpa using (Eq.symm (by simpa using ht16) : l[x] = v)) hx.2], rfl⟩
    · skip
      refine AW.skip ?_
      refine K.blN ?_
      refine K.thN ?_
      refine AW.region ?_
      refine R.add64 ?_
      refine R.move ?_
      refine R.fin [0, 1, 7, 8] ?_
      exact K.lpN (x + 1) ⟨hlt, upto_succ hlt hx.2 (fun e => by rw [e] at ht16; simp at ht16)⟩ (by omega) (StCut.of_eq rfl)
  · skip
    refine K.lpE ?_
    refine K.thN ?_
    refine AW.seqR ?_
    refine R.assign ?_
    refine R.fin [4] ?_
    refine AW.ret ?_
    exact K.fin (V.one V.tmp) ⟨by rw [idx_none (upto_all (by simp at ht9; omega) hx.2)], rfl⟩

theorem c92 (l : List Str) (v : Str) (hl : l.length ≤ 1048576) (Hp : List AObj) : AFun Tryz.prog 92 [strsA l, strA v] Hp (boolA (l.contains v)) := by
  refine ACall.body [.tmp 4] [0, 1] Tryz.func92 Tryz.ntmps92 (fun d => ?_)
  refine AW.seqR ?_
  refine R.assign ?_
  refine R.fin [0, 1] ?_
  refine AW.seqR ?_
  refine R.move ?_
  refine R.move ?_
  refine R.call Tryz.call127 (c127 l v hl _) ?_
  refine R.geq ?_
  refine R.assign ?_
  refine R.fin [4] ?_
  refine AW.ret ?_
  exact K.fin (V.one V.tmp) ⟨by rw [idx_has], rfl⟩

theorem c160 (l : List Col) (v : Col) (hl : l.length ≤ 1048576) (Hp : List AObj) : AFun Tryz.prog 160 [colsA l, colA v] Hp (intA (idxM v l)) := by
  refine ACall.body [.tmp 4] [0, 1] Tryz.func160 Tryz.ntmps160 (fun d => ?_)
  refine AW.seqR ?_
  refine R.boxRo ?_
  refine R.assign ?_
  refine R.fin [0, 3] ?_
  refine W.seq ?_
  refine AW.seqR ?_
  refine R.move ?_
  refine R.len Tryz.underlying37 ?_
  refine R.move ?_
  refine R.fin [0, 3, 7, 8] ?_
  refine AW.loopC (α := Nat) (fun x => ⟨19, setF 0 (colsA l) (setF 3 (.ro [strA v.name, intA v.kind]) (setF 7 (intA l.length) (setF 8 (intA (x : Nat)) (fun _ => .any)))), Hp, [], [], none⟩) (fun x => x ≤ l.length ∧ ∀ (j : Nat) (y : Col), j < x → l[j]? = some y → ¬ (y = v)) (fun x => l.length - x) (0) (by simp) (StLe.of_eq (by simp)) rfl (fun x hx => ?_)
  refine AW.seqR ?_
  refine R.lss ?_
  refine R.fin [0, 3, 7, 8, 9] ?_
  refine W.condX (fun ht9 => ?_) (fun ht9 => ?_)
  · skip
    have hlt : x < l.length := by simpa using ht9
    refine W.seq ?_
    refine AW.block ?_
    refine AW.seqR ?_
    refine R.move ?_
    refine R.assign ?_
    refine R.fin [0, 3, 5, 7, 8] ?_
    refine W.draw [0, 0, 0, 6, 14, 31] 5 Tryzmixed (by kernel_rfl) ?_
    refine D.loadRoN Tryz.isAgg65 Tryz.sizeOf65 ?_
    refine D.move ?_
    refine D.move ?_
    refine D.indexAddr (x) (colA l[x]) Tryz.underlying37 Tryz.sizeOf65 (getMap hlt) ?_
    refine D.loadRoN Tryz.isAgg65 Tryz.sizeOf65 ?_
    refine D.tail ?_
    refine R.eqlAgg eg65 (equal65 v.kind l[x].kind v.name l[x].name) ?_
    refine R.fin [0, 3, 5, 7, 8, 16] ?_
    refine W.cond (fun ht16 => ?_) (fun ht16 => ?_)
    · skip
      rw [col_ext] at ht16
      refine AW.seqR ?_
      refine R.move ?_
      refine R.assign ?_
      refine R.fin [4] ?_
      refine AW.ret ?_
      refine K.blR ?_
      refine K.thR ?_
      refine K.lpR ?_
      refine K.thR ?_
      exact K.fin (V.one V.tmp) ⟨by rw [idx_at hlt (by simpa using (Eq.symm (by simpa using ht16) : l[x] = v)) hx.2], rfl⟩
    · skip
      rw [col_ext] at ht16
      refine AW.skip ?_
      refine K.blN ?_
      refine K.thN ?_
      refine AW.region ?_
      refine R.add64 ?_
      refine R.move ?_
      refine R.fin [0, 3, 7, 8] ?_
      exact K.lpN (x + 1) ⟨hlt, upto_succ hlt hx.2 (fun e => by rw [e] at ht16; simp at ht16)⟩ (by omega) (StCut.of_eq rfl)
  · skip
    refine K.lpE ?_
    refine K.thN ?_
    refine AW.seqR ?_
    refine R.assign ?_
    refine R.fin [4] ?_
    refine AW.ret ?_
    exact K.fin (V.one V.tmp) ⟨by rw [idx_none (upto_all (by simp at ht9; omega) hx.2)], rfl⟩

theorem c131 (l : List Col) (v : Col) (hl : l.length ≤ 1048576) (Hp : List AObj) : AFun Tryz.prog 131 [colsA l, colA v] Hp (boolA (l.contains v)) := by
  refine ACall.body [.tmp 4] [0, 1] Tryz.func131 Tryz.ntmps131 (fun d => ?_)
  refine AW.seqR ?_
  refine R.boxRo ?_
  refine R.assign ?_
  refine R.fin [0, 3] ?_
  refine AW.seqR ?_
  refine R.move ?_
  refine R.loadRoN Tryz.isAgg65 Tryz.sizeOf65 ?_
  refine R.call Tryz.call160 (c160 l v hl _) ?_
  refine R.geq ?_
  refine R.assign ?_
  refine R.fin [4] ?_
  refine AW.ret ?_
  exact K.fin (V.one V.tmp) ⟨by rw [idx_has], rfl⟩

theorem low_ints1 {n k : Nat} {o : Bool} {l : List Int} {z : Int} : Low n (.slice o k (l.map intA ++ [intA z])) := by
  refine .slice _ _ _ (fun y hy => ?_)
  have key : ∀ c : Int, ∀ w ∈ (intA c).cells, Low n w := by
    intro c w hw
    rw [List.mem_singleton.1 (show w ∈ [intA c] from hw)]
    exact .v _
  rcases List.mem_append.1 hy with hy | hy
  · obtain ⟨a, _, rfl⟩ := List.mem_map.1 hy
    exact key a
  · rw [List.mem_singleton.1 hy]
    exact key z
theorem beq_col {a b : Col} : (a == b) = decide (a = b) := rfl
def lessM (a b : List Col) : List Col := a.filter fun y => !b.contains y
theorem less_succ {a b : List Col} {x : Nat} (h : x < a.length) : lessM (a.take (x + 1)) b = if b.contains a[x] then lessM (a.take x) b else lessM (a.take x) b ++ [a[x]] := by
  unfold lessM
  have e : a.take (x + 1) = a.take x ++ [a[x]] := by rw [List.take_succ, List.getElem?_eq_getElem h]; rfl
  rw [e, List.filter_append]
  cases hb : b.contains a[x] with
  | true => have hm : a[x] ∈ b := (by simpa using hb); simp [List.filter_cons, hm]
  | false => have hm : ¬ a[x] ∈ b := (by simpa using hb); simp [List.filter_cons, hm]
theorem less_len (a b : List Col) (x : Nat) : (lessM (a.take x) b).length ≤ a.length := by
  unfold lessM
  have := List.length_filter_le (fun y => !b.contains y) (a.take x)
  simp only [List.length_take] at this
  omega
theorem low_cols1 {n k : Nat} {o : Bool} {l : List Col} {z : Col} : Low n (.slice o k (l.map colA ++ [colA z])) := by
  refine .slice _ _ _ (fun y hy => ?_)
  have key : ∀ c : Col, ∀ w ∈ (colA c).cells, Low n w := by
    intro c w hw
    have hw' : w ∈ [AV.v (sv c.name), AV.v (.int .i64 c.kind)] := hw
    simp only [List.mem_cons, List.not_mem_nil, or_false] at hw'
    rcases hw' with rfl | rfl
    · exact .v _
    · exact .v _
  rcases List.mem_append.1 hy with hy | hy
  · obtain ⟨a, _, rfl⟩ := List.mem_map.1 hy
    exact key a
  · rw [List.mem_singleton.1 hy]
    exact key z
theorem c99 (a b : List Col) (ha : a.length ≤ 1048576) (hb : b.length ≤ 1048576) (Hp : List AObj) : AFun Tryz.prog 99 [colsA a, colsA b] Hp (colsA (lessM a b)) := by
  refine ACall.body [.tmp 4] [0, 1] Tryz.func99 Tryz.ntmps99 (fun d => ?_)
  refine AW.seqR ?_
  refine R.assign ?_
  refine R.fin [0, 1] ?_
  refine AW.seqR ?_
  refine R.assign ?_
  refine R.fin [0, 1, 5] ?_
  refine W.seq ?_
  refine AW.seqR ?_
  refine R.nilSl 5 2 ?_
  refine R.move ?_
  refine R.len Tryz.underlying37 ?_
  refine R.move ?_
  refine R.fin [1, 5, 8, 9, 10] ?_
  refine AW.loopC (α := Nat) (fun x => ⟨24, setF 1 (colsA b) (setF 5 (.slice true 2 ((lessM (a.take x) b).map colA)) (setF 8 (colsA a) (setF 9 (intA a.length) (setF 10 (intA (x : Nat)) (fun _ => .any))))), Hp, [], [], none⟩) (fun x => x ≤ a.length) (fun x => a.length - x) (0) (Nat.zero_le _) (StLe.of_eq (by simp [lessM])) rfl (fun x hx => ?_)
  refine AW.seqR ?_
  refine R.lss ?_
  refine R.fin [1, 5, 8, 9, 10, 11] ?_
  refine W.condX (fun ht11 => ?_) (fun ht11 => ?_)
  · skip
    have hlt : x < a.length := by simpa using ht11
    refine W.seq ?_
    refine AW.block ?_
    refine AW.seqR ?_
    refine R.indexAddr (x) (colA a[x]) Tryz.underlying37 Tryz.sizeOf65 (getMap hlt) ?_
    refine R.loadRoN Tryz.isAgg65 Tryz.sizeOf65 ?_
    refine R.alloc Tryz.zeroValue65 ?_
    refine R.storeOwn Tryz.sizeOf65 ?_
    refine R.fin [1, 5, 7, 8, 9, 10] ?_
    refine AW.seqR ?_
    refine R.move ?_
    refine R.loadOwnN Tryz.isAgg65 Tryz.sizeOf65 ?_
    refine R.call Tryz.call131 (c131 b a[x] hb _) ?_
    refine R.not ?_
    refine R.fin [1, 5, 7, 8, 9, 10, 17] ?_
    refine W.cond (fun ht17 => ?_) (fun ht17 => ?_)
    · skip
      have hls := less_succ (b := b) hlt
      rw [if_neg (by simpa using ht17)] at hls
      refine AW.region ?_
      refine R.moveT ?_
      refine R.loadOwnN Tryz.isAgg65 Tryz.sizeOf65 ?_
      refine R.buildSlice Tryz.underlying37 Tryz.sizeOf65 Tryz.zeroValue65 ?_
      refine R.append Tryz.underlying37 Tryz.type65 ?_ ?_ ?_
      · have := less_len a b x; simp [Tryz.t65]; omega
      · have := less_len a b x; simp [Tryz.t65]; omega
      refine R.assignT ?_
      refine R.fin [1, 5, 8, 9, 10] ?_
      refine K.blN ?_
      refine K.thN ?_
      refine AW.region ?_
      refine R.add64 ?_
      refine R.move ?_
      refine R.fin [1, 5, 8, 9, 10] ?_
      refine K.lpN (x + 1) hlt (by omega) ?_
      simp only [hls, List.map_append, List.map_cons, List.map_nil]
      exact StCut.take (own := []) (fun _ => .refl _) (by repeat (first | exact lowF_any | refine lowF_set (by first | (simp [or_imp, forall_and]; done) | exact low_cols1) ?_)) (by simp) (by simp)
    · skip
      have hls := less_succ (b := b) hlt
      rw [if_pos (by simpa using ht17)] at hls
      refine AW.skip ?_
      refine K.blN ?_
      refine K.thN ?_
      refine AW.region ?_
      refine R.add64 ?_
      refine R.move ?_
      refine R.fin [1, 5, 8, 9, 10] ?_
      refine K.lpN (x + 1) hlt (by omega) ?_
      simp only [hls, List.map_append, List.map_cons, List.map_nil]
      exact StCut.take (own := []) (fun _ => .refl _) (by repeat (first | exact lowF_any | refine lowF_set (by first | (simp [or_imp, forall_and]; done) | exact low_cols1) ?_)) (by simp) (by simp)
  · skip
    have hxe : a.take x = a := List.take_of_length_le (by simp at ht11; omega)
    refine K.lpE ?_
    refine K.thN ?_
    refine AW.seqR ?_
    refine R.move ?_
    refine R.assign ?_
    refine R.fin [4] ?_
    refine AW.ret ?_
    exact K.fin (V.one V.tmp) ⟨by rw [hxe], rfl⟩

theorem c59 (a b : List Col) (ha : a.length ≤ 1048576) (hb : b.length ≤ 1048576) (Hp : List AObj) : AFun Tryz.prog 59 [colsA a, colsA b] Hp (.tup [colsA (lessM a b), colsA (lessM b a)]) := by
  refine ACall.body [.tmp 4, .tmp 5] [0, 1] Tryz.func59 Tryz.ntmps59 (fun d => ?_)
  refine AW.seqR ?_
  refine R.assign ?_
  refine R.assign ?_
  refine R.fin [0, 1] ?_
  refine AW.seqR ?_
  refine R.move ?_
  refine R.move ?_
  refine R.call Tryz.call99 (c99 a b ha hb _) ?_
  refine R.move ?_
  refine R.move ?_
  refine R.call Tryz.call99 (c99 b a hb ha _) ?_
  refine R.assign ?_
  refine R.assign ?_
  refine R.fin [4, 5] ?_
  refine AW.ret ?_
  exact K.fin (V.two V.tmp V.tmp)

def orderM (a b : List Col) : List Int := a.map fun y => findM y.name b
theorem c61 (a b : List Col) (ha : a.length ≤ 1048576) (hb : OkCols b) (Hp : List AObj) : AFun Tryz.prog 61 [colsA a, colsA b] Hp (.slice false 1 ((orderM a b).map intA)) := by
  refine ACall.body [.tmp 4] [0, 1] Tryz.func61 Tryz.ntmps61 (fun d => ?_)
  refine AW.seqR ?_
  refine R.assign ?_
  refine R.fin [0, 1] ?_
  refine AW.seqR ?_
  refine R.assign ?_
  refine R.fin [0, 1, 5] ?_
  refine W.seq ?_
  refine AW.seqR ?_
  refine R.nilSl 5 1 ?_
  refine R.move ?_
  refine R.len Tryz.underlying37 ?_
  refine R.move ?_
  refine R.fin [1, 5, 8, 9, 10] ?_
  refine AW.loopC (α := Nat) (fun x => ⟨23, setF 1 (colsA b) (setF 5 (.slice true 1 ((orderM (a.take x) b).map intA)) (setF 8 (colsA a) (setF 9 (intA a.length) (setF 10 (intA (x : Nat)) (fun _ => .any))))), Hp, [], [], none⟩) (fun x => x ≤ a.length) (fun x => a.length - x) (0) (Nat.zero_le _) (StLe.of_eq (by simp [orderM])) rfl (fun x hx => ?_)
  refine AW.seqR ?_
  refine R.lss ?_
  refine R.fin [1, 5, 8, 9, 10, 11] ?_
  refine W.condX (fun ht11 => ?_) (fun ht11 => ?_)
  · skip
    have hlt : x < a.length := by simpa using ht11
    have hls : orderM (a.take (x + 1)) b = orderM (a.take x) b ++ [findM a[x].name b] := by
      unfold orderM
      rw [List.take_succ, List.getElem?_eq_getElem hlt, List.map_append]
      rfl
    refine W.seq ?_
    refine AW.block ?_
    refine AW.seqR ?_
    refine R.indexAddr (x) (colA a[x]) Tryz.underlying37 Tryz.sizeOf65 (getMap hlt) ?_
    refine R.loadRoN Tryz.isAgg65 Tryz.sizeOf65 ?_
    refine R.alloc Tryz.zeroValue65 ?_
    refine R.storeOwn Tryz.sizeOf65 ?_
    refine R.fin [1, 5, 7, 8, 9, 10] ?_
    refine AW.region ?_
    refine R.moveT ?_
    refine R.move ?_
    refine R.fieldAddrPtr (fo := 0) Tryz.underlying65 Tryz.sizeOf9 ?_
    refine R.loadOwn Tryz.isAgg9 ?_
    refine R.call Tryz.call100 (c100 b hb _ _) ?_
    refine R.buildSlice Tryz.underlying86 Tryz.sizeOf3 Tryz.zeroValue3 ?_
    refine R.append Tryz.underlying86 Tryz.type3 ?_ ?_ ?_
    · simp [Tryz.t3, orderM]; omega
    · simp [Tryz.t3, orderM]; omega
    refine R.assignT ?_
    refine R.fin [1, 5, 8, 9, 10] ?_
    refine K.blN ?_
    refine K.thN ?_
    refine AW.region ?_
    refine R.add64 ?_
    refine R.move ?_
    refine R.fin [1, 5, 8, 9, 10] ?_
    refine K.lpN (x + 1) hlt (by omega) ?_
    simp only [hls, List.map_append, List.map_cons, List.map_nil]
    exact StCut.take (own := []) (fun _ => .refl _) (by repeat (first | exact lowF_any | refine lowF_set (by first | (simp [or_imp, forall_and]; done) | exact low_ints1) ?_)) (by simp) (by simp)
  · skip
    have hxe : a.take x = a := List.take_of_length_le (by simp at ht11; omega)
    refine K.lpE ?_
    refine K.thN ?_
    refine AW.seqR ?_
    refine R.move ?_
    refine R.assign ?_
    refine R.fin [4] ?_
    refine AW.ret ?_
    exact K.fin (V.one V.tmp) ⟨by rw [hxe], rfl⟩

theorem c101 (a b : List Col) (ha : a.length ≤ 1048576) (Hp : List AObj) : AFun Tryz.prog 101 [colsA a, colsA b] Hp (boolA (decide (a = b))) := by
  refine ACall.body [.tmp 4] [0, 1] Tryz.func101 Tryz.ntmps101 (fun d => ?_)
  refine AW.seqR ?_
  refine R.assign ?_
  refine R.fin [0, 1] ?_
  refine W.seq ?_
  refine AW.seqR ?_
  refine R.move ?_
  refine R.len Tryz.underlying37 ?_
  refine R.move ?_
  refine R.len Tryz.underlying37 ?_
  refine R.neq ?_
  refine R.fin [0, 1, 10] ?_
  refine W.cond (fun ht10 => ?_) (fun ht10 => ?_)
  · skip
    refine AW.seqR ?_
    refine R.assign ?_
    refine R.fin [4] ?_
    refine AW.ret ?_
    refine K.thR ?_
    exact K.fin (V.one V.tmp) ⟨by rw [lenNe (by simpa using ht10)], rfl⟩
  · skip
    refine AW.skip ?_
    refine K.thN ?_
    refine W.seq ?_
    refine AW.seqR ?_
    refine R.move ?_
    refine R.len Tryz.underlying37 ?_
    refine R.move ?_
    refine R.fin [0, 1, 12, 13] ?_
    refine AW.loopC (α := Nat) (fun x => ⟨26, setF 0 (colsA a) (setF 1 (colsA b) (setF 12 (intA a.length) (setF 13 (intA (x : Nat)) (fun _ => .any)))), Hp, [], [], none⟩) (fun x => x ≤ a.length ∧ ∀ (j : Nat) (y : Col), j < x → a[j]? = some y → b[j]? = some y) (fun x => a.length - x) (0) (by simp) (StLe.of_eq (by simp)) rfl (fun x hx => ?_)
    refine AW.seqR ?_
    refine R.lss ?_
    refine R.fin [0, 1, 12, 13, 14] ?_
    refine W.condX (fun ht14 => ?_) (fun ht14 => ?_)
    · skip
      have hlt : x < a.length := by simpa using ht14
      have hlb : x < b.length := by have := lenEqM ht10; omega
      refine W.seq ?_
      refine AW.block ?_
      refine AW.seqR ?_
      refine R.move ?_
      refine R.assign ?_
      refine R.fin [0, 1, 5, 12, 13] ?_
      refine W.draw [0, 0, 3, 7, 0, 0, 48, 112, 255] 8 Tryzmixed (by kernel_rfl) ?_
      refine D.move ?_
      refine D.move ?_
      refine D.indexAddr (x) (colA a[x]) Tryz.underlying37 Tryz.sizeOf65 (getMap hlt) ?_
      refine D.loadRoN Tryz.isAgg65 Tryz.sizeOf65 ?_
      refine D.move ?_
      refine D.move ?_
      refine D.indexAddr (x) (colA b[x]) Tryz.underlying37 Tryz.sizeOf65 (getMap hlb) ?_
      refine D.loadRoN Tryz.isAgg65 Tryz.sizeOf65 ?_
      refine D.tail ?_
      refine R.neqAgg eg65 (equal65 a[x].kind b[x].kind a[x].name b[x].name) ?_
      refine R.fin [0, 1, 12, 13, 24] ?_
      refine W.cond (fun ht24 => ?_) (fun ht24 => ?_)
      · skip
        rw [col_ext] at ht24
        refine AW.seqR ?_
        refine R.assign ?_
        refine R.fin [4] ?_
        refine AW.ret ?_
        refine K.blR ?_
        refine K.thR ?_
        refine K.lpR ?_
        refine K.thR ?_
        exact K.fin (V.one V.tmp) ⟨by rw [atNe hlt hlb (by simpa using ht24)], rfl⟩
      · skip
        rw [col_ext] at ht24
        refine AW.skip ?_
        refine K.blN ?_
        refine K.thN ?_
        refine AW.region ?_
        refine R.add64 ?_
        refine R.move ?_
        refine R.fin [0, 1, 12, 13] ?_
        exact K.lpN (x + 1) ⟨hlt, uptoI_succ (p := fun j y => b[j]? = some y) hlt hx.2 (by rw [List.getElem?_eq_getElem hlb]; simpa using (Eq.symm (by simpa using ht24) : b[x] = a[x]))⟩ (by omega) (StCut.of_eq rfl)
    · skip
      refine K.lpE ?_
      refine K.thN ?_
      refine AW.seqR ?_
      refine R.assign ?_
      refine R.fin [4] ?_
      refine AW.ret ?_
      exact K.fin (V.one V.tmp) ⟨by rw [allEq (by simpa using ht10) (uptoI_all (by simp at ht14; omega) hx.2)], rfl⟩

theorem c62 (a b : List Col) (ha : a.length ≤ 1048576) (Hp : List AObj) : AFun Tryz.prog 62 [colsA a, colsA b] Hp (boolA (decide (a = b))) := by
  refine ACall.body [.tmp 4] [0, 1] Tryz.func62 Tryz.ntmps62 (fun d => ?_)
  refine AW.seqR ?_
  refine R.assign ?_
  refine R.fin [0, 1] ?_
  refine AW.seqR ?_
  refine R.move ?_
  refine R.move ?_
  refine R.call Tryz.call101 (c101 a b ha _) ?_
  refine R.assign ?_
  refine R.fin [4] ?_
  refine AW.ret ?_
  exact K.fin (V.one V.tmp)

theorem any_take {α : Type} {p : α → Bool} {l : List α} {x : Nat} (h : x < l.length) : (l.take (x + 1)).any p = ((l.take x).any p || p l[x]) := by
  have e : l.take (x + 1) = l.take x ++ [l[x]] := by rw [List.take_succ, List.getElem?_eq_getElem h]; rfl
  rw [e, List.any_append]
  simp
theorem any_eqc (b : List Col) (v : Col) : (b.any fun z => v == z) = b.contains v := by
  rw [List.contains_eq_any_beq]
theorem c35 (a b : List Col) (ha : a.length ≤ 1048576) (hb : b.length ≤ 1048576) (Hp : List AObj) : AFun Tryz.prog 35 [colsA a, colsA b] Hp (colsA (lessM a b)) := by
  refine ACall.body [.tmp 4] [0, 1] Tryz.func35 Tryz.ntmps35 (fun d => ?_)
  refine AW.seqR ?_
  refine R.assign ?_
  refine R.fin [0, 1] ?_
  refine AW.seqR ?_
  refine R.buildSlice Tryz.underlying37 Tryz.sizeOf65 Tryz.zeroValue65 ?_
  refine R.assignT ?_
  refine R.fin [0, 1, 5] ?_
  refine W.seq ?_
  refine AW.seqR ?_
  refine R.assign ?_
  refine R.fin [0, 1, 5, 6] ?_
  refine AW.loopC (α := Nat) (fun x => ⟨44, setF 0 (colsA a) (setF 1 (colsA b) (setF 5 (.slice true 2 ((lessM (a.take x) b).map colA)) (setF 6 (intA (x : Nat)) (fun _ => .any)))), Hp, [], [], none⟩) (fun x => x ≤ a.length) (fun x => a.length - x) (0) (Nat.zero_le _) (StLe.of_eq (by simp [lessM])) rfl (fun x hx => ?_)
  refine W.seq ?_
  refine AW.seqR ?_
  refine R.move ?_
  refine R.move ?_
  refine R.len Tryz.underlying37 ?_
  refine R.lss ?_
  refine R.fin [0, 1, 5, 6, 13] ?_
  refine W.cond (fun ht13 => ?_) (fun ht13 => ?_)
  · skip
    have hlt : x < a.length := by simpa using ht13
    refine AW.skip ?_
    refine K.thN ?_
    refine W.seq ?_
    refine AW.block ?_
    refine AW.seqR ?_
    refine R.assign ?_
    refine R.fin [0, 1, 5, 6, 7] ?_
    refine W.seq ?_
    refine AW.seqR ?_
    refine R.assign ?_
    refine R.fin [0, 1, 5, 6, 7, 8] ?_
    refine AW.loopC (α := Nat) (fun k => ⟨44, setF 0 (colsA a) (setF 1 (colsA b) (setF 5 (.slice true 2 ((lessM (a.take x) b).map colA)) (setF 6 (intA (x : Nat)) (setF 7 (boolA ((b.take k).any fun z => a[x] == z)) (setF 8 (intA (k : Nat)) (fun _ => .any)))))), Hp, [], [], none⟩) (fun k => k ≤ b.length) (fun k => b.length - k) (0) (Nat.zero_le _) (StLe.refl _) rfl (fun k hk => ?_)
    refine W.seq ?_
    refine AW.seqR ?_
    refine R.move ?_
    refine R.move ?_
    refine R.len Tryz.underlying37 ?_
    refine R.lss ?_
    refine R.fin [0, 1, 5, 6, 7, 8, 19] ?_
    refine W.cond (fun ht19 => ?_) (fun ht19 => ?_)
    · skip
      have hlk : k < b.length := by simpa using ht19
      refine AW.skip ?_
      refine K.thN ?_
      refine W.seq ?_
      refine AW.block ?_
      refine W.draw0 [0, 1, 3, 3, 15, 31, 3, 3, 195, 451, 1023, 2047, 4095] 10 Tryzmixed (by kernel_rfl) ?_
      refine D.move ?_
      refine D.move ?_
      refine H.move ?_
      refine H.move ?_
      refine H.indexAddr (x) (colA a[x]) Tryz.underlying37 Tryz.sizeOf65 (fun _ => getMap hlt) ?_
      refine H.loadRoN Tryz.isAgg65 Tryz.sizeOf65 ?_
      refine H.move ?_
      refine H.move ?_
      refine H.indexAddr (k) (colA b[k]) Tryz.underlying37 Tryz.sizeOf65 (fun _ => getMap hlk) ?_
      refine H.loadRoN Tryz.isAgg65 Tryz.sizeOf65 ?_
      refine D.tail ?_
      refine G.eqlAgg eg65 (equal65 a[x].kind b[k].kind a[x].name b[k].name) ?_
      refine R.pickOr ?_
      refine R.assign ?_
      refine R.fin [0, 1, 5, 6, 7, 8] ?_
      refine K.blN ?_
      refine K.thN ?_
      refine AW.region ?_
      refine R.move ?_
      refine R.add64 ?_
      refine R.assign ?_
      refine R.fin [0, 1, 5, 6, 7, 8] ?_
      exact K.lpN (k + 1) hlk (by omega) (StCut.of_eq (by rw [any_take hlk, beq_col (a := a[x]) (b := b[k]), ← col_ext]; rfl))
    · skip
      have hke : b.take k = b := List.take_of_length_le (by simp at ht19; omega)
      have hls := less_succ (b := b) hlt
      rw [hke, any_eqc]
      refine AW.exit ?_
      refine K.thE ?_
      refine K.lpE ?_
      refine K.thN ?_
      refine AW.seqR ?_
      refine R.move ?_
      refine R.not ?_
      refine R.fin [0, 1, 5, 6, 35] ?_
      refine W.cond (fun ht35 => ?_) (fun ht35 => ?_)
      · skip
        rw [if_neg (by simpa using ht35)] at hls
        refine AW.region ?_
        refine R.moveT ?_
        refine R.move ?_
        refine R.move ?_
        refine R.indexAddr (x) (colA a[x]) Tryz.underlying37 Tryz.sizeOf65 (getMap hlt) ?_
        refine R.loadRoN Tryz.isAgg65 Tryz.sizeOf65 ?_
        refine R.buildSlice Tryz.underlying37 Tryz.sizeOf65 Tryz.zeroValue65 ?_
        refine R.append Tryz.underlying37 Tryz.type65 ?_ ?_ ?_
        · have := less_len a b x; simp [Tryz.t65]; omega
        · have := less_len a b x; simp [Tryz.t65]; omega
        refine R.assignT ?_
        refine R.fin [0, 1, 5, 6] ?_
        refine K.blN ?_
        refine K.thN ?_
        refine AW.region ?_
        refine R.move ?_
        refine R.add64 ?_
        refine R.assign ?_
        refine R.fin [0, 1, 5, 6] ?_
        exact K.lpN (x + 1) hlt (by omega) (StCut.of_eq (by simp only [hls, List.map_append, List.map_cons, List.map_nil] <;> rfl))
      · skip
        rw [if_pos (by simpa using ht35)] at hls
        refine AW.skip ?_
        refine K.blN ?_
        refine K.thN ?_
        refine AW.region ?_
        refine R.move ?_
        refine R.add64 ?_
        refine R.assign ?_
        refine R.fin [0, 1, 5, 6] ?_
        exact K.lpN (x + 1) hlt (by omega) (StCut.of_eq (by simp only [hls, List.map_append, List.map_cons, List.map_nil] <;> rfl))
  · skip
    have hxe : a.take x = a := List.take_of_length_le (by simp at ht13; omega)
    refine AW.exit ?_
    refine K.thE ?_
    refine K.lpE ?_
    refine K.thN ?_
    refine AW.seqR ?_
    refine R.move ?_
    refine R.assign ?_
    refine R.fin [4] ?_
    refine AW.ret ?_
    exact K.fin (V.one V.tmp) ⟨by rw [hxe], rfl⟩

end Go.SX.Nb
namespace Go.SX.Nb
open Go Go.SX Go.Proofs
variable [ErrAt]
set_option maxRecDepth 4000
def takenAt (c : List Col) (take : List Str) (j : Nat) (nm : Str) : Bool := !(decide (findM nm c < 0) || (idxM nm take != (j : Int)))
def takenM (c : List Col) (take : List Str) : Bool := take.zipIdx.all fun x => takenAt c take x.2 x.1
theorem takenM_true {c : List Col} {take : List Str} : takenM c take = true ↔ ∀ (j : Nat) (y : Str), take[j]? = some y → takenAt c take j y = true := zipIdx_all
def namedAt (c : List Col) (x : Nat) (y : Col) : Bool := !((!nameM y.name) || (findM y.name c != (x : Int)))
def namedC (c : List Col) : Bool := c.zipIdx.all fun x => namedAt c x.2 x.1
theorem namedC_true {c : List Col} : namedC c = true ↔ ∀ (j : Nat) (y : Col), c[j]? = some y → namedAt c j y = true := zipIdx_all
def stayM (c : List Col) (take : List Str) : List Col := c.filter fun y => !take.contains y.name
theorem stay_on {c : List Col} {take : List Str} {k : Nat} {y : Col} (h : c[k]? = some y) (hn : take.contains y.name = false) : stayM (c.take (k + 1)) take = stayM (c.take k) take ++ [y] := by
  unfold stayM
  have e : c.take (k + 1) = c.take k ++ [y] := by rw [List.take_succ, h]; rfl
  have hm : ¬ y.name ∈ take := by simpa using hn
  rw [e, List.filter_append]
  simp [List.filter_cons, hm]
theorem stay_skip {c : List Col} {take : List Str} {k : Nat} {y : Col} (h : c[k]? = some y) (hn : take.contains y.name = true) : stayM (c.take (k + 1)) take = stayM (c.take k) take := by
  unfold stayM
  have e : c.take (k + 1) = c.take k ++ [y] := by rw [List.take_succ, h]; rfl
  have hm : y.name ∈ take := by simpa using hn
  rw [e, List.filter_append]
  simp [List.filter_cons, hm]
theorem stay_len (c : List Col) (take : List Str) : (stayM c take).length ≤ c.length := List.length_filter_le _ _
def turnM (c : List Col) (take : List Str) (give : List Col) : List Col × Int :=
  if rightM c = false then ([], 1) else if takenM c take = false then ([], 9) else if namedC (stayM c take ++ give) = false then ([], 9)
  else if colsM (stayM c take ++ give) = false then ([], 10) else if 12 < (stayM c take ++ give).length then ([], 3) else (stayM c take ++ give, 0)
theorem turn_1 {c : List Col} {take : List Str} {give : List Col} (h : rightM c = false) : turnM c take give = ([], 1) := by unfold turnM; rw [if_pos h]
theorem turn_2 {c : List Col} {take : List Str} {give : List Col} (h : rightM c = true) (h2 : takenM c take = false) : turnM c take give = ([], 9) := by unfold turnM; rw [if_neg (by rw [h]; simp), if_pos h2]
theorem turn_3 {c : List Col} {take : List Str} {give out : List Col} (h : rightM c = true) (h2 : takenM c take = true) (ho : stayM c take ++ give = out) (h3 : namedC out = false) : turnM c take give = ([], 9) := by
  unfold turnM; rw [ho, if_neg (by rw [h]; simp), if_neg (by rw [h2]; simp), if_pos h3]
theorem turn_4 {c : List Col} {take : List Str} {give out : List Col} (h : rightM c = true) (h2 : takenM c take = true) (ho : stayM c take ++ give = out) (h3 : namedC out = true) (h4 : colsM out = false) : turnM c take give = ([], 10) := by
  unfold turnM; rw [ho, if_neg (by rw [h]; simp), if_neg (by rw [h2]; simp), if_neg (by rw [h3]; simp), if_pos h4]
theorem turn_5 {c : List Col} {take : List Str} {give out : List Col} (h : rightM c = true) (h2 : takenM c take = true) (ho : stayM c take ++ give = out) (h3 : namedC out = true) (h4 : colsM out = true) (h5 : 12 < out.length) : turnM c take give = ([], 3) := by
  unfold turnM; rw [ho, if_neg (by rw [h]; simp), if_neg (by rw [h2]; simp), if_neg (by rw [h3]; simp), if_neg (by rw [h4]; simp), if_pos h5]
theorem turn_6 {c : List Col} {take : List Str} {give out : List Col} (h : rightM c = true) (h2 : takenM c take = true) (ho : stayM c take ++ give = out) (h3 : namedC out = true) (h4 : colsM out = true) (h5 : ¬ 12 < out.length) : turnM c take give = (out, 0) := by
  unfold turnM; rw [ho, if_neg (by rw [h]; simp), if_neg (by rw [h2]; simp), if_neg (by rw [h3]; simp), if_neg (by rw [h4]; simp), if_neg h5]
theorem right_len {c : List Col} (h : rightM c = true) : c.length ≤ 12 := by
  unfold rightM at h
  simp at h
  omega
theorem out_ok {c give : List Col} {take : List Str} {out : List Col} (hc : OkCols c) (h : rightM c = true) (hg : OkCols give) (hg2 : give.length ≤ 1000000) (ho : stayM c take ++ give = out) : OkCols out := by
  subst ho
  have h1 := stay_len c take
  have h2 := right_len h
  refine ⟨by simp only [List.length_append]; omega, fun y hy => ?_⟩
  rcases List.mem_append.1 hy with hy | hy
  · exact hc.2 y ((List.mem_filter.1 hy).1)
  · exact hg.2 y hy
theorem c96 (c : List Col) (hc : OkCols c) (take : List Str) (ht : take.length ≤ 1048576) (Hp : List AObj) : AFun Tryz.prog 96 [colsA c, strsA take] Hp (boolA (takenM c take)) := by
  refine ACall.body [.tmp 4] [0, 1] Tryz.func96 Tryz.ntmps96 (fun d => ?_)
  refine AW.seqR ?_
  refine R.assign ?_
  refine R.fin [0, 1] ?_
  refine W.seq ?_
  refine AW.seqR ?_
  refine R.move ?_
  refine R.len Tryz.underlying50 ?_
  refine R.move ?_
  refine R.fin [0, 1, 7, 8, 9] ?_
  refine AW.loopC (α := Nat) (fun x => ⟨26, setF 0 (colsA c) (setF 1 (strsA take) (setF 7 (strsA take) (setF 8 (intA take.length) (setF 9 (intA (x : Nat)) (fun _ => .any))))), Hp, [], [], none⟩) (fun x => x ≤ take.length ∧ ∀ (j : Nat) (y : Str), j < x → take[j]? = some y → takenAt c take j y = true) (fun x => take.length - x) (0) (by simp) (StLe.of_eq (by simp)) rfl (fun x hx => ?_)
  refine AW.seqR ?_
  refine R.lss ?_
  refine R.fin [0, 1, 7, 8, 9, 10] ?_
  refine W.condX (fun ht10 => ?_) (fun ht10 => ?_)
  · skip
    have hlt : x < take.length := by simpa using ht10
    refine W.seq ?_
    refine AW.block ?_
    refine AW.seqR ?_
    refine R.move ?_
    refine R.indexAddr (x) (strA take[x]) Tryz.underlying50 Tryz.sizeOf9 (getMap hlt) ?_
    refine R.loadRo Tryz.isAgg9 ?_
    refine R.assign ?_
    refine R.assign ?_
    refine R.fin [0, 1, 5, 6, 7, 8, 9] ?_
    refine AW.seqR ?_
    refine R.move ?_
    refine R.move ?_
    refine R.call Tryz.call100 (c100 c hc _ _) ?_
    refine R.lss ?_
    refine R.move ?_
    refine G.move ?_
    refine G.move ?_
    refine G.call Tryz.call127 (fun hB => c127 take _ ht _) ?_
    refine G.move ?_
    refine G.neq ?_
    refine R.pickOr ?_
    refine R.fin [0, 1, 7, 8, 9, 24] ?_
    refine W.cond (fun ht24 => ?_) (fun ht24 => ?_)
    · skip
      refine AW.seqR ?_
      refine R.assign ?_
      refine R.fin [4] ?_
      refine AW.ret ?_
      refine K.blR ?_
      refine K.thR ?_
      refine K.lpR ?_
      refine K.thR ?_
      exact K.fin (V.one V.tmp) ⟨by rw [show takenM c take = false from Bool.eq_false_iff.2 fun h => by have := takenM_true.1 h x take[x] (List.getElem?_eq_getElem hlt); unfold takenAt at this; rw [ht24] at this; cases this], rfl⟩
    · skip
      refine AW.skip ?_
      refine K.blN ?_
      refine K.thN ?_
      refine AW.region ?_
      refine R.add64 ?_
      refine R.move ?_
      refine R.fin [0, 1, 7, 8, 9] ?_
      exact K.lpN (x + 1) ⟨hlt, uptoI_succ hlt hx.2 (by unfold takenAt; rw [ht24]; rfl)⟩ (by omega) (StCut.of_eq rfl)
  · skip
    refine K.lpE ?_
    refine K.thN ?_
    refine AW.seqR ?_
    refine R.assign ?_
    refine R.fin [4] ?_
    refine AW.ret ?_
    exact K.fin (V.one V.tmp) ⟨by rw [takenM_true.2 (uptoI_all (by simp at ht10; omega) hx.2)], rfl⟩

theorem c98 (c : List Col) (hc : OkCols c) (Hp : List AObj) : AFun Tryz.prog 98 [colsA c] Hp (boolA (namedC c)) := by
  refine ACall.body [.tmp 2] [0] Tryz.func98 Tryz.ntmps98 (fun d => ?_)
  refine AW.seqR ?_
  refine R.assign ?_
  refine R.fin [0] ?_
  refine W.seq ?_
  refine AW.seqR ?_
  refine R.move ?_
  refine R.len Tryz.underlying37 ?_
  refine R.move ?_
  refine R.fin [0, 5, 6, 7] ?_
  refine AW.loopC (α := Nat) (fun x => ⟨25, setF 0 (colsA c) (setF 5 (colsA c) (setF 6 (intA c.length) (setF 7 (intA (x : Nat)) (fun _ => .any)))), Hp, [], [], none⟩) (fun x => x ≤ c.length ∧ ∀ (j : Nat) (y : Col), j < x → c[j]? = some y → namedAt c j y = true) (fun x => c.length - x) (0) (by simp) (StLe.of_eq (by simp)) rfl (fun x hx => ?_)
  refine AW.seqR ?_
  refine R.lss ?_
  refine R.fin [0, 5, 6, 7, 8] ?_
  refine W.condX (fun ht8 => ?_) (fun ht8 => ?_)
  · skip
    have hlt : x < c.length := by simpa using ht8
    have hcl := hc.len
    refine W.seq ?_
    refine AW.block ?_
    refine AW.seqR ?_
    refine R.move ?_
    refine R.indexAddr (x) (colA c[x]) Tryz.underlying37 Tryz.sizeOf65 (getMap hlt) ?_
    refine R.loadRoN Tryz.isAgg65 Tryz.sizeOf65 ?_
    refine R.alloc Tryz.zeroValue65 ?_
    refine R.assign ?_
    refine R.storeOwn Tryz.sizeOf65 ?_
    refine R.fin [0, 3, 4, 5, 6, 7] ?_
    refine AW.seqR ?_
    refine R.fieldAddrPtr (fo := 0) Tryz.underlying65 Tryz.sizeOf9 ?_
    refine R.loadOwn Tryz.isAgg9 ?_
    refine R.call Tryz.call14 (c14 _ (hc.names _ (List.getElem_mem hlt)) _) ?_
    refine R.not ?_
    refine R.move ?_
    refine G.move ?_
    refine G.fieldAddrPtr (fo := 0) Tryz.underlying65 Tryz.sizeOf9 ?_
    refine G.loadOwn Tryz.isAgg9 ?_
    refine G.call Tryz.call100 (fun hB => c100 c hc _ _) ?_
    refine G.move ?_
    refine G.neq ?_
    refine R.pickOr ?_
    refine R.fin [0, 5, 6, 7, 23] ?_
    refine W.cond (fun ht23 => ?_) (fun ht23 => ?_)
    · skip
      rw [lexName_eq] at ht23
      refine AW.seqR ?_
      refine R.assign ?_
      refine R.fin [2] ?_
      refine AW.ret ?_
      refine K.blR ?_
      refine K.thR ?_
      refine K.lpR ?_
      refine K.thR ?_
      exact K.fin (V.one V.tmp) ⟨by rw [show namedC c = false from Bool.eq_false_iff.2 fun h => by have := namedC_true.1 h x c[x] (List.getElem?_eq_getElem hlt); unfold namedAt at this; rw [ht23] at this; cases this], rfl⟩
    · skip
      rw [lexName_eq] at ht23
      refine AW.skip ?_
      refine K.blN ?_
      refine K.thN ?_
      refine AW.region ?_
      refine R.add64 ?_
      refine R.move ?_
      refine R.fin [0, 5, 6, 7] ?_
      refine K.lpN (x + 1) ⟨hlt, uptoI_succ hlt hx.2 (by unfold namedAt; rw [ht23]; rfl)⟩ (by omega) ?_
      exact StCut.take (own := []) (fun _ => .refl _) (by repeat (first | exact lowF_any | refine lowF_set (by simp [or_imp, forall_and]) ?_)) (by simp) (by simp)
  · skip
    refine K.lpE ?_
    refine K.thN ?_
    refine AW.seqR ?_
    refine R.assign ?_
    refine R.fin [2] ?_
    refine AW.ret ?_
    exact K.fin (V.one V.tmp) ⟨by rw [namedC_true.2 (uptoI_all (by simp at ht8; omega) hx.2)], rfl⟩

theorem c97 (c : List Col) (take : List Str) (Hp : List AObj) : AFun Tryz.prog 97 [colsA c, strsA take] Hp (.fn (.func 130) [] [.ro [colsA c], .ro [strsA take]]) := by
  refine ACall.body [.tmp 4] [0, 1] Tryz.func97 Tryz.ntmps97 (fun d => ?_)
  refine AW.seqR ?_
  refine R.boxRo ?_
  refine R.boxRo ?_
  refine R.assign ?_
  refine R.fin [2, 3] ?_
  refine AW.seqR ?_
  refine R.makeFunc ?_
  refine R.assign ?_
  refine R.fin [4] ?_
  refine AW.ret ?_
  exact K.fin (V.one V.tmp)

theorem c130 (l : Nat) (c : List Col) (take : List Str) (hc : c.length ≤ 1048576) (ht : take.length ≤ 1048576) (U : Nat → List AObj) (hlen : ∀ k, (U k).length = (U 0).length) (hll : l < (U 0).length)
    (hlw : ∀ k, ∀ x ∈ U k, ObjLow (U 0).length x) (hn : ∀ k y, c[k]? = some y → take.contains y.name = true → U (k + 1) = U k)
    (hy : ∀ k y X, c[k]? = some y → take.contains y.name = false → AYield Tryz.prog l [colA y] (U k ++ X) (fun b H' => b = true ∧ H' = U (k + 1) ++ X)) : ACall Tryz.prog 130 [.yield l, .ro [colsA c], .ro [strsA take]] (U 0) (fun _ H' => H' = U c.length) := by
  refine ACall.body [] [0, 1, 2] Tryz.func130 Tryz.ntmps130 (fun d => ?_)
  refine AW.seqR ?_
  refine R.loadRo Tryz.isAgg37 ?_
  refine R.len Tryz.underlying37 ?_
  refine R.move ?_
  refine R.fin [0, 2, 6, 7, 8] ?_
  refine AW.loopC (α := Nat) (fun x => ⟨24, setF 0 (.yield l) (setF 2 (.ro [strsA take]) (setF 6 (colsA c) (setF 7 (intA c.length) (setF 8 (intA (x : Nat)) (fun _ => .any))))), U x, [], [], none⟩) (fun x => x ≤ c.length) (fun x => c.length - x) (0) (Nat.zero_le _) (StLe.of_eq (by simp)) rfl (fun x hx => ?_)
  refine AW.seqR ?_
  refine R.lss ?_
  refine R.fin [0, 2, 6, 7, 8, 9] ?_
  refine W.condX (fun ht9 => ?_) (fun ht9 => ?_)
  · skip
    have hlt : x < c.length := by simpa using ht9
    refine W.seq ?_
    refine AW.block ?_
    refine AW.seqR ?_
    refine R.indexAddr (x) (colA c[x]) Tryz.underlying37 Tryz.sizeOf65 (getMap hlt) ?_
    refine R.loadRoN Tryz.isAgg65 Tryz.sizeOf65 ?_
    refine R.alloc Tryz.zeroValue65 ?_
    refine R.storeOwn Tryz.sizeOf65 ?_
    refine R.fin [0, 2, 5, 6, 7, 8] ?_
    refine AW.seqR ?_
    refine R.loadRo Tryz.isAgg50 ?_
    refine R.fieldAddrPtr (fo := 0) Tryz.underlying65 Tryz.sizeOf9 ?_
    refine R.loadOwn Tryz.isAgg9 ?_
    refine R.call Tryz.call92 (c92 take _ ht _) ?_
    refine R.not ?_
    refine R.move ?_
    refine G.move ?_
    refine G.loadOwnN Tryz.isAgg65 Tryz.sizeOf65 ?_
    refine G.yield (l := l) (C := ((!take.contains c[x].name) == true)) (args := [colA c[x]]) (fun hC => hy x c[x] _ (List.getElem?_eq_getElem hlt) (by simpa using hC)) ?_
    intro b V O hV hb hb0
    have hVO : V = U (x + 1) ∧ O = [AObj.cells 65 [strA c[x].name, intA c[x].kind]] ∧ (take.contains c[x].name = false → b = true) := by
      cases hcn : take.contains c[x].name with
      | true =>
        obtain ⟨h1, h2⟩ := hb0 (by rw [hcn]; rfl)
        exact ⟨h1.trans (hn x c[x] (List.getElem?_eq_getElem hlt) hcn).symm, h2, fun e => by cases e⟩
      | false =>
        obtain ⟨h1, h2⟩ := hb (by rw [hcn]; rfl)
        have h3 := List.append_inj h2 (by rw [hV, hlen x, hlen (x + 1)])
        exact ⟨h3.1, h3.2, fun _ => h1⟩
    obtain ⟨rfl, rfl, hbt⟩ := hVO
    refine ⟨fun _ => by rw [hlen (x + 1)]; exact hlw (x + 1), fun o ho => (by cases ho), ?_⟩
    refine G.not ?_
    refine R.pickAnd ?_
    refine R.fin [0, 2, 6, 7, 8, 22] ?_
    refine W.cond (fun ht22 => ?_) (fun ht22 => ?_)
    · skip
      exfalso
      have hcf : take.contains c[x].name = false := by simp at ht22 ⊢; exact ht22.1
      rw [hbt hcf] at ht22
      simp at ht22
    · skip
      refine AW.skip ?_
      refine K.blN ?_
      refine K.thN ?_
      refine AW.region ?_
      refine R.add64 ?_
      refine R.move ?_
      refine R.fin [0, 2, 6, 7, 8] ?_
      refine K.lpN (x + 1) hlt (by omega) ?_
      exact StCut.take (own := []) (fun _ => .refl _) (by repeat (first | exact lowF_any | refine lowF_set (by first | (simp [or_imp, forall_and]; done) | (have := hlen (x + 1); simp; omega)) ?_)) (by simp) (by simp)
  · skip
    have hxe : x = c.length := by simp at ht9; omega
    refine K.lpE ?_
    exact K.finN .nores (hp := by rw [hxe])

end Go.SX.Nb
namespace Go.SX.Nb
open Go Go.SX Go.Proofs
variable [ErrAt]
set_option maxRecDepth 4000
theorem low_colsl {n k : Nat} {o : Bool} {l : List Col} : Low n (.slice o k (l.map colA)) := by simp [or_imp, forall_and]
theorem getM {α β : Type} {f : α → β} {l : List α} {k : Nat} {y : α} (h : l[k]? = some y) : (l.map f)[k]? = some (f y) := by rw [List.getElem?_map, h]; rfl
theorem c57 (c : List Col) (hc : OkCols c) (take : List Str) (ht : take.length ≤ 1048576) (give : List Col) (hg : OkCols give) (hg2 : give.length ≤ 1000000) (Hp : List AObj) : AFun Tryz.prog 57 [colsA c, strsA take, colsA give] Hp (.tup [colsA (turnM c take give).1, intA (turnM c take give).2]) := by
  refine ACall.body [.tmp 6, .tmp 7] [0, 1, 2, 9] Tryz.func57 Tryz.ntmps57 (fun d => ?_)
  refine AW.seqR ?_
  refine R.assign ?_
  refine R.assign ?_
  refine R.fin [0, 1, 2, 9] ?_
  refine W.seq ?_
  refine AW.seqR ?_
  refine R.move ?_
  refine R.call Tryz.call23 (c23 c hc _) ?_
  refine R.not ?_
  refine R.fin [0, 1, 2, 9, 12] ?_
  refine W.cond (fun ht12 => ?_) (fun ht12 => ?_)
  · skip
    have hr : rightM c = false := by rw [right_eq] at ht12; simpa using ht12
    refine AW.seqR ?_
    refine R.assign ?_
    refine R.nilSl 6 2 ?_
    refine R.assign ?_
    refine R.fin [6, 7] ?_
    refine AW.ret ?_
    refine K.thR ?_
    exact K.fin (V.two V.tmp V.tmp) ⟨by rw [turn_1 hr]; try rfl, rfl⟩
  · skip
    have hr : rightM c = true := by rw [right_eq] at ht12; simpa using ht12
    refine AW.skip ?_
    refine K.thN ?_
    refine W.seq ?_
    refine AW.seqR ?_
    refine R.move ?_
    refine R.move ?_
    refine R.call Tryz.call96 (c96 c hc take ht _) ?_
    refine R.not ?_
    refine R.fin [0, 1, 2, 9, 16] ?_
    refine W.cond (fun ht16 => ?_) (fun ht16 => ?_)
    · skip
      have hk : takenM c take = false := by simpa using ht16
      refine AW.seqR ?_
      refine R.assign ?_
      refine R.nilSl 6 2 ?_
      refine R.assign ?_
      refine R.fin [6, 7] ?_
      refine AW.ret ?_
      refine K.thR ?_
      exact K.fin (V.two V.tmp V.tmp) ⟨by rw [turn_2 hr hk]; try rfl, rfl⟩
    · skip
      have hk : takenM c take = true := by simpa using ht16
      refine AW.skip ?_
      refine K.thN ?_
      refine AW.seqR ?_
      refine R.alloc Tryz.zeroValue37 ?_
      refine R.fin [0, 1, 2, 8, 9] ?_
      refine W.seq ?_
      refine AW.seqR ?_
      refine R.nilOwn 0 2 ?_
      refine R.assumeLow (fun hlow => ?_)
      refine R.move ?_
      refine R.move ?_
      refine R.call Tryz.call97 (c97 c take _) ?_
      refine R.fin [2, 8, 9, 19] ?_
      refine AW.block ?_
      refine W.rangeV (m := 1) Tryz.call130 (fun FR as' bd' hFR has hbd => ?_)
      have hFRl : ∀ s, Low (Hp.length + 3) (FR s) := by
        intro s
        rw [hFR]
        refine Low.strip ?_
        revert s
        repeat (first | exact lowF_any | refine lowF_set (by simp [oid, or_imp, forall_and] <;> try omega) ?_)
      have hOl : ∀ {k : Nat}, ∀ x ∈ [AObj.cells 37 [.slice true 2 ((stayM (c.take k) take).map colA)], AObj.defs, AObj.loop LoopState.ready none FR 41 #[20] as' bd' (oid Hp.length 1)], ObjLow (Hp.length + 3) x := by
        intro k x hx
        simp only [List.mem_cons, List.mem_nil_iff, or_false] at hx
        rcases hx with rfl | rfl | rfl
        · intro y hy
          rw [List.mem_singleton.1 hy]
          exact low_colsl
        · trivial
        · exact ⟨hFRl, by simp [oid]⟩
      refine ⟨_, c130 (oid Hp.length 2) c take hc.len ht (fun k => Hp ++ [AObj.cells 37 [.slice true 2 ((stayM (c.take k) take).map colA)], AObj.defs, AObj.loop LoopState.ready none FR 41 #[20] as' bd' (oid Hp.length 1)]) (fun k => by simp) (by simp [oid]) (fun k x hx => ?_) (fun k y hk hcn => by simp only [stay_skip hk hcn]) (fun k y X hk hcn => ?_), ?_⟩
      · have := low_app (fun x hx => ObjLow.le (by omega) (hlow x hx)) hOl x hx
        simpa using this
      · skip
        generalize hV : Hp ++ [AObj.cells 37 [.slice true 2 ((stayM (c.take k) take).map colA)], AObj.defs, AObj.loop LoopState.ready none FR 41 #[20] as' bd' (oid Hp.length 1)] ++ X = V
        have hL : V[oid Hp.length 2]? = some (AObj.loop LoopState.ready none FR 41 #[20] as' bd' (oid Hp.length 1)) := by rw [← hV, List.append_assoc, get_oid]; rfl
        have hA0 : V[oid Hp.length 0]? = some (AObj.cells 37 [.slice true 2 ((stayM (c.take k) take).map colA)]) := by rw [← hV, List.append_assoc, get_oid]; rfl
        refine AYield.ofRound (pd := none) (fr := FR) (sz := 41) (ps := #[20]) (df := oid Hp.length 1) (asg := as') (bd := bd') hL rfl (by decide) (fun d => ?_)
        subst hFR has hbd
        refine W.keep [8, 20] ?_
        refine AW.region ?_
        refine R.alloc Tryz.zeroValue65 ?_
        refine R.storeOwn Tryz.sizeOf65 ?_
        refine R.fin [8, 9] ?_
        refine ⟨rfl, none, hL, ?_⟩
        generalize hbz : (AObj.loop LoopState.busy _ _ _ _ _ _ _) = bz
        have hA : (V.set (oid Hp.length 2) bz)[oid Hp.length 0]? = some (AObj.cells 37 [.slice true 2 ((stayM (c.take k) take).map colA)]) := by rw [List.getElem?_set_ne (oid_ne (by decide))]; exact hA0
        refine AW.block ?_
        refine AW.region ?_
        refine R.loadUpT Tryz.isAgg37 hA ?_
        refine R.loadOwnN Tryz.isAgg65 Tryz.sizeOf65 ?_
        refine R.buildSlice Tryz.underlying37 Tryz.sizeOf65 Tryz.zeroValue65 ?_
        refine R.append Tryz.underlying37 Tryz.type65 ?_ ?_ ?_
        · have h1 := stay_len (c.take k) take; have h2 := hc.len; simp only [List.length_take] at h1; simp [Tryz.t65]; omega
        · have h1 := stay_len (c.take k) take; have h2 := hc.len; simp only [List.length_take] at h1; simp [Tryz.t65]; omega
        refine R.storeUpT Tryz.sizeOf37 (getset hA) ?_ ?_
        · exact low_cols1
        refine R.fin [] ?_
        refine K.blN ?_
        subst hbz
        refine K.rdN (keep2 hL (oid_ne (by decide)) (oid_ne (by decide))) ?_
        refine ⟨rfl, ?_⟩
        subst hV
        simp only [List.append_assoc, set_oid, List.cons_append, List.nil_append, List.set_cons_succ, List.set_cons_zero]
        rw [stay_on hk hcn, List.map_append]
        rfl
      · skip
        rintro r H' rfl
        simp only [List.take_length]
        refine ⟨Hp, _, _, _, rfl, rfl, fun h => h, ?_, rfl, by simp, ?_⟩
        · intro o ho
          have : o = oid Hp.length 1 := by simpa using ho
          subst this
          rw [get_oid]
          rfl
        refine K.blN ?_
        refine K.thN ?_
        refine AW.seqR ?_
        refine R.loadOwnT Tryz.isAgg37 ?_
        refine R.move ?_
        refine R.append Tryz.underlying37 Tryz.type65 ?_ ?_ ?_
        · have h1 := stay_len c take; have h2 := right_len hr; simp [Tryz.t65]; omega
        · have h1 := stay_len c take; have h2 := right_len hr; simp [Tryz.t65]; omega
        refine R.storeOwnT Tryz.sizeOf37 ?_
        refine R.fin [8] ?_
        refine W.seq ?_
        refine AW.block ?_
        refine AW.seqR ?_
        have e10 : (stayM c take).map colA ++ give.map colA = (stayM c take ++ give).map colA := (List.map_append ..).symm
        rw [e10]
        generalize hout : stayM c take ++ give = out
        have ho : OkCols out := out_ok hc hr hg hg2 hout
        refine R.loadOwn Tryz.isAgg37 ?_
        refine R.call Tryz.call98 (c98 out ho _) ?_
        refine R.not ?_
        refine R.assign ?_
        refine R.fin [8, 28] ?_
        refine W.cond (fun ht28 => ?_) (fun ht28 => ?_)
        · skip
          have hn : namedC out = false := by simpa using ht28
          refine AW.seqR ?_
          refine R.assign ?_
          refine R.nilSl 6 2 ?_
          refine R.assign ?_
          refine R.fin [6, 7] ?_
          refine AW.ret ?_
          refine K.blR ?_
          refine K.thR ?_
          exact K.fin (V.two V.tmp V.tmp) ⟨by rw [turn_3 hr hk hout hn]; try rfl, rfl⟩
        · skip
          have hn : namedC out = true := by simpa using ht28
          refine AW.seqR ?_
          refine R.loadOwn Tryz.isAgg37 ?_
          refine R.call Tryz.call71 (c71 out ho _) ?_
          refine R.not ?_
          refine R.assign ?_
          refine R.fin [8, 32] ?_
          refine W.cond (fun ht32 => ?_) (fun ht32 => ?_)
          · skip
            have hq : colsM out = false := by rw [cols_eq] at ht32; simpa using ht32
            refine AW.seqR ?_
            refine R.assign ?_
            refine R.nilSl 6 2 ?_
            refine R.assign ?_
            refine R.fin [6, 7] ?_
            refine AW.ret ?_
            refine K.blR ?_
            refine K.thR ?_
            exact K.fin (V.two V.tmp V.tmp) ⟨by rw [turn_4 hr hk hout hn hq]; try rfl, rfl⟩
          · skip
            have hq : colsM out = true := by rw [cols_eq] at ht32; simpa using ht32
            refine AW.seqR ?_
            refine R.loadOwn Tryz.isAgg37 ?_
            refine R.len Tryz.underlying37 ?_
            refine R.gtr ?_
            refine R.assign ?_
            refine R.fin [8, 36] ?_
            refine W.cond (fun ht36 => ?_) (fun ht36 => ?_)
            · skip
              have h12 : 12 < out.length := by simp at ht36; omega
              refine AW.seqR ?_
              refine R.assign ?_
              refine R.nilSl 6 2 ?_
              refine R.assign ?_
              refine R.fin [6, 7] ?_
              refine AW.ret ?_
              refine K.blR ?_
              refine K.thR ?_
              exact K.fin (V.two V.tmp V.tmp) ⟨by rw [turn_5 hr hk hout hn hq h12]; try rfl, rfl⟩
            · skip
              have h12 : ¬ 12 < out.length := by simp at ht36; omega
              refine AW.skip ?_
              refine K.blN ?_
              refine K.thN ?_
              refine AW.seqR ?_
              refine R.loadOwn Tryz.isAgg37 ?_
              refine R.assign ?_
              refine R.assign ?_
              refine R.fin [6, 7] ?_
              refine AW.ret ?_
              exact K.fin (V.two V.tmp V.tmp) ⟨by rw [turn_6 hr hk hout hn hq h12]; try rfl, rfl⟩

end Go.SX.Nb
namespace Go.SX.Nb
open Go Go.SX Go.Proofs
variable [ErrAt]
set_option maxRecDepth 4000
theorem taken_no {c : List Col} {take : List Str} {x : Nat} (hlt : x < take.length) (h : takenAt c take x take[x] = false) : takenM c take = false :=
  Bool.eq_false_iff.2 fun h' => by rw [takenM_true.1 h' x take[x] (List.getElem?_eq_getElem hlt)] at h; cases h
theorem idx_before {α : Type} [BEq α] [LawfulBEq α] {v : α} {l : List α} {k x : Nat} (hlk : k < l.length) (hkx : k < x) (h : l[k] = v) : (idxM v l != (x : Int)) = true := by
  rw [bne_iff_ne]
  intro e
  unfold idxM at e
  cases hf : l.findIdx? (· == v) with
  | none => rw [hf] at e; exact absurd (show (-1 : Int) = (x : Int) from e) (by omega)
  | some i =>
    rw [hf] at e
    have hix : i = x := by simp at e; omega
    subst hix
    rw [List.findIdx?_eq_some_iff_getElem] at hf
    obtain ⟨_, _, h3⟩ := hf
    have := h3 k hkx
    rw [h] at this
    simp at this
theorem all_take {α : Type} {p : α → Bool} {l : List α} {x : Nat} (h : x < l.length) : (l.take (x + 1)).all p = ((l.take x).all p && p l[x]) := by
  have e : l.take (x + 1) = l.take x ++ [l[x]] := by rw [List.take_succ, List.getElem?_eq_getElem h]; rfl
  rw [e, List.all_append]
  simp
theorem all_ne (l : List Str) (n : Str) : (l.all fun t => !(t == n)) = !l.contains n := by
  induction l with
  | nil => rfl
  | cons x r ih =>
    rw [List.all_cons, ih, List.contains_cons, Bool.not_or]
    congr 2
    exact Bool.beq_comm ..
def kindOk (y : Col) : Bool := !(decide (y.kind < 1) || decide ((3 : Int) < y.kind))
theorem colAt_eq (c : List Col) (j : Nat) (y : Col) : colAt c j y = (namedAt c j y && kindOk y) := by
  unfold colAt namedAt kindOk
  cases nameM y.name <;> cases decide (y.kind < 1) <;> cases decide ((3 : Int) < y.kind) <;> cases (findM y.name c != (j : Int)) <;> rfl
theorem cols_kinds {c : List Col} (h : namedC c = true) (hk : ∀ (j : Nat) (y : Col), c[j]? = some y → kindOk y = true) : colsM c = true :=
  colsM_true.2 fun j y hj => by rw [colAt_eq, namedC_true.1 h j y hj, hk j y hj]; rfl
theorem cols_kind_no {c : List Col} {x : Nat} (hlt : x < c.length) (hk : kindOk c[x] = false) : colsM c = false :=
  Bool.eq_false_iff.2 fun h => by have := colsM_true.1 h x c[x] (List.getElem?_eq_getElem hlt); rw [colAt_eq, hk, Bool.and_false] at this; cases this
theorem named_no {c : List Col} {x : Nat} (hlt : x < c.length) (hk : namedAt c x c[x] = false) : namedC c = false :=
  Bool.eq_false_iff.2 fun h => by rw [namedC_true.1 h x c[x] (List.getElem?_eq_getElem hlt)] at hk; cases hk
theorem c60 (c : List Col) (hc : OkCols c) (take : List Str) (ht : take.length ≤ 1048576) (give : List Col) (hg : OkCols give) (hg2 : give.length ≤ 1000000) (Hp : List AObj) : AFun Tryz.prog 60 [colsA c, strsA take, colsA give] Hp (.tup [colsA (turnM c take give).1, intA (turnM c take give).2]) := by
  refine ACall.body [.tmp 6, .tmp 7] [0, 1, 2] Tryz.func60 Tryz.ntmps60 (fun d => ?_)
  refine AW.seqR ?_
  refine R.assign ?_
  refine R.assign ?_
  refine R.fin [0, 1, 2] ?_
  refine W.seq ?_
  refine AW.seqR ?_
  refine R.move ?_
  refine R.call Tryz.call24 (c24 c hc _) ?_
  refine R.not ?_
  refine R.fin [0, 1, 2, 18] ?_
  refine W.cond (fun ht18 => ?_) (fun ht18 => ?_)
  · skip
    have hr : rightM c = false := by simpa using ht18
    refine AW.seqR ?_
    refine R.assign ?_
    refine R.nilSl 6 2 ?_
    refine R.assign ?_
    refine R.fin [6, 7] ?_
    refine AW.ret ?_
    refine K.thR ?_
    exact K.fin (V.two V.tmp V.tmp) ⟨by rw [turn_1 hr]; try rfl, rfl⟩
  · skip
    have hr : rightM c = true := by simpa using ht18
    refine AW.skip ?_
    refine K.thN ?_
    refine W.seq ?_
    refine AW.seqR ?_
    refine R.assign ?_
    refine R.fin [0, 1, 2, 8] ?_
    refine AW.loopC (α := Nat) (fun x => ⟨131, setF 0 (colsA c) (setF 1 (strsA take) (setF 2 (colsA give) (setF 8 (intA (x : Nat)) (fun _ => .any)))), Hp, [], [], none⟩) (fun x => x ≤ take.length ∧ ∀ (j : Nat) (y : Str), j < x → take[j]? = some y → takenAt c take j y = true) (fun x => take.length - x) (0) (by simp) (StLe.refl _) rfl (fun x hx => ?_)
    refine W.seq ?_
    refine AW.seqR ?_
    refine R.move ?_
    refine R.move ?_
    refine R.len Tryz.underlying50 ?_
    refine R.lss ?_
    refine R.fin [0, 1, 2, 8, 22] ?_
    refine W.cond (fun ht22 => ?_) (fun ht22 => ?_)
    · skip
      have hlt : x < take.length := by simpa using ht22
      refine AW.skip ?_
      refine K.thN ?_
      refine W.seq ?_
      refine AW.block ?_
      refine W.seq ?_
      refine AW.seqR ?_
      refine R.move ?_
      refine R.move ?_
      refine R.move ?_
      refine R.indexAddr (x) (strA take[x]) Tryz.underlying50 Tryz.sizeOf9 (getMap hlt) ?_
      refine R.loadRo Tryz.isAgg9 ?_
      refine R.call Tryz.call58 (c58 c hc _ _) ?_
      refine R.lss ?_
      refine R.fin [0, 1, 2, 8, 31] ?_
      refine W.cond (fun ht31 => ?_) (fun ht31 => ?_)
      · skip
        have hkn : takenM c take = false := taken_no hlt (by unfold takenAt; rw [ht31]; rfl)
        refine AW.seqR ?_
        refine R.assign ?_
        refine R.nilSl 6 2 ?_
        refine R.assign ?_
        refine R.fin [6, 7] ?_
        refine AW.ret ?_
        refine K.thR ?_
        refine K.blR ?_
        refine K.thR ?_
        refine K.lpR ?_
        refine K.thR ?_
        exact K.fin (V.two V.tmp V.tmp) ⟨by rw [turn_2 hr hkn]; try rfl, rfl⟩
      · skip
        refine AW.skip ?_
        refine K.thN ?_
        refine AW.seqR ?_
        refine R.assign ?_
        refine R.fin [0, 1, 2, 8, 9] ?_
        refine AW.loopC (α := Nat) (fun k => ⟨131, setF 0 (colsA c) (setF 1 (strsA take) (setF 2 (colsA give) (setF 8 (intA (x : Nat)) (setF 9 (intA (k : Nat)) (fun _ => .any))))), Hp, [], [], none⟩) (fun k => k ≤ x ∧ ∀ (j : Nat) (y : Str), j < k → take[j]? = some y → ¬ (y = take[x])) (fun k => x - k) (0) (by simp) (StLe.refl _) rfl (fun k hk => ?_)
        refine W.seq ?_
        refine AW.seqR ?_
        refine R.move ?_
        refine R.move ?_
        refine R.lss ?_
        refine R.fin [0, 1, 2, 8, 9, 34] ?_
        refine W.cond (fun ht34 => ?_) (fun ht34 => ?_)
        · skip
          have hkx : k < x := by simpa using ht34
          have hlk : k < take.length := by omega
          refine AW.skip ?_
          refine K.thN ?_
          refine W.seq ?_
          refine AW.block ?_
          refine W.draw [0, 0, 3, 7, 0, 0, 48, 112, 255] 8 Tryzmixed (by kernel_rfl) ?_
          refine D.move ?_
          refine D.move ?_
          refine D.indexAddr (k) (strA take[k]) Tryz.underlying50 Tryz.sizeOf9 (getMap hlk) ?_
          refine D.loadRo Tryz.isAgg9 ?_
          refine D.move ?_
          refine D.move ?_
          refine D.indexAddr (x) (strA take[x]) Tryz.underlying50 Tryz.sizeOf9 (getMap hlt) ?_
          refine D.loadRo Tryz.isAgg9 ?_
          refine D.tail ?_
          refine R.seql ?_
          refine R.fin [0, 1, 2, 8, 9, 45] ?_
          refine W.cond (fun ht45 => ?_) (fun ht45 => ?_)
          · skip
            have hkn : takenM c take = false := taken_no hlt (by unfold takenAt; rw [idx_before hlk hkx (by simpa using ht45)]; simp)
            refine AW.seqR ?_
            refine R.assign ?_
            refine R.nilSl 6 2 ?_
            refine R.assign ?_
            refine R.fin [6, 7] ?_
            refine AW.ret ?_
            refine K.blR ?_
            refine K.thR ?_
            refine K.lpR ?_
            refine K.blR ?_
            refine K.thR ?_
            refine K.lpR ?_
            refine K.thR ?_
            exact K.fin (V.two V.tmp V.tmp) ⟨by rw [turn_2 hr hkn]; try rfl, rfl⟩
          · skip
            refine AW.skip ?_
            refine K.blN ?_
            refine K.thN ?_
            refine AW.region ?_
            refine R.move ?_
            refine R.add64 ?_
            refine R.assign ?_
            refine R.fin [0, 1, 2, 8, 9] ?_
            exact K.lpN (k + 1) ⟨hkx, upto_succ (l := take) hlk hk.2 (by simpa using ht45)⟩ (by omega) (StCut.of_eq rfl)
        · skip
          have hkx : k = x := by simp at ht34; omega
          have htk : takenAt c take x take[x] = true := by
            unfold takenAt
            rw [ht31, idx_at hlt rfl (fun j y hj => hk.2 j y (by omega))]
            simp
          refine AW.exit ?_
          refine K.thE ?_
          refine K.lpE ?_
          refine K.blN ?_
          refine K.thN ?_
          refine AW.region ?_
          refine R.move ?_
          refine R.add64 ?_
          refine R.assign ?_
          refine R.fin [0, 1, 2, 8] ?_
          exact K.lpN (x + 1) ⟨hlt, uptoI_succ hlt hx.2 htk⟩ (by omega) (StCut.of_eq rfl)
    · skip
      have hk0 : takenM c take = true := takenM_true.2 (uptoI_all (by simp at ht22; omega) hx.2)
      refine AW.exit ?_
      refine K.thE ?_
      refine K.lpE ?_
      refine K.thN ?_
      refine AW.seqR ?_
      refine R.buildSlice Tryz.underlying37 Tryz.sizeOf65 Tryz.zeroValue65 ?_
      refine R.assignT ?_
      refine R.fin [0, 1, 2, 10] ?_
      refine W.seq ?_
      refine AW.seqR ?_
      refine R.assign ?_
      refine R.fin [0, 1, 2, 10, 11] ?_
      refine AW.loopC (α := Nat) (fun i => ⟨131, setF 0 (colsA c) (setF 1 (strsA take) (setF 2 (colsA give) (setF 10 (.slice true 2 ((stayM (c.take i) take).map colA)) (setF 11 (intA (i : Nat)) (fun _ => .any))))), Hp, [], [], none⟩) (fun i => i ≤ c.length) (fun i => c.length - i) (0) (Nat.zero_le _) (StLe.of_eq (by simp [stayM])) rfl (fun i hi => ?_)
      refine W.seq ?_
      refine AW.seqR ?_
      refine R.move ?_
      refine R.move ?_
      refine R.len Tryz.underlying37 ?_
      refine R.lss ?_
      refine R.fin [0, 1, 2, 10, 11, 50] ?_
      refine W.cond (fun ht50 => ?_) (fun ht50 => ?_)
      · skip
        have hli : i < c.length := by simpa using ht50
        have hcl := hc.len
        refine AW.skip ?_
        refine K.thN ?_
        refine W.seq ?_
        refine AW.block ?_
        refine AW.seqR ?_
        refine R.assign ?_
        refine R.fin [0, 1, 2, 10, 11, 12] ?_
        refine W.seq ?_
        refine AW.seqR ?_
        refine R.assign ?_
        refine R.fin [0, 1, 2, 10, 11, 12, 13] ?_
        refine AW.loopC (α := Nat) (fun m => ⟨131, setF 0 (colsA c) (setF 1 (strsA take) (setF 2 (colsA give) (setF 10 (.slice true 2 ((stayM (c.take i) take).map colA)) (setF 11 (intA (i : Nat)) (setF 12 (boolA ((take.take m).all fun t => !(t == c[i].name))) (setF 13 (intA (m : Nat)) (fun _ => .any))))))), Hp, [], [], none⟩) (fun m => m ≤ take.length) (fun m => take.length - m) (0) (Nat.zero_le _) (StLe.refl _) rfl (fun m hm => ?_)
        refine W.seq ?_
        refine AW.seqR ?_
        refine R.move ?_
        refine R.move ?_
        refine R.len Tryz.underlying50 ?_
        refine R.lss ?_
        refine R.fin [0, 1, 2, 10, 11, 12, 13, 56] ?_
        refine W.cond (fun ht56 => ?_) (fun ht56 => ?_)
        · skip
          have hlm : m < take.length := by simpa using ht56
          refine AW.skip ?_
          refine K.thN ?_
          refine W.seq ?_
          refine AW.block ?_
          refine W.draw0 [0, 1, 3, 3, 15, 31, 3, 3, 195, 451, 963, 2047, 4095, 8191] 11 Tryzmixed (by kernel_rfl) ?_
          refine D.move ?_
          refine D.move ?_
          refine H.move ?_
          refine H.move ?_
          refine H.indexAddr (m) (strA take[m]) Tryz.underlying50 Tryz.sizeOf9 (fun _ => getMap hlm) ?_
          refine H.loadRo Tryz.isAgg9 ?_
          refine H.move ?_
          refine H.move ?_
          refine H.indexAddr (i) (colA c[i]) Tryz.underlying37 Tryz.sizeOf65 (fun _ => getMap hli) ?_
          refine H.fieldAddrRo (off := 0) Tryz.underlying65 Tryz.sizeOf9 ?_
          refine H.loadRo Tryz.isAgg9 ?_
          refine D.tail ?_
          refine G.sneq ?_
          refine R.pickAnd ?_
          refine R.assign ?_
          refine R.fin [0, 1, 2, 10, 11, 12, 13] ?_
          refine K.blN ?_
          refine K.thN ?_
          refine AW.region ?_
          refine R.move ?_
          refine R.add64 ?_
          refine R.assign ?_
          refine R.fin [0, 1, 2, 10, 11, 12, 13] ?_
          exact K.lpN (m + 1) hlm (by omega) (StCut.of_eq (by rw [all_take hlm]; rfl))
        · skip
          have hme : take.take m = take := List.take_of_length_le (by simp at ht56; omega)
          rw [hme, all_ne]
          refine AW.exit ?_
          refine K.thE ?_
          refine K.lpE ?_
          refine K.thN ?_
          refine AW.seqR ?_
          refine R.move ?_
          refine R.fin [0, 1, 2, 10, 11, 72] ?_
          refine W.cond (fun ht72 => ?_) (fun ht72 => ?_)
          · skip
            have hst := stay_on (take := take) (List.getElem?_eq_getElem hli) (by simpa using ht72)
            refine AW.region ?_
            refine R.moveT ?_
            refine R.move ?_
            refine R.move ?_
            refine R.indexAddr (i) (colA c[i]) Tryz.underlying37 Tryz.sizeOf65 (getMap hli) ?_
            refine R.loadRoN Tryz.isAgg65 Tryz.sizeOf65 ?_
            refine R.buildSlice Tryz.underlying37 Tryz.sizeOf65 Tryz.zeroValue65 ?_
            refine R.append Tryz.underlying37 Tryz.type65 ?_ ?_ ?_
            · have h1 := stay_len (c.take i) take; have h2 := hc.len; simp only [List.length_take] at h1; simp [Tryz.t65]; omega
            · have h1 := stay_len (c.take i) take; have h2 := hc.len; simp only [List.length_take] at h1; simp [Tryz.t65]; omega
            refine R.assignT ?_
            refine R.fin [0, 1, 2, 10, 11] ?_
            refine K.blN ?_
            refine K.thN ?_
            refine AW.region ?_
            refine R.move ?_
            refine R.add64 ?_
            refine R.assign ?_
            refine R.fin [0, 1, 2, 10, 11] ?_
            exact K.lpN (i + 1) hli (by omega) (StCut.of_eq (by simp only [hst, List.map_append, List.map_cons, List.map_nil] <;> rfl))
          · skip
            have hst := stay_skip (take := take) (List.getElem?_eq_getElem hli) (by simpa using ht72)
            refine AW.skip ?_
            refine K.blN ?_
            refine K.thN ?_
            refine AW.region ?_
            refine R.move ?_
            refine R.add64 ?_
            refine R.assign ?_
            refine R.fin [0, 1, 2, 10, 11] ?_
            exact K.lpN (i + 1) hli (by omega) (StCut.of_eq (by simp only [hst, List.map_append, List.map_cons, List.map_nil] <;> rfl))
      · skip
        have hie : c.take i = c := List.take_of_length_le (by simp at ht50; omega)
        rw [hie]
        refine AW.exit ?_
        refine K.thE ?_
        refine K.lpE ?_
        refine K.thN ?_
        refine AW.seqR ?_
        refine R.moveT ?_
        refine R.move ?_
        refine R.append Tryz.underlying37 Tryz.type65 ?_ ?_ ?_
        · have h1 := stay_len c take; have h2 := right_len hr; simp [Tryz.t65]; omega
        · have h1 := stay_len c take; have h2 := right_len hr; simp [Tryz.t65]; omega
        refine R.assignT ?_
        refine R.fin [10] ?_
        refine W.seq ?_
        refine AW.seqR ?_
        have e10 : (stayM c take).map colA ++ give.map colA = (stayM c take ++ give).map colA := (List.map_append ..).symm
        rw [e10]
        generalize hout : stayM c take ++ give = out
        have ho : OkCols out := out_ok hc hr hg hg2 hout
        have hol := ho.len
        refine R.assign ?_
        refine R.fin [10, 14] ?_
        refine AW.loopC (α := Nat) (fun a => ⟨131, setF 10 (.slice true 2 (out.map colA)) (setF 14 (intA (a : Nat)) (fun _ => .any)), Hp, [], [], none⟩) (fun a => a ≤ out.length ∧ ∀ (j : Nat) (y : Col), j < a → out[j]? = some y → namedAt out j y = true) (fun a => out.length - a) (0) (by simp) (StLe.refl _) rfl (fun a ha => ?_)
        refine W.seq ?_
        refine AW.seqR ?_
        refine R.move ?_
        refine R.move ?_
        refine R.len Tryz.underlying37 ?_
        refine R.lss ?_
        refine R.fin [10, 14, 86] ?_
        refine W.cond (fun ht86 => ?_) (fun ht86 => ?_)
        · skip
          have hla : a < out.length := by simpa using ht86
          refine AW.skip ?_
          refine K.thN ?_
          refine W.seq ?_
          refine AW.block ?_
          refine AW.seqR ?_
          refine R.move ?_
          refine R.move ?_
          refine R.indexAddr (a) (colA out[a]) Tryz.underlying37 Tryz.sizeOf65 (getMap hla) ?_
          refine R.fieldAddrRo (off := 0) Tryz.underlying65 Tryz.sizeOf9 ?_
          refine R.loadRo Tryz.isAgg9 ?_
          refine R.call Tryz.call16 (c16 _ (ho.names _ (List.getElem_mem hla)) _) ?_
          refine R.not ?_
          refine R.move ?_
          refine G.move ?_
          refine G.move ?_
          refine G.move ?_
          refine G.indexAddr (a) (colA out[a]) Tryz.underlying37 Tryz.sizeOf65 (fun _ => getMap hla) ?_
          refine G.fieldAddrRo (off := 0) Tryz.underlying65 Tryz.sizeOf9 ?_
          refine G.loadRo Tryz.isAgg9 ?_
          refine G.call Tryz.call58 (fun hB => c58 out ho _ _) ?_
          refine G.move ?_
          refine G.neq ?_
          refine R.pickOr ?_
          refine R.fin [10, 14, 106] ?_
          refine W.cond (fun ht106 => ?_) (fun ht106 => ?_)
          · skip
            have hn : namedC out = false := named_no hla (by unfold namedAt; rw [ht106]; rfl)
            refine AW.seqR ?_
            refine R.assign ?_
            refine R.nilSl 6 2 ?_
            refine R.assign ?_
            refine R.fin [6, 7] ?_
            refine AW.ret ?_
            refine K.blR ?_
            refine K.thR ?_
            refine K.lpR ?_
            refine K.thR ?_
            exact K.fin (V.two V.tmp V.tmp) ⟨by rw [turn_3 hr hk0 hout hn]; try rfl, rfl⟩
          · skip
            refine AW.skip ?_
            refine K.blN ?_
            refine K.thN ?_
            refine AW.region ?_
            refine R.move ?_
            refine R.add64 ?_
            refine R.assign ?_
            refine R.fin [10, 14] ?_
            exact K.lpN (a + 1) ⟨hla, uptoI_succ hla ha.2 (by unfold namedAt; rw [ht106]; rfl)⟩ (by omega) (StCut.of_eq rfl)
        · skip
          have hn : namedC out = true := namedC_true.2 (uptoI_all (by simp at ht86; omega) ha.2)
          refine AW.exit ?_
          refine K.thE ?_
          refine K.lpE ?_
          refine K.thN ?_
          refine W.seq ?_
          refine AW.seqR ?_
          refine R.assign ?_
          refine R.fin [10, 15] ?_
          refine AW.loopC (α := Nat) (fun b => ⟨131, setF 10 (.slice true 2 (out.map colA)) (setF 15 (intA (b : Nat)) (fun _ => .any)), Hp, [], [], none⟩) (fun b => b ≤ out.length ∧ ∀ (j : Nat) (y : Col), j < b → out[j]? = some y → kindOk y = true) (fun b => out.length - b) (0) (by simp) (StLe.refl _) rfl (fun b hb => ?_)
          refine W.seq ?_
          refine AW.seqR ?_
          refine R.move ?_
          refine R.move ?_
          refine R.len Tryz.underlying37 ?_
          refine R.lss ?_
          refine R.fin [10, 15, 110] ?_
          refine W.cond (fun ht110 => ?_) (fun ht110 => ?_)
          · skip
            have hlb : b < out.length := by simpa using ht110
            refine AW.skip ?_
            refine K.thN ?_
            refine W.seq ?_
            refine AW.block ?_
            refine AW.seqR ?_
            refine R.move ?_
            refine R.move ?_
            refine R.indexAddr (b) (colA out[b]) Tryz.underlying37 Tryz.sizeOf65 (getMap hlb) ?_
            refine R.fieldAddrRo (off := 1) Tryz.underlying65 Tryz.sizeOf3 ?_
            refine R.loadRo Tryz.isAgg3 ?_
            refine R.lss ?_
            refine R.move ?_
            refine G.move ?_
            refine G.move ?_
            refine G.indexAddr (b) (colA out[b]) Tryz.underlying37 Tryz.sizeOf65 (fun _ => getMap hlb) ?_
            refine G.fieldAddrRo (off := 1) Tryz.underlying65 Tryz.sizeOf3 ?_
            refine G.loadRo Tryz.isAgg3 ?_
            refine G.gtr ?_
            refine R.pickOr ?_
            refine R.fin [10, 15, 126] ?_
            refine W.cond (fun ht126 => ?_) (fun ht126 => ?_)
            · skip
              have hq : colsM out = false := cols_kind_no hlb (by unfold kindOk; rw [ht126]; rfl)
              refine AW.seqR ?_
              refine R.assign ?_
              refine R.nilSl 6 2 ?_
              refine R.assign ?_
              refine R.fin [6, 7] ?_
              refine AW.ret ?_
              refine K.blR ?_
              refine K.thR ?_
              refine K.lpR ?_
              refine K.thR ?_
              exact K.fin (V.two V.tmp V.tmp) ⟨by rw [turn_4 hr hk0 hout hn hq]; try rfl, rfl⟩
            · skip
              refine AW.skip ?_
              refine K.blN ?_
              refine K.thN ?_
              refine AW.region ?_
              refine R.move ?_
              refine R.add64 ?_
              refine R.assign ?_
              refine R.fin [10, 15] ?_
              exact K.lpN (b + 1) ⟨hlb, upto_succ hlb hb.2 (by unfold kindOk; rw [ht126]; rfl)⟩ (by omega) (StCut.of_eq rfl)
          · skip
            have hq : colsM out = true := cols_kinds hn (upto_all (by simp at ht110; omega) hb.2)
            refine AW.exit ?_
            refine K.thE ?_
            refine K.lpE ?_
            refine K.thN ?_
            refine W.seq ?_
            refine AW.seqR ?_
            refine R.move ?_
            refine R.len Tryz.underlying37 ?_
            refine R.gtr ?_
            refine R.fin [10, 129] ?_
            refine W.cond (fun ht129 => ?_) (fun ht129 => ?_)
            · skip
              have h12 : 12 < out.length := by simp at ht129; omega
              refine AW.seqR ?_
              refine R.assign ?_
              refine R.nilSl 6 2 ?_
              refine R.assign ?_
              refine R.fin [6, 7] ?_
              refine AW.ret ?_
              refine K.thR ?_
              exact K.fin (V.two V.tmp V.tmp) ⟨by rw [turn_5 hr hk0 hout hn hq h12]; try rfl, rfl⟩
            · skip
              have h12 : ¬ 12 < out.length := by simp at ht129; omega
              refine AW.skip ?_
              refine K.thN ?_
              refine AW.seqR ?_
              refine R.move ?_
              refine R.assign ?_
              refine R.assign ?_
              refine R.fin [6, 7] ?_
              refine AW.ret ?_
              exact K.fin (V.two V.tmp V.tmp) ⟨by rw [turn_6 hr hk0 hout hn hq h12]; try rfl, rfl⟩

end Go.SX.Nb
namespace Go.SX.Nb
open Go Go.SX Go.Proofs
variable [ErrAt]
set_option maxRecDepth 4000
/-! What went and came, taken back: the same columns. -/
theorem nodup_at {α β : Type} {f : α → β} {c : List α} (h : (c.map f).Nodup) {i j : Nat} {y z : α} (hi : c[i]? = some y) (hj : c[j]? = some z) (e : f y = f z) : i = j := by
  obtain ⟨hi', ei⟩ := List.getElem?_eq_some_iff.1 hi
  obtain ⟨hj', ej⟩ := List.getElem?_eq_some_iff.1 hj
  have h' : List.Pairwise (· ≠ ·) (c.map f) := h
  rw [List.pairwise_iff_getElem] at h'
  rcases Nat.lt_trichotomy i j with hlt | rfl | hlt
  · have h2 := h' i j (by simpa using hi') (by simpa using hj') hlt
    rw [List.getElem_map, List.getElem_map, ei, ej] at h2
    exact absurd e h2
  · rfl
  · have h2 := h' j i (by simpa using hj') (by simpa using hi') hlt
    rw [List.getElem_map, List.getElem_map, ei, ej] at h2
    exact absurd e.symm h2
theorem find_nodup {c : List Col} (h : (c.map (·.name)).Nodup) {j : Nat} {y : Col} (hj : c[j]? = some y) : findM y.name c = (j : Int) := by
  obtain ⟨hj', ej⟩ := List.getElem?_eq_some_iff.1 hj
  exact findM_at hj' (by rw [ej]) (fun k z hk hz e => by have := nodup_at h hz hj e; omega)
theorem ok_colsM {c : List Col} (h : ∀ y ∈ c, ColOk y) (hn : (c.map (·.name)).Nodup) : colsM c = true := by
  rw [colsM_true]
  intro j y hj
  have ho := h y (List.mem_of_getElem? hj)
  have h1 := ho.lo
  have h3 := ho.hi
  unfold colAt
  rw [find_nodup hn hj, ← lexName_eq, ho.name]
  have e1 : decide (y.kind < 1) = false := decide_eq_false (by omega)
  have e3 : decide ((3 : Int) < y.kind) = false := decide_eq_false (by omega)
  rw [e1, e3]
  simp
theorem ok_named {c : List Col} (h : colsM c = true) : namedC c = true := by
  rw [namedC_true]
  intro j y hj
  have := colsM_true.1 h j y hj
  rw [colAt_eq, Bool.and_eq_true] at this
  exact this.1
theorem find_mem {nm : Str} {c : List Col} : ¬ (findM nm c < 0) ↔ ∃ (j : Nat) (y : Col), c[j]? = some y ∧ y.name = nm ∧ findM nm c = (j : Int) := by
  unfold findM
  cases h : c.findIdx? (fun y => y.name == nm) with
  | none =>
    constructor
    · intro h'; exact absurd (by decide) h'
    · rintro ⟨j, y, _, _, e⟩
      exact absurd (show (-1 : Int) = (j : Int) from e) (by omega)
  | some i =>
    rw [List.findIdx?_eq_some_iff_getElem] at h
    obtain ⟨hi, e, _⟩ := h
    constructor
    · intro _; exact ⟨i, c[i], List.getElem?_eq_getElem hi, by simpa using e, rfl⟩
    · intro _ h'
      have : (i : Int) < 0 := h'
      omega
theorem taken_spec {c : List Col} {take : List Str} (h : takenM c take = true) : (∀ t ∈ take, ¬ (findM t c < 0)) ∧ take.Nodup := by
  rw [takenM_true] at h
  have hat : ∀ (j : Nat) (t : Str), take[j]? = some t → ¬ (findM t c < 0) ∧ idxM t take = (j : Int) := by
    intro j t hj
    have := h j t hj
    unfold takenAt at this
    simp only [Bool.not_eq_true', Bool.or_eq_false_iff, decide_eq_false_iff_not, bne_eq_false_iff_eq] at this
    exact this
  refine ⟨fun t ht => ?_, ?_⟩
  · obtain ⟨j, hj⟩ := List.getElem?_of_mem ht
    exact (hat j t hj).1
  · show List.Pairwise _ _
    rw [List.pairwise_iff_getElem]
    intro i j hi hj hij e
    have e1 := (hat i take[i] (List.getElem?_eq_getElem hi)).2
    have e2 := (hat j take[j] (List.getElem?_eq_getElem hj)).2
    rw [e, e2] at e1
    omega
theorem spec_taken {c : List Col} {take : List Str} (h1 : ∀ t ∈ take, ∃ y ∈ c, y.name = t) (h2 : take.Nodup) : takenM c take = true := by
  rw [takenM_true]
  intro j t hj
  obtain ⟨hj', ej⟩ := List.getElem?_eq_some_iff.1 hj
  obtain ⟨y, hy, e⟩ := h1 t (List.mem_of_getElem? hj)
  have hf : ¬ (findM t c < 0) := by
    intro hlt
    have : findM t c = -1 := by
      unfold findM at hlt ⊢
      cases h : c.findIdx? (fun y => y.name == t) with
      | none => rfl
      | some i => rw [h] at hlt; have : (i : Int) < 0 := hlt; omega
    unfold findM at this
    cases h : c.findIdx? (fun y => y.name == t) with
    | none =>
      rw [List.findIdx?_eq_none_iff] at h
      have := h y hy
      rw [e] at this
      simp at this
    | some i =>
      rw [h] at this
      have : (i : Int) = -1 := this
      omega
  have hi : idxM t take = (j : Int) := idx_at hj' ej (fun k z hk hz e => by
    have h2' : (take.map id).Nodup := by simpa using h2
    have := nodup_at h2' hz hj (by simpa using e)
    omega)
  unfold takenAt
  rw [hi, decide_eq_false hf]
  simp
theorem turn_ok {c : List Col} {take : List Str} {give : List Col} (h : (turnM c take give).2 = 0) : rightM c = true ∧ takenM c take = true ∧ colsM (stayM c take ++ give) = true ∧ (stayM c take ++ give).length ≤ 12 ∧ turnM c take give = (stayM c take ++ give, 0) := by
  cases h1 : rightM c with
  | false => rw [turn_1 h1] at h; exact absurd (show (1 : Int) = 0 from h) (by decide)
  | true =>
    cases h2 : takenM c take with
    | false => rw [turn_2 h1 h2] at h; exact absurd (show (9 : Int) = 0 from h) (by decide)
    | true =>
      cases h3 : namedC (stayM c take ++ give) with
      | false => rw [turn_3 h1 h2 rfl h3] at h; exact absurd (show (9 : Int) = 0 from h) (by decide)
      | true =>
        cases h4 : colsM (stayM c take ++ give) with
        | false => rw [turn_4 h1 h2 rfl h3 h4] at h; exact absurd (show (10 : Int) = 0 from h) (by decide)
        | true =>
          by_cases h5 : 12 < (stayM c take ++ give).length
          · rw [turn_5 h1 h2 rfl h3 h4 h5] at h; exact absurd (show (3 : Int) = 0 from h) (by decide)
          · exact ⟨rfl, rfl, rfl, by omega, turn_6 h1 h2 rfl h3 h4 h5⟩
theorem turn_bad {c : List Col} {take : List Str} {give : List Col} (h : (turnM c take give).2 ≠ 0) : (turnM c take give).1 = [] := by
  unfold turnM at h ⊢
  split
  · rfl
  · rename_i h1
    rw [if_neg h1] at h
    split
    · rfl
    · rename_i h2
      rw [if_neg h2] at h
      split
      · rfl
      · rename_i h3
        rw [if_neg h3] at h
        split
        · rfl
        · rename_i h4
          rw [if_neg h4] at h
          split
          · rfl
          · rename_i h5
            rw [if_neg h5] at h
            exact absurd rfl h
def lookM (c : List Col) (t : Str) : Col := c.getD (findM t c).toNat ⟨[], 0⟩
theorem look_spec {c : List Col} {t : Str} (h : ¬ (findM t c < 0)) : lookM c t ∈ c ∧ (lookM c t).name = t := by
  obtain ⟨j, y, hj, e, hf⟩ := find_mem.1 h
  unfold lookM
  rw [hf, Int.toNat_natCast, List.getD_eq_getElem?_getD, hj]
  exact ⟨List.mem_of_getElem? hj, e⟩
theorem less_nil {a b : List Col} (h : ∀ y ∈ a, y ∈ b) : lessM a b = [] := by
  unfold lessM
  rw [List.filter_eq_nil_iff]
  intro y hy
  simpa using h y hy
theorem turn_back {c : List Col} {take : List Str} {give d : List Col} (h : (turnM c take give).2 = 0) (hd : (turnM c take give).1 = d) :
    (turnM d (give.map (·.name)) (take.map (lookM c))).2 = 0 ∧ lessM c (turnM d (give.map (·.name)) (take.map (lookM c))).1 = [] ∧ lessM (turnM d (give.map (·.name)) (take.map (lookM c))).1 c = [] ∧
      (turnM d (give.map (·.name)) (take.map (lookM c))).1.length = c.length := by
  obtain ⟨h1, h2, h3, h4, h5⟩ := turn_ok h
  rw [h5] at hd
  have hd : stayM c take ++ give = d := hd
  have hc1 := right_len h1
  obtain ⟨hcok, hcn⟩ := colsM_ok (c := c) (by unfold rightM at h1; rw [Bool.and_eq_true] at h1; exact h1.2)
  obtain ⟨hdok, hdn⟩ := colsM_ok h3
  obtain ⟨ht1, ht2⟩ := taken_spec h2
  rw [List.map_append, List.nodup_append] at hdn
  obtain ⟨hn1, hn2, hn3⟩ := hdn
  have hstay : ∀ y, y ∈ stayM c take ↔ y ∈ c ∧ ¬ y.name ∈ take := by
    intro y
    unfold stayM
    rw [List.mem_filter]
    simp
  have hlook := fun t ht => look_spec (ht1 t ht)
  have hbn : (take.map (lookM c)).map (·.name) = take := by
    rw [List.map_map]
    conv => rhs; rw [← List.map_id take]
    exact List.map_congr_left fun t ht => (hlook t ht).2
  -- back
  have hr : rightM d = true := by
    unfold rightM
    rw [← hd, h3]
    simp only [Bool.and_true, decide_eq_true_eq]
    omega
  have htk : takenM d (give.map (·.name)) = true := spec_taken (fun t ht => by
    obtain ⟨y, hy, rfl⟩ := List.mem_map.1 ht
    exact ⟨y, by rw [← hd]; exact List.mem_append_right _ hy, rfl⟩) hn2
  have hst : stayM d (give.map (·.name)) = stayM c take := by
    have e1 : stayM (stayM c take) (give.map (·.name)) = stayM c take := by
      show List.filter _ _ = _
      rw [List.filter_eq_self]
      intro y hy
      have : ¬ y.name ∈ give.map (·.name) := fun hm => hn3 y.name (List.mem_map_of_mem hy) y.name hm rfl
      simpa using this
    have e2 : stayM give (give.map (·.name)) = [] := by
      show List.filter _ _ = _
      rw [List.filter_eq_nil_iff]
      intro y hy
      have : y.name ∈ give.map (·.name) := List.mem_map_of_mem hy
      simpa using this
    rw [← hd]
    show List.filter _ (_ ++ _) = _
    rw [List.filter_append]
    show stayM (stayM c take) (give.map (·.name)) ++ stayM give (give.map (·.name)) = _
    rw [e1, e2, List.append_nil]
  have hmem : ∀ y ∈ stayM c take ++ take.map (lookM c), y ∈ c := by
    intro y hy
    rcases List.mem_append.1 hy with hy | hy
    · exact ((hstay y).1 hy).1
    · obtain ⟨t, ht, rfl⟩ := List.mem_map.1 hy
      exact (hlook t ht).1
  have hmem2 : ∀ y ∈ c, y ∈ stayM c take ++ take.map (lookM c) := by
    intro y hy
    by_cases hm : y.name ∈ take
    · refine List.mem_append_right _ (List.mem_map.2 ⟨y.name, hm, ?_⟩)
      obtain ⟨a1, a2⟩ := hlook y.name hm
      obtain ⟨i, hi⟩ := List.getElem?_of_mem a1
      obtain ⟨j, hj⟩ := List.getElem?_of_mem hy
      have := nodup_at hcn hi hj a2
      subst this
      rw [hi] at hj
      exact Option.some.inj hj
    · exact List.mem_append_left _ ((hstay y).2 ⟨hy, hm⟩)
  have hnd : ((stayM c take ++ take.map (lookM c)).map (·.name)).Nodup := by
    rw [List.map_append, hbn, List.nodup_append]
    refine ⟨hn1, ht2, fun a ha b hb e => ?_⟩
    obtain ⟨y, hy, rfl⟩ := List.mem_map.1 ha
    subst e
    exact ((hstay y).1 hy).2 hb
  have hcm : colsM (stayM c take ++ take.map (lookM c)) = true := ok_colsM (fun y hy => hcok y (hmem y hy)) hnd
  have hlen : (stayM c take ++ take.map (lookM c)).length = c.length := by
    have hp : List.Perm ((stayM c take ++ take.map (lookM c)).map (·.name)) (c.map (·.name)) := by
      rw [List.perm_ext_iff_of_nodup hnd hcn]
      intro a
      constructor
      · intro ha
        obtain ⟨y, hy, rfl⟩ := List.mem_map.1 ha
        exact List.mem_map_of_mem (hmem y hy)
      · intro ha
        obtain ⟨y, hy, rfl⟩ := List.mem_map.1 ha
        exact List.mem_map_of_mem (hmem2 y hy)
    simpa using hp.length_eq
  have hfin : turnM d (give.map (·.name)) (take.map (lookM c)) = (stayM c take ++ take.map (lookM c), 0) :=
    turn_6 hr htk (by rw [hst]) (ok_named hcm) hcm (by omega)
  rw [hfin]
  exact ⟨rfl, less_nil hmem2, less_nil hmem, hlen⟩
end Go.SX.Nb
namespace Go.SX.Nb
open Go Go.SX Go.Proofs
variable [ErrAt]
set_option maxRecDepth 4000
theorem many_len {c : List Col} (h : manyM c = false) : c.length ≤ 50 := by
  unfold manyM at h
  simp only [Bool.or_eq_false_iff, decide_eq_false_iff_not] at h
  omega
theorem turn_len (c : List Col) (take : List Str) (give : List Col) : (turnM c take give).1.length ≤ 12 := by
  by_cases h : (turnM c take give).2 = 0
  · obtain ⟨_, _, _, h4, h5⟩ := turn_ok h
    rw [h5]; exact h4
  · rw [turn_bad h]; exact Nat.zero_le _
theorem turn_okc {c : List Col} {take : List Str} {give : List Col} (hc : OkCols c) (hg : OkCols give) : OkCols (turnM c take give).1 := by
  refine ⟨by have := turn_len c take give; omega, fun y hy => ?_⟩
  by_cases h : (turnM c take give).2 = 0
  · obtain ⟨_, _, _, _, h5⟩ := turn_ok h
    rw [h5] at hy
    rcases List.mem_append.1 hy with hy | hy
    · exact hc.2 y ((List.mem_filter.1 hy).1)
    · exact hg.2 y hy
  · rw [turn_bad h] at hy; cases hy
theorem map_take {α β : Type} (f : α → β) {l : List α} {x : Nat} (h : x < l.length) : (l.take (x + 1)).map f = (l.take x).map f ++ [f l[x]] := by
  rw [List.take_succ, List.getElem?_eq_getElem h, List.map_append]
  rfl
theorem less_len1 (a b : List Col) : (lessM a b).length ≤ a.length := List.length_filter_le _ _
theorem c12 (c : List Col) (take : List Str) (give : List Col) (Hp : List AObj) : AFun Tryz.prog 12 [colsA c, strsA take, colsA give] Hp (boolA true) := by
  refine ACall.body [.tmp 6] [0, 1, 2] Tryz.func12 Tryz.ntmps12 (fun d => ?_)
  refine AW.seqR ?_
  refine R.assign ?_
  refine R.fin [0, 1, 2] ?_
  refine W.seq ?_
  refine AW.seqR ?_
  refine R.call Tryz.call20 (c20 _) ?_
  refine R.not ?_
  refine R.fin [0, 1, 2, 17] ?_
  refine W.cond (fun ht17 => ?_) (fun ht17 => ?_)
  · skip
    cases ht17
  · skip
    refine AW.skip ?_
    refine K.thN ?_
    refine W.seq ?_
    refine AW.seqR ?_
    refine R.move ?_
    refine R.call Tryz.call21 (c21u c _) ?_
    refine R.move ?_
    refine G.move ?_
    refine G.call Tryz.call21 (fun hB => c21u give _) ?_
    refine R.pickOr ?_
    refine R.move ?_
    refine G.move ?_
    refine G.len Tryz.underlying50 ?_
    refine G.gtr ?_
    refine R.pickOr ?_
    refine R.fin [0, 1, 2, 28] ?_
    refine W.cond (fun ht28 => ?_) (fun ht28 => ?_)
    · skip
      refine AW.seqR ?_
      refine R.assign ?_
      refine R.fin [6] ?_
      refine AW.ret ?_
      refine K.thR ?_
      exact K.fin (V.one V.tmp)
    · skip
      simp only [Bool.or_eq_false_iff] at ht28
      obtain ⟨⟨hm, hmg⟩, htl⟩ := ht28
      have hc := many_ok hm
      have hg := many_ok hmg
      have hc50 := many_len hm
      have hg50 := many_len hmg
      have htl : take.length ≤ 50 := by simp at htl; omega
      refine AW.skip ?_
      refine K.thN ?_
      refine W.seq ?_
      refine AW.seqR ?_
      refine R.assign ?_
      refine R.fin [0, 1, 2, 7] ?_
      refine AW.loopC (α := Nat) (fun x => ⟨121, setF 0 (colsA c) (setF 1 (strsA take) (setF 2 (colsA give) (setF 7 (intA (x : Nat)) (fun _ => .any)))), Hp, [], [], none⟩) (fun x => x ≤ take.length) (fun x => take.length - x) (0) (Nat.zero_le _) (StLe.refl _) rfl (fun x hx => ?_)
      refine W.seq ?_
      refine AW.seqR ?_
      refine R.move ?_
      refine R.move ?_
      refine R.len Tryz.underlying50 ?_
      refine R.lss ?_
      refine R.fin [0, 1, 2, 7, 32] ?_
      refine W.cond (fun ht32 => ?_) (fun ht32 => ?_)
      · skip
        have hlt : x < take.length := by simpa using ht32
        refine AW.skip ?_
        refine K.thN ?_
        refine W.seq ?_
        refine AW.block ?_
        refine AW.seqR ?_
        refine R.move ?_
        refine R.move ?_
        refine R.indexAddr (x) (strA take[x]) Tryz.underlying50 Tryz.sizeOf9 (getMap hlt) ?_
        refine R.loadRo Tryz.isAgg9 ?_
        refine R.slen Tryz.underlying9 ?_
        refine R.gtr ?_
        refine R.fin [0, 1, 2, 7, 40] ?_
        refine W.cond (fun ht40 => ?_) (fun ht40 => ?_)
        · skip
          refine AW.seqR ?_
          refine R.assign ?_
          refine R.fin [6] ?_
          refine AW.ret ?_
          refine K.blR ?_
          refine K.thR ?_
          refine K.lpR ?_
          refine K.thR ?_
          exact K.fin (V.one V.tmp)
        · skip
          refine AW.skip ?_
          refine K.blN ?_
          refine K.thN ?_
          refine AW.region ?_
          refine R.move ?_
          refine R.add64 ?_
          refine R.assign ?_
          refine R.fin [0, 1, 2, 7] ?_
          exact K.lpN (x + 1) hlt (by omega) (StCut.of_eq rfl)
      · skip
        refine AW.exit ?_
        refine K.thE ?_
        refine K.lpE ?_
        refine K.thN ?_
        refine AW.seqR ?_
        refine R.move ?_
        refine R.move ?_
        refine R.move ?_
        refine R.call Tryz.call57 (c57 c hc take (by omega) give hg (by omega) _) ?_
        refine R.move ?_
        refine R.extract ?_
        refine R.extract ?_
        refine R.assign ?_
        refine R.assign ?_
        refine R.fin [0, 1, 2, 8, 9] ?_
        refine AW.seqR ?_
        refine R.move ?_
        refine R.move ?_
        refine R.move ?_
        refine R.call Tryz.call60 (c60 c hc take (by omega) give hg (by omega) _) ?_
        refine R.move ?_
        refine R.extract ?_
        refine R.extract ?_
        refine R.assign ?_
        refine R.assign ?_
        refine R.fin [0, 8, 9, 10, 11] ?_
        refine W.seq ?_
        refine AW.seqR ?_
        refine R.move ?_
        refine R.move ?_
        refine R.neq ?_
        refine R.move ?_
        refine G.move ?_
        refine G.move ?_
        refine G.call Tryz.call27 (fun hB => c27 (turnM c take give).1 (turnM c take give).1 (by have := turn_len c take give; omega) _) ?_
        refine G.not ?_
        refine R.pickOr ?_
        refine R.fin [0, 8, 63] ?_
        refine W.cond (fun ht63 => ?_) (fun ht63 => ?_)
        · skip
          exfalso
          simp at ht63
        · skip
          refine AW.skip ?_
          refine K.thN ?_
          refine AW.seqR ?_
          refine R.move ?_
          refine R.move ?_
          refine R.call Tryz.call59 (c59 c (turnM c take give).1 (by omega) (by have := turn_len c take give; omega) _) ?_
          refine R.move ?_
          refine R.extract ?_
          refine R.extract ?_
          refine R.assign ?_
          refine R.assign ?_
          refine R.fin [0, 8, 12, 13] ?_
          refine AW.seqR ?_
          refine R.move ?_
          refine R.move ?_
          refine R.call Tryz.call61 (c61 c (turnM c take give).1 (by omega) (turn_okc hc hg) _) ?_
          refine R.assign ?_
          refine R.fin [0, 8, 12, 13, 14] ?_
          refine W.seq ?_
          refine AW.seqR ?_
          refine R.move ?_
          refine R.move ?_
          refine R.move ?_
          refine R.call Tryz.call35 (c35 c (turnM c take give).1 (by omega) (by have := turn_len c take give; omega) _) ?_
          refine R.call Tryz.call27 (c27 _ _ (Nat.le_trans (less_len1 c (turnM c take give).1) (by omega)) _) ?_
          refine R.not ?_
          refine R.move ?_
          refine G.move ?_
          refine G.move ?_
          refine G.move ?_
          refine G.call Tryz.call35 (fun hB => c35 (turnM c take give).1 c (by have := turn_len c take give; omega) (by omega) _) ?_
          refine G.call Tryz.call27 (fun hB => c27 _ _ (Nat.le_trans (less_len1 (turnM c take give).1 c) (by have := turn_len c take give; omega)) _) ?_
          refine G.not ?_
          refine R.pickOr ?_
          refine R.move ?_
          refine G.move ?_
          refine G.move ?_
          refine G.call Tryz.call62 (fun hB => c62 c (turnM c take give).1 (by omega) _) ?_
          refine G.move ?_
          refine G.move ?_
          refine G.call Tryz.call27 (fun hB => c27 c (turnM c take give).1 (by omega) _) ?_
          refine G.bneq Tryz.underlying4 ?_
          refine R.pickOr ?_
          refine R.move ?_
          refine G.move ?_
          refine G.len Tryz.underlying86 ?_
          refine G.move ?_
          refine G.len Tryz.underlying37 ?_
          refine G.neq ?_
          refine R.pickOr ?_
          refine R.fin [0, 8, 14, 102] ?_
          refine W.cond (fun ht102 => ?_) (fun ht102 => ?_)
          · skip
            exfalso
            simp [orderM] at ht102
          · skip
            refine AW.skip ?_
            refine K.thN ?_
            refine W.seq ?_
            refine AW.seqR ?_
            refine R.assign ?_
            refine R.fin [0, 8, 14, 15] ?_
            refine AW.loopC (α := Nat) (fun k => ⟨121, setF 0 (colsA c) (setF 8 (colsA (turnM c take give).1) (setF 14 (.slice false 1 ((orderM c (turnM c take give).1).map intA)) (setF 15 (intA (k : Nat)) (fun _ => .any)))), Hp, [], [], none⟩) (fun k => k ≤ c.length) (fun k => c.length - k) (0) (Nat.zero_le _) (StLe.refl _) rfl (fun k hk => ?_)
            refine W.seq ?_
            refine AW.seqR ?_
            refine R.move ?_
            refine R.move ?_
            refine R.len Tryz.underlying37 ?_
            refine R.lss ?_
            refine R.fin [0, 8, 14, 15, 106] ?_
            refine W.cond (fun ht106 => ?_) (fun ht106 => ?_)
            · skip
              have hlk : k < c.length := by simpa using ht106
              refine AW.skip ?_
              refine K.thN ?_
              refine W.seq ?_
              refine AW.block ?_
              refine W.draw [0, 0, 3, 7, 0, 0, 0, 96, 224, 480, 1008, 2047] 11 Tryzmixed (by kernel_rfl) ?_
              refine D.move ?_
              refine D.move ?_
              refine D.indexAddr (k) (intA (findM c[k].name (turnM c take give).1)) Tryz.underlying86 Tryz.sizeOf3 (getM (f := intA) (l := orderM c (turnM c take give).1) (by unfold orderM; exact getM (List.getElem?_eq_getElem hlk))) ?_
              refine D.loadRo Tryz.isAgg3 ?_
              refine D.move ?_
              refine D.move ?_
              refine D.move ?_
              refine D.indexAddr (k) (colA c[k]) Tryz.underlying37 Tryz.sizeOf65 (getMap hlk) ?_
              refine D.fieldAddrRo (off := 0) Tryz.underlying65 Tryz.sizeOf9 ?_
              refine D.loadRo Tryz.isAgg9 ?_
              refine D.call Tryz.call58 (c58 (turnM c take give).1 (turn_okc hc hg) _ _) ?_
              refine D.tail ?_
              refine R.neq ?_
              refine R.fin [0, 8, 14, 15, 120] ?_
              refine W.cond (fun ht120 => ?_) (fun ht120 => ?_)
              · skip
                exfalso
                simp at ht120
              · skip
                refine AW.skip ?_
                refine K.blN ?_
                refine K.thN ?_
                refine AW.region ?_
                refine R.move ?_
                refine R.add64 ?_
                refine R.assign ?_
                refine R.fin [0, 8, 14, 15] ?_
                exact K.lpN (k + 1) hlk (by omega) (StCut.of_eq rfl)
            · skip
              refine AW.exit ?_
              refine K.thE ?_
              refine K.lpE ?_
              refine K.thN ?_
              refine AW.seqR ?_
              refine R.assign ?_
              refine R.fin [6] ?_
              refine AW.ret ?_
              exact K.fin (V.one V.tmp)

theorem c11 (c : List Col) (take : List Str) (give : List Col) (Hp : List AObj) : AFun Tryz.prog 11 [colsA c, strsA take, colsA give] Hp (boolA true) := by
  refine ACall.body [.tmp 6] [0, 1, 2] Tryz.func11 Tryz.ntmps11 (fun d => ?_)
  refine AW.seqR ?_
  refine R.assign ?_
  refine R.fin [0, 1, 2] ?_
  refine W.seq ?_
  refine AW.seqR ?_
  refine R.call Tryz.call20 (c20 _) ?_
  refine R.not ?_
  refine R.fin [0, 1, 2, 18] ?_
  refine W.cond (fun ht18 => ?_) (fun ht18 => ?_)
  · skip
    cases ht18
  · skip
    refine AW.skip ?_
    refine K.thN ?_
    refine W.seq ?_
    refine AW.seqR ?_
    refine R.move ?_
    refine R.call Tryz.call21 (c21u c _) ?_
    refine R.move ?_
    refine G.move ?_
    refine G.call Tryz.call21 (fun hB => c21u give _) ?_
    refine R.pickOr ?_
    refine R.move ?_
    refine G.move ?_
    refine G.len Tryz.underlying50 ?_
    refine G.gtr ?_
    refine R.pickOr ?_
    refine R.fin [0, 1, 2, 29] ?_
    refine W.cond (fun ht29 => ?_) (fun ht29 => ?_)
    · skip
      refine AW.seqR ?_
      refine R.assign ?_
      refine R.fin [6] ?_
      refine AW.ret ?_
      refine K.thR ?_
      exact K.fin (V.one V.tmp)
    · skip
      simp only [Bool.or_eq_false_iff] at ht29
      obtain ⟨⟨hm, hmg⟩, htl⟩ := ht29
      have hc := many_ok hm
      have hg := many_ok hmg
      have hc50 := many_len hm
      have hg50 := many_len hmg
      have htl : take.length ≤ 50 := by simp at htl; omega
      refine AW.skip ?_
      refine K.thN ?_
      refine AW.seqR ?_
      refine R.move ?_
      refine R.move ?_
      refine R.move ?_
      refine R.call Tryz.call57 (c57 c hc take (by omega) give hg (by omega) _) ?_
      refine R.move ?_
      refine R.extract ?_
      refine R.extract ?_
      refine R.assign ?_
      refine R.assign ?_
      refine R.fin [0, 1, 2, 7, 8] ?_
      refine W.seq ?_
      refine AW.seqR ?_
      refine R.move ?_
      refine R.neq ?_
      refine R.fin [0, 1, 2, 7, 38] ?_
      refine W.cond (fun ht38 => ?_) (fun ht38 => ?_)
      · skip
        have hne : (turnM c take give).2 ≠ 0 := by simpa using ht38
        refine AW.seqR ?_
        refine R.move ?_
        refine R.len Tryz.underlying37 ?_
        refine R.eql ?_
        refine R.assign ?_
        refine R.fin [6] ?_
        refine AW.ret ?_
        refine K.thR ?_
        exact K.fin (V.one V.tmp) ⟨by rw [turn_bad hne]; rfl, rfl⟩
      · skip
        have h0 : (turnM c take give).2 = 0 := by simpa using ht38
        have hdo := turn_okc (take := take) hc hg
        generalize hd : (turnM c take give).1 = d at hdo
        obtain ⟨hr, htk, _, _, _⟩ := turn_ok h0
        obtain ⟨ht1, _⟩ := taken_spec htk
        obtain ⟨b1, b2, b3, b4⟩ := turn_back h0 hd
        have hbo : OkCols (take.map (lookM c)) := ⟨by simp; omega, fun y hy => by
          obtain ⟨t, ht, rfl⟩ := List.mem_map.1 hy
          exact hc.2 _ (look_spec (ht1 t ht)).1⟩
        refine AW.skip ?_
        refine K.thN ?_
        refine AW.seqR ?_
        refine R.buildSlice Tryz.underlying50 Tryz.sizeOf9 Tryz.zeroValue9 ?_
        refine R.buildSlice Tryz.underlying37 Tryz.sizeOf65 Tryz.zeroValue65 ?_
        refine R.assignT ?_
        refine R.assignT ?_
        refine R.fin [0, 1, 2, 7, 9, 10] ?_
        refine W.seq ?_
        refine AW.seqR ?_
        refine R.assign ?_
        refine R.fin [0, 1, 2, 7, 9, 10, 11] ?_
        refine AW.loopC (α := Nat) (fun x => ⟨108, setF 0 (colsA c) (setF 1 (strsA take) (setF 2 (colsA give) (setF 7 (colsA d) (setF 9 (.slice true 1 (((give.take x).map (·.name)).map strA)) (setF 10 (.slice true 2 []) (setF 11 (intA (x : Nat)) (fun _ => .any))))))), Hp, [], [], none⟩) (fun x => x ≤ give.length) (fun x => give.length - x) (0) (Nat.zero_le _) (StLe.of_eq (by simp)) rfl (fun x hx => ?_)
        refine W.seq ?_
        refine AW.seqR ?_
        refine R.move ?_
        refine R.move ?_
        refine R.len Tryz.underlying37 ?_
        refine R.lss ?_
        refine R.fin [0, 1, 2, 7, 9, 10, 11, 47] ?_
        refine W.cond (fun ht47 => ?_) (fun ht47 => ?_)
        · skip
          have hlt : x < give.length := by simpa using ht47
          refine AW.skip ?_
          refine K.thN ?_
          refine W.seq ?_
          refine AW.block ?_
          refine AW.region ?_
          refine R.moveT ?_
          refine R.move ?_
          refine R.move ?_
          refine R.indexAddr (x) (colA give[x]) Tryz.underlying37 Tryz.sizeOf65 (getMap hlt) ?_
          refine R.fieldAddrRo (off := 0) Tryz.underlying65 Tryz.sizeOf9 ?_
          refine R.loadRo Tryz.isAgg9 ?_
          refine R.buildSlice Tryz.underlying50 Tryz.sizeOf9 Tryz.zeroValue9 ?_
          refine R.append Tryz.underlying50 Tryz.type9 ?_ ?_ ?_
          · simp [Tryz.t9]; omega
          · simp [Tryz.t9]; omega
          refine R.assignT ?_
          refine R.fin [0, 1, 2, 7, 9, 10, 11] ?_
          refine K.blN ?_
          refine K.thN ?_
          refine AW.region ?_
          refine R.move ?_
          refine R.add64 ?_
          refine R.assign ?_
          refine R.fin [0, 1, 2, 7, 9, 10, 11] ?_
          exact K.lpN (x + 1) hlt (by omega) (StCut.of_eq (by simp only [map_take (·.name) hlt, List.map_append, List.map_cons, List.map_nil] <;> rfl))
        · skip
          have hxe : give.take x = give := List.take_of_length_le (by simp at ht47; omega)
          rw [hxe]
          refine AW.exit ?_
          refine K.thE ?_
          refine K.lpE ?_
          refine K.thN ?_
          refine W.seq ?_
          refine AW.seqR ?_
          refine R.assign ?_
          refine R.fin [0, 1, 7, 9, 10, 12] ?_
          refine AW.loopC (α := Nat) (fun k => ⟨108, setF 0 (colsA c) (setF 1 (strsA take) (setF 7 (colsA d) (setF 9 (.slice true 1 ((give.map (·.name)).map strA)) (setF 10 (.slice true 2 (((take.take k).map (lookM c)).map colA)) (setF 12 (intA (k : Nat)) (fun _ => .any)))))), Hp, [], [], none⟩) (fun k => k ≤ take.length) (fun k => take.length - k) (0) (Nat.zero_le _) (StLe.of_eq (by simp)) rfl (fun k hk => ?_)
          refine W.seq ?_
          refine AW.seqR ?_
          refine R.move ?_
          refine R.move ?_
          refine R.len Tryz.underlying50 ?_
          refine R.lss ?_
          refine R.fin [0, 1, 7, 9, 10, 12, 61] ?_
          refine W.cond (fun ht61 => ?_) (fun ht61 => ?_)
          · skip
            have hlk : k < take.length := by simpa using ht61
            obtain ⟨j0, y0, hj0, e0, hf0⟩ := find_mem.1 (ht1 take[k] (List.getElem_mem hlk))
            have hlook : (c.map colA)[(findM take[k] c).toNat]? = some (colA (lookM c take[k])) := by
              unfold lookM
              rw [List.getElem?_map, hf0, Int.toNat_natCast, hj0, List.getD_eq_getElem?_getD, hj0]
              rfl
            have hfp : 0 ≤ findM take[k] c := by rw [hf0]; omega
            refine AW.skip ?_
            refine K.thN ?_
            refine W.seq ?_
            refine AW.block ?_
            refine AW.region ?_
            refine R.moveT ?_
            refine R.move ?_
            refine R.move ?_
            refine R.move ?_
            refine R.move ?_
            refine R.indexAddr (k) (strA take[k]) Tryz.underlying50 Tryz.sizeOf9 (getMap hlk) ?_
            refine R.loadRo Tryz.isAgg9 ?_
            refine R.call Tryz.call58 (c58 c hc _ _) ?_
            refine R.indexAddr ((findM take[k] c).toNat) (colA (lookM c take[k])) Tryz.underlying37 Tryz.sizeOf65 hlook ?_
            refine R.loadRoN Tryz.isAgg65 Tryz.sizeOf65 ?_
            refine R.buildSlice Tryz.underlying37 Tryz.sizeOf65 Tryz.zeroValue65 ?_
            refine R.append Tryz.underlying37 Tryz.type65 ?_ ?_ ?_
            · simp [Tryz.t65]; omega
            · simp [Tryz.t65]; omega
            refine R.assignT ?_
            refine R.fin [0, 1, 7, 9, 10, 12] ?_
            refine K.blN ?_
            refine K.thN ?_
            refine AW.region ?_
            refine R.move ?_
            refine R.add64 ?_
            refine R.assign ?_
            refine R.fin [0, 1, 7, 9, 10, 12] ?_
            exact K.lpN (k + 1) hlk (by omega) (StCut.of_eq (by simp only [map_take (lookM c) hlk, List.map_append, List.map_cons, List.map_nil] <;> rfl))
          · skip
            have hke : take.take k = take := List.take_of_length_le (by simp at ht61; omega)
            rw [hke]
            refine AW.exit ?_
            refine K.thE ?_
            refine K.lpE ?_
            refine K.thN ?_
            refine AW.seqR ?_
            refine R.move ?_
            refine R.move ?_
            refine R.move ?_
            refine R.call Tryz.call57 (c57 d hdo (give.map (·.name)) (by simp; omega) (take.map (lookM c)) hbo (by simp; omega) _) ?_
            refine R.move ?_
            refine R.extract ?_
            refine R.extract ?_
            refine R.assign ?_
            refine R.assign ?_
            refine R.fin [0, 13, 14] ?_
            refine AW.seqR ?_
            refine R.move ?_
            refine R.move ?_
            refine R.call Tryz.call59 (c59 c (turnM d (give.map (·.name)) (take.map (lookM c))).1 (by omega) (by omega) _) ?_
            refine R.move ?_
            refine R.extract ?_
            refine R.extract ?_
            refine R.assign ?_
            refine R.assign ?_
            refine R.fin [0, 13, 14, 15, 16] ?_
            refine AW.seqR ?_
            refine R.move ?_
            refine R.eql ?_
            refine R.move ?_
            refine G.move ?_
            refine G.len Tryz.underlying37 ?_
            refine G.eql ?_
            refine R.pickAnd ?_
            refine R.move ?_
            refine G.move ?_
            refine G.len Tryz.underlying37 ?_
            refine G.eql ?_
            refine R.pickAnd ?_
            refine R.move ?_
            refine G.move ?_
            refine G.len Tryz.underlying37 ?_
            refine G.move ?_
            refine G.len Tryz.underlying37 ?_
            refine G.eql ?_
            refine R.pickAnd ?_
            refine R.assign ?_
            refine R.fin [6] ?_
            refine AW.ret ?_
            exact K.fin (V.one V.tmp) ⟨by rw [b1, b2, b3]; simp [b4], rfl⟩

end Go.SX.Nb
