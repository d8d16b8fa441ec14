/- Texts on the way to this: ExprPuts answers true for whatever can be read: the card of the law. (part 7) -/
import Derived.Laws.BytesString
import Derived.Test.YtefgfjedonchdaaGreatDoorExprPutsCardSaidPart6
set_option linter.all false
namespace Go.SX.Nb
open Go Go.SX Go.Proofs
variable [ErrAt]
set_option maxRecDepth 4000
def kindM (s : Str) : Int := if kindNameM 1 == s then 1 else if kindNameM 2 == s then 2 else if kindNameM 3 == s then 3 else 0
structure KindUpto (s : Str) (x : Nat) : Prop where
  le : x ≤ 3
  a : 1 ≤ x → (kindNameM 1 == s) = false
  b : 2 ≤ x → (kindNameM 2 == s) = false
  c : 3 ≤ x → (kindNameM 3 == s) = false
theorem kind_at {s : Str} {x : Nat} (h : KindUpto s x) (hx : x < 3) (e : (kindNameM ((x : Int) + 1) == s) = true) : kindM s = (x : Int) + 1 := by
  have h3 : x = 0 ∨ x = 1 ∨ x = 2 := by omega
  unfold kindM
  rcases h3 with rfl | rfl | rfl
  · have e : (kindNameM 1 == s) = true := e
    rw [if_pos e]; rfl
  · have e : (kindNameM 2 == s) = true := e
    rw [if_neg (by rw [h.a (by omega)]; simp), if_pos e]; rfl
  · have e : (kindNameM 3 == s) = true := e
    rw [if_neg (by rw [h.a (by omega)]; simp), if_neg (by rw [h.b (by omega)]; simp), if_pos e]; rfl
theorem kind_on {s : Str} {x : Nat} (h : KindUpto s x) (hx : x < 3) (e : (kindNameM ((x : Int) + 1) == s) = false) : KindUpto s (x + 1) := by
  have h3 : x = 0 ∨ x = 1 ∨ x = 2 := by omega
  rcases h3 with rfl | rfl | rfl
  · exact ⟨by omega, fun _ => e, fun h => by omega, fun h => by omega⟩
  · exact ⟨by omega, fun _ => h.a (by omega), fun _ => e, fun h => by omega⟩
  · exact ⟨by omega, fun _ => h.a (by omega), fun _ => h.b (by omega), fun _ => e⟩
theorem kind_no {s : Str} {x : Nat} (h : KindUpto s x) (hx : 3 ≤ x) : kindM s = 0 := by
  unfold kindM
  rw [if_neg (by rw [h.a (by omega)]; simp), if_neg (by rw [h.b (by omega)]; simp), if_neg (by rw [h.c (by omega)]; simp)]
theorem c109 (s : Str) (Hp : List AObj) : AFun Tryz.prog 109 [strA s] Hp (intA (kindM s)) := by
  refine ACall.body [.tmp 2] [0] Tryz.func109 Tryz.ntmps109 (fun d => ?_)
  refine AW.seqR ?_
  refine R.assign ?_
  refine R.fin [0] ?_
  refine W.seq ?_
  refine AW.seqR ?_
  refine R.assign ?_
  refine R.fin [0, 3] ?_
  refine AW.loopC (α := Nat) (fun x => ⟨13, setF 0 (strA s) (setF 3 (intA ((x : Nat) + 1)) (fun _ => .any)), Hp, [], [], none⟩) (fun x => KindUpto s x) (fun x => 3 - x) (0) ⟨by omega, fun h => by omega, fun h => by omega, fun h => by omega⟩ (StLe.refl _) rfl (fun x hx => ?_)
  refine W.seq ?_
  refine AW.seqR ?_
  refine R.move ?_
  refine R.leq ?_
  refine R.fin [0, 3, 5] ?_
  refine W.cond (fun ht5 => ?_) (fun ht5 => ?_)
  · skip
    have hx3 : x < 3 := by simp at ht5; omega
    refine AW.skip ?_
    refine K.thN ?_
    refine W.seq ?_
    refine AW.block ?_
    refine AW.seqR ?_
    refine R.move ?_
    refine R.call Tryz.call69 (c69 _ _) ?_
    refine R.move ?_
    refine R.seql ?_
    refine R.fin [0, 3, 11] ?_
    refine W.cond (fun ht11 => ?_) (fun ht11 => ?_)
    · skip
      refine AW.seqR ?_
      refine R.move ?_
      refine R.assign ?_
      refine R.fin [2] ?_
      refine AW.ret ?_
      refine K.blR ?_
      refine K.thR ?_
      refine K.lpR ?_
      refine K.thR ?_
      exact K.fin (V.one V.tmp) ⟨by rw [kind_at hx hx3 (by simpa using ht11)], rfl⟩
    · skip
      refine AW.skip ?_
      refine K.blN ?_
      refine K.thN ?_
      refine AW.region ?_
      refine R.move ?_
      refine R.add64 ?_
      refine R.assign ?_
      refine R.fin [0, 3] ?_
      exact K.lpN (x + 1) (kind_on hx hx3 (by simpa using ht11)) (by omega) (StCut.of_eq (by simp))
  · skip
    have hx3 : 3 ≤ x := by simp at ht5; omega
    refine AW.exit ?_
    refine K.thE ?_
    refine K.lpE ?_
    refine K.thN ?_
    refine AW.seqR ?_
    refine R.assign ?_
    refine R.fin [2] ?_
    refine AW.ret ?_
    exact K.fin (V.one V.tmp) ⟨by rw [kind_no hx hx3], rfl⟩

theorem c74 (e : Int) (t : Tok) (Hp : List AObj) : AFun Tryz.prog 74 [intA e, tokA t] Hp (.agg [intA e, intA (t.at_ : Int)]) := by
  refine ACall.body [.cell 4 27] [0, 1] Tryz.func74 Tryz.ntmps74 (fun d => ?_)
  refine AW.seqR ?_
  refine R.box ?_
  refine R.alloc Tryz.zeroValue27 ?_
  refine R.fin [0, 3, 4] ?_
  refine AW.seqR ?_
  refine R.move ?_
  refine R.fieldAddrPtr (fo := 2) Tryz.underlying31 Tryz.sizeOf3 ?_
  refine R.loadOwn Tryz.isAgg3 ?_
  refine R.build (places := #[(0, 1), (1, 1)]) Tryz.underlying27 (fun w => by simp) Tryz.zeroValue27 ?_
  refine R.storeOwn Tryz.sizeOf27 ?_
  refine R.fin [4] ?_
  refine AW.ret ?_
  exact K.fin (V.one (V.cellN Tryz.isAgg27 Tryz.sizeOf27))

abbrev rdr (l : List Tok) (acc : List Col) : AObj := .cells 100 [.slice false 3 (l.map tokA), .slice true 2 (acc.map colA)]
def colF (l : List Tok) (acc : List Col) : Int × Int :=
  if (tokAt l 0).kind != 1 then (8, (tokAt l 0).at_) else if ((tokAt l 1).kind != 2) || (kindM (tokAt l 1).text == 0) then (8, (tokAt l 1).at_)
  else if decide (0 ≤ findM (tokAt l 0).text acc) then (9, (tokAt l 0).at_) else if (acc.length : Int) == 12 then (3, (tokAt l 0).at_) else (0, 0)
def colN (l : List Tok) : Col := ⟨(tokAt l 0).text, kindM (tokAt l 1).text⟩
theorem c73 (l : List Tok) (acc : List Col) (o : Nat) (Hp : List AObj) (ho : Hp[o]? = some (rdr l acc)) (hl : 1 ≤ l.length) (hl2 : (tokAt l 0).kind = 1 → 2 ≤ l.length) (hc : OkCols acc) : ACall Tryz.prog 73 [.ptr o 0] Hp (fun r H' => r = .agg [intA (colF l acc).1, intA (colF l acc).2] ∧ H' = if (colF l acc).1 = 0 then Hp.set o (rdr (l.drop 2) (acc ++ [colN l])) else Hp) := by
  refine ACall.body [.cell 2 27] [0] Tryz.func73 Tryz.ntmps73 (fun d => ?_)
  refine AW.seqR ?_
  refine R.alloc Tryz.zeroValue27 ?_
  refine R.fin [0, 2] ?_
  refine AW.seqR ?_
  refine R.move ?_
  refine R.nilPtr ?_
  refine R.fieldAddrPtr (fo := 0) Tryz.underlying100 Tryz.sizeOf24 ?_
  refine R.loadUp Tryz.isAgg24 ho ?_
  refine R.indexAddr (0) (tokA (tokAt l 0)) Tryz.underlying24 Tryz.sizeOf31 (getTok hl) ?_
  refine R.loadRoN Tryz.isAgg31 Tryz.sizeOf31 ?_
  refine R.alloc Tryz.zeroValue31 ?_
  refine R.storeOwn Tryz.sizeOf31 ?_
  refine R.fin [0, 2, 3] ?_
  refine W.seq ?_
  refine AW.seqR ?_
  refine R.fieldAddrPtr (fo := 0) Tryz.underlying31 Tryz.sizeOf3 ?_
  refine R.loadOwn Tryz.isAgg3 ?_
  refine R.neq ?_
  refine R.fin [0, 2, 3, 14] ?_
  refine W.cond (fun ht14 => ?_) (fun ht14 => ?_)
  · skip
    refine AW.seqR ?_
    refine R.loadOwnN Tryz.isAgg31 Tryz.sizeOf31 ?_
    refine R.call Tryz.call74 (c74 _ _ _) ?_
    refine R.storeOwn Tryz.sizeOf27 ?_
    refine R.fin [2] ?_
    refine AW.ret ?_
    refine K.thR ?_
    have e : colF l acc = (8, ((tokAt l 0).at_ : Int)) := by
      unfold colF
      rw [if_pos ht14]
    exact K.fin (V.one (V.cellN Tryz.isAgg27 Tryz.sizeOf27)) ⟨by rw [e], by rw [e]; rfl⟩
  · skip
    have hk1 : (tokAt l 0).kind = 1 := by simpa using ht14
    have hk2 : 2 ≤ l.length := hl2 hk1
    refine AW.skip ?_
    refine K.thN ?_
    refine AW.seqR ?_
    refine R.move ?_
    refine R.nilPtr ?_
    refine R.fieldAddrPtr (fo := 0) Tryz.underlying100 Tryz.sizeOf24 ?_
    refine R.loadUp Tryz.isAgg24 ho ?_
    refine R.indexAddr (1) (tokA (tokAt l 1)) Tryz.underlying24 Tryz.sizeOf31 (getTok hk2) ?_
    refine R.loadRoN Tryz.isAgg31 Tryz.sizeOf31 ?_
    refine R.alloc Tryz.zeroValue31 ?_
    refine R.storeOwn Tryz.sizeOf31 ?_
    refine R.fin [0, 2, 3, 4] ?_
    refine AW.seqR ?_
    refine R.fieldAddrPtr (fo := 1) Tryz.underlying31 Tryz.sizeOf9 ?_
    refine R.loadOwn Tryz.isAgg9 ?_
    refine R.call Tryz.call109 (c109 _ _) ?_
    refine R.assign ?_
    refine R.fin [0, 2, 3, 4, 5] ?_
    refine W.seq ?_
    refine AW.block ?_
    refine AW.seqR ?_
    refine R.fieldAddrPtr (fo := 0) Tryz.underlying31 Tryz.sizeOf3 ?_
    refine R.loadOwn Tryz.isAgg3 ?_
    refine R.neq ?_
    refine R.move ?_
    refine G.move ?_
    refine G.eql ?_
    refine R.pickOr ?_
    refine R.assign ?_
    refine R.fin [0, 2, 3, 4, 5, 26] ?_
    refine W.cond (fun ht26 => ?_) (fun ht26 => ?_)
    · skip
      refine AW.seqR ?_
      refine R.loadOwnN Tryz.isAgg31 Tryz.sizeOf31 ?_
      refine R.call Tryz.call74 (c74 _ _ _) ?_
      refine R.storeOwn Tryz.sizeOf27 ?_
      refine R.fin [2] ?_
      refine AW.ret ?_
      refine K.blR ?_
      refine K.thR ?_
      have e : colF l acc = (8, ((tokAt l 1).at_ : Int)) := by
        unfold colF
        rw [if_neg (by rw [ht14]; simp), if_pos ht26]
      exact K.fin (V.one (V.cellN Tryz.isAgg27 Tryz.sizeOf27)) ⟨by rw [e], by rw [e]; rfl⟩
    · skip
      refine W.draw [0, 1, 3, 7, 0, 16, 63, 127, 255] 6 Tryzmixed (by kernel_rfl) ?_
      refine D.move ?_
      refine D.nilPtr ?_
      refine D.fieldAddrPtr (fo := 1) Tryz.underlying100 Tryz.sizeOf37 ?_
      refine D.loadUp Tryz.isAgg37 ho ?_
      refine D.fieldAddrPtr (fo := 1) Tryz.underlying31 Tryz.sizeOf9 ?_
      refine D.loadOwn Tryz.isAgg9 ?_
      refine D.tail ?_
      refine R.call Tryz.call100 (c100 acc hc _ _) ?_
      refine R.geq ?_
      refine R.assign ?_
      refine R.fin [0, 2, 3, 5, 36] ?_
      refine W.cond (fun ht36 => ?_) (fun ht36 => ?_)
      · skip
        refine AW.seqR ?_
        refine R.loadOwnN Tryz.isAgg31 Tryz.sizeOf31 ?_
        refine R.call Tryz.call74 (c74 _ _ _) ?_
        refine R.storeOwn Tryz.sizeOf27 ?_
        refine R.fin [2] ?_
        refine AW.ret ?_
        refine K.blR ?_
        refine K.thR ?_
        have e : colF l acc = (9, ((tokAt l 0).at_ : Int)) := by
          unfold colF
          rw [if_neg (by rw [ht14]; simp), if_neg (by rw [ht26]; simp), if_pos ht36]
        exact K.fin (V.one (V.cellN Tryz.isAgg27 Tryz.sizeOf27)) ⟨by rw [e], by rw [e]; rfl⟩
      · skip
        refine AW.seqR ?_
        refine R.move ?_
        refine R.nilPtr ?_
        refine R.fieldAddrPtr (fo := 1) Tryz.underlying100 Tryz.sizeOf37 ?_
        refine R.loadUp Tryz.isAgg37 ho ?_
        refine R.len Tryz.underlying37 ?_
        refine R.eql ?_
        refine R.assign ?_
        refine R.fin [0, 2, 3, 5, 47] ?_
        refine W.cond (fun ht47 => ?_) (fun ht47 => ?_)
        · skip
          refine AW.seqR ?_
          refine R.loadOwnN Tryz.isAgg31 Tryz.sizeOf31 ?_
          refine R.call Tryz.call74 (c74 _ _ _) ?_
          refine R.storeOwn Tryz.sizeOf27 ?_
          refine R.fin [2] ?_
          refine AW.ret ?_
          refine K.blR ?_
          refine K.thR ?_
          have e : colF l acc = (3, ((tokAt l 0).at_ : Int)) := by
            unfold colF
            rw [if_neg (by rw [ht14]; simp), if_neg (by rw [ht26]; simp), if_neg (by rw [ht36]; simp), if_pos (by simpa using ht47)]
          exact K.fin (V.one (V.cellN Tryz.isAgg27 Tryz.sizeOf27)) ⟨by rw [e], by rw [e]; rfl⟩
        · skip
          refine AW.skip ?_
          refine K.blN ?_
          refine K.thN ?_
          refine W.drawY [0, 0, 2, 6, 14, 0, 32, 0, 224, 480, 1022, 2047, 4095, 8191] [4] [.q 4 [] [], .s [60] (some 0) [] [], .q 5 [] [], .s [60, 66] none [0] []] (fun B => Hp.set o (if B 0 = true then .cells 100 [.slice false 3 (l.map tokA), .slice false 2 (acc.map colA)] else rdr l acc)) (fun _ => [.cells 27 [intA 0, intA 0], .cells 31 [intA (tokAt l 0).kind, strA (tokAt l 0).text, intA (tokAt l 0).at_], .cells 31 [intA (tokAt l 1).kind, strA (tokAt l 1).text, intA (tokAt l 1).at_]]) Tryzmixed (by kernel_rfl) (set_same ho) rfl (fun B => by simp) ?_
          apply Y.q
          case h1 =>
            intro B hT hF
            refine D.move ?_
            refine D.move ?_
            refine D.nilPtr ?_
            refine D.fieldAddrPtr (fo := 1) Tryz.underlying100 Tryz.sizeOf37 ?_
            exact D.end rfl rfl
          case hTF => decide
          refine Y.loadUpT (o := o) (t' := 100) (cs := [.slice false 3 (l.map tokA), .slice true 2 (acc.map colA)]) (cs' := [.slice false 3 (l.map tokA), .slice false 2 (acc.map colA)]) Tryz.isAgg37 (fun B hB => ⟨by simp only [hB]; exact getset ho, (List.set_set ..).symm, rfl⟩) ?_
          apply Y.q
          case h1 =>
            intro B hT hF
            refine D.fieldAddrPtr (fo := 1) Tryz.underlying31 Tryz.sizeOf9 ?_
            refine D.loadOwn Tryz.isAgg9 ?_
            refine D.move ?_
            refine D.build (places := #[(0, 1), (1, 1)]) Tryz.underlying65 (fun w => by simp) Tryz.zeroValue65 ?_
            refine D.buildSlice Tryz.underlying37 Tryz.sizeOf65 Tryz.zeroValue65 ?_
            exact D.end rfl rfl
          case hTF => decide
          refine Y.append Tryz.underlying37 Tryz.type65 ?_ ?_ ?_
          · have := hc.len; simp [Tryz.t65]; omega
          · have := hc.len; simp [Tryz.t65]; omega
          refine Y.tail (tn := [4]) (U := Hp.set o (.cells 100 [.slice false 3 (l.map tokA), .slice false 2 (acc.map colA)])) ?_
          refine R.nilPtr ?_
          refine R.fieldAddrPtr (fo := 1) Tryz.underlying100 Tryz.sizeOf37 ?_
          refine R.storeUpT Tryz.sizeOf37 (getset ho) ?_ ?_
          · simp [or_imp, forall_and]
          refine R.fin [0, 2] ?_
          refine AW.seqR ?_
          refine R.move ?_
          refine R.move ?_
          refine R.nilPtr ?_
          refine R.fieldAddrPtr (fo := 0) Tryz.underlying100 Tryz.sizeOf24 ?_
          refine R.loadUp Tryz.isAgg24 (getset (getset ho)) ?_
          refine R.cutL 2 Tryz.underlying24 Tryz.sizeOf31 (show 2 ≤ (l.map tokA).length by simpa using hk2) (Nat.le_refl _) ?_
          refine R.nilPtr ?_
          refine R.fieldAddrPtr (fo := 0) Tryz.underlying100 Tryz.sizeOf24 ?_
          refine R.storeUp Tryz.sizeOf24 (getset (getset ho)) ?_ ?_
          · simp
            intro x hx
            obtain ⟨t, _, rfl⟩ := List.mem_map.1 (List.mem_of_mem_drop hx)
            simp [or_imp, forall_and]
          refine R.fin [2] ?_
          refine AW.seqR ?_
          refine R.build (places := #[(0, 1), (1, 1)]) Tryz.underlying27 (fun w => by simp) Tryz.zeroValue27 ?_
          refine R.storeOwn Tryz.sizeOf27 ?_
          refine R.fin [2] ?_
          refine AW.ret ?_
          have e : colF l acc = (0, 0) := by
            unfold colF
            rw [if_neg (by rw [ht14]; simp), if_neg (by rw [ht26]; simp), if_neg (by rw [ht36]; simp), if_neg (by rw [List.length_map] at ht47; rw [ht47]; simp)]
          exact K.fin (V.one (V.cellN Tryz.isAgg27 Tryz.sizeOf27)) ⟨by rw [e], by rw [e, if_pos rfl, List.set_set, List.set_set, rdr, List.map_drop, List.map_append]; rfl⟩

end Go.SX.Nb
namespace Go.SX
variable [GI : GlobInv]
open Classical
section
variable {P : Program} {d : Nat} {st : St} {dst : Option Tmp} {ty : TypeId} {pos : String} {aft : Array Edge} {gd : Option (Nat × Bool)}
abbrev u8A (c : UInt8) : AV := .v (.int .u8 (c.toNat : Int))
theorem fold_bytes : ∀ (l : List UInt8) (r : ByteArray), (l.map fun c => (c.toNat : Int)).foldl (fun r n => r.push (UInt8.ofNat n.toNat)) r = ⟨r.data ++ l.toArray⟩
  | [], r => by simp
  | c :: l, r => by
    rw [List.map_cons, List.foldl_cons, fold_bytes l]
    have : UInt8.ofNat ((c.toNat : Int)).toNat = c := by simp
    rw [this]
    simp [ByteArray.push]
theorem OpV.bytesStr {a t e : TypeId} {x : Operand} {o : Bool} {l : List UInt8} (hs : P.underlying a = some (.slice e)) (he : P.underlying e = some (.int .u8)) (ht : P.underlying t = some .string) (hx : st.ev x = .slice o 1 (l.map u8A)) :
    OpV P d ⟨dst, .convert a t x, ty, pos, aft, gd⟩ st (.v (sv l)) :=
  OpV.pure (by intro c h; cases h) fun G ac w h => by
    have hr := hx ▸ h.eval x
    generalize hv : ac.eval x = u at hr
    refine ⟨.string ⟨l.toArray⟩, ?_, .v _ _⟩
    rcases asSl_cases (.inl rfl) hr with ⟨rfl, hl⟩ | ⟨ad, c, f, rfl, _, hF, _⟩
    · have : l = [] := by simpa using hl
      subst this
      simp [execOp, hv, run_convert_bytes_string w a t e none 0 0 hs he ht, Conv.bytesToString]
      rfl
    · have hvals := hF.vals (Nat.succ_pos 0)
      have e1 : flatVals 1 (l.map u8A).length f = (l.map fun c => (c.toNat : Int)).map (Value.int .u8) := by
        apply List.ext_getElem?
        intro i
        by_cases hi : i < l.length
        · have h1 : i < (l.map u8A).length * 1 := by simpa using hi
          rw [flatVals_get h1, Nat.div_one, Nat.mod_one]
          have hxi : (l.map u8A)[i]? = some (u8A l[i]) := by rw [List.getElem?_map, List.getElem?_eq_getElem hi]; rfl
          have hrep := hF.rep i _ 0 _ hxi rfl
          have := rep_v hrep
          rw [this, List.map_map, List.getElem?_map, List.getElem?_eq_getElem hi]
          rfl
        · rw [List.getElem?_eq_none (by rw [flatVals_length]; simp; omega), List.getElem?_eq_none (by simp; omega)]
      have e2 := run_loadCells_list (P := P) (w := w) ad _ hvals
      rw [flatVals_length, e1, Nat.mul_one] at e2
      have e3 := run_bytesToString w ad (l.map u8A).length c _ e2
      rw [fold_bytes] at e3
      rw [List.length_map] at e3 hv
      simp [execOp, hv, run_convert_bytes_string w a t e (some ad) l.length c hs he ht, e3]
end
variable {P : Program} {d : Nat} {ops : Array Oper} {rest : List Oper} {sz : Nat} {fr : Nat → AV} {up own : List AObj} {dfs : List Nat} {rnd : Option Nat} {Q : St → Prop} {s : Nat} {ty : TypeId} {pos : String} {aft : Array Edge}
theorem R.bytesStr {a t e : TypeId} {x : Operand} {o : Bool} (l : List UInt8) (hs' : P.underlying a = some (.slice e)) (he : P.underlying e = some (.int .u8)) (ht : P.underlying t = some .string) (hr : ARun P d ops rest ⟨sz, setF s (.v (sv l)) fr, up, own, dfs, rnd⟩ Q)
    (hx : frEv fr x = .slice o 1 (l.map u8A) := by simp only [go_sem, ↓reduceIte, Nat.reduceEqDiff, Nat.reduceAdd] <;> rfl) (hs : Nat.blt s sz = true := by rfl) :
    ARun P d ops (⟨some s, .convert a t x, ty, pos, aft, none⟩ :: rest) ⟨sz, fr, up, own, dfs, rnd⟩ Q :=
  ARun.vv rfl rfl hs (OpV.bytesStr hs' he ht hx) hr
end Go.SX
