/- Texts on the way to this: ShowPrints answers true for whatever it is handed: any tree that is right has the print that the chapter says, and is parsed from it as it was, unless brackets nest too deep. (part 6) -/
import Derived.Lib.ParseIntBTie
import Derived.Shelf.Strings.Builder1
import Derived.Lib.ItoaLen
import Derived.Test.YtmagaphdmgpneaaGreatDoorShowPrintsCardSaidPart5
set_option linter.all false
namespace Go.SX.Nb
open Go Go.SX Go.Proofs
variable [ErrAt]
set_option maxRecDepth 4000
theorem atR_fact {l : List Tok} (hl : TokEnd l) (hll : l.length ≤ 1048576) {i : Nat} (hi : i < l.length) : Fact l ⟨i, 0, 0, 0⟩ (atR l i) := (famM_good hl hll 31 0 rfl (by decide)).1 ⟨i, 0, 0, 0⟩ hi rfl
theorem c155at {l : List Tok} {i : Nat} (hi : i < l.length) (hl : TokEnd l) (hll : l.length ≤ 1048576) (hcl : ∀ n Dv, n ≤ 30 → DeepC l Dv n → PCall l Dv n) (o : Nat) (Hp : List AObj) (ho : Hp[o]? = some (pr l ⟨i, 0, 0, 0⟩)) : ACall Tryz.prog 46 [.ptr o 0] Hp (fun r H' => r = exprA (atR l i).1 ∧ H' = Hp.set o (pr l (atR l i).2)) := (parse_pc hl hll hcl 31 0 rfl (by decide)).1 o Hp ⟨i, 0, 0, 0⟩ ho hi rfl
theorem tokEnd_last {l : List Tok} (hl : TokEnd l) : (tokAt l (l.length - 1)).kind = 0 := by
 obtain ⟨L, z, rfl, hz, _⟩ := hl.split
 unfold tokAt
 simp [hz]
theorem c29 (l : List Tok) (i : Nat) (hi : i < l.length) (hl : TokEnd l) (hll : l.length ≤ 500000) (hcl : ∀ n Dv, n ≤ 30 → DeepC l Dv n → PCall l Dv n) (Hp : List AObj) : AFun Tryz.prog 29 [toksA l, intA (i : Int)] Hp (.tup [exprA (atM l i).1, intA (atM l i).2.1, .agg [intA (atM l i).2.2.1, intA (atM l i).2.2.2]]) := by
 have hmap : (l.map tokA).length = l.length := List.length_map ..
 have hll1 : l.length ≤ 1048576 := by omega
 have hq := atR_fact hl hll1 hi
 have hlast := tokEnd_last hl
 have hpos := hl.pos
 have hqlt := hq.lt
 have hqs := hq.sz
 have hok0 : okE 1048576 (atR l i).1 := okE_le (by have := hq.lt; omega) hq.ok
 have hsz0 : sizeE (atR l i).1 ≤ 1048576 := by have := hq.sz; have := hq.lt; omega
 refine ACall.body [.cell 4 27, .tmp 5, .cell 6 30] [0, 1] Tryz.func29 Tryz.ntmps29 (fun d => ?_)
 refine AW.seqR ?_
 refine R.alloc Tryz.zeroValue27 ?_
 refine R.assign ?_
 refine R.alloc Tryz.zeroValue30 ?_
 refine R.fin [0, 1, 4, 6] ?_
 refine W.seq ?_
 refine AW.seqR ?_
 refine R.move ?_
 refine R.lss ?_
 refine R.move ?_
 refine G.move ?_
 refine G.move ?_
 refine G.len Tryz.underlying60 ?_
 refine G.geq ?_
 refine R.pickOr ?_
 refine R.move ?_
 refine G.move ?_
 refine G.move ?_
 refine G.len Tryz.underlying60 ?_
 refine G.sub64 ?_
 refine G.indexAddr ((l.length - 1)) (tokA (tokAt l (l.length - 1))) Tryz.underlying60 Tryz.sizeOf66 (fun _ => getTok (by omega)) ?_
 refine G.fieldAddrRo (off := 0) Tryz.underlying66 Tryz.sizeOf3 ?_
 refine G.loadRo Tryz.isAgg3 ?_
 refine G.neq ?_
 refine R.pickOr ?_
 refine R.fin [0, 1, 4, 6, 26] ?_
 refine W.cond (fun ht26 => ?_) (fun ht26 => ?_)
 ·skip
  simp only [Bool.or_eq_true, decide_eq_true_eq, bne_iff_ne, ne_eq] at ht26
  rcases ht26 with (h | h) | h
  ·omega
  ·simp at h; omega
  ·exact absurd hlast h
 ·skip
  refine AW.skip ?_
  refine K.thN ?_
  refine AW.seqR ?_
  refine R.move ?_
  refine R.move ?_
  refine R.build (places := #[(0, 1), (1, 1), (2, 1), (3, 2)]) Tryz.underlying90 (fun w => by simp) Tryz.zeroValue90 ?_
  refine R.box ?_
  refine R.assign ?_
  refine R.fin [0, 1, 4, 6, 7] ?_
  refine AW.seqR ?_
  refine R.move ?_
  refine R.callOwn (n := 2) (x := pr l (atR l i).2) Tryz.call46 (c155at hi hl hll1 hcl (oid Hp.length 2) _ (by rw [get_oid]; rfl)) ?_
  refine R.alloc Tryz.zeroValue27 ?_
  refine R.storeOwn Tryz.sizeOf27 ?_
  refine R.fin [0, 1, 4, 6, 7, 8] ?_
  refine W.join ⟨81, setF 4 (.ptr (oid Hp.length 0) 0) (setF 6 (.ptr (oid Hp.length 1) 0) (setF 7 (.ptr (oid Hp.length 2) 0) (setF 8 (.ptr (oid Hp.length 3) 0) (fun _ => .any)))), Hp, [.cells 27 [intA 0, strA [], intA 0, intA 0, strA [], .nil], .cells 30 [intA 0, intA 0], pr l (atS l i (atR l i)), .cells 27 (exprC (atR l i).1)], [], none⟩ ?_ ?_
  ·skip
   refine AW.block ?_
   refine AW.seqR ?_
   refine R.move ?_
   refine R.nilPtr ?_
   refine R.fieldAddrPtr (fo := 3) Tryz.underlying90 Tryz.sizeOf30 ?_
   refine R.fieldAddrPtr (fo := 0) Tryz.underlying30 Tryz.sizeOf28 ?_
   refine R.loadOwn Tryz.isAgg28 ?_
   refine R.neq ?_
   refine R.assign ?_
   refine R.fin [0, 1, 4, 6, 7, 8, 35] ?_
   refine W.cond (fun ht35 => ?_) (fun ht35 => ?_)
   ·skip
    have e : atS l i (atR l i) = (atR l i).2 := if_pos ht35
    refine W.keep [4, 6, 7, 8] ?_
    refine AW.skip ?_
    refine K.blN ?_
    refine K.thJ ?_
    exact StLe.of_eq (by rw [e] <;> rfl)
   ·skip
    have e0 : ¬ ((atR l i).2.code != 0) = true := by rw [ht35]; simp
    refine AW.seqR ?_
    refine R.loadOwnN Tryz.isAgg27 Tryz.sizeOf27 ?_
    refine R.call Tryz.call47 (c47 1048576 _ hok0 (Nat.le_refl _) hsz0 _) ?_
    refine R.gtr ?_
    refine R.assign ?_
    refine R.fin [0, 1, 4, 6, 7, 8, 42] ?_
    refine W.cond (fun ht42 => ?_) (fun ht42 => ?_)
    ·skip
     have e : atS l i (atR l i) = failM 18 (tokAt l i).at_ (atR l i).2 := by unfold atS; rw [if_neg e0, if_pos ht42]
     refine AW.region ?_
     refine R.move ?_
     refine R.move ?_
     refine R.move ?_
     refine R.indexAddr (i) (tokA (tokAt l i)) Tryz.underlying60 Tryz.sizeOf66 (getTok hi) ?_
     refine R.fieldAddrRo (off := 2) Tryz.underlying66 Tryz.sizeOf3 ?_
     refine R.loadRo Tryz.isAgg3 ?_
     refine R.callOwn (n := 2) (x := pr l (failM 18 (tokAt l i).at_ (atR l i).2)) Tryz.call48 (c48 l (atR l i).2 18 (tokAt l i).at_ (oid Hp.length 2) _ (by rw [get_oid]; rfl)) ?_
     refine R.fin [4, 6, 7, 8] ?_
     refine K.blN ?_
     refine K.thJ ?_
     exact StLe.of_eq (by rw [e] <;> rfl)
    ·skip
     have e1 : ¬ decide ((30 : Int) < depthE (atR l i).1) = true := by rw [ht42]; simp
     refine AW.seqR ?_
     refine R.loadOwnN Tryz.isAgg27 Tryz.sizeOf27 ?_
     refine R.call Tryz.call49 (c49 1048576 _ hok0 (Nat.le_refl _) hsz0 _) ?_
     refine R.gtr ?_
     refine R.assign ?_
     refine R.fin [0, 1, 4, 6, 7, 8, 53] ?_
     refine W.cond (fun ht53 => ?_) (fun ht53 => ?_)
     ·skip
      have e : atS l i (atR l i) = failM 3 (tokAt l i).at_ (atR l i).2 := by unfold atS; rw [if_neg e0, if_neg e1, if_pos ht53]
      refine AW.region ?_
      refine R.move ?_
      refine R.move ?_
      refine R.move ?_
      refine R.indexAddr (i) (tokA (tokAt l i)) Tryz.underlying60 Tryz.sizeOf66 (getTok hi) ?_
      refine R.fieldAddrRo (off := 2) Tryz.underlying66 Tryz.sizeOf3 ?_
      refine R.loadRo Tryz.isAgg3 ?_
      refine R.callOwn (n := 2) (x := pr l (failM 3 (tokAt l i).at_ (atR l i).2)) Tryz.call48 (c48 l (atR l i).2 3 (tokAt l i).at_ (oid Hp.length 2) _ (by rw [get_oid]; rfl)) ?_
      refine R.fin [4, 6, 7, 8] ?_
      refine K.blN ?_
      refine K.thJ ?_
      exact StLe.of_eq (by rw [e] <;> rfl)
     ·skip
      have e : atS l i (atR l i) = (atR l i).2 := by unfold atS; rw [if_neg e0, if_neg e1, if_neg (by rw [ht53]; simp)]
      refine W.keep [4, 6, 7, 8] ?_
      refine AW.skip ?_
      refine K.blN ?_
      refine K.thJ ?_
      exact StLe.of_eq (by rw [e] <;> rfl)
  ·skip
   refine W.seq ?_
   refine AW.seqR ?_
   refine R.move ?_
   refine R.nilPtr ?_
   refine R.fieldAddrPtr (fo := 3) Tryz.underlying90 Tryz.sizeOf30 ?_
   refine R.fieldAddrPtr (fo := 0) Tryz.underlying30 Tryz.sizeOf28 ?_
   refine R.loadOwn Tryz.isAgg28 ?_
   refine R.neq ?_
   refine R.fin [4, 6, 7, 8, 69] ?_
   refine W.cond (fun ht69 => ?_) (fun ht69 => ?_)
   ·skip
    have e : atM l i = (nullX, 0, (atS l i (atR l i)).code, (atS l i (atR l i)).at_) := if_pos ht69
    refine W.drawY [0, 0, 2, 6, 14, 1, 33, 127] [5] [.q 5 [] [], .s [] (some 0) [] [], .q 1 [0] []] (fun _ => Hp) (fun _ => [.cells 27 [intA 0, strA [], intA 0, intA 0, strA [], .nil], .cells 30 [intA 0, intA 0], pr l (atS l i (atR l i)), .cells 27 (exprC (atR l i).1)]) Tryzmixed (by kernel_rfl) rfl rfl (fun _ => rfl) ?_
    apply Y.q
    case h1 =>
     intro B hT hF
     refine D.build (places := #[(0, 1), (1, 1), (2, 3), (5, 1)]) Tryz.underlying27 (fun w => by simp) Tryz.zeroValue27 ?_
     refine D.move ?_
     refine D.nilPtr ?_
     refine D.fieldAddrPtr (fo := 3) Tryz.underlying90 Tryz.sizeOf30 ?_
     refine D.loadOwnN Tryz.isAgg30 Tryz.sizeOf30 ?_
     exact D.end rfl rfl
    case hTF => decide
    refine Y.storeOwn (u := Hp.length) (n := 0) (t' := 27) (cs := [intA 0, strA [], intA 0, intA 0, strA [], .nil]) (cs' := [intA 0, strA [], intA 0, intA 0, strA [], .nil]) Tryz.sizeOf27 (fun B hB => ⟨rfl, rfl, rfl, rfl⟩) ?_
    apply Y.q
    case h1 =>
     intro B hT hF
     refine D.assign ?_
     exact D.end rfl rfl
    case hTF => decide
    refine Y.tail (tn := [5])  ?_
    refine R.nilCell 0 5 6 ?_
    refine R.storeOwn Tryz.sizeOf30 ?_
    refine R.fin [4, 5, 6] ?_
    refine AW.ret ?_
    refine K.thR ?_
    exact K.fin (V.three (V.cellN Tryz.isAgg27 Tryz.sizeOf27) V.tmp (V.cellN Tryz.isAgg30 Tryz.sizeOf30)) ⟨by rw [e, null_agg] <;> rfl, rfl⟩
   ·skip
    have e : atM l i = ((atR l i).1, ((atS l i (atR l i)).i : Int), 0, 0) := if_neg (by rw [ht69]; simp)
    refine AW.skip ?_
    refine K.thN ?_
    refine W.drawY [0, 0, 2, 6, 14, 0, 1, 95, 255] [6] [.q 6 [] [], .s [] (some 0) [] [], .q 1 [0] []] (fun _ => Hp) (fun B => [.cells 27 (if B 0 = true then exprC (atR l i).1 else [intA 0, strA [], intA 0, intA 0, strA [], .nil]), .cells 30 [intA 0, intA 0], pr l (atS l i (atR l i)), .cells 27 (exprC (atR l i).1)]) Tryzmixed (by kernel_rfl) rfl rfl (fun _ => rfl) ?_
    apply Y.q
    case h1 =>
     intro B hT hF
     refine D.loadOwnN Tryz.isAgg27 Tryz.sizeOf27 ?_
     refine D.move ?_
     refine D.nilPtr ?_
     refine D.fieldAddrPtr (fo := 1) Tryz.underlying90 Tryz.sizeOf3 ?_
     refine D.loadOwn Tryz.isAgg3 ?_
     refine D.build (places := #[(0, 1), (1, 1)]) Tryz.underlying30 (fun w => by simp) Tryz.zeroValue30 ?_
     exact D.end rfl rfl
    case hTF => decide
    refine Y.storeOwn (u := Hp.length) (n := 0) (t' := 27) (cs := [intA 0, strA [], intA 0, intA 0, strA [], .nil]) (cs' := exprC (atR l i).1) Tryz.sizeOf27 (fun B hB => ⟨rfl, by simp only [hB]; rfl, by simp [upd], rfl⟩) ?_
    apply Y.q
    case h1 =>
     intro B hT hF
     refine D.assign ?_
     exact D.end rfl rfl
    case hTF => decide
    refine Y.tail (tn := [6]) (O := [.cells 27 (exprC (atR l i).1), .cells 30 [intA 0, intA 0], pr l (atS l i (atR l i)), .cells 27 (exprC (atR l i).1)]) ?_
    refine R.storeOwn Tryz.sizeOf30 ?_
    refine R.fin [4, 5, 6] ?_
    refine AW.ret ?_
    exact K.fin (V.three (V.cellN Tryz.isAgg27 Tryz.sizeOf27) V.tmp (V.cellN Tryz.isAgg30 Tryz.sizeOf30)) ⟨by rw [e, exprA_eq] <;> rfl, rfl⟩ (hlow := by have := low_agg (n := Hp.length) (atR l i).1; simp at this ⊢; exact this)

end Go.SX.Nb
namespace Go.SX.Nb
open Go Go.SX Go.Proofs
variable [ErrAt]
set_option maxRecDepth 4000
theorem lex_len {s : Str} (h : (lexM s).2.1 = 0) : (lexM s).1.length ≤ 4002 := by
 obtain ⟨h1, _, h3⟩ := lexM_ok h
 have h2 := itemsT_len s
 rw [h3]
 simp only [List.length_append, List.length_map, List.length_cons, List.length_nil]
 omega
theorem at_word {l : List Tok} (hl : TokEnd l) (hll : l.length ≤ 1048576) {i : Nat} (hi : i < l.length) (h : (atM l i).2.2.1 = 0) : ∃ k : Nat, (atM l i).2.1 = (k : Int) ∧ k < l.length := by
 have hq := atR_fact hl hll hi
 unfold atM at h ⊢
 split at h
 ·rename_i h1
  have : (atS l i (atR l i)).code = 0 := h
  rw [this] at h1
  cases h1
 ·rename_i h1
  rw [if_neg h1]
  refine ⟨(atS l i (atR l i)).i, rfl, ?_⟩
  have e : (atS l i (atR l i)).i = (atR l i).2.i := by
   unfold atS
   repeat' split
   all_goals first | rfl | exact failM_i.1
  rw [e]
  exact hq.lt
theorem c10 (s : Str) (hs : s.length ≤ 1048576) (hcl : ∀ n Dv, n ≤ 30 → DeepC (lexM s).1 Dv n → PCall (lexM s).1 Dv n) (Hp : List AObj) : AFun Tryz.prog 10 [strA s] Hp (.tup [exprA (parseM s).1, .agg [intA (parseM s).2.1, intA (parseM s).2.2]]) := by
 refine ACall.body [.cell 2 27, .cell 3 30] [0] Tryz.func10 Tryz.ntmps10 (fun d => ?_)
 refine AW.seqR ?_
 refine R.alloc Tryz.zeroValue27 ?_
 refine R.alloc Tryz.zeroValue30 ?_
 refine R.fin [0, 2, 3] ?_
 refine AW.seqR ?_
 refine R.move ?_
 refine R.call Tryz.call28 (c28 s hs _) ?_
 refine R.move ?_
 refine R.extract ?_
 refine R.extract ?_
 refine R.alloc Tryz.zeroValue30 ?_
 refine R.assign ?_
 refine R.storeOwn Tryz.sizeOf30 ?_
 refine R.fin [2, 3, 4, 5] ?_
 refine W.seq ?_
 refine AW.seqR ?_
 refine R.fieldAddrPtr (fo := 0) Tryz.underlying30 Tryz.sizeOf28 ?_
 refine R.loadOwn Tryz.isAgg28 ?_
 refine R.neq ?_
 refine R.fin [2, 3, 4, 5, 15] ?_
 refine W.cond (fun ht15 => ?_) (fun ht15 => ?_)
 ·skip
  have e : parseM s = (nullX, (lexM s).2.1, ((lexM s).2.2 : Int)) := if_pos ht15
  refine W.drawY [0, 0, 1, 7] [2] [.q 2 [] [], .s [] (some 0) [] []] (fun _ => Hp) (fun _ => [.cells 27 [intA 0, strA [], intA 0, intA 0, strA [], .nil], .cells 30 [intA 0, intA 0], .cells 30 [intA (lexM s).2.1, intA ((lexM s).2.2 : Nat)]]) Tryzmixed (by kernel_rfl) rfl rfl (fun _ => rfl) ?_
  apply Y.q
  case h1 =>
   intro B hT hF
   refine D.build (places := #[(0, 1), (1, 1), (2, 3), (5, 1)]) Tryz.underlying27 (fun w => by simp) Tryz.zeroValue27 ?_
   refine D.loadOwnN Tryz.isAgg30 Tryz.sizeOf30 ?_
   exact D.end rfl rfl
  case hTF => decide
  refine Y.storeOwn (u := Hp.length) (n := 0) (t' := 27) (cs := [intA 0, strA [], intA 0, intA 0, strA [], .nil]) (cs' := [intA 0, strA [], intA 0, intA 0, strA [], .nil]) Tryz.sizeOf27 (fun B hB => ⟨rfl, rfl, rfl, rfl⟩) ?_
  refine Y.tail (tn := [2])  ?_
  refine R.nilCell 0 5 6 ?_
  refine R.storeOwn Tryz.sizeOf30 ?_
  refine R.fin [2, 3] ?_
  refine AW.ret ?_
  refine K.thR ?_
  exact K.fin (V.two (V.cellN Tryz.isAgg27 Tryz.sizeOf27) (V.cellN Tryz.isAgg30 Tryz.sizeOf30)) ⟨by rw [e, null_agg] <;> rfl, rfl⟩
 ·skip
  have e0 : ¬ ((lexM s).2.1 != 0) = true := by rw [ht15]; simp
  have hz : (lexM s).2.1 = 0 := by simpa using ht15
  have hle := lex_end hz
  have hlen := lex_len hz
  have hpos := hle.pos
  refine AW.skip ?_
  refine K.thN ?_
  refine AW.seqR ?_
  refine R.move ?_
  refine R.call Tryz.call29 (c29 (lexM s).1 0 hpos hle (by have := hlen; omega) hcl _) ?_
  refine R.move ?_
  refine R.extract ?_
  refine R.extract ?_
  refine R.extract ?_
  refine R.alloc Tryz.zeroValue27 ?_
  refine R.storeOwn Tryz.sizeOf27 ?_
  refine R.assign ?_
  refine R.storeOwn Tryz.sizeOf30 ?_
  refine R.fin [2, 3, 4, 5, 6, 7] ?_
  refine W.seq ?_
  refine AW.seqR ?_
  refine R.fieldAddrPtr (fo := 0) Tryz.underlying30 Tryz.sizeOf28 ?_
  refine R.loadOwn Tryz.isAgg28 ?_
  refine R.neq ?_
  refine R.fin [2, 3, 4, 5, 6, 7, 26] ?_
  refine W.cond (fun ht26 => ?_) (fun ht26 => ?_)
  ·skip
   have e : parseM s = (nullX, (atM (lexM s).1 0).2.2.1, (atM (lexM s).1 0).2.2.2) := by unfold parseM parseL; rw [if_neg e0, if_pos ht26]
   refine W.drawY [0, 0, 1, 7] [2] [.q 2 [] [], .s [] (some 0) [] []] (fun _ => Hp) (fun _ => [.cells 27 [intA 0, strA [], intA 0, intA 0, strA [], .nil], .cells 30 [intA 0, intA 0], .cells 30 [intA (atM (lexM s).1 0).2.2.1, intA (atM (lexM s).1 0).2.2.2], .cells 27 (exprC (atM (lexM s).1 0).1)]) Tryzmixed (by kernel_rfl) rfl rfl (fun _ => rfl) ?_
   apply Y.q
   case h1 =>
    intro B hT hF
    refine D.build (places := #[(0, 1), (1, 1), (2, 3), (5, 1)]) Tryz.underlying27 (fun w => by simp) Tryz.zeroValue27 ?_
    refine D.loadOwnN Tryz.isAgg30 Tryz.sizeOf30 ?_
    exact D.end rfl rfl
   case hTF => decide
   refine Y.storeOwn (u := Hp.length) (n := 0) (t' := 27) (cs := [intA 0, strA [], intA 0, intA 0, strA [], .nil]) (cs' := [intA 0, strA [], intA 0, intA 0, strA [], .nil]) Tryz.sizeOf27 (fun B hB => ⟨rfl, rfl, rfl, rfl⟩) ?_
   refine Y.tail (tn := [2])  ?_
   refine R.nilCell 0 5 6 ?_
   refine R.storeOwn Tryz.sizeOf30 ?_
   refine R.fin [2, 3] ?_
   refine AW.ret ?_
   refine K.thR ?_
   exact K.fin (V.two (V.cellN Tryz.isAgg27 Tryz.sizeOf27) (V.cellN Tryz.isAgg30 Tryz.sizeOf30)) ⟨by rw [e, null_agg] <;> rfl, rfl⟩
  ·skip
   have e1 : ¬ ((atM (lexM s).1 0).2.2.1 != 0) = true := by rw [ht26]; simp
   obtain ⟨k, hk0, hk⟩ := at_word hle (by omega) hpos (show (atM (lexM s).1 0).2.2.1 = 0 by simpa using ht26)
   have hkt : (atM (lexM s).1 0).2.1.toNat = k := by rw [hk0]; simp
   rw [hk0]
   refine AW.skip ?_
   refine K.thN ?_
   refine W.seq ?_
   refine AW.seqR ?_
   refine R.move ?_
   refine R.move ?_
   refine R.indexAddr (k) (tokA (tokAt (lexM s).1 k)) Tryz.underlying60 Tryz.sizeOf66 (getTok hk) ?_
   refine R.fieldAddrRo (off := 0) Tryz.underlying66 Tryz.sizeOf3 ?_
   refine R.loadRo Tryz.isAgg3 ?_
   refine R.neq ?_
   refine R.fin [2, 3, 4, 6, 7, 34] ?_
   refine W.cond (fun ht34 => ?_) (fun ht34 => ?_)
   ·skip
    have e : parseM s = (nullX, 8, ((tokAt (lexM s).1 k).at_ : Int)) := by unfold parseM parseL; rw [if_neg e0, if_neg e1, hkt, if_pos ht34]
    refine W.drawY [0, 0, 0, 6, 14, 30, 62, 1, 255] [7] [.q 7 [] [], .s [] (some 0) [] []] (fun _ => Hp) (fun _ => [.cells 27 [intA 0, strA [], intA 0, intA 0, strA [], .nil], .cells 30 [intA 0, intA 0], .cells 30 [intA (atM (lexM s).1 0).2.2.1, intA (atM (lexM s).1 0).2.2.2], .cells 27 (exprC (atM (lexM s).1 0).1)]) Tryzmixed (by kernel_rfl) rfl rfl (fun _ => rfl) ?_
    apply Y.q
    case h1 =>
     intro B hT hF
     refine D.build (places := #[(0, 1), (1, 1), (2, 3), (5, 1)]) Tryz.underlying27 (fun w => by simp) Tryz.zeroValue27 ?_
     refine D.move ?_
     refine D.move ?_
     refine D.indexAddr (k) (tokA (tokAt (lexM s).1 k)) Tryz.underlying60 Tryz.sizeOf66 (getTok hk) ?_
     refine D.fieldAddrRo (off := 2) Tryz.underlying66 Tryz.sizeOf3 ?_
     refine D.loadRo Tryz.isAgg3 ?_
     refine D.build (places := #[(0, 1), (1, 1)]) Tryz.underlying30 (fun w => by simp) Tryz.zeroValue30 ?_
     exact D.end rfl rfl
    case hTF => decide
    refine Y.storeOwn (u := Hp.length) (n := 0) (t' := 27) (cs := [intA 0, strA [], intA 0, intA 0, strA [], .nil]) (cs' := [intA 0, strA [], intA 0, intA 0, strA [], .nil]) Tryz.sizeOf27 (fun B hB => ⟨rfl, rfl, rfl, rfl⟩) ?_
    refine Y.tail (tn := [7])  ?_
    refine R.nilCell 0 5 6 ?_
    refine R.storeOwn Tryz.sizeOf30 ?_
    refine R.fin [2, 3] ?_
    refine AW.ret ?_
    refine K.thR ?_
    exact K.fin (V.two (V.cellN Tryz.isAgg27 Tryz.sizeOf27) (V.cellN Tryz.isAgg30 Tryz.sizeOf30)) ⟨by rw [e, null_agg] <;> rfl, rfl⟩
   ·skip
    have e : parseM s = ((atM (lexM s).1 0).1, 0, 0) := by unfold parseM parseL; rw [if_neg e0, if_neg e1, hkt, if_neg (by rw [ht34]; simp)]
    refine AW.skip ?_
    refine K.thN ?_
    refine AW.seqR ?_
    refine R.loadOwnN Tryz.isAgg27 Tryz.sizeOf27 ?_
    refine R.build (places := #[(0, 1), (1, 1)]) Tryz.underlying30 (fun w => by simp) Tryz.zeroValue30 ?_
    refine R.storeOwn Tryz.sizeOf27 ?_
    refine R.storeOwn Tryz.sizeOf30 ?_
    refine R.fin [2, 3] ?_
    refine AW.ret ?_
    exact K.fin (V.two (V.cellN Tryz.isAgg27 Tryz.sizeOf27) (V.cellN Tryz.isAgg30 Tryz.sizeOf30)) ⟨by rw [e, exprA_eq] <;> rfl, rfl⟩ (hlow := by have := low_agg (n := Hp.length) (atM (lexM s).1 0).1; simp at this ⊢; exact this)

/-! The chapter's example. -/
def exS : Str := [97, 32, 43, 32, 50, 32, 42, 32, 98]
def exL : List Tok := [⟨1, [97], 0⟩, ⟨5, [43], 2⟩, ⟨3, [50], 4⟩, ⟨5, [42], 6⟩, ⟨1, [98], 8⟩, ⟨0, [], 9⟩]
def exX : Expr := binX [43] (nameE [97]) (binX [42] (valX ⟨1, 2, []⟩) (nameE [98]))
end Go.SX.Nb
namespace Go.SX.Nb
open Go Go.SX Go.Proofs
variable [ErrAt]
set_option maxRecDepth 4000
theorem list_ext_upto {α : Type} {a b : List α} (hl : a.length = b.length) (h : ∀ (j : Nat) (y : α), j < a.length → a[j]? = some y → b[j]? = some y) : a = b := by
 apply List.ext_getElem hl
 intro j h1 h2
 have := h j a[j] h1 (List.getElem?_eq_getElem h1)
 rw [List.getElem?_eq_getElem h2] at this
 injection this with this
 exact this.symm
theorem low_exprs {n k : Nat} {o : Bool} {l : List Expr} : Low n (.slice o k (l.map exprA)) := low_slice.2 fun y hy => by
 obtain ⟨a, _, rfl⟩ := List.mem_map.1 hy
 exact exprA_low _ a
theorem pop_nodes {l : List Expr} (h : 0 < l.length) : nodesL l = l[0] :: nodesL (l[0].kids ++ l.drop 1) ∧ sizeL l = 1 + sizeL (l[0].kids ++ l.drop 1) ∧ l[0].kids.length ≤ sizeL l := by
 cases l with
 | nil => simp at h
 | cons e r =>
  refine ⟨?_, ?_, ?_⟩
  ·show nodesE e ++ nodesL r = e :: nodesL (e.kids ++ r)
   rw [nodesE_eq, nodesL_append]
   rfl
  ·show sizeE e + sizeL r = 1 + sizeL (e.kids ++ r)
   rw [sizeE_eq, sizeL_append]
   omega
  ·show e.kids.length ≤ sizeE e + sizeL r
   have := sizeL_kids e.kids
   rw [sizeE_eq]
   omega
structure NamesAt (e : Expr) (x : List Expr × List Str) : Prop where
 eq : exprNamesM e = (nodesL x.1).foldl addName x.2
 bd : x.2.length + sizeL x.1 ≤ 1048576
theorem NamesAt.on {e : Expr} {x : List Expr × List Str} (h : NamesAt e x) (h0 : 0 < x.1.length) : NamesAt e (x.1[0].kids ++ x.1.drop 1, addName x.2 x.1[0]) := by
 obtain ⟨a, b, _⟩ := pop_nodes h0
 refine ⟨?_, ?_⟩
 ·rw [h.eq, a, List.foldl_cons]
 ·have := h.bd
  have := add_len x.2 x.1[0]
  show (addName x.2 x.1[0]).length + sizeL (x.1[0].kids ++ x.1.drop 1) ≤ _
  omega
theorem wide_many {l : List Expr} {n f : Nat} (h0 : l.isEmpty = false) (h : manyF l n = true) : wideF f l n = true := by
 cases f with
 | zero => rw [wideF, h0]; rfl
 | succ f => rw [wideF, if_neg (by rw [h0]; simp), if_pos h]
theorem many_at {l : List Expr} {n y : Nat} (hy : y < l.length) (h : 500 < n + y + 1 ∨ fatM l[y] = true) : manyF l n = true := by
 unfold manyF
 rcases h with h | h
 ·rw [decide_eq_true (by omega)]; rfl
 ·rw [List.any_eq_true.2 ⟨_, List.getElem_mem hy, h⟩, Bool.or_true]
theorem flat_len {l : List Expr} : ∀ (y : Nat), y ≤ l.length → (∀ (j : Nat) (e : Expr), j < y → l[j]? = some e → fatM e = false) → ((l.take y).flatMap Expr.kids).length ≤ 100 * y
 | 0, _, _ => by simp
 | y + 1, hy, h => by
  rw [List.take_succ_eq_append_getElem hy, List.flatMap_append, List.length_append]
  have h1 := flat_len y (by omega) (fun j e hj he => h j e (by omega) he)
  have h2 := fat_out (h y l[y] (by omega) (List.getElem?_eq_getElem _))
  simp only [List.flatMap_cons, List.flatMap_nil, List.append_nil]
  omega
structure WideAt (l0 : List Expr) (x : List Expr × Nat × Nat) : Prop where
 eq : wideF 61 l0 0 = wideF x.2.2 x.1 x.2.1
 f : x.2.2 ≤ 61
 n : x.2.1 ≤ 500
theorem c35 (l0 : List Expr) (Hp : List AObj) : AFun Tryz.prog 35 [.slice false 6 (l0.map exprA), intA 0] Hp (boolA (wideF 61 l0 0)) := by
 refine ACall.body [.tmp 4] [0, 1] Tryz.func35 Tryz.ntmps35 (fun d => ?_)
 refine AW.seqR ?_
 refine R.assign ?_
 refine R.fin [0, 1] ?_
 refine AW.seqR ?_
 refine R.assign ?_
 refine R.fin [0, 1, 5] ?_
 refine W.seq ?_
 refine AW.loopC (α := List Expr × Nat × Nat) (fun x => ⟨67, setF 0 (.slice false 6 (x.1.map exprA)) (setF 1 (intA (61 - (x.2.2 : Int))) (setF 5 (intA (x.2.1 : Nat)) (fun _ => .any))), Hp, [], [], none⟩) (fun x => WideAt l0 x) (fun x => x.2.2) ((l0, 0, 61)) ⟨rfl, Nat.le_refl _, Nat.zero_le _⟩ (StLe.of_eq (by simp)) rfl (fun x hx => ?_)
 refine W.seq ?_
 refine AW.seqR ?_
 refine R.move ?_
 refine R.len Tryz.underlying25 ?_
 refine R.gtr ?_
 refine R.fin [0, 1, 5, 10] ?_
 refine W.cond (fun ht10 => ?_) (fun ht10 => ?_)
 ·skip
  have hpos : 0 < x.1.length := by simpa using ht10
  have hne : x.1.isEmpty = false := by cases hxx : x.1 with
   | nil => rw [hxx] at hpos; simp at hpos
   | cons a r => rfl
  have hxf := hx.f
  refine AW.skip ?_
  refine K.thN ?_
  refine AW.block ?_
  refine AW.seqR ?_
  refine R.buildSlice Tryz.underlying25 Tryz.sizeOf27 Tryz.zeroValue27 ?_
  refine R.assignT ?_
  refine R.fin [0, 1, 5, 6] ?_
  refine W.seq ?_
  refine AW.seqR ?_
  refine R.assign ?_
  refine R.fin [0, 1, 5, 6, 7] ?_
  refine AW.loopC (α := Nat) (fun y => ⟨67, setF 0 (.slice false 6 (x.1.map exprA)) (setF 1 (intA (61 - (x.2.2 : Int))) (setF 5 (intA ((x.2.1 + y : Nat) : Int)) (setF 6 (.slice true 6 (((x.1.take y).flatMap Expr.kids).map exprA)) (setF 7 (intA (y : Nat)) (fun _ => .any))))), Hp, [], [], none⟩) (fun y => y ≤ x.1.length ∧ x.2.1 + y ≤ 500 ∧ ∀ (j : Nat) (e : Expr), j < y → x.1[j]? = some e → fatM e = false) (fun y => x.1.length - y) (0) ⟨Nat.zero_le _, hx.n, fun j e h => by omega⟩ (StLe.of_eq (by simp)) rfl (fun y hy => ?_)
  refine W.seq ?_
  refine AW.seqR ?_
  refine R.move ?_
  refine R.move ?_
  refine R.len Tryz.underlying25 ?_
  refine R.lss ?_
  refine R.fin [0, 1, 5, 6, 7, 15] ?_
  refine W.cond (fun ht15 => ?_) (fun ht15 => ?_)
  ·skip
   have hlt : y < x.1.length := by simpa using ht15
   have hyn := hy.2.1
   refine AW.skip ?_
   refine K.thN ?_
   refine W.seq ?_
   refine AW.block ?_
   refine AW.seqR ?_
   refine R.move ?_
   refine R.add64 ?_
   refine R.assign ?_
   refine R.fin [0, 1, 5, 6, 7] ?_
   refine W.seq ?_
   refine AW.seqR ?_
   refine R.move ?_
   refine R.gtr ?_
   refine R.move ?_
   refine G.move ?_
   refine G.move ?_
   refine G.indexAddr (y) (exprA x.1[y]) Tryz.underlying25 Tryz.sizeOf27 (fun _ => getMap hlt) ?_
   refine G.fieldAddrRo (off := 1) Tryz.underlying27 Tryz.sizeOf9 ?_
   refine G.loadRo Tryz.isAgg9 ?_
   refine G.slen Tryz.underlying9 ?_
   refine G.gtr ?_
   refine R.pickOr ?_
   refine R.move ?_
   refine G.move ?_
   refine G.move ?_
   refine G.indexAddr (y) (exprA x.1[y]) Tryz.underlying25 Tryz.sizeOf27 (fun _ => getMap hlt) ?_
   refine G.fieldAddrRo (off := 2) Tryz.underlying27 Tryz.sizeOf24 ?_
   refine G.fieldAddrRo (off := 2) Tryz.underlying24 Tryz.sizeOf9 ?_
   refine G.loadRo Tryz.isAgg9 ?_
   refine G.slen Tryz.underlying9 ?_
   refine G.gtr ?_
   refine R.pickOr ?_
   refine R.move ?_
   refine G.move ?_
   refine G.move ?_
   refine G.indexAddr (y) (exprA x.1[y]) Tryz.underlying25 Tryz.sizeOf27 (fun _ => getMap hlt) ?_
   refine G.fieldAddrRo (off := 5) Tryz.underlying27 Tryz.sizeOf25 ?_
   refine G.loadRo Tryz.isAgg25 ?_
   refine G.len Tryz.underlying25 ?_
   refine G.gtr ?_
   refine R.pickOr ?_
   refine R.fin [0, 1, 5, 6, 7, 49] ?_
   refine W.cond (fun ht49 => ?_) (fun ht49 => ?_)
   ·skip
    have hm : manyF x.1 x.2.1 = true := many_at hlt (by
     simp only [Bool.or_eq_true, decide_eq_true_eq, List.length_map] at ht49
     unfold fatM
     simp only [Bool.or_eq_true, decide_eq_true_eq]
     omega)
    have hw := wide_many (f := x.2.2) hne hm
    refine AW.seqR ?_
    refine R.assign ?_
    refine R.fin [4] ?_
    refine AW.ret ?_
    refine K.thR ?_
    refine K.blR ?_
    refine K.thR ?_
    refine K.lpR ?_
    refine K.thR ?_
    refine K.blR ?_
    refine K.lpR ?_
    refine K.thR ?_
    exact K.fin (V.one V.tmp) ⟨by rw [hx.eq, hw], rfl⟩
   ·skip
    have hfat : fatM x.1[y] = false ∧ x.2.1 + y + 1 ≤ 500 := by
     simp only [Bool.or_eq_false_iff, decide_eq_false_iff_not, List.length_map] at ht49
     unfold fatM
     simp only [Bool.or_eq_false_iff, decide_eq_false_iff_not]
     omega
    have hkl := (fat_out hfat.1).2.2
    have hfm : (x.1.take (y + 1)).flatMap Expr.kids = (x.1.take y).flatMap Expr.kids ++ x.1[y].kids := by rw [List.take_succ_eq_append_getElem hlt, List.flatMap_append]; simp
    refine AW.skip ?_
    refine K.thN ?_
    refine AW.region ?_
    refine R.moveT ?_
    refine R.move ?_
    refine R.move ?_
    refine R.indexAddr (y) (exprA x.1[y]) Tryz.underlying25 Tryz.sizeOf27 (getMap hlt) ?_
    refine R.fieldAddrRo (off := 5) Tryz.underlying27 Tryz.sizeOf25 ?_
    refine R.loadRo Tryz.isAgg25 ?_
    refine R.append Tryz.underlying25 Tryz.type27 ?_ ?_ ?_
    ·have h1 := flat_len y hy.1 hy.2.2; have h2 := hkl; have h3 := hy.2.1; simp only [List.length_map, Tryz.t27]; omega
    ·have h1 := flat_len y hy.1 hy.2.2; have h2 := hkl; have h3 := hy.2.1; simp only [List.length_map, Tryz.t27]; omega
    refine R.assignT ?_
    refine R.fin [0, 1, 5, 6, 7] ?_
    refine K.blN ?_
    refine K.thN ?_
    refine AW.region ?_
    refine R.move ?_
    refine R.add64 ?_
    refine R.assign ?_
    refine R.fin [0, 1, 5, 6, 7] ?_
    refine K.lpN (y + 1) ⟨hlt, by omega, upto_succ hlt hy.2.2 hfat.1⟩ (by omega) (StCut.of_eq ?_)
    rw [hfm, List.map_append]
    rfl
  ·skip
   have hye : x.1.take y = x.1 := List.take_of_length_le (by simp at ht15; omega)
   have hyl : y = x.1.length := by have := hy.1; simp at ht15; omega
   have hmany : manyF x.1 x.2.1 = false := by
    unfold manyF
    rw [decide_eq_false (by have := hy.2.1; omega), Bool.false_or, List.any_eq_false]
    intro e he
    obtain ⟨j, hj⟩ := List.getElem?_of_mem he
    rw [hy.2.2 j e (by have := (List.getElem?_eq_some_iff.1 hj).1; omega) hj]
    simp
   refine AW.exit ?_
   refine K.thE ?_
   refine K.lpE ?_
   refine K.thN ?_
   refine W.seq ?_
   refine AW.seqR ?_
   refine R.move ?_
   refine R.len Tryz.underlying25 ?_
   refine R.gtr ?_
   refine R.move ?_
   refine G.move ?_
   refine G.gtr ?_
   refine R.pickOr ?_
   refine R.fin [1, 5, 6, 63] ?_
   refine W.cond (fun ht63 => ?_) (fun ht63 => ?_)
   ·skip
    have hw : wideF x.2.2 x.1 x.2.1 = true := by
     have h9 := ht63
     rw [hye] at h9
     simp only [Bool.or_eq_true, decide_eq_true_eq, List.length_map] at h9
     cases hf : x.2.2 with
     | zero => rw [wideF, hne]; rfl
     | succ f =>
      rw [wideF, if_neg (by rw [hne]; simp), if_neg (by rw [hmany]; simp), if_pos (by rw [decide_eq_true_eq]; omega)]
    refine AW.seqR ?_
    refine R.assign ?_
    refine R.fin [4] ?_
    refine AW.ret ?_
    refine K.thR ?_
    refine K.blR ?_
    refine K.lpR ?_
    refine K.thR ?_
    exact K.fin (V.one V.tmp) ⟨by rw [hx.eq, hw], rfl⟩
   ·skip
    have h9 := ht63
    rw [hye] at h9
    simp only [Bool.or_eq_false_iff, decide_eq_false_iff_not, List.length_map] at h9
    obtain ⟨f, hf⟩ : ∃ f, x.2.2 = f + 1 := ⟨x.2.2 - 1, by omega⟩
    have hw : wideF x.2.2 x.1 x.2.1 = wideF f (x.1.flatMap Expr.kids) (x.2.1 + x.1.length) := by
     rw [hf, wideF, if_neg (by rw [hne]; simp), if_neg (by rw [hmany]; simp), if_neg (by rw [decide_eq_true_eq]; omega)]
    refine AW.skip ?_
    refine K.thN ?_
    refine AW.seqR ?_
    refine R.move ?_
    refine R.assign ?_
    refine R.fin [0, 1, 5] ?_
    refine AW.region ?_
    refine R.move ?_
    refine R.add64 ?_
    refine R.assign ?_
    refine R.fin [0, 1, 5] ?_
    refine K.blN ?_
    refine K.lpN (x.1.flatMap Expr.kids, x.2.1 + x.1.length, f) ⟨hx.eq.trans hw, by show f ≤ 61; omega, by show x.2.1 + x.1.length ≤ 500; have := hy.2.1; omega⟩ (by show f < x.2.2; omega) (StCut.of_eq ?_)
    rw [hye, hyl]
    congr 4
    simp only [AV.v.injEq, Value.int.injEq, true_and]
    omega
 ·skip
  have hnil : x.1 = [] := by have := ht10; simp at this; exact this
  refine AW.exit ?_
  refine K.thE ?_
  refine K.lpE ?_
  refine K.thN ?_
  refine AW.seqR ?_
  refine R.assign ?_
  refine R.fin [4] ?_
  refine AW.ret ?_
  exact K.fin (V.one V.tmp) ⟨by rw [hx.eq, hnil]; cases x.2.2 <;> rfl, rfl⟩

theorem c14 (e : Expr) (Hp : List AObj) : AFun Tryz.prog 14 [exprA e] Hp (boolA (wideM e)) := by
 refine ACall.body [.tmp 2] [0] Tryz.func14 Tryz.ntmps14 (fun d => ?_)
 refine AW.seqR ?_
 refine R.boxRo ?_
 refine R.assign ?_
 refine R.fin [1] ?_
 refine AW.seqR ?_
 refine R.loadRoN Tryz.isAgg27 Tryz.sizeOf27 ?_
 refine R.buildSlice Tryz.underlying25 Tryz.sizeOf27 Tryz.zeroValue27 ?_
 refine R.call Tryz.call35 (c35 [e] _) ?_
 refine R.assign ?_
 refine R.fin [2] ?_
 refine AW.ret ?_
 exact K.fin (V.one V.tmp)

end Go.SX.Nb
namespace Go.SX.Nb
open Go Go.SX Go.Proofs
variable [ErrAt]
set_option maxRecDepth 8000
/-! What a tree comes to: eval's model. -/
abbrev Rs := Val × Int
def wrongR (e : Int) : Rs := (noV, e)
def cutV (s : Str) : Val := ⟨2, 0, s.take 200⟩
def wholeR (x : Int × Int) : Rs := if x.2 != 0 then wrongR x.2 else (⟨1, x.1, []⟩, 0)
def addI (a b : Int) : Int × Int := if decide (bandI .i64 (bxorI .i64 a (IntKind.i64.wrap (a + b))) (bxorI .i64 b (IntKind.i64.wrap (a + b))) < 0) then (0, 4) else (IntKind.i64.wrap (a + b), 0)
def subI (a b : Int) : Int × Int := if decide (bandI .i64 (bxorI .i64 a b) (bxorI .i64 a (IntKind.i64.wrap (a - b))) < 0) then (0, 4) else (IntKind.i64.wrap (a - b), 0)
def sizeI (a : Int) : Int := if decide (a < 0) then IntKind.u64.wrap (0 - IntKind.u64.wrap a) else IntKind.u64.wrap a
def kindsM : List Val → List Int → Bool
  | _, [] => true
  | [], _ :: _ => false
  | v :: vs, k :: ks => (v.kind == k) && kindsM vs ks
def joinR (a b : Val) : Rs := if !kindsM [a, b] [2, 2] then wrongR 10 else if decide ((200 : Int) < (a.s.length : Int) + (b.s.length : Int)) then wrongR 3 else (cutV (a.s ++ b.s), 0)
def truthR (r : Rs) : Rs := if (r.2 == 0) && (r.1.kind != 0) && (r.1.kind != 3) then wrongR 10 else r
def logicR (strong : Val) (a b : Rs) : Rs := if ((truthR a).2 != 0) || ((truthR a).1 == strong) then truthR a else if (((truthR b).2 != 0) || ((truthR b).1 == strong)) || ((truthR a).1.kind != 0) then truthR b else ((truthR a).1, 0)
def ifW : Str := [105, 102]
def nvlW : Str := [110, 118, 108]
def isnullW : Str := [105, 115, 110, 117, 108, 108]
def callR (t : Str) (a b c : Rs) : Rs :=
  if t == ifW then (if (truthR a).2 != 0 then wrongR (truthR a).2 else if (truthR a).1 == boolV true then b else c)
  else if a.2 != 0 then wrongR a.2 else if t == isnullW then (boolV (a.1.kind == 0), 0) else if a.1.kind != 0 then (a.1, 0) else b
def allR (strict : List Val → Rs) (l : List Rs) : Rs := match l.find? (fun q => q.2 != 0) with | some q => wrongR q.2 | none => if l.any (fun q => q.1.kind == 0) then (noV, 0) else strict (l.map (·.1))
def nameR (c : List Col) (l : List Val) (t : Str) : Rs := if findM t c < 0 then wrongR 9 else (l.getD (findM t c).toNat noV, 0)
def orW : Str := [111, 114]
def andW : Str := [97, 110, 100]
/-- A node, of what its kids come to; what a strict node comes to is a parameter. -/
def evalN (strict : Int → Str → List Val → Rs) (c : List Col) (l : List Val) (o : Int) (t : Str) (v : Val) (ks : List Rs) : Rs :=
  if o == 1 then (v, 0) else if o == 2 then nameR c l t
  else if (o == 5) && (t == orW) then logicR (boolV true) (ks.getD 0 (noV, 0)) (ks.getD 1 (noV, 0))
  else if (o == 5) && (t == andW) then logicR (boolV false) (ks.getD 0 (noV, 0)) (ks.getD 1 (noV, 0))
  else if (o == 6) && (((t == ifW) || (t == nvlW)) || (t == isnullW)) then callR t (ks.getD 0 (noV, 0)) (ks.getD 1 (noV, 0)) (ks.getD 2 (noV, 0))
  else allR (strict o t) ks
mutual
def evalS (strict : Int → Str → List Val → Rs) (c : List Col) (l : List Val) : Expr → Rs
  | .mk o t v k => evalN strict c l o t v (evalL strict c l k)
def evalL (strict : Int → Str → List Val → Rs) (c : List Col) (l : List Val) : List Expr → List Rs
  | [] => []
  | e :: r => evalS strict c l e :: evalL strict c l r
 end
def rowP (c : List Col) (l : List Val) : Bool := (colsP c && (l.length == c.length)) && (l.zip c).all fun p => plainM p.1 && ((p.1.kind == 0) || (p.1.kind == p.2.kind))
/-- eval.Eval. -/
def evalR (f : Int → Str → List Val → Rs) (x : Expr) (c : List Col) (l : List Val) : Rs := if (!(exprRightM x)) || !(rowP c l) then wrongR 1 else evalS f c l x
/-! A tree in a column's place comes to what its value would there. -/
mutual
theorem eval_put {f : Int → Str → List Val → Rs} {c : List Col} {l m : List Val} {s : Str} {y : Expr} (hs : nameR c m s = evalS f c l y) (ho : ∀ t, t ≠ s → nameR c m t = nameR c l t) : ∀ x : Expr, evalS f c l (putE s y x) = evalS f c m x
  | .mk o t v k => by
    rw [putE]
    split
    · rename_i h
      rw [Bool.and_eq_true, beq_iff_eq, beq_iff_eq] at h
      obtain ⟨rfl, rfl⟩ := h
      rw [← hs, evalS]
      rfl
    · rename_i h
      rw [evalS, evalS, evalL_put hs ho k]
      unfold evalN
      by_cases h2 : (o == 2) = true
      · have : t ≠ s := fun e => h (by rw [h2, e]; simp)
        rw [ho t this]
      · rw [if_neg h2, if_neg h2]
theorem evalL_put {f : Int → Str → List Val → Rs} {c : List Col} {l m : List Val} {s : Str} {y : Expr} (hs : nameR c m s = evalS f c l y) (ho : ∀ t, t ≠ s → nameR c m t = nameR c l t) : ∀ k : List Expr, evalL f c l (putL s y k) = evalL f c m k
  | [] => rfl
  | e :: r => by rw [putL, evalL, evalL, eval_put hs ho e, evalL_put hs ho r]
 end
/-! Who is not named plays no part. -/
end Go.SX.Nb
namespace Go.SX.Nb
open Go Go.SX Go.Proofs
variable [ErrAt]
set_option maxRecDepth 8000
/-! What a strict node comes to. -/
def mulI (a b : Int) : Int × Int :=
 let p := sizeI a * sizeI b
 let below := decide (a < 0) != decide (b < 0)
 if decide (0 < p / 18446744073709551616) || decide ((if below then 9223372036854775808 else 9223372036854775807) < p % 18446744073709551616) then (0, 4)
 else if below then (IntKind.i64.wrap (IntKind.u64.wrap (0 - p % 18446744073709551616)), 0) else (IntKind.i64.wrap (p % 18446744073709551616), 0)
def divI (a b : Int) : Int × Int := if b == 0 then (0, 5) else if (a == -9223372036854775808) && (b == -1) then (0, 4) else (IntKind.i64.wrap (a.tdiv b), 0)
def remI (a b : Int) : Int × Int := if b == 0 then (0, 5) else if b == -1 then (0, 0) else (IntKind.i64.wrap (a.tmod b), 0)
def arithI (t : Str) (a b : Int) : Int × Int := if t == [43] then addI a b else if t == [45] then subI a b else if t == [42] then mulI a b else if t == [47] then divI a b else remI a b
def comparedM (t : Str) (c : Int) : Bool × Bool := if t == [61] then (c == 0, true) else if t == [33, 61] then (c != 0, true) else if t == [60] then (decide (c < 0), true) else if t == [60, 61] then (decide (c ≤ 0), true) else if t == [62] then (decide (0 < c), true) else if t == [62, 61] then (decide (0 ≤ c), true) else (false, false)
def cmpI (a b : Int) : Int := if decide (a < b) then -1 else if decide (b < a) then 1 else 0
def orI : List Int → Int
 | [] => 0
 | a :: r => if a != 0 then a else orI r
def cmpV (a b : Val) : Int := if (!(plainM a)) || !(plainM b) then 0 else orI [cmpI a.kind b.kind, cmpI a.n b.n, Lib.compareBytes a.s b.s]
def binM (t : Str) (a b : Val) : Rs := if (comparedM t (cmpV a b)).2 then (if a.kind != b.kind then wrongR 10 else (boolV (comparedM t (cmpV a b)).1, 0)) else if t == [38] then joinR a b else if !kindsM [a, b] [1, 1] then wrongR 10 else wholeR (arithI t a.n b.n)
def fun1M (t : Str) (v : Val) : Rs := if (t == [115, 116, 114]) && (v.kind == 1) then (cutV (Lib.itoa v.n), 0) else if (t == [108, 101, 110]) && (v.kind == 2) then (⟨1, v.s.length, []⟩, 0) else if (t == [110, 117, 109]) && (v.kind == 2) then wholeR (numReadM v.s) else wrongR 10
def pieceM (t : Str) (s : Str) (n : Int) : Val := if t == [108, 101, 102, 116] then cutV (s.take (max 0 (min n s.length)).toNat) else cutV (s.drop (s.length - (max 0 (min n s.length)).toNat))
def strictM (o : Int) (t : Str) (l : List Val) : Rs :=
 if o == 5 then binM t (l.getD 0 noV) (l.getD 1 noV) else if (o == 3) && kindsM l [1] then wholeR (subI 0 (l.getD 0 noV).n) else if (o == 4) && kindsM l [3] then (boolV ((l.getD 0 noV).n == 0), 0)
 else if o != 6 then wrongR 10 else if (l.length : Int) == 1 then fun1M t (l.getD 0 noV) else if !kindsM l [2, 1] then wrongR 10 else (pieceM t (l.getD 0 noV).s (l.getD 1 noV).n, 0)
abbrev evalE (c : List Col) (l : List Val) (e : Expr) : Rs := evalS strictM c l e
abbrev evalM (x : Expr) (c : List Col) (l : List Val) : Rs := evalR strictM x c l
/-! Values are plain, and their numbers have 64 bits. -/
structure Fine (v : Val) : Prop where
 plain : plainM v = true
 lo : -9223372036854775808 ≤ v.n
 hi : v.n ≤ 9223372036854775807
theorem fine_cut (s : Str) : Fine (cutV s) := ⟨by
 unfold plainM cutV
 simp only [show ((2 : Int) == 0) = false from rfl, show ((2 : Int) == 1) = false from rfl, show ((2 : Int) == 2) = true from rfl, Bool.false_eq_true, if_false, if_true, show ((0 : Int) == 0) = true from rfl, Bool.true_and, decide_eq_true_eq, List.length_take]
 omega, by show -9223372036854775808 ≤ (0 : Int); decide, by show (0 : Int) ≤ 9223372036854775807; decide⟩
theorem Fine.len {v : Val} (h : Fine v) : v.s.length ≤ 200 := by
 have h := h.plain
 unfold plainM at h
 split at h
 ·simp only [Bool.and_eq_true, beq_iff_eq] at h; rw [h.2]; exact Nat.zero_le _
 ·split at h
  ·rw [beq_iff_eq] at h; rw [h]; exact Nat.zero_le _
  ·split at h
   ·simp only [Bool.and_eq_true, decide_eq_true_eq] at h; omega
   ·simp only [Bool.and_eq_true, beq_iff_eq] at h; rw [h.1.1.2]; exact Nat.zero_le _
def valOk (e : Expr) : Bool := !(e.op == 1) || plainM e.val
end Go.SX.Nb
namespace Go.SX.Nb
open Go Go.SX Go.Proofs
variable [ErrAt]
set_option maxRecDepth 8000
/-! A text between marks. -/
theorem close_dbl {R : Str} (hR : ∀ c r, R = c :: r → c ≠ 39) : ∀ t : Str, closeQ (dblM t ++ 39 :: R) = some ((dblM t).length + 1)
 | [] => by
  show closeQ (39 :: R) = some 1
  cases R with
  | nil => rfl
  | cons d r =>
   have : (d == 39) = false := by simpa using hR d r rfl
   rw [closeQ, if_pos (by decide), this]
   rfl
 | c :: t => by
  rw [dblM_cons]
  by_cases hc : c = 39
  ·subst hc
   rw [show dblC 39 = [39, 39] from rfl]
   show closeQ (39 :: 39 :: (dblM t ++ 39 :: R)) = _
   rw [closeQ, if_pos (by decide), if_pos (by decide), close_dbl hR t]
   simp
  ·rw [show dblC c = [c] from if_neg hc]
   show closeQ (c :: (dblM t ++ 39 :: R)) = _
   rw [close_other (by simpa using hc), close_dbl hR t]
   simp
theorem splitD : ∀ t : Str, (Lib.index (dblM t) [39, 39] = -1 ∧ dblM t = t) ∨ ∃ i : Nat, Lib.index (dblM t) [39, 39] = (i : Int) ∧ i < t.length ∧ (dblM t).take i = t.take i ∧ (dblM t).drop (i + 2) = dblM (t.drop (i + 1)) ∧ t = t.take i ++ [39] ++ t.drop (i + 1)
 | [] => .inl ⟨rfl, rfl⟩
 | b :: l => by
  by_cases hb : b = 39
  ·subst hb
   refine .inr ⟨0, ?_, by simp, rfl, ?_, by simp⟩
   ·rw [dblM_cons]
    show Lib.index (39 :: 39 :: dblM l) [39, 39] = 0
    rw [Lib.index, if_pos (by simp [List.isPrefixOf])]
   ·rw [dblM_cons]
    rfl
  ·have hd : dblM (b :: l) = b :: dblM l := by
    rw [dblM_cons, dblC, if_neg hb]
    rfl
   have hp : ([39, 39] : Str).isPrefixOf (b :: dblM l) = false := by
    simp [List.isPrefixOf, Ne.symm hb]
   rcases splitD l with ⟨h1, h2⟩ | ⟨i, h1, h2, h3, h4, h5⟩
   ·refine .inl ⟨?_, by rw [hd, h2]⟩
    rw [hd, Lib.index, hp, h1]; rfl
   ·refine .inr ⟨i + 1, ?_, by simp; omega, ?_, ?_, ?_⟩
    ·rw [hd, Lib.index, hp, h1, if_neg (by simp), if_neg (by simp)]
     rfl
    ·rw [hd, List.take_succ_cons, List.take_succ_cons, h3]
    ·rw [hd, show i + 1 + 2 = (i + 2) + 1 by omega, List.drop_succ_cons, List.drop_succ_cons, h4]
    ·rw [List.take_succ_cons, List.drop_succ_cons, List.cons_append, List.cons_append, ← h5]
theorem replaceK_un : ∀ (n : Nat) (t : Str), t.length ≤ n → Lib.replaceK [39, 39] [39] (Lib.count (dblM t) [39, 39]) (dblM t) = t
 | n, t, hn => by
  rcases splitD t with ⟨h1, h2⟩ | ⟨i, h1, h2, h3, h4, h5⟩
  ·rw [Lib.count_miss h1]; exact h2
  ·cases n with
   | zero => omega
   | succ n =>
    rw [Lib.count_hit (by decide) h1, Nat.add_comm, Lib.replaceK_hit _ _ _ _ i h1]
    have e : i + ([39, 39] : Str).length = i + 2 := rfl
    rw [e, h4, replaceK_un n (t.drop (i + 1)) (by rw [List.length_drop]; omega), h3]
    exact h5.symm
theorem replace_un (t : Str) : Lib.replaceAll (dblM t) [39, 39] [39] = t := by
 unfold Lib.replaceAll Lib.replace
 rw [if_neg (by decide)]
 have e : Lib.replaceNum (dblM t) [39, 39] (-1) = Lib.count (dblM t) [39, 39] := by unfold Lib.replaceNum; rw [if_pos (.inl (by decide))]
 rw [e]
 exact replaceK_un _ t (Nat.le_refl _)
theorem read_text {t : Str} (h : t.length ≤ 200) : readM ([39] ++ dblM t ++ [39]) = (⟨2, 0, t⟩, 0) := by
 have hin : innerM ([39] ++ dblM t ++ [39]) = t := by
  unfold innerM
  have : (([39] ++ dblM t ++ [39] : Str).take (([39] ++ dblM t ++ [39] : Str).length - 1)).drop 1 = dblM t := by
   rw [show ([39] ++ dblM t ++ [39] : Str).length - 1 = ([39] ++ dblM t : Str).length by simp, List.take_left]
   rfl
  rw [this]
  exact replace_un t
 have ht : textV ([39] ++ dblM t ++ [39]) = ⟨2, 0, t⟩ := by
  unfold textV
  rw [hin, List.take_of_length_le h]
 have hp : plainM ⟨2, 0, t⟩ = true := by
  unfold plainM
  simp
  omega
 have hpr : printM ⟨2, 0, t⟩ = [39] ++ dblM t ++ [39] := by
  unfold printM
  rw [hp, replace_dbl]
  rfl
 have hq : quotM ([39] ++ dblM t ++ [39]) = true := by
  unfold quotM
  simp [Lib.hasPrefix, Lib.hasSuffix, List.isPrefixOf]
  omega
 unfold readM
 have n1 : (([39] ++ dblM t ++ [39] : Str) == [110, 117, 108, 108]) = false := by rw [beq_eq_false_iff_ne]; intro e; injection e with e; exact absurd e (by decide)
 have n2 : (([39] ++ dblM t ++ [39] : Str) == [116, 114, 117, 101]) = false := by rw [beq_eq_false_iff_ne]; intro e; injection e with e; exact absurd e (by decide)
 have n3 : (([39] ++ dblM t ++ [39] : Str) == [102, 97, 108, 115, 101]) = false := by rw [beq_eq_false_iff_ne]; intro e; injection e with e; exact absurd e (by decide)
 rw [n1, n2, n3, hq]
 simp only [Bool.false_eq_true, if_false, Bool.or_self, if_true]
 unfold textR
 rw [ht, hpr]
 simp
theorem text_L {t R : Str} (h : t.length ≤ 200) (hR : stopC R) : Lx ([39] ++ dblM t ++ [39]) [(4, t)] R := by
 have h39 : ∀ c r, R = c :: r → c ≠ 39 := fun c r e => by rcases hR c r e with rfl | rfl | rfl | rfl <;> decide
 refine Lx.word (by simp) (by show blanks.contains 39 = false; kernel_rfl) (by show (39 : UInt8) ≠ 35; decide) ?_
 have e : [39] ++ dblM t ++ [39] ++ R = 39 :: (dblM t ++ 39 :: R) := by simp
 rw [e]
 have h1 : ¬ (decide (0 < runM ((39 :: (dblM t ++ 39 :: R)).take 1) letters) = true) := by
  rw [show (39 :: (dblM t ++ 39 :: R)).take 1 = [39] from rfl, run_one, show letters.contains 39 = false by kernel_rfl]; simp
 have h2 : ¬ (decide (0 < runM ((39 :: (dblM t ++ 39 :: R)).take 1) digs) = true) := by
  rw [show (39 :: (dblM t ++ 39 :: R)).take 1 = [39] from rfl, run_one, show digs.contains 39 = false by kernel_rfl]; simp
 unfold wordM
 rw [if_neg h1, if_neg h2, if_pos (by rfl)]
 unfold quotedM
 rw [show (39 :: (dblM t ++ 39 :: R)).drop 1 = dblM t ++ 39 :: R from rfl, close_dbl h39 t]
 have ht : (39 :: (dblM t ++ 39 :: R)).take ((dblM t).length + 1 + 1) = [39] ++ dblM t ++ [39] := by
  rw [← e, show (dblM t).length + 1 + 1 = ([39] ++ dblM t ++ [39] : Str).length by simp]
  exact List.take_left
 simp only [ht, read_text h]
 simp
end Go.SX.Nb
namespace Go.SX.Nb
open Go Go.SX Go.Proofs
variable [ErrAt]
set_option maxRecDepth 8000
end Go.SX.Nb
namespace Go.SX.Nb
open Go Go.SX Go.Proofs
variable [ErrAt]
set_option maxRecDepth 4000
theorem eqL_upto {a b : List Expr} (hl : a.length = b.length) (h : ∀ (j : Nat) (y z : Expr), j < a.length → a[j]? = some y → b[j]? = some z → eqE y z = true) : eqL a b = true := by
 rw [eqL_iff]
 refine list_ext_upto hl fun j y hj hy => ?_
 have hjb : j < b.length := by omega
 have := h j y b[j] hj hy (List.getElem?_eq_getElem hjb)
 rw [List.getElem?_eq_getElem hjb, (eqE_iff _ _).1 this]
theorem eqL_at {a b : List Expr} (h : eqL a b = true) {j : Nat} (hj : j < a.length) (hb : j < b.length) : eqE a[j] b[j] = true := by
 have e := (eqL_iff _ _).1 h
 subst e
 exact eqE_refl _
theorem neq_at {a b : List Expr} {j : Nat} (hj : j < a.length) (hb : j < b.length) (h : eqE a[j] b[j] = false) : eqL a b = false := by
 rw [Bool.eq_false_iff]
 intro h2
 rw [eqL_at h2 hj hb] at h
 cases h
theorem neq_len {a b : List Expr} (h : a.length ≠ b.length) : eqL a b = false := by
 rw [Bool.eq_false_iff]
 exact fun h2 => h (eqL_len h2)
theorem uptoE {a b : List Expr} {x : Nat} (hx : x < a.length) (hb : x < b.length) (h : ∀ (j : Nat) (y z : Expr), j < x → a[j]? = some y → b[j]? = some z → eqE y z = true) (he : eqE a[x] b[x] = true) : ∀ (j : Nat) (y z : Expr), j < x + 1 → a[j]? = some y → b[j]? = some z → eqE y z = true := by
 intro j y z hj h1 h2
 rcases Nat.lt_or_ge j x with h3 | h3
 ·exact h j y z h3 h1 h2
 ·have : j = x := by omega
  subst this
  rw [List.getElem?_eq_getElem hx] at h1
  rw [List.getElem?_eq_getElem hb] at h2
  injection h1 with h1
  injection h2 with h2
  rw [← h1, ← h2]
  exact he
def headE (x y : Expr) : Bool := ((x.op == y.op) && (x.text == y.text)) && ((x.val.kind == y.val.kind && x.val.n == y.val.n) && x.val.s == y.val.s)
theorem eq_head (x y : Expr) : eqE x y = (headE x y && eqL x.kids y.kids) := eqE_eq x y
theorem c13 : ∀ (n : Nat) (x : Expr), okE n x → ∀ (y : Expr) (Hp : List AObj), AFun Tryz.prog 13 [exprA x, exprA y] Hp (boolA (eqE x y)) := by
 intro n
 induction n with
 | zero => exact fun x h => h.elim
 | succ n ih =>
 intro x hok y Hp
 refine ACall.body [.tmp 4] [0, 1] Tryz.func13 Tryz.ntmps13 (fun d => ?_)
 refine AW.seqR ?_
 refine R.boxRo ?_
 refine R.boxRo ?_
 refine R.assign ?_
 refine R.fin [2, 3] ?_
 refine W.seq ?_
 refine AW.seqR ?_
 refine R.fieldAddrRo (off := 0) Tryz.underlying27 Tryz.sizeOf3 ?_
 refine R.loadRo Tryz.isAgg3 ?_
 refine R.fieldAddrRo (off := 0) Tryz.underlying27 Tryz.sizeOf3 ?_
 refine R.loadRo Tryz.isAgg3 ?_
 refine R.neq ?_
 refine R.move ?_
 refine G.fieldAddrRo (off := 1) Tryz.underlying27 Tryz.sizeOf9 ?_
 refine G.loadRo Tryz.isAgg9 ?_
 refine G.fieldAddrRo (off := 1) Tryz.underlying27 Tryz.sizeOf9 ?_
 refine G.loadRo Tryz.isAgg9 ?_
 refine G.sneq ?_
 refine R.pickOr ?_
 refine R.move ?_
 refine G.fieldAddrRo (off := 2) Tryz.underlying27 Tryz.sizeOf24 ?_
 refine G.loadRoN Tryz.isAgg24 Tryz.sizeOf24 ?_
 refine G.fieldAddrRo (off := 2) Tryz.underlying27 Tryz.sizeOf24 ?_
 refine G.loadRoN Tryz.isAgg24 Tryz.sizeOf24 ?_
 refine G.neqAgg eg24 (fun w => equal24 x.val.kind x.val.n y.val.kind y.val.n x.val.s y.val.s w) ?_
 refine R.pickOr ?_
 refine R.move ?_
 refine G.fieldAddrRo (off := 5) Tryz.underlying27 Tryz.sizeOf25 ?_
 refine G.loadRo Tryz.isAgg25 ?_
 refine G.len Tryz.underlying25 ?_
 refine G.fieldAddrRo (off := 5) Tryz.underlying27 Tryz.sizeOf25 ?_
 refine G.loadRo Tryz.isAgg25 ?_
 refine G.len Tryz.underlying25 ?_
 refine G.neq ?_
 refine R.pickOr ?_
 refine R.fin [2, 3, 33] ?_
 refine W.cond (fun ht33 => ?_) (fun ht33 => ?_)
 ·skip
  have hf : eqE x y = false := by
   rw [eq_head]
   simp only [Bool.or_eq_true, bne_iff_ne, ne_eq, List.length_map, Bool.not_eq_true'] at ht33
   by_cases hh : headE x y = true
   ·rw [hh, Bool.true_and]
    refine neq_len ?_
    unfold headE at hh
    simp only [Bool.and_eq_true, beq_iff_eq] at hh
    obtain ⟨⟨h1, h2⟩, ⟨h3, h4⟩, h5⟩ := hh
    rcases ht33 with ((h | h) | h) | h
    ·exact absurd h1 h
    ·simp [h2] at h
    ·simp [h3, h4, h5] at h
    ·intro e; exact h (by rw [e])
   ·rw [Bool.not_eq_true] at hh
    rw [hh, Bool.false_and]
  refine AW.seqR ?_
  refine R.assign ?_
  refine R.fin [4] ?_
  refine AW.ret ?_
  refine K.thR ?_
  exact K.fin (V.one V.tmp) ⟨by rw [hf], rfl⟩
 ·skip
  have hh : headE x y = true ∧ x.kids.length = y.kids.length := by
   simp only [Bool.or_eq_false_iff, bne_eq_false_iff_eq, List.length_map, Bool.not_eq_false'] at ht33
   obtain ⟨⟨⟨h1, h2⟩, h3⟩, h4⟩ := ht33
   unfold headE
   refine ⟨?_, by omega⟩
   simp only [beq_iff_eq, Bool.and_eq_true] at h1 h2 h3 ⊢
   exact ⟨⟨h1, h2⟩, h3⟩
  obtain ⟨hh, hlen⟩ := hh
  have hkl := hok.2.1
  refine AW.skip ?_
  refine K.thN ?_
  refine W.seq ?_
  refine AW.seqR ?_
  refine R.assign ?_
  refine R.fin [2, 3, 5] ?_
  refine AW.loopC (α := Nat) (fun i => ⟨53, setF 2 (.ro (exprC x)) (setF 3 (.ro (exprC y)) (setF 5 (intA (i : Nat)) (fun _ => .any))), Hp, [], [], none⟩) (fun i => i ≤ x.kids.length ∧ ∀ (j : Nat) (a b : Expr), j < i → x.kids[j]? = some a → y.kids[j]? = some b → eqE a b = true) (fun i => x.kids.length - i) (0) ⟨Nat.zero_le _, fun j a b h => by omega⟩ (StLe.refl _) rfl (fun i hi => ?_)
  refine W.seq ?_
  refine AW.seqR ?_
  refine R.move ?_
  refine R.fieldAddrRo (off := 5) Tryz.underlying27 Tryz.sizeOf25 ?_
  refine R.loadRo Tryz.isAgg25 ?_
  refine R.len Tryz.underlying25 ?_
  refine R.lss ?_
  refine R.fin [2, 3, 5, 38] ?_
  refine W.cond (fun ht38 => ?_) (fun ht38 => ?_)
  ·skip
   have hlt : i < x.kids.length := by simpa using ht38
   have hly : i < y.kids.length := by omega
   refine AW.skip ?_
   refine K.thN ?_
   refine W.seq ?_
   refine AW.block ?_
   refine W.draw [0, 1, 0, 7, 15, 0, 32, 0, 224, 480, 1023, 2047] 10 Tryzmixed (by kernel_rfl) ?_
   refine D.fieldAddrRo (off := 5) Tryz.underlying27 Tryz.sizeOf25 ?_
   refine D.loadRo Tryz.isAgg25 ?_
   refine D.move ?_
   refine D.indexAddr (i) (exprA x.kids[i]) Tryz.underlying25 Tryz.sizeOf27 (getMap hlt) ?_
   refine D.loadRoN Tryz.isAgg27 Tryz.sizeOf27 ?_
   refine D.fieldAddrRo (off := 5) Tryz.underlying27 Tryz.sizeOf25 ?_
   refine D.loadRo Tryz.isAgg25 ?_
   refine D.move ?_
   refine D.indexAddr (i) (exprA y.kids[i]) Tryz.underlying25 Tryz.sizeOf27 (getMap hly) ?_
   refine D.loadRoN Tryz.isAgg27 Tryz.sizeOf27 ?_
   refine D.tail ?_
   refine R.call Tryz.call13 (ih x.kids[i] (hok.2.2 _ (List.getElem_mem hlt)) y.kids[i] _) ?_
   refine R.not ?_
   refine R.fin [2, 3, 5, 52] ?_
   refine W.cond (fun ht52 => ?_) (fun ht52 => ?_)
   ·skip
    have hf : eqE x y = false := by rw [eq_head, neq_at hlt hly (by simpa using ht52), Bool.and_false]
    refine AW.seqR ?_
    refine R.assign ?_
    refine R.fin [4] ?_
    refine AW.ret ?_
    refine K.blR ?_
    refine K.thR ?_
    refine K.lpR ?_
    refine K.thR ?_
    exact K.fin (V.one V.tmp) ⟨by rw [hf], rfl⟩
   ·skip
    have he : eqE x.kids[i] y.kids[i] = true := by simpa using ht52
    refine AW.skip ?_
    refine K.blN ?_
    refine K.thN ?_
    refine AW.region ?_
    refine R.move ?_
    refine R.add64 ?_
    refine R.assign ?_
    refine R.fin [2, 3, 5] ?_
    exact K.lpN (i + 1) ⟨hlt, uptoE hlt hly hi.2 he⟩ (by omega) (StCut.of_eq rfl)
  ·skip
   have hxe : x.kids.length ≤ i := by simpa using ht38
   refine AW.exit ?_
   refine K.thE ?_
   refine K.lpE ?_
   refine K.thN ?_
   refine AW.seqR ?_
   refine R.assign ?_
   refine R.fin [4] ?_
   refine AW.ret ?_
   exact K.fin (V.one V.tmp) ⟨by rw [eq_head, hh, eqL_upto hlen (fun j a b hj => hi.2 j a b (by omega))]; rfl, rfl⟩

end Go.SX.Nb
namespace Go.SX.Nb
open Go Go.SX Go.Proofs
variable [ErrAt]
set_option maxRecDepth 4000
theorem mk_agg (o : Int) (t : Str) (v : Val) (k : List Expr) : exprA (.mk o t v k) = .agg [intA o, .v (sv t), intA v.kind, intA v.n, .v (sv v.s), .slice false 6 (k.map exprA)] := by rw [exprA_eq]; rfl
end Go.SX.Nb
namespace Go.SX.Nb
open Go Go.SX Go.Proofs
variable [ErrAt]
set_option maxRecDepth 4000
end Go.SX.Nb
namespace Go.SX.Nb
open Go Go.SX Go.Proofs
variable [ErrAt]
set_option maxRecDepth 4000
end Go.SX.Nb
namespace Go.SX.Nb
open Go Go.SX Go.Proofs
variable [ErrAt]
set_option maxRecDepth 8000
/-! Who decides decides: the law's sources, columns and truths. -/
def lS1 : Str := [97, 32, 111, 114, 32, 98]
def lS2 : Str := [97, 32, 97, 110, 100, 32, 98]
def lS3 : Str := [110, 111, 116, 32, 40, 110, 111, 116, 32, 97, 32, 97, 110, 100, 32, 110, 111, 116, 32, 98, 41]
def lS4 : Str := [97, 32, 111, 114, 32, 49, 32, 47, 32, 48, 32, 61, 32, 110]
def lX1 : Expr := binX orW (nameE [97]) (nameE [98])
def lX2 : Expr := binX andW (nameE [97]) (nameE [98])
def lX3 : Expr := oneX 4 (binX andW (oneX 4 (nameE [97])) (oneX 4 (nameE [98])))
def lX4 : Expr := binX orW (nameE [97]) (binX [61] (binX [47] (valX ⟨1, 1, []⟩) (valX ⟨1, 0, []⟩)) (nameE [110]))
def lC : List Col := [⟨[97], 3⟩, ⟨[98], 3⟩, ⟨[110], 1⟩]
def lT : List Val := [noV, boolV false, boolV true]
def orV (x y : Val) : Val := if (x.n == 1) || ((x.kind == 0) && (y.n == 0)) then x else y
def andV (x y : Val) : Val := if ((x.kind == 3) && (x.n == 0)) || ((x.kind == 0) && ((y.kind == 0) || (y.n == 1))) then x else y
/-! Rows. -/
theorem row_iff {c : List Col} {l : List Val} : rowP c l = true ↔ colsM c = true ∧ l.length = c.length ∧ ∀ (i : Nat) (v : Val) (y : Col), l[i]? = some v → c[i]? = some y → plainM v = true ∧ (v.kind = 0 ∨ v.kind = y.kind) := by
 unfold rowP
 rw [Bool.and_eq_true, Bool.and_eq_true, cols_eq, beq_iff_eq, List.all_eq_true, and_assoc]
 refine and_congr_right fun _ => and_congr_right fun hl => ⟨fun h i v y hv hy => ?_, fun h p hp => ?_⟩
 ·have := h (v, y) (List.mem_of_getElem? (i := i) (by rw [List.getElem?_zip_eq_some]; exact ⟨hv, hy⟩))
  simpa using this
 ·obtain ⟨i, hi⟩ := List.getElem?_of_mem hp
  rw [List.getElem?_zip_eq_some] at hi
  have := h i p.1 p.2 hi.1 hi.2
  simpa using this
/-! Rows that differ in what is not named. -/
def turn1R (c : List Col) (l : List Val) (m : List Val) (s : Str) : List Val := if findM s c < 0 then m else m.set (findM s c).toNat (l.getD (findM s c).toNat noV)
def turnR (c : List Col) (l : List Val) (ns : List Str) (m : List Val) : List Val := ns.foldl (turn1R c l) m
end Go.SX.Nb
namespace Go.SX.Nb
open Go Go.SX Go.Proofs
variable [ErrAt]
set_option maxRecDepth 8000
/-! Who has a kind comes to it. -/
/-- What a tree of this kind may come to. -/
structure KOk (k : Int) (r : Rs) : Prop where
 kind : r.2 = 0 → r.1.kind = k ∨ r.1.kind = 0
 err : r.2 ≠ 0 → r.2 = 4 ∨ r.2 = 5 ∨ r.2 = 6 ∨ r.2 = 3
theorem KOk.val {k : Int} {v : Val} (h : v.kind = k) : KOk k (v, 0) := ⟨fun _ => .inl h, fun h => absurd rfl h⟩
theorem KOk.wrong {k e : Int} (h : e = 4 ∨ e = 5 ∨ e = 6 ∨ e = 3) : KOk k (wrongR e) := ⟨fun h0 => by rw [show e = 0 from h0] at h; omega, fun _ => h⟩
theorem KOk.whole {x : Int × Int} (h : x.2 ≠ 0 → x.2 = 4 ∨ x.2 = 5 ∨ x.2 = 6 ∨ x.2 = 3) : KOk 1 (wholeR x) := by
 unfold wholeR
 split
 ·rename_i h1; exact .wrong (h (by simpa using h1))
 ·exact .val rfl
theorem KOk.mono {k k' : Int} {r : Rs} (h : KOk k r) (hk : k = k' ∨ k = 0) : KOk k' r := ⟨fun h0 => by have := h.kind h0; omega, h.err⟩
theorem call_names {t : Str} {n : Nat} (h : arityM t = (n : Int)) : (t = [108, 101, 110] ∧ n = 1) ∨ (t = [115, 116, 114] ∧ n = 1) ∨ (t = [110, 117, 109] ∧ n = 1) ∨ (t = isnullW ∧ n = 1) ∨ (t = nvlW ∧ n = 2) ∨ (t = [108, 101, 102, 116] ∧ n = 2) ∨ (t = [114, 105, 103, 104, 116] ∧ n = 2) ∨ (t = ifW ∧ n = 3) := by
 by_cases hm : t ∈ arityList.map (·.1)
 ·have ha : ∀ s ∈ arityList.map (·.1), (s = [108, 101, 110] ∧ arityM s = 1) ∨ (s = [115, 116, 114] ∧ arityM s = 1) ∨ (s = [110, 117, 109] ∧ arityM s = 1) ∨ (s = isnullW ∧ arityM s = 1) ∨ (s = nvlW ∧ arityM s = 2) ∨ (s = [108, 101, 102, 116] ∧ arityM s = 2) ∨ (s = [114, 105, 103, 104, 116] ∧ arityM s = 2) ∨ (s = ifW ∧ arityM s = 3) := by
   have : ((arityList.map (·.1)).all fun s => decide ((s = [108, 101, 110] ∧ arityM s = 1) ∨ (s = [115, 116, 114] ∧ arityM s = 1) ∨ (s = [110, 117, 109] ∧ arityM s = 1) ∨ (s = isnullW ∧ arityM s = 1) ∨ (s = nvlW ∧ arityM s = 2) ∨ (s = [108, 101, 102, 116] ∧ arityM s = 2) ∨ (s = [114, 105, 103, 104, 116] ∧ arityM s = 2) ∨ (s = ifW ∧ arityM s = 3))) = true := by kernel_rfl
   exact fun s hs => of_decide_eq_true (List.all_eq_true.1 this s hs)
  have := ha t hm
  rw [h] at this
  rcases this with ⟨e, h2⟩ | ⟨e, h2⟩ | ⟨e, h2⟩ | ⟨e, h2⟩ | ⟨e, h2⟩ | ⟨e, h2⟩ | ⟨e, h2⟩ | ⟨e, h2⟩
  ·exact .inl ⟨e, by omega⟩
  ·exact .inr (.inl ⟨e, by omega⟩)
  ·exact .inr (.inr (.inl ⟨e, by omega⟩))
  ·exact .inr (.inr (.inr (.inl ⟨e, by omega⟩)))
  ·exact .inr (.inr (.inr (.inr (.inl ⟨e, by omega⟩))))
  ·exact .inr (.inr (.inr (.inr (.inr (.inl ⟨e, by omega⟩)))))
  ·exact .inr (.inr (.inr (.inr (.inr (.inr (.inl ⟨e, by omega⟩))))))
  ·exact .inr (.inr (.inr (.inr (.inr (.inr (.inr ⟨e, by omega⟩))))))
 ·have h1 : arityM t = -1 := by
   unfold arityM
   rw [List.find?_eq_none.2 fun p hp => by
    simp only [beq_iff_eq]
    rintro rfl
    exact hm (List.mem_map.2 ⟨p, hp, rfl⟩)]
  omega
end Go.SX.Nb
namespace Go.SX.Nb
open Go Go.SX Go.Proofs
variable [ErrAt]
set_option maxRecDepth 8000
/-! The print of a tree, and its words. -/
def brkS (least : Nat) (x : Expr) (s : Str) : Str := if least ≤ levE x then s else 40 :: (s ++ [41])
def sepS : List Str → Str
  | [] => []
  | s :: r => 44 :: 32 :: (s ++ sepS r)
def nodeS (o : Int) (t : Str) (v : Val) (k : List Expr) (ss : List Str) : Str :=
  if o == 1 then printM v else if o == 2 then t
  else if o == 3 then 45 :: brkS 6 (k.getD 0 nullX) (ss.getD 0 [])
  else if o == 4 then notW ++ 32 :: brkS 2 (k.getD 0 nullX) (ss.getD 0 [])
  else if o == 5 then brkS (firstL (levelM t).toNat) (k.getD 0 nullX) (ss.getD 0 []) ++ 32 :: (t ++ 32 :: brkS ((levelM t).toNat + 1) (k.getD 1 nullX) (ss.getD 1 []))
  else t ++ 40 :: ((sepS ss).drop 2 ++ [41])
mutual
def printE : Expr → Str
  | .mk o t v k => nodeS o t v k (printL k)
def printL : List Expr → List Str
  | [] => []
  | e :: r => printE e :: printL r
 end
theorem printL_map : ∀ l, printL l = l.map printE
  | [] => rfl
  | e :: r => by rw [printL, printL_map r]; rfl
theorem pr_val (v : Val) : printE (valX v) = printM v := by simp [valX, printE, nodeS]
theorem pr_name (t : Str) : printE (nameE t) = t := by simp [nameE, printE, nodeS]
theorem pr_neg (a : Expr) : printE (oneX 3 a) = 45 :: brkS 6 a (printE a) := by simp [oneX, printE, printL, nodeS]
theorem pr_no (a : Expr) : printE (oneX 4 a) = notW ++ 32 :: brkS 2 a (printE a) := by simp [oneX, printE, printL, nodeS]
theorem pr_bin (t : Str) (a b : Expr) : printE (binX t a b) = brkS (firstL (levelM t).toNat) a (printE a) ++ 32 :: (t ++ 32 :: brkS ((levelM t).toNat + 1) b (printE b)) := by simp [binX, printE, printL, nodeS]
theorem pr_call (t : Str) (k : List Expr) : printE (.mk 6 t noV k) = t ++ 40 :: ((sepS (printL k)).drop 2 ++ [41]) := by simp [printE, nodeS]
/-- A text that something begins, and no equals sign. -/
def Hd (s : Str) : Prop := ∃ c r, s = c :: r ∧ c ≠ 61
theorem Hd.not61 {s : Str} (h : Hd s) (Z : Str) : ∀ d r, s ++ Z = d :: r → d ≠ 61 := fun d r e => by
  obtain ⟨c, q, rfl, hc⟩ := h
  injection e with e1 e2
  rw [← e1]
  exact hc
theorem Hd.app {s : Str} (h : Hd s) (Z : Str) : Hd (s ++ Z) := by
  obtain ⟨c, q, rfl, hc⟩ := h
  exact ⟨c, q ++ Z, rfl, hc⟩
theorem Hd.brk {k : Nat} {x : Expr} {s : Str} (h : Hd s) : Hd (brkS k x s) := by
  unfold brkS
  split
  · exact h
  · exact ⟨40, _, rfl, by decide⟩
theorem stop_not61 {R : Str} (h : stopC R) : ∀ d r, R = d :: r → d ≠ 61 := fun d r e => by
  rcases h d r e with rfl | rfl | rfl | rfl <;> decide
theorem stop_32 (Z : Str) : stopC (32 :: Z) := fun c r e => by injection e with e1 e2; exact .inl e1.symm
theorem stop_40 (Z : Str) : stopC (40 :: Z) := fun c r e => by injection e with e1 e2; exact .inr (.inl e1.symm)
theorem stop_41 (Z : Str) : stopC (41 :: Z) := fun c r e => by injection e with e1 e2; exact .inr (.inr (.inl e1.symm))
theorem stop_44 (Z : Str) : stopC (44 :: Z) := fun c r e => by injection e with e1 e2; exact .inr (.inr (.inr e1.symm))
theorem stop_nil : stopC [] := fun c r e => by cases e
theorem open_L {R : Str} (hR : ∀ d r, R = d :: r → d ≠ 61) : Lx [40] [(5, [40])] R := mark1_L (by kernel_rfl) hR
theorem close_L {R : Str} (hR : ∀ d r, R = d :: r → d ≠ 61) : Lx [41] [(5, [41])] R := mark1_L (by kernel_rfl) hR
theorem comma_L (R : Str) : Lx [44, 32] [(5, [44])] R := by
  have := Lx.app (R := R) (mark1_L (c := 44) (by kernel_rfl) (fun d r e => by injection e with e1 e2; rw [← e1]; decide) : Lx [44] [(5, [44])] ([32] ++ R)) (Lx.blank R)
  simpa using this
theorem blank_L {u R : Str} {T : List TK} (h : Lx u T R) : Lx (32 :: u) T R := by
  have := Lx.app (Lx.blank (u ++ R)) h
  simpa using this
theorem op_L {t R : Str} (ht : 0 ≤ levelM t) : Lx t [opTok t] (32 :: R) := by
  have hmem : t ∈ levels.flatten := by
    rcases level_cases t with h | h
    · exact h
    · omega
  have h61 : ∀ d r, (32 :: R : Str) = d :: r → d ≠ 61 := fun d r e => by injection e with e1 e2; rw [← e1]; decide
  simp only [levels, List.flatten_cons, List.flatten_nil, List.cons_append, List.nil_append, List.append_nil, List.mem_cons, List.not_mem_nil, or_false] at hmem
  rcases hmem with rfl | rfl | rfl | rfl | rfl | rfl | rfl | rfl | rfl | rfl | rfl | rfl | rfl | rfl
  · exact kw_L (by kernel_rfl) (stop_32 R)
  · exact kw_L (by kernel_rfl) (stop_32 R)
  · exact mark1_L (by kernel_rfl) h61
  · exact mark2_L (by kernel_rfl)
  · exact mark1_L (by kernel_rfl) h61
  · exact mark2_L (by kernel_rfl)
  · exact mark1_L (by kernel_rfl) h61
  · exact mark2_L (by kernel_rfl)
  · exact mark1_L (by kernel_rfl) h61
  · exact mark1_L (by kernel_rfl) h61
  · exact mark1_L (by kernel_rfl) h61
  · exact mark1_L (by kernel_rfl) h61
  · exact mark1_L (by kernel_rfl) h61
  · exact mark1_L (by kernel_rfl) h61
theorem val_L {v : Val} (hp : plainM v = true) (h0 : 0 ≤ v.n) (h1 : v.n ≤ 9223372036854775807) : (∀ R, stopC R → Lx (printM v) [valTok v] R) ∧ Hd (printM v) := by
  have hc := plain_cases hp
  rcases hc with e | e | ⟨e, hs⟩ | e | e
  · rw [e]
    exact ⟨fun R hR => kw_L (by kernel_rfl) hR, ⟨110, [117, 108, 108], by kernel_rfl, by decide⟩⟩
  · have hpr : printM v = Lib.itoa v.n := by
      unfold printM
      rw [hp, e]
      rfl
    have hv : valTok v = (3, printM v) := by unfold valTok; rw [show v.kind = 1 by rw [e]]; rfl
    rw [hv, hpr]
    refine ⟨fun R hR => num_L h0 h1 hR, ?_⟩
    obtain ⟨u, hu⟩ : ∃ u : Nat, v.n = (u : Int) := ⟨v.n.toNat, by omega⟩
    have e0 : Lib.itoa (u : Int) = Lib.decDigits u := by unfold Lib.itoa; rw [if_neg (by omega)]; simp
    rw [hu, e0]
    obtain ⟨c, r, hcr, _⟩ := dec_head u
    have hall := dec_all u c (by rw [hcr]; exact List.mem_cons_self)
    exact ⟨c, r, hcr, by rintro rfl; revert hall; decide⟩
  · have hpr : printM v = [39] ++ dblM v.s ++ [39] := by
      unfold printM
      rw [hp, e]
      simp only [Bool.not_true, Bool.false_eq_true, if_false, show ((2 : Int) == 1) = false from rfl, show ((2 : Int) == 2) = true from rfl, if_true, replace_dbl]
    have hv : valTok v = (4, v.s) := by unfold valTok; rw [show v.kind = 2 by rw [e]]; rfl
    rw [hv, hpr]
    exact ⟨fun R hR => text_L hs hR, ⟨39, _, rfl, by decide⟩⟩
  · rw [e]
    exact ⟨fun R hR => kw_L (by kernel_rfl) hR, ⟨102, [97, 108, 115, 101], by kernel_rfl, by decide⟩⟩
  · rw [e]
    exact ⟨fun R hR => kw_L (by kernel_rfl) hR, ⟨116, [114, 117, 101], by kernel_rfl, by decide⟩⟩
/-- A tree's print is its words, before what may stand there. -/
def PL (x : Expr) : Prop := (∀ R, stopC R → Lx (printE x) (toksE x) R) ∧ Hd (printE x)
theorem brk_L {x : Expr} (h : PL x) (k : Nat) {R : Str} (hR : stopC R) : Lx (brkS k x (printE x)) (brkT k x (toksE x)) R := by
  unfold brkS brkT
  split
  · exact h.1 R hR
  · have h1 := Lx.app (Lx.app (open_L (R := printE x ++ ([41] ++ R)) (h.2.not61 _)) (h.1 ([41] ++ R) (stop_41 R))) (close_L (R := R) (stop_not61 hR))
    simpa using h1
theorem args_L : ∀ (k : List Expr), (∀ y ∈ k, PL y) → ∀ R, stopC R → Lx (sepS (k.map printE)) (sepT (k.map toksE)) R ∧ stopC (sepS (k.map printE) ++ R)
  | [], _, R, hR => ⟨Lx.nil R, hR⟩
  | x :: r, h, R, hR => by
    obtain ⟨h1, h2⟩ := args_L r (fun y hy => h y (List.mem_cons_of_mem _ hy)) R hR
    have hx := (h x List.mem_cons_self).1 _ h2
    refine ⟨?_, stop_44 _⟩
    have h3 : Lx ([44, 32] ++ (printE x ++ sepS (r.map printE))) ([(5, [44])] ++ (toksE x ++ sepT (r.map toksE))) R := Lx.app (comma_L _) (Lx.app hx h1)
    simpa [sepS, sepT] using h3
theorem name_hd {t : Str} (h : nameM t = true) : Hd t := by
  rw [nameM_eq] at h
  simp only [Bool.and_eq_true, Bool.not_eq_true', Bool.or_eq_false_iff, beq_eq_false_iff_ne, decide_eq_false_iff_not] at h
  cases t with
  | nil => simp at h
  | cons c r =>
    refine ⟨c, r, rfl, ?_⟩
    rintro rfl
    have h2 : (!letterM 61) = false := h.1.1.2
    exact absurd h2 (by decide)
theorem arity_name {t : Str} {n : Nat} (h : arityM t = (n : Int)) : nameM t = true := by
  rcases call_names h with ⟨rfl, _⟩ | ⟨rfl, _⟩ | ⟨rfl, _⟩ | ⟨rfl, _⟩ | ⟨rfl, _⟩ | ⟨rfl, _⟩ | ⟨rfl, _⟩ | ⟨rfl, _⟩ <;> kernel_rfl
theorem print_PL : ∀ (n : Nat) (x : Expr), sizeE x ≤ n → allE nodeM x = true → allE rngN x = true → PL x
  | 0, x, hn, _, _ => by have := sizeE_eq x; omega
  | n + 1, x, hn, hnd, hrg => by
    have hnd0 := hnd
    have hrg0 := hrg
    rw [allE_eq, Bool.and_eq_true] at hnd0 hrg0
    have ih : ∀ y ∈ x.kids, PL y := fun y hy => print_PL n y (size_kids hn hy) ((allL_iff _ _).1 hnd0.2 y hy) ((allL_iff _ _).1 hrg0.2 y hy)
    have hNC := node_cases hnd0.1
    cases hNC with
    | val v hp h0 =>
      have hr := hrg0.1
      unfold rngN at hr
      simp only [Bool.and_eq_true, decide_eq_true_eq] at hr
      unfold PL
      rw [pr_val, toks_val]
      exact val_L hp h0 hr.2
    | name t ht =>
      unfold PL
      rw [pr_name, toks_name]
      exact ⟨fun R hR => name_L ht hR, name_hd ht⟩
    | neg a =>
      have ha := ih a (by simp [oneX, Expr.kids])
      unfold PL
      rw [pr_neg, toks_neg]
      exact ⟨fun R hR => Lx.app (u := [45]) (T := [(5, [45])]) (mark1_L (by kernel_rfl) (ha.2.brk.not61 R)) (brk_L ha 6 hR), ⟨45, _, rfl, by decide⟩⟩
    | no a =>
      have ha := ih a (by simp [oneX, Expr.kids])
      unfold PL
      rw [pr_no, toks_no]
      exact ⟨fun R hR => Lx.app (T := [(2, notW)]) (kw_L (by kernel_rfl) (stop_32 _)) (blank_L (brk_L ha 2 hR)), ⟨110, _, rfl, by decide⟩⟩
    | bin t a b ht =>
      have ha := ih a (by simp [binX, Expr.kids])
      have hb := ih b (by simp [binX, Expr.kids])
      unfold PL
      rw [pr_bin, toks_bin]
      refine ⟨fun R hR => Lx.app (brk_L ha _ (stop_32 _)) (blank_L ?_), ha.2.brk.app _⟩
      exact Lx.app (T := [opTok t]) (op_L ht) (blank_L (brk_L hb _ hR))
    | call t k ht =>
      have hk : ∀ y ∈ k, PL y := fun y hy => ih y (by simpa [Expr.kids] using hy)
      have hnm := arity_name ht
      unfold PL
      rw [pr_call, toks_call, printL_map, toksL_map]
      refine ⟨fun R hR => ?_, (name_hd hnm).app _⟩
      match k, hk, ht with
      | [], _, ht =>
        exfalso
        have := arity_pos t
        simp at ht
        omega
      | x :: r, hk, _ =>
        have hx := hk x List.mem_cons_self
        obtain ⟨h1, h2⟩ := args_L r (fun y hy => hk y (List.mem_cons_of_mem _ hy)) ([41] ++ R) (stop_41 R)
        have hin : Lx (printE x ++ sepS (r.map printE)) (toksE x ++ sepT (r.map toksE)) ([41] ++ R) := Lx.app (hx.1 _ h2) h1
        have hcl : Lx ((printE x ++ sepS (r.map printE)) ++ [41]) ((toksE x ++ sepT (r.map toksE)) ++ [(5, [41])]) R := Lx.app hin (close_L (stop_not61 hR))
        have hop : Lx ([40] ++ ((printE x ++ sepS (r.map printE)) ++ [41])) ([(5, [40])] ++ ((toksE x ++ sepT (r.map toksE)) ++ [(5, [41])])) R := Lx.app (open_L ((((hx.2.app _).app _)).not61 R)) hcl
        have hnl : Lx (t ++ ([40] ++ ((printE x ++ sepS (r.map printE)) ++ [41]))) ([(1, t)] ++ ([(5, [40])] ++ ((toksE x ++ sepT (r.map toksE)) ++ [(5, [41])]))) R := Lx.app (name_L hnm (stop_40 _)) hop
        simpa [sepS, sepT] using hnl
/-- The words of a right tree's print. -/
theorem print_words {x : Expr} (h : allE nodeM x = true) (hg : allE rngN x = true) (hl : (printE x).length ≤ 4000) : ∃ (L : List Tok) (n : Nat), lexM (printE x) = (L ++ [⟨0, [], n⟩], 0, 0) ∧ L.map ktT = toksE x := by
  obtain ⟨M, hM, e⟩ := (print_PL (sizeE x) x (Nat.le_refl _) h hg).1 [] stop_nil ((printE x).length + 1) 0 (by simp)
  rw [List.append_nil] at e
  have e0 : lexG ((printE x).length + 1) (0 + (printE x).length) [] = [] := by
    unfold lexG
    rw [List.drop_nil, itemsF]
    rfl
  rw [e0, List.append_nil] at e
  have hi : itemsT (printE x) = M.map (fun t => (t, 0)) := by rw [itemsT_G]; exact e
  have := lexM_of hl (by rw [hi]; intro it hit; obtain ⟨t, _, rfl⟩ := List.mem_map.1 hit; rfl)
  refine ⟨M, (printE x).length, ?_, hM⟩
  rw [this, hi, List.map_map]
  simp [Function.comp_def]
/-- What is printed is parsed, unless brackets nest too deep. -/
theorem print_parse {x : Expr} (hr : refRightM x = true) (hg : allE rngN x = true) (hl : (printE x).length ≤ 4000) (hn : needE x ≤ 30) : parseM (printE x) = (x, 0, 0) := by
  have hnd : allE nodeM x = true := by
    unfold refRightM at hr
    rw [Bool.and_eq_true] at hr
    exact hr.2
  obtain ⟨L, n, e, hL⟩ := print_words hnd hg hl
  exact parse_toks e hL hr hg hn
end Go.SX.Nb
namespace Go.SX.Nb
open Go Go.SX Go.Proofs
variable [ErrAt]
set_option maxRecDepth 8000
/-! What was parsed nests no deeper than may be. -/
structure NB (N k : Nat) (r : Expr × PS) : Prop where
 nest : r.2.nest = N
 need : r.2.code = 0 → N + brkN k r.1 (needE r.1) ≤ 30
def NF (N k : Nat) (f : PS → Expr × PS) : Prop := ∀ S : PS, S.nest = N → NB N k (f S)
theorem brkN_mono {k k' : Nat} (h : k ≤ k') (x : Expr) (n : Nat) : brkN k x n ≤ brkN k' x n := by
 unfold brkN
 split
 ·split <;> omega
 ·rw [if_neg (by omega)]; exact Nat.le_refl _
theorem brkN_le (k : Nat) (x : Expr) (n : Nat) : n ≤ brkN k x n ∧ brkN k x n ≤ n + 1 := by unfold brkN; split <;> omega
theorem NB.down {N k k' : Nat} {r : Expr × PS} (h : NB N k' r) (hk : k ≤ k') : NB N k r := ⟨h.nest, fun h0 => by
 have := h.need h0
 have := brkN_mono hk r.1 (needE r.1)
 omega⟩
theorem NF.down {N k k' : Nat} {f : PS → Expr × PS} (h : NF N k' f) (hk : k ≤ k') : NF N k f := fun S hS => (h S hS).down hk
theorem fail_nest (e a : Int) (S : PS) : (failM e a S).nest = S.nest := by unfold failM; split <;> rfl
theorem fail_code {e a : Int} (he : e ≠ 0) (S : PS) : (failM e a S).code ≠ 0 := by
 unfold failM
 split
 ·exact he
 ·rename_i h; simpa using h
theorem want_nest (l : List Tok) (s : Str) (S : PS) : (wantM l s S).nest = S.nest := by
 unfold wantM
 split
 ·rfl
 ·split
  ·exact fail_nest _ _ _
  ·rfl
theorem want_code {l : List Tok} {s : Str} {S : PS} (h : (wantM l s S).code = 0) : S.code = 0 := by
 unfold wantM at h
 split at h
 ·exact h
 ·rename_i h0; simpa using h0
theorem within_NB {N k : Nat} {a : Int} {f : PS → Expr × PS} (hN : N ≤ 30) (hf : N < 30 → NF (N + 1) k f) {S : PS} (hS : S.nest = N) : (withinM a f S).2.nest = N ∧ ((withinM a f S).2.code = 0 → N + 1 + brkN k (withinM a f S).1 (needE (withinM a f S).1) ≤ 30) := by
 unfold withinM
 split
 ·exact ⟨(fail_nest _ _ _).trans hS, fun h => absurd h (fail_code (by decide) _)⟩
 ·rename_i h
  have hlt : N < 30 := by simp at h; omega
  have := hf hlt (deepM S) (by show S.nest + 1 = N + 1; omega)
  refine ⟨?_, fun h0 => this.need h0⟩
  show (f (deepM S)).2.nest - 1 = N
  rw [this.nest]
  rfl
theorem args_NB {N : Nat} {l : List Tok} {f : PS → Expr × PS} (hf : NF N 0 f) : ∀ (n : Nat) (r : List Expr × PS), r.2.nest = N → (r.2.code = 0 → ∀ y ∈ r.1, N + needE y ≤ 30) → (argsF l f n r).2.nest = N ∧ ((argsF l f n r).2.code = 0 → ∀ y ∈ (argsF l f n r).1, N + needE y ≤ 30)
 | 0, r, h1, h2 => ⟨h1, h2⟩
 | n + 1, r, h1, h2 => by
  rw [argsF]
  split
  ·rename_i hc
   simp only [Bool.and_eq_true, beq_iff_eq] at hc
   have hq := hf (nextM r.2) h1
   refine args_NB hf n _ hq.nest (fun h0 y hy => ?_)
   rcases List.mem_append.1 hy with hy | hy
   ·exact h2 hc.1 y hy
   ·rw [List.mem_singleton.1 hy]
    have := hq.need h0
    have := (brkN_le 0 (f (nextM r.2)).1 (needE (f (nextM r.2)).1)).1
    omega
  ·exact ⟨h1, h2⟩
theorem maxN_le {l : List Expr} {m : Nat} (h : ∀ y ∈ l, needE y ≤ m) : maxN (needL l) ≤ m := by
 induction l with
 | nil => exact Nat.zero_le _
 | cons a r ih =>
  rw [needL, maxN]
  have h1 := h a List.mem_cons_self
  have h2 := ih fun y hy => h y (List.mem_cons_of_mem _ hy)
  omega
theorem kids_NB {N : Nat} {l : List Tok} {a : Int} {f : PS → Expr × PS} (hN : N ≤ 30) (hf : N < 30 → NF (N + 1) 0 f) {S : PS} (hS : S.nest = N) : (kidsM l a f S).2.nest = N ∧ ((kidsM l a f S).2.code = 0 → ∀ y ∈ (kidsM l a f S).1, N + 1 + needE y ≤ 30) := by
 unfold kidsM
 split
 ·exact ⟨(fail_nest _ _ _).trans hS, fun h => absurd h (fail_code (by decide) _)⟩
 ·rename_i h
  have hlt : N < 30 := by simp at h; omega
  have hq := hf hlt (deepM S) (by show S.nest + 1 = N + 1; omega)
  obtain ⟨h1, h2⟩ := args_NB (l := l) (hf hlt) l.length ([(f (deepM S)).1], (f (deepM S)).2) hq.nest (fun h0 y hy => by
   rw [List.mem_singleton.1 hy]
   have := hq.need h0
   have := (brkN_le 0 (f (deepM S)).1 (needE (f (deepM S)).1)).1
   omega)
  refine ⟨?_, h2⟩
  show (argsM l f (deepM S)).2.nest - 1 = N
  unfold argsM
  rw [h1]
  rfl
theorem atom_NB {N : Nat} {l : List Tok} {D : Fam} (hN : N ≤ 30) (hD : N < 30 → NF (N + 1) 0 D.ei) : NF N 7 (atomM l D) := fun S hS => by
 have leaf : ∀ (x : Expr) (S' : PS), S'.nest = N → needE x = 0 → levE x = 7 → NB N 7 (x, S') := fun x S' h1 h2 h3 => ⟨h1, fun _ => by
  show N + brkN 7 x (needE x) ≤ 30
  unfold brkN
  rw [h3, h2, if_pos (by decide)]
  omega⟩
 have bad : ∀ (x : Expr) (S' : PS), S'.nest = N → S'.code ≠ 0 → NB N 7 (x, S') := fun x S' h1 h2 => ⟨h1, fun h => absurd h h2⟩
 unfold atomM
 split
 ·rename_i h; exact bad _ _ hS (by simpa using h)
 split
 ·exact leaf _ _ hS (need_val _) (lev_val _)
 split
 ·exact leaf _ _ hS (need_val _) (lev_val _)
 split
 ·split
  ·unfold callM
   split
   ·exact bad _ _ ((fail_nest _ _ _).trans hS) (fail_code (by decide) _)
   ·have hk := kids_NB (l := l) (a := (tokAt l (nextM S).i).at_) hN hD (show (nextM (nextM S)).nest = N from hS)
    split
    ·exact bad _ _ ((fail_nest _ _ _).trans ((want_nest _ _ _).trans hk.1)) (fail_code (by decide) _)
    ·refine ⟨(want_nest _ _ _).trans hk.1, fun h0 => ?_⟩
     have hkk := hk.2 (want_code h0)
     show N + brkN 7 (.mk 6 _ noV (callKM l D (nextM S)).1) (needE (.mk 6 _ noV (callKM l D (nextM S)).1)) ≤ 30
     rw [need_call]
     unfold brkN
     rw [lev_call, if_pos (by decide)]
     by_cases hlt : N < 30
     ·have := maxN_le (l := (callKM l D (nextM S)).1) (m := 30 - N - 1) (fun y hy => by have := hkk y hy; omega)
      omega
     ·exfalso
      have hc := want_code h0
      unfold callKM kidsM at hc
      rw [if_pos (by show ((S.nest : Int) == 30) = true; simp; omega)] at hc
      exact fail_code (by decide) _ hc
  ·exact leaf _ _ hS (need_name _) (lev_name _)
 split
 ·have hw := within_NB (a := (tokAt l S.i).at_) hN hD (show (nextM S).nest = N from hS)
  refine ⟨(want_nest _ _ _).trans hw.1, fun h0 => ?_⟩
  have h1 := hw.2 (want_code h0)
  have h2 := (brkN_le 0 (withinM (tokAt l S.i).at_ D.ei (nextM S)).1 (needE (withinM (tokAt l S.i).at_ D.ei (nextM S)).1)).1
  have h3 := (brkN_le 7 (withinM (tokAt l S.i).at_ D.ei (nextM S)).1 (needE (withinM (tokAt l S.i).at_ D.ei (nextM S)).1)).2
  show N + brkN 7 (withinM (tokAt l S.i).at_ D.ei (nextM S)).1 (needE (withinM (tokAt l S.i).at_ D.ei (nextM S)).1) ≤ 30
  omega
 ·exact bad _ _ ((fail_nest _ _ _).trans hS) (fail_code (by decide) _)
theorem neg_NB {N : Nat} {l : List Tok} {D : Fam} (hN : N ≤ 30) (hD : N < 30 → NF (N + 1) 0 D.ei) (hn : N < 30 → NF (N + 1) 6 D.ne) : NF N 6 (negM l D) := fun S hS => by
 unfold negM
 split
 ·exact (atom_NB hN hD S hS).down (by decide)
 ·have hw := within_NB (a := (tokAt l S.i).at_) hN hn (show (nextM S).nest = N from hS)
  refine ⟨hw.1, fun h0 => ?_⟩
  have h1 := hw.2 h0
  show N + brkN 6 (oneX 3 (withinM (tokAt l S.i).at_ D.ne (nextM S)).1) _ ≤ 30
  unfold brkN
  rw [lev_neg, if_pos (by decide), need_neg]
  omega
theorem left_NB {N k : Nat} {l : List Tok} {f : PS → Expr × PS} (hk : k = 0 ∨ k = 1 ∨ k = 4 ∨ k = 5) (hf : NF N (k + 1) f) : NF N k (leftM l (ofL k) f) := by
 have hloop : ∀ (n : Nat) (r : Expr × PS), NB N k r → NB N k (leftF l (ofL k) f n r) := by
  intro n
  induction n with
  | zero => exact fun r h => h
  | succ n ih =>
   intro r h
   rw [leftF]
   split
   ·rename_i hc
    simp only [Bool.and_eq_true, beq_iff_eq] at hc
    have hq := hf (nextM r.2) h.nest
    refine ih _ ⟨hq.nest, fun h0 => ?_⟩
    have hlv : levelM (tokAt l r.2.i).text = (k : Int) := by
     have hm := hc.2
     unfold isM at hm
     rw [Bool.and_eq_true] at hm
     have := hm.2
     rw [mark_level (ofL_left hk)] at this
     simpa using this
    have h1 := h.need hc.1
    have h2 := hq.need h0
    have hfl : firstL k = k := by unfold firstL; rw [if_neg (by omega)]
    show N + brkN k (binX (tokAt l r.2.i).text r.1 (f (nextM r.2)).1) (needE (binX (tokAt l r.2.i).text r.1 (f (nextM r.2)).1)) ≤ 30
    rw [need_bin, hlv]
    rw [show brkN k (binX (tokAt l r.2.i).text r.1 (f (nextM r.2)).1) _ = _ from if_pos (by rw [lev_bin, hlv]; simp)]
    rw [Int.toNat_natCast, hfl]
    omega
   ·exact h
 exact fun S hS => hloop _ _ ((hf S hS).down (Nat.le_succ k))
theorem cmp_NB {N : Nat} {l : List Tok} {D : Fam} (hf : NF N 4 (sumM l D)) : NF N 3 (compareM l D) := fun S hS => by
 unfold compareM
 split
 ·exact (hf S hS).down (by decide)
 ·rename_i hc
  simp only [Bool.or_eq_true, not_or, bne_iff_ne, ne_eq, Decidable.not_not, Bool.not_eq_true', Bool.not_eq_false] at hc
  have hx := hf S hS
  have hq := hf (nextM (sumM l D S).2) hx.nest
  refine ⟨hq.nest, fun h0 => ?_⟩
  have hlv : levelM (tokAt l (sumM l D S).2.i).text = ((3 : Nat) : Int) := by
   have hm := hc.2
   unfold isM at hm
   rw [Bool.and_eq_true] at hm
   have := hm.2
   rw [show cmpT = ofL 3 from rfl, mark_level (.inr (.inr (.inl rfl)))] at this
   simpa using this
  have h1 := hx.need hc.1
  have h2 := hq.need h0
  show N + brkN 3 (binX (tokAt l (sumM l D S).2.i).text (sumM l D S).1 (sumM l D (nextM (sumM l D S).2)).1) (needE (binX (tokAt l (sumM l D S).2.i).text (sumM l D S).1 (sumM l D (nextM (sumM l D S).2)).1)) ≤ 30
  rw [need_bin, hlv]
  rw [show brkN 3 (binX (tokAt l (sumM l D S).2.i).text (sumM l D S).1 (sumM l D (nextM (sumM l D S).2)).1) _ = _ from if_pos (by rw [lev_bin, hlv]; simp)]
  rw [Int.toNat_natCast, show firstL 3 = 4 from rfl, show 3 + 1 = 4 from rfl]
  omega
theorem not_NB {N : Nat} {l : List Tok} {D : Fam} (hN : N ≤ 30) (hf : NF N 3 (compareM l D)) (hn : N < 30 → NF (N + 1) 2 D.no) : NF N 2 (notM l D) := fun S hS => by
 unfold notM
 split
 ·exact (hf S hS).down (by decide)
 ·have hw := within_NB (a := (tokAt l S.i).at_) hN hn (show (nextM S).nest = N from hS)
  refine ⟨hw.1, fun h0 => ?_⟩
  have h1 := hw.2 h0
  show N + brkN 2 (oneX 4 (withinM (tokAt l S.i).at_ D.no (nextM S)).1) _ ≤ 30
  unfold brkN
  rw [lev_no, if_pos (by decide), need_no]
  omega
theorem fam_NB (l : List Tok) : ∀ (d N : Nat), N + d = 30 → NF N 0 (eitherM l (famM l d)) ∧ NF N 2 (notM l (famM l d)) ∧ NF N 6 (negM l (famM l d))
 | d, N, h => by
  have ih : N < 30 → NF (N + 1) 0 (famM l d).ei ∧ NF (N + 1) 2 (famM l d).no ∧ NF (N + 1) 6 (famM l d).ne := fun hlt => by
   match d, h with
   | 0, h => omega
   | d + 1, h => exact fam_NB l d (N + 1) (by omega)
  have hneg := neg_NB (l := l) (D := famM l d) (by omega) (fun h => (ih h).1) (fun h => (ih h).2.2)
  have hsum : NF N 4 (sumM l (famM l d)) := left_NB (k := 4) (by decide) (left_NB (k := 5) (by decide) hneg)
  have hno := not_NB (by omega) (cmp_NB hsum) (fun h => (ih h).2.1)
  exact ⟨left_NB (k := 0) (by decide) (left_NB (k := 1) (by decide) hno), hno, hneg⟩
theorem null_need : needE nullX ≤ 30 := by decide
/-- What was parsed needs no more than may be. -/
theorem parse_need {s : Str} (h : (parseM s).2.1 = 0) : needE (parseM s).1 ≤ 30 := by
 have hat : ∀ l i, (atM l i).2.2.1 = 0 → needE (atM l i).1 ≤ 30 := fun l i h0 => by
  unfold atM at h0 ⊢
  split
  ·exact null_need
  ·rename_i hc
   have hc : (atS l i (atR l i)).code = 0 := by simpa using hc
   have hr : (atR l i).2.code = 0 := by
    unfold atS at hc
    split at hc
    ·exact hc
    ·rename_i hh; simpa using hh
   have := ((fam_NB l 30 0 rfl).1 ⟨i, 0, 0, 0⟩ rfl).need hr
   have h2 := (brkN_le 0 (atR l i).1 (needE (atR l i).1)).1
   show needE (atR l i).1 ≤ 30
   unfold atR at h2 ⊢
   omega
 unfold parseM parseL at h ⊢
 split
 ·exact null_need
 ·split
  ·exact null_need
  ·rename_i h1
   split
   ·exact null_need
   ·exact hat _ _ (by simpa using h1)
end Go.SX.Nb
namespace Go.SX.Nb
open Go Go.SX Go.Proofs
variable [ErrAt]
set_option maxRecDepth 8000
/-! What nests too deep is told to be too deep. -/
theorem leftF_fail {l : List Tok} {of : Str} {f : PS → Expr × PS} {n : Nat} {r : Expr × PS} (h : r.2.code = 18) : (leftF l of f n r).2.code = 18 := by
 cases n with
 | zero => exact h
 | succ n => rw [leftF, if_neg (by rw [h]; simp)]; exact h
theorem argsF_fail {l : List Tok} {f : PS → Expr × PS} {n : Nat} {r : List Expr × PS} (h : r.2.code = 18) : (argsF l f n r).2.code = 18 := by
 cases n with
 | zero => exact h
 | succ n => rw [argsF, if_neg (by rw [h]; simp)]; exact h
theorem want_fail {l : List Tok} {s : Str} {S : PS} (h : S.code = 18) : (wantM l s S).code = 18 := by
 unfold wantM
 rw [if_pos (by rw [h]; decide)]
 exact h
theorem fail18 {a : Int} {S : PS} (h : S.code = 0) : (failM 18 a S).code = 18 := by
 unfold failM
 rw [if_pos (by rw [h]; decide)]
theorem fail_step {l : List Tok} {D : Fam} {k : Nat} (hk : k ≤ 6) {S : PS} (h : (pf l D (k + 1) S).2.code = 18) (hnot : k = 2 → isM l notT S = false) (hneg : k = 6 → isM l negT S = false) : (pf l D k S).2.code = 18 := by
 match k, hk with
 | 0, _ => exact leftF_fail h
 | 1, _ => exact leftF_fail h
 | 2, _ =>
  show (notM l D S).2.code = _
  unfold notM
  rw [hnot rfl]
  exact h
 | 3, _ =>
  show (compareM l D S).2.code = _
  have h' : (sumM l D S).2.code = 18 := h
  unfold compareM
  rw [if_pos (by rw [h']; rfl)]
  exact h'
 | 4, _ => exact leftF_fail h
 | 5, _ => exact leftF_fail h
 | 6, _ =>
  show (negM l D S).2.code = _
  unfold negM
  rw [hneg rfl]
  exact h
theorem fail_down {l : List Tok} {D : Fam} {S : PS} : ∀ (m k j : Nat), k + m = j → j ≤ 7 → (pf l D j S).2.code = 18 → (3 ≤ j → isM l notT S = false) → (7 ≤ j → isM l negT S = false) → (pf l D k S).2.code = 18
 | 0, k, j, e, _, h, _, _ => by rw [show k = j by omega]; exact h
 | m + 1, k, j, e, hj, h, h1, h2 => fail_step (by omega) (fail_down m (k + 1) j (by omega) hj h h1 h2) (fun _ => h1 (by omega)) (fun _ => h2 (by omega))
def F1 (l : List Tok) (x : Expr) : Prop := ∀ (k : Nat) (S : PS) (rest : List TK), k ≤ levE x → S.code = 0 → S.nest ≤ 30 → 30 < S.nest + needE x → seg l S.i = toksE x ++ rest → stops k rest → (pf l (fam l S.nest) k S).2.code = 18
def F2 (l : List Tok) (x : Expr) : Prop := ∀ (k : Nat) (S : PS) (rest : List TK), (k = 0 ∨ k = 1 ∨ k = 4 ∨ k = 5) → k ≤ levE x → S.code = 0 → S.nest ≤ 30 → 30 < S.nest + needE x → seg l S.i = toksE x ++ rest → stops (k + 1) rest → (leftM l (ofL k) (pf l (fam l S.nest) (k + 1)) S).2.code = 18
theorem within_fail {l : List Tok} {a : Int} {f : PS → Expr × PS} {S : PS} (h0 : S.code = 0) (hf : S.nest ≠ 30 → (f (deepM S)).2.code = 18) : (withinM a f S).2.code = 18 := by
 unfold withinM
 split
 ·exact fail18 h0
 ·rename_i h
  exact hf (by simp at h; omega)
theorem kid_fail {l : List Tok} {y : Expr} (hy : F1 l y) {k : Nat} (hk : k ≤ 7) {S : PS} {rest : List TK} (h0 : S.code = 0) (hN : S.nest ≤ 30) (hn : 30 < S.nest + brkN k y (needE y)) (hs : seg l S.i = brkT k y (toksE y) ++ rest) (hst : stops k rest) : (pf l (fam l S.nest) k S).2.code = 18 := by
 unfold brkT at hs
 unfold brkN at hn
 by_cases hl : k ≤ levE y
 ·rw [if_pos hl] at hs hn
  exact hy k S rest hl h0 hN hn hs hst
 ·rw [if_neg hl] at hs hn
  have hs' : seg l S.i = (5, [40]) :: (toksE y ++ (5, [41]) :: rest) := by rw [hs]; simp
  refine fail_down (7 - k) k 7 (by omega) (Nat.le_refl _) ?_ (fun _ => by rw [isM_seg hs', is_not]; decide) (fun _ => by rw [isM_seg hs', is_neg]; decide)
  obtain ⟨k1, t1, r1, i1⟩ := seg_cons hs'
  have e1 : isM l litT S = false := by rw [isM_seg hs', is_lit]; decide
  have e2 : isM l opT S = true := by rw [isM_seg hs', is_op]; decide
  show (atomM l (fam l S.nest) S).2.code = 18
  unfold atomM
  rw [if_neg (by rw [h0]; decide), k1, e1, if_neg (by decide), if_neg (by decide), if_neg (by decide), if_pos e2]
  refine want_fail (within_fail (l := l) h0 fun hne => ?_)
  have hne : S.nest ≠ 30 := hne
  rw [fam_deep (by omega)]
  exact hy 0 (deepM (nextM S)) ((5, [41]) :: rest) (Nat.zero_le _) h0 (by show S.nest + 1 ≤ 30; omega) (by show 30 < S.nest + 1 + needE y; omega) r1 (fun h r e hm => by
   injection e with e _
   subst e
   exact ⟨by decide, by decide⟩)
theorem F_of {l : List Tok} {x : Expr} (hx : allE nodeM x = true) (hA : ∀ (S : PS) (rest : List TK), S.code = 0 → S.nest ≤ 30 → 30 < S.nest + needE x → seg l S.i = toksE x ++ rest → stops (levE x) rest → (pf l (fam l S.nest) (levE x) S).2.code = 18)
  (hB : ∀ (S : PS) (rest : List TK), (levE x = 0 ∨ levE x = 1 ∨ levE x = 4 ∨ levE x = 5) → S.code = 0 → S.nest ≤ 30 → 30 < S.nest + needE x → seg l S.i = toksE x ++ rest → stops (levE x + 1) rest → (leftM l (ofL (levE x)) (pf l (fam l S.nest) (levE x + 1)) S).2.code = 18) : F1 l x ∧ F2 l x := by
 have h1 : F1 l x := fun k S rest hk h0 hN hn hs hst => by
  obtain ⟨g1, g2⟩ := head_is hx hs
  exact fail_down (levE x - k) k (levE x) (by omega) (levE_le x) (hA S rest h0 hN hn hs (hst.mono hk)) g1 g2
 refine ⟨h1, fun k S rest hk hkl h0 hN hn hs hst => ?_⟩
 rcases Nat.lt_or_ge k (levE x) with h | h
 ·exact leftF_fail (h1 (k + 1) S rest h h0 hN hn hs hst)
 ·obtain rfl : k = levE x := by omega
  exact hB S rest hk h0 hN hn hs hst
theorem leaf_F {l : List Tok} {x : Expr} (h : needE x = 0) : F1 l x ∧ F2 l x := ⟨fun k S rest _ _ hN hn _ _ => by omega, fun k S rest _ _ _ hN hn _ _ => by omega⟩
theorem neg_F {l : List Tok} {a : Expr} (hx : allE nodeM (oneX 3 a) = true) (ha : F1 l a) : F1 l (oneX 3 a) ∧ F2 l (oneX 3 a) := by
 refine F_of hx ?_ (fun S rest h => by rw [lev_neg] at h; omega)
 rw [lev_neg, toks_neg, need_neg]
 intro S rest h0 hN hn hs hst
 obtain ⟨_, _, s1, _⟩ := seg_cons hs
 show (negM l (fam l S.nest) S).2.code = _
 unfold negM
 rw [if_neg (by rw [isM_seg hs, is_neg]; decide)]
 refine within_fail (l := l) h0 fun hne => ?_
 have hne : S.nest ≠ 30 := hne
 rw [fam_deep (by omega)]
 exact kid_fail (l := l) (S := deepM (nextM S)) ha (k := 6) (by omega) h0 (show S.nest + 1 ≤ 30 by omega) (show 30 < S.nest + 1 + brkN 6 a (needE a) by omega) s1 hst
theorem no_F {l : List Tok} {a : Expr} (hx : allE nodeM (oneX 4 a) = true) (ha : F1 l a) : F1 l (oneX 4 a) ∧ F2 l (oneX 4 a) := by
 refine F_of hx ?_ (fun S rest h => by rw [lev_no] at h; omega)
 rw [lev_no, toks_no, need_no]
 intro S rest h0 hN hn hs hst
 obtain ⟨_, _, s1, _⟩ := seg_cons hs
 show (notM l (fam l S.nest) S).2.code = _
 unfold notM
 rw [if_neg (by rw [isM_seg hs, is_not]; decide)]
 refine within_fail (l := l) h0 fun hne => ?_
 have hne : S.nest ≠ 30 := hne
 rw [fam_deep (by omega)]
 exact kid_fail (l := l) (S := deepM (nextM S)) ha (k := 2) (by omega) h0 (show S.nest + 1 ≤ 30 by omega) (show 30 < S.nest + 1 + brkN 2 a (needE a) by omega) s1 hst
theorem bin_F {l : List Tok} {t : Str} {a b : Expr} (ht : 0 ≤ levelM t) (hx : allE nodeM (binX t a b) = true) (ha : T1 l a ∧ T2 l a) (fa : F1 l a ∧ F2 l a) (fb : F1 l b) : F1 l (binX t a b) ∧ F2 l (binX t a b) := by
 have hlv := level_le t
 obtain ⟨own, hown⟩ : ∃ own, own = (levelM t).toNat := ⟨_, rfl⟩
 have hoi : levelM t = (own : Int) := by omega
 have hB : ∀ (S : PS) (rest : List TK), (own = 0 ∨ own = 1 ∨ own = 4 ∨ own = 5) → S.code = 0 → S.nest ≤ 30 → 30 < S.nest + needE (binX t a b) → seg l S.i = toksE (binX t a b) ++ rest → stops (own + 1) rest →
   (leftM l (ofL own) (pf l (fam l S.nest) (own + 1)) S).2.code = 18 := by
  intro S rest hl h0 hN hn hs hst
  rw [toks_bin, ← hown, show firstL own = own by unfold firstL; split <;> omega] at hs
  rw [need_bin, ← hown, show firstL own = own by unfold firstL; split <;> omega] at hn
  have hs' : seg l S.i = brkT own a (toksE a) ++ (opTok t :: (brkT (own + 1) b (toksE b) ++ rest)) := by rw [hs]; simp
  by_cases hna : 30 < S.nest + brkN own a (needE a)
  ·by_cases hla : own ≤ levE a
   ·have e1 : brkT own a (toksE a) = toksE a := if_pos hla
    have e2 : brkN own a (needE a) = needE a := if_pos hla
    rw [e1] at hs'
    rw [e2] at hna
    exact fa.2 own S _ hl hla h0 hN hna hs' (stops_op ht (by omega))
   ·have e1 : brkT own a (toksE a) = brkT (own + 1) a (toksE a) := by unfold brkT; rw [if_neg hla, if_neg (by omega)]
    have e2 : brkN own a (needE a) = brkN (own + 1) a (needE a) := by unfold brkN; rw [if_neg hla, if_neg (by omega)]
    rw [e1] at hs'
    rw [e2] at hna
    exact leftF_fail (kid_fail fa.1 (by omega) h0 hN hna hs' (stops_op ht (by omega)))
  ·have hna : S.nest + brkN own a (needE a) ≤ 30 := by omega
   have hRA : ∃ n, l.length ≤ S.i + (brkT own a (toksE a)).length + n ∧ leftM l (ofL own) (pf l (fam l S.nest) (own + 1)) S = leftF l (ofL own) (pf l (fam l S.nest) (own + 1)) n (a, adv S (brkT own a (toksE a)).length) := by
    by_cases hla : own ≤ levE a
    ·have e1 : brkT own a (toksE a) = toksE a := if_pos hla
     have e2 : brkN own a (needE a) = needE a := if_pos hla
     rw [e1] at hs' ⊢
     rw [e2] at hna
     exact ha.2 own S _ hl hla h0 hna hs' (stops_op ht (by omega))
    ·have e1 : brkT own a (toksE a) = brkT (own + 1) a (toksE a) := by unfold brkT; rw [if_neg hla, if_neg (by omega)]
     have e2 : brkN own a (needE a) = brkN (own + 1) a (needE a) := by unfold brkN; rw [if_neg hla, if_neg (by omega)]
     rw [e1] at hs' ⊢
     rw [e2] at hna
     refine ⟨l.length, by omega, ?_⟩
     unfold leftM
     rw [kid_at ha.1 (by omega) h0 hna hs' (stops_op ht (by omega))]
   obtain ⟨n, hn1, hn2⟩ := hRA
   have s1' : seg l (adv S (brkT own a (toksE a)).length).i = opTok t :: (brkT (own + 1) b (toksE b) ++ rest) := seg_skip hs'
   obtain ⟨_, tx, s2, i1⟩ := seg_cons s1'
   obtain ⟨m, rfl⟩ : ∃ m, n = m + 1 := ⟨n - 1, by have : S.i + (brkT own a (toksE a)).length < l.length := i1; omega⟩
   rw [hn2, leftF, if_pos (by
    show (((adv S (brkT own a (toksE a)).length).code == 0) && isM l (ofL own) (adv S (brkT own a (toksE a)).length)) = true
    rw [op_is s1', mark_level (ofL_left hl), hoi]
    show ((S.code == 0) && _) = true
    rw [h0]
    simp)]
   refine leftF_fail ?_
   exact kid_fail (l := l) (S := nextM (adv S (brkT own a (toksE a)).length)) fb (k := own + 1) (by omega) h0 hN (show 30 < S.nest + brkN (own + 1) b (needE b) by omega) s2 hst
 refine F_of hx ?_ ?_
 ·rw [lev_bin, ← hown]
  intro S rest h0 hN hn hs hst
  by_cases h3 : own = 3
  ·subst h3
   rw [toks_bin, ← hown] at hs
   rw [need_bin, ← hown] at hn
   have e4 : firstL 3 = 4 := rfl
   rw [e4] at hs hn
   have hn4 : 30 < S.nest + max (brkN 4 a (needE a)) (brkN 4 b (needE b)) := hn
   have hs' : seg l S.i = brkT 4 a (toksE a) ++ (opTok t :: (brkT 4 b (toksE b) ++ rest)) := by rw [hs]; simp
   show (compareM l (fam l S.nest) S).2.code = _
   by_cases hna : 30 < S.nest + brkN 4 a (needE a)
   ·have h1 : (sumM l (fam l S.nest) S).2.code = 18 := kid_fail (k := 4) fa.1 (by omega) h0 hN hna hs' (stops_op ht (by omega))
    unfold compareM
    rw [if_pos (by rw [h1]; rfl)]
    exact h1
   ·have h1 : sumM l (fam l S.nest) S = (a, adv S (brkT 4 a (toksE a)).length) := kid_at (k := 4) ha.1 (by omega) h0 (by omega) hs' (stops_op ht (by omega))
    have s1 : seg l (adv S (brkT 4 a (toksE a)).length).i = opTok t :: (brkT 4 b (toksE b) ++ rest) := seg_skip hs'
    obtain ⟨_, tx, s2, i1⟩ := seg_cons s1
    have h2 : isM l cmpT (adv S (brkT 4 a (toksE a)).length) = true := by
     rw [op_is s1, show cmpT = ofL 3 from rfl, mark_level (by omega), hoi]
     rfl
    unfold compareM
    rw [h1, if_neg (by rw [h2]; show ¬ (((S.code != 0) || _) = true); rw [h0]; decide)]
    exact kid_fail (l := l) (S := nextM (adv S (brkT 4 a (toksE a)).length)) fb (k := 4) (by omega) h0 hN (show 30 < S.nest + brkN 4 b (needE b) by omega) s2 (hst.mono (by omega))
  ·have hl : own = 0 ∨ own = 1 ∨ own = 4 ∨ own = 5 := by omega
   rw [pf_left hl]
   exact hB S rest hl h0 hN hn hs (hst.mono (by omega))
 ·rw [lev_bin, ← hown]
  exact hB
end Go.SX.Nb
namespace Go.SX.Nb
open Go Go.SX Go.Proofs
variable [ErrAt]
set_option maxRecDepth 8000
theorem maxN_mem : ∀ {k : List Expr}, k ≠ [] → ∃ y ∈ k, maxN (needL k) ≤ needE y
 | [a], _ => ⟨a, by simp, by simp [needL, maxN]⟩
 | a :: b :: r, _ => by
  obtain ⟨y, hy, h⟩ := maxN_mem (k := b :: r) (by simp)
  by_cases hle : needE a ≤ maxN (needL (b :: r))
  ·exact ⟨y, List.mem_cons_of_mem _ hy, by rw [needL, maxN]; omega⟩
  ·exact ⟨a, List.mem_cons_self, by rw [needL, maxN]; omega⟩
theorem stops_sep {ks : List Expr} {rest : List TK} (hst : stops 0 rest) : stops 0 (sepT (toksL ks) ++ rest) := by
 cases ks with
 | nil => exact hst
 | cons z ks =>
  intro h r e _
  injection e with e _
  subst e
  exact ⟨by decide, by decide⟩
theorem args_F {l : List Tok} {nst : Nat} (hN : nst ≤ 30) {rest : List TK} (hst : stops 0 rest) : ∀ (ks : List Expr), (∀ y ∈ ks, T1 l y) → (∀ y ∈ ks, F1 l y) → ∀ (acc : List Expr) (S : PS) (n : Nat), S.nest = nst → S.code = 0 → (∃ y ∈ ks, 30 < nst + needE y) → seg l S.i = sepT (toksL ks) ++ rest → l.length ≤ S.i + n →
  (argsF l (pf l (fam l nst) 0) n (acc, S)).2.code = 18
 | [], _, _, acc, S, n, _, _, ⟨y, hy, _⟩, _, _ => by cases hy
 | y :: ks, hT, hF, acc, S, n, hS, h0, hex, hs, hn => by
  have hs' : seg l S.i = (5, [44]) :: (toksE y ++ (sepT (toksL ks) ++ rest)) := by rw [hs]; simp [toksL, sepT]
  obtain ⟨_, _, s1, i1⟩ := seg_cons hs'
  obtain ⟨m, rfl⟩ : ∃ m, n = m + 1 := ⟨n - 1, by omega⟩
  rw [argsF, if_pos (by
   show ((S.code == 0) && isM l commaT S) = true
   rw [h0, isM_seg hs', is_comma]
   decide)]
  show (argsF l (pf l (fam l nst) 0) m (acc ++ [(pf l (fam l nst) 0 (nextM S)).1], (pf l (fam l nst) 0 (nextM S)).2)).2.code = _
  by_cases hy : 30 < nst + needE y
  ·refine argsF_fail ?_
   have := hF y List.mem_cons_self 0 (nextM S) _ (Nat.zero_le _) h0 (show S.nest ≤ 30 by omega) (show 30 < S.nest + needE y by omega) s1 (stops_sep hst)
   rw [← hS]
   exact this
  ·have h1 := hT y List.mem_cons_self 0 (nextM S) _ (Nat.zero_le _) h0 (show S.nest + needE y ≤ 30 by omega) s1 (stops_sep hst)
   have h1' : pf l (fam l nst) 0 (nextM S) = (y, adv (nextM S) (toksE y).length) := by rw [← hS]; exact h1
   rw [h1']
   obtain ⟨z, hz, hzn⟩ := hex
   refine args_F hN hst ks (fun w hw => hT w (List.mem_cons_of_mem _ hw)) (fun w hw => hF w (List.mem_cons_of_mem _ hw)) _ (adv (nextM S) (toksE y).length) m hS h0 ?_ (seg_skip s1) (by show l.length ≤ S.i + 1 + (toksE y).length + m; omega)
   rcases List.mem_cons.1 hz with rfl | hz
   ·omega
   ·exact ⟨z, hz, hzn⟩
theorem call_F {l : List Tok} {t : Str} {k : List Expr} (hx : allE nodeM (.mk 6 t noV k) = true) (ha : arityM t = (k.length : Int)) (h1 : 1 ≤ k.length) (hT : ∀ y ∈ k, T1 l y) (hF : ∀ y ∈ k, F1 l y) : F1 l (.mk 6 t noV k) ∧ F2 l (.mk 6 t noV k) := by
 refine F_of hx ?_ (fun S rest h => by rw [lev_call] at h; omega)
 rw [lev_call, toks_call, need_call]
 intro S rest h0 hN hn hs hst
 match k, h1, ha, hT, hF, hn, hs with
 | y :: ks, _, ha, hT, hF, hn, hs =>
 rw [toksL, sep_drop] at hs
 have hs' : seg l S.i = (1, t) :: ((5, [40]) :: (toksE y ++ (sepT (toksL ks) ++ ((5, [41]) :: rest)))) := by rw [hs]; simp
 obtain ⟨k1, t1, s1, i1⟩ := seg_cons hs'
 have s1' : seg l (nextM S).i = (5, [40]) :: (toksE y ++ (sepT (toksL ks) ++ ((5, [41]) :: rest))) := s1
 obtain ⟨k2, t2, s2, i2⟩ := seg_cons s1'
 have hz : stops 0 (((5, [41]) : TK) :: rest) := fun h r e _ => by
  injection e with e _
  subst e
  exact ⟨by decide, by decide⟩
 have hk : (callKM l (fam l S.nest) (nextM S)).2.code = 18 := by
  unfold callKM kidsM
  by_cases h30 : S.nest = 30
  ·rw [if_pos (by show ((S.nest : Int) == 30) = true; rw [h30]; rfl)]
   exact fail18 h0
  ·rw [if_neg (by show ¬ (((S.nest : Int) == 30) = true); simp; omega), fam_deep (by omega)]
   show (argsF l (pf l (fam l (S.nest + 1)) 0) l.length ([(pf l (fam l (S.nest + 1)) 0 (deepM (nextM (nextM S)))).1], (pf l (fam l (S.nest + 1)) 0 (deepM (nextM (nextM S)))).2)).2.code = 18
   obtain ⟨z, hzm, hzn⟩ := maxN_mem (k := y :: ks) (by simp)
   by_cases hy : 30 < S.nest + 1 + needE y
   ·exact argsF_fail (hF y List.mem_cons_self 0 (deepM (nextM (nextM S))) _ (Nat.zero_le _) h0 (show S.nest + 1 ≤ 30 by omega) hy s2 (stops_sep hz))
   ·have h1 := hT y List.mem_cons_self 0 (deepM (nextM (nextM S))) _ (Nat.zero_le _) h0 (show S.nest + 1 + needE y ≤ 30 by omega) s2 (stops_sep hz)
    have h1' : pf l (fam l (S.nest + 1)) 0 (deepM (nextM (nextM S))) = (y, adv (deepM (nextM (nextM S))) (toksE y).length) := h1
    rw [h1']
    refine args_F (l := l) (nst := S.nest + 1) (by omega) hz ks (fun w hw => hT w (List.mem_cons_of_mem _ hw)) (fun w hw => hF w (List.mem_cons_of_mem _ hw)) [y] (adv (deepM (nextM (nextM S))) (toksE y).length) l.length rfl h0 ?_ (seg_skip s2) (by omega)
    rcases List.mem_cons.1 hzm with rfl | hzm
    ·omega
    ·exact ⟨z, hzm, by omega⟩
 show (atomM l (fam l S.nest) S).2.code = _
 have e1 : isM l litT S = false := by rw [isM_seg (show seg l S.i = (1, t) :: _ from hs')]; rfl
 have e2 : isM l opT (nextM S) = true := by rw [isM_seg s1', is_op]; decide
 unfold atomM
 rw [if_neg (by rw [h0]; decide), k1, e1, if_neg (by decide), if_neg (by decide), if_pos (by decide), if_pos e2]
 unfold callM
 have hw : (wantM l closeT (callKM l (fam l S.nest) (nextM S)).2).code = 18 := want_fail hk
 rw [t1, if_neg (by rw [ha]; omega), if_neg (by rw [hw]; simp)]
 exact hw
theorem deep_main (l : List Tok) : ∀ (n : Nat) (x : Expr), sizeE x ≤ n → allE nodeM x = true → allE rngN x = true → F1 l x ∧ F2 l x
 | 0, x, hn, _, _ => by have := sizeE_eq x; omega
 | n + 1, x, hn, hnd, hrg => by
  have hnd0 := hnd
  have hrg0 := hrg
  rw [allE_eq, Bool.and_eq_true] at hnd0 hrg0
  have ih : ∀ y ∈ x.kids, F1 l y ∧ F2 l y := fun y hy => deep_main l n y (size_kids hn hy) ((allL_iff _ _).1 hnd0.2 y hy) ((allL_iff _ _).1 hrg0.2 y hy)
  have iT : ∀ y ∈ x.kids, T1 l y ∧ T2 l y := fun y hy => parse_main l _ y (Nat.le_refl _) ((allL_iff _ _).1 hnd0.2 y hy) ((allL_iff _ _).1 hrg0.2 y hy)
  have hNC := node_cases hnd0.1
  cases hNC with
  | val v hp h0 => exact leaf_F (need_val v)
  | name t ht => exact leaf_F (need_name t)
  | neg a => exact neg_F hnd (ih a (by simp [oneX, Expr.kids])).1
  | no a => exact no_F hnd (ih a (by simp [oneX, Expr.kids])).1
  | bin t a b ht => exact bin_F ht hnd (iT a (by simp [binX, Expr.kids])) (ih a (by simp [binX, Expr.kids])) (ih b (by simp [binX, Expr.kids])).1
  | call t k ht =>
   refine call_F hnd ht ?_ (fun y hy => (iT y (by simpa [Expr.kids] using hy)).1) (fun y hy => (ih y (by simpa [Expr.kids] using hy)).1)
   have := arity_pos t
   omega
/-- A tree's print that nests too deep is told to. -/
theorem parse_deep {s : Str} {x : Expr} {L : List Tok} {n : Nat} (hl : lexM s = (L ++ [⟨0, [], n⟩], 0, 0)) (hL : L.map ktT = toksE x) (hx : allE nodeM x = true) (hg : allE rngN x = true) (hn : 30 < needE x) : (parseM s).2.1 = 18 := by
 have hseg : seg (L ++ [⟨0, [], n⟩]) 0 = toksE x ++ [(0, [])] := by
  unfold seg
  rw [List.drop_zero, List.map_append, hL]
  rfl
 have h1 : (atR (L ++ [⟨0, [], n⟩]) 0).2.code = 18 := (deep_main _ _ x (Nat.le_refl _) hx hg).1 0 ⟨0, 0, 0, 0⟩ [(0, [])] (Nat.zero_le _) rfl (by show 0 ≤ 30; omega) (by show 30 < 0 + needE x; omega) hseg (fun h r e hm => by
  injection e with e _
  subst e
  cases hm)
 have h2 : (atS (L ++ [⟨0, [], n⟩]) 0 (atR (L ++ [⟨0, [], n⟩]) 0)).code = 18 := by
  unfold atS
  rw [if_pos (by rw [h1]; rfl)]
  exact h1
 have h3 : (atM (L ++ [⟨0, [], n⟩]) 0).2.2.1 = 18 := by
  unfold atM
  rw [if_pos (by rw [h2]; rfl)]
  exact h2
 unfold parseM parseL
 rw [hl]
 simp only
 rw [if_neg (by decide), if_pos (by rw [h3]; rfl)]
 exact h3
/-- What is printed is parsed, or it nests too deep. -/
theorem print_deep {x : Expr} (hr : refRightM x = true) (hg : allE rngN x = true) (hl : (printE x).length ≤ 4000) (hn : 30 < needE x) : (parseM (printE x)).2.1 = 18 := by
 have hnd : allE nodeM x = true := by
  unfold refRightM at hr
  rw [Bool.and_eq_true] at hr
  exact hr.2
 obtain ⟨L, n, e, hL⟩ := print_words hnd hg hl
 exact parse_deep e hL hnd hg hn
end Go.SX.Nb
namespace Go.SX.Nb
open Go Go.SX Go.Proofs
variable [ErrAt]
set_option maxRecDepth 8000
/-! What was parsed is right, where the words are the lexer's. -/
/-- What the lexer's words are. -/
structure WordOk (t : Tok) : Prop where
 name : t.kind = 1 → nameM t.text = true
 num : t.kind = 3 → plainM (readM t.text).1 = true ∧ 0 ≤ (readM t.text).1.n ∧ (readM t.text).1.n ≤ 9223372036854775807
def RB (r : Expr × PS) : Prop := r.2.code = 0 → allE nodeM r.1 = true ∧ allE rngN r.1 = true
def RF (N : Nat) (f : PS → Expr × PS) : Prop := ∀ S : PS, S.nest = N → RB (f S)
theorem node_bin {t : Str} {x y : Expr} (ht : 0 ≤ levelM t) : nodeM (binX t x y) = true := by
 rw [node_one, binX, nodeOne_mk]
 simp [ht, show bareM noV = true from rfl]
theorem node_one3 (x : Expr) : nodeM (oneX 3 x) = true := by rw [node_one, oneX, nodeOne_mk]; simp [show bareM noV = true from rfl]
theorem node_one4 (x : Expr) : nodeM (oneX 4 x) = true := by rw [node_one, oneX, nodeOne_mk]; simp [show bareM noV = true from rfl]
theorem node_valX {v : Val} (h : plainM v = true) (h0 : 0 ≤ v.n) : nodeM (valX v) = true := by rw [node_one, valX, nodeOne_mk]; simp [h, h0]
theorem node_nameE {t : Str} (h : nameM t = true) : nodeM (nameE t) = true := by rw [node_one, nameE, nodeOne_mk]; simp [h, show bareM ⟨0, 0, []⟩ = true from rfl]
theorem node_call {t : Str} {k : List Expr} (h : arityM t = (k.length : Int)) : nodeM (.mk 6 t noV k) = true := by rw [node_one, nodeOne_mk]; simp [h, show bareM noV = true from rfl]
theorem bin_RB {t : Str} {x y : Expr} (ht : 0 ≤ levelM t) (hx : allE nodeM x = true ∧ allE rngN x = true) (hy : allE nodeM y = true ∧ allE rngN y = true) : allE nodeM (binX t x y) = true ∧ allE rngN (binX t x y) = true := by
 rw [allE_eq, allE_eq]
 refine ⟨?_, ?_⟩
 ·rw [node_bin ht]
  show (true && (allE nodeM x && (allE nodeM y && true))) = true
  rw [hx.1, hy.1]; rfl
 ·show (rngN (binX t x y) && (allE rngN x && (allE rngN y && true))) = true
  rw [hx.2, hy.2]; rfl
theorem one_RB {o : Int} {x : Expr} (ho : nodeM (oneX o x) = true) (hx : allE nodeM x = true ∧ allE rngN x = true) : allE nodeM (oneX o x) = true ∧ allE rngN (oneX o x) = true := by
 rw [allE_eq, allE_eq]
 refine ⟨?_, ?_⟩
 ·rw [ho]
  show (true && (allE nodeM x && true)) = true
  rw [hx.1]; rfl
 ·show (rngN (oneX o x) && (allE rngN x && true)) = true
  rw [hx.2]; rfl
theorem leaf_RB {x : Expr} (hn : nodeM x = true) (hr : rngN x = true) (hk : x.kids = []) : allE nodeM x = true ∧ allE rngN x = true := by
 rw [allE_eq, allE_eq, hk, hn, hr]
 exact ⟨rfl, rfl⟩
theorem within_RB {N : Nat} {a : Int} {f : PS → Expr × PS} (hN : N ≤ 30) (hf : N < 30 → RF (N + 1) f) {S : PS} (hS : S.nest = N) : RB (withinM a f S) := by
 unfold withinM
 split
 ·exact fun h => absurd h (fail_code (by decide) _)
 ·rename_i h
  exact hf (by simp at h; omega) (deepM S) (by show S.nest + 1 = N + 1; omega)
theorem args_RB {N : Nat} {l : List Tok} {f : PS → Expr × PS} (hn : NF N 0 f) (hf : RF N f) : ∀ (n : Nat) (r : List Expr × PS), r.2.nest = N → (r.2.code = 0 → ∀ y ∈ r.1, allE nodeM y = true ∧ allE rngN y = true) → ((argsF l f n r).2.code = 0 → ∀ y ∈ (argsF l f n r).1, allE nodeM y = true ∧ allE rngN y = true)
 | 0, r, h1, h2 => h2
 | n + 1, r, h1, h2 => by
  rw [argsF]
  split
  ·rename_i hc
   simp only [Bool.and_eq_true, beq_iff_eq] at hc
   refine args_RB hn hf n _ (hn (nextM r.2) h1).nest (fun h0 y hy => ?_)
   rcases List.mem_append.1 hy with hy | hy
   ·exact h2 hc.1 y hy
   ·rw [List.mem_singleton.1 hy]
    exact hf (nextM r.2) h1 h0
  ·exact h2
theorem lit_val {t : Str} (h : isMarkM t litT = true) : plainM (readM t).1 = true ∧ 0 ≤ (readM t).1.n ∧ (readM t).1.n ≤ 9223372036854775807 := by
 rw [is_lit] at h
 simp only [Bool.and_eq_true, litWords, List.contains_cons, List.contains_nil, Bool.or_false, Bool.or_eq_true, beq_iff_eq] at h
 rcases h.2 with rfl | rfl | rfl
 ·exact ⟨by kernel_rfl, by decide +kernel, by decide +kernel⟩
 ·exact ⟨by kernel_rfl, by decide +kernel, by decide +kernel⟩
 ·exact ⟨by kernel_rfl, by decide +kernel, by decide +kernel⟩
theorem rng_val {v : Val} (h0 : 0 ≤ v.n) (h1 : v.n ≤ 9223372036854775807) : rngN (valX v) = true := by
 show (decide (-9223372036854775808 ≤ v.n) && decide (v.n ≤ 9223372036854775807)) = true
 simp only [Bool.and_eq_true, decide_eq_true_eq]
 omega
theorem atom_RB {N : Nat} {l : List Tok} {D : Fam} (hw : ∀ i, WordOk (tokAt l i)) (hN : N ≤ 30) (hD : N < 30 → NF (N + 1) 0 D.ei) (hR : N < 30 → RF (N + 1) D.ei) : RF N (atomM l D) := fun S hS => by
 have val : ∀ (v : Val) (S' : PS), plainM v = true → 0 ≤ v.n → v.n ≤ 9223372036854775807 → RB (valX v, S') := fun v S' h1 h2 h3 _ => leaf_RB (node_valX h1 h2) (rng_val h2 h3) rfl
 unfold atomM
 split
 ·rename_i h; exact fun h0 => absurd h0 (by simpa using h)
 split
 ·rename_i h1 h2
  rw [Bool.or_eq_true] at h2
  rcases h2 with h2 | h2
  ·obtain ⟨a, b, c⟩ := (hw S.i).num (by simpa using h2)
   exact val _ _ a b c
  ·unfold isM at h2
   rw [Bool.and_eq_true] at h2
   obtain ⟨a, b, c⟩ := lit_val h2.2
   exact val _ _ a b c
 split
 ·refine val _ _ ?_ (by show (0 : Int) ≤ 0; decide) (by show (0 : Int) ≤ 9223372036854775807; decide)
  exact (fine_cut _).plain
 split
 ·rename_i h1
  have hnm := (hw S.i).name (by simpa using h1)
  split
  ·unfold callM
   split
   ·exact fun h => absurd h (fail_code (by decide) _)
   ·split
    ·exact fun h => absurd h (fail_code (by decide) _)
    ·rename_i h2 h3
     intro h0
     have h0' : (wantM l closeT (callKM l D (nextM S)).2).code = 0 := h0
     have hlen : ((callKM l D (nextM S)).1.length : Int) = arityM (tokAt l S.i).text := by
      rw [h0'] at h3
      simpa using h3
     have hc := want_code h0'
     have hkids : ∀ y ∈ (callKM l D (nextM S)).1, allE nodeM y = true ∧ allE rngN y = true := by
      unfold callKM kidsM at hc ⊢
      by_cases h30 : ((nextM (nextM S)).nest : Int) == 30
      ·rw [if_pos h30] at hc
       exact absurd hc (fail_code (by decide) _)
      ·rw [if_neg h30] at hc ⊢
       have hlt : N < 30 := by
        have : (nextM (nextM S)).nest = N := hS
        rw [this] at h30
        simp at h30
        omega
       have hd : (deepM (nextM (nextM S))).nest = N + 1 := by show S.nest + 1 = N + 1; omega
       exact args_RB (l := l) (hD hlt) (hR hlt) l.length ([(D.ei (deepM (nextM (nextM S)))).1], (D.ei (deepM (nextM (nextM S)))).2) (hD hlt _ hd).nest (fun h0 y hy => by rw [List.mem_singleton.1 hy]; exact hR hlt _ hd h0) hc
     show allE nodeM (.mk 6 _ noV _) = true ∧ allE rngN (.mk 6 _ noV _) = true
     rw [allE_eq, allE_eq, node_call hlen.symm]
     exact ⟨by rw [Bool.true_and]; exact (allL_iff _ _).2 fun y hy => (hkids y hy).1, by
      rw [Bool.and_eq_true]
      exact ⟨rfl, (allL_iff _ _).2 fun y hy => (hkids y hy).2⟩⟩
  ·exact fun _ => leaf_RB (node_nameE hnm) rfl rfl
 split
 ·intro h0
  exact within_RB hN hR (show (nextM S).nest = N from hS) (want_code h0)
 ·exact fun h => absurd h (fail_code (by decide) _)
theorem left_RB {N k : Nat} {l : List Tok} {f : PS → Expr × PS} (hk : k = 0 ∨ k = 1 ∨ k = 4 ∨ k = 5) (hn : NF N (k + 1) f) (hf : RF N f) : RF N (leftM l (ofL k) f) := by
 have hloop : ∀ (n : Nat) (r : Expr × PS), r.2.nest = N → RB r → RB (leftF l (ofL k) f n r) := by
  intro n
  induction n with
  | zero => exact fun r _ h => h
  | succ n ih =>
   intro r hr h
   rw [leftF]
   split
   ·rename_i hc
    simp only [Bool.and_eq_true, beq_iff_eq] at hc
    refine ih _ (hn (nextM r.2) hr).nest (fun h0 => ?_)
    have hlv : levelM (tokAt l r.2.i).text = (k : Int) := by
     have hm := hc.2
     unfold isM at hm
     rw [Bool.and_eq_true] at hm
     have := hm.2
     rw [mark_level (ofL_left hk)] at this
     simpa using this
    exact bin_RB (by omega) (h hc.1) (hf (nextM r.2) hr h0)
   ·exact h
 exact fun S hS => hloop _ _ (hn S hS).nest (hf S hS)
theorem cmp_RB {N : Nat} {l : List Tok} {D : Fam} (hn : NF N 4 (sumM l D)) (hf : RF N (sumM l D)) : RF N (compareM l D) := fun S hS => by
 unfold compareM
 split
 ·exact hf S hS
 ·rename_i hc
  simp only [Bool.or_eq_true, not_or, bne_iff_ne, ne_eq, Decidable.not_not, Bool.not_eq_true', Bool.not_eq_false] at hc
  intro h0
  have hlv : levelM (tokAt l (sumM l D S).2.i).text = ((3 : Nat) : Int) := by
   have hm := hc.2
   unfold isM at hm
   rw [Bool.and_eq_true] at hm
   have := hm.2
   rw [show cmpT = ofL 3 from rfl, mark_level (.inr (.inr (.inl rfl)))] at this
   simpa using this
  exact bin_RB (by omega) (hf S hS hc.1) (hf (nextM (sumM l D S).2) (hn S hS).nest h0)
theorem fam_RB (l : List Tok) (hw : ∀ i, WordOk (tokAt l i)) : ∀ (d N : Nat), N + d = 30 → RF N (eitherM l (famM l d)) ∧ RF N (notM l (famM l d)) ∧ RF N (negM l (famM l d))
 | d, N, h => by
  have ihn : N < 30 → NF (N + 1) 0 (famM l d).ei ∧ NF (N + 1) 2 (famM l d).no ∧ NF (N + 1) 6 (famM l d).ne := fun hlt => by
   match d, h with
   | 0, h => omega
   | d + 1, h => exact fam_NB l d (N + 1) (by omega)
  have ih : N < 30 → RF (N + 1) (famM l d).ei ∧ RF (N + 1) (famM l d).no ∧ RF (N + 1) (famM l d).ne := fun hlt => by
   match d, h with
   | 0, h => omega
   | d + 1, h => exact fam_RB l hw d (N + 1) (by omega)
  have hN : N ≤ 30 := by omega
  have hnegN := neg_NB (l := l) (D := famM l d) hN (fun h => (ihn h).1) (fun h => (ihn h).2.2)
  have hneg : RF N (negM l (famM l d)) := fun S hS => by
   unfold negM
   split
   ·exact atom_RB hw hN (fun h => (ihn h).1) (fun h => (ih h).1) S hS
   ·exact fun h0 => one_RB (node_one3 _) (within_RB hN (fun h => (ih h).2.2) (show (nextM S).nest = N from hS) h0)
  have hprodN : NF N 5 (prodM l (famM l d)) := left_NB (k := 5) (by decide) hnegN
  have hprod : RF N (prodM l (famM l d)) := left_RB (k := 5) (by decide) hnegN hneg
  have hsumN : NF N 4 (sumM l (famM l d)) := left_NB (k := 4) (by decide) hprodN
  have hsum : RF N (sumM l (famM l d)) := left_RB (k := 4) (by decide) hprodN hprod
  have hcmpN := cmp_NB hsumN
  have hcmp := cmp_RB hsumN hsum
  have hnoN := not_NB (l := l) (D := famM l d) hN hcmpN (fun h => (ihn h).2.1)
  have hno : RF N (notM l (famM l d)) := fun S hS => by
   unfold notM
   split
   ·exact hcmp S hS
   ·exact fun h0 => one_RB (node_one4 _) (within_RB hN (fun h => (ih h).2.1) (show (nextM S).nest = N from hS) h0)
  have hboN : NF N 1 (bothM l (famM l d)) := left_NB (k := 1) (by decide) hnoN
  have hbo : RF N (bothM l (famM l d)) := left_RB (k := 1) (by decide) hnoN hno
  exact ⟨left_RB (k := 0) (by decide) hboN hbo, hno, hneg⟩
/-! The lexer's words. -/
theorem run_head {c : UInt8} {r of : Str} (h : decide (0 < runM ((c :: r).take 1) of) = true) : of.contains c = true := by
 rw [show (c :: r).take 1 = [c] from rfl, run_one] at h
 cases hc : of.contains c with
 | true => rfl
 | false => rw [hc] at h; simp at h
theorem digs_val {q : Str} (h0 : q ≠ []) (ha : ∀ c ∈ q, digs.contains c = true) (he : (readM q).2 = 0) : plainM (readM q).1 = true ∧ 0 ≤ (readM q).1.n ∧ (readM q).1.n ≤ 9223372036854775807 := by
 cases q with
 | nil => exact absurd rfl h0
 | cons c r =>
 have hc := ha c List.mem_cons_self
 have hn := digs_not c hc
 have n1 : ((c :: r : Str) == [110, 117, 108, 108]) = false := by rw [beq_eq_false_iff_ne]; intro e; injection e with e; exact hn.2.2.2.1 e
 have n2 : ((c :: r : Str) == [116, 114, 117, 101]) = false := by rw [beq_eq_false_iff_ne]; intro e; injection e with e; exact hn.2.2.2.2.1 e
 have n3 : ((c :: r : Str) == [102, 97, 108, 115, 101]) = false := by rw [beq_eq_false_iff_ne]; intro e; injection e with e; exact hn.2.2.2.2.2 e
 have hq : quotM (c :: r) = false := by
  unfold quotM
  have : Lib.hasPrefix (c :: r) [39] = false := by simp [Lib.hasPrefix, List.isPrefixOf, Ne.symm hn.2.2.1]
  rw [this]
  simp
 unfold readM at he ⊢
 rw [n1, n2, n3, hq] at he ⊢
 simp only [Bool.false_eq_true, if_false, Bool.or_self] at he ⊢
 split at he
 ·rename_i h1
  rw [if_pos h1]
  have hb : numBad (c :: r) = false := by
   cases hb : numBad (c :: r) with
   | false => rfl
   | true => unfold numReadM at h1; rw [hb] at h1; simp at h1
  unfold numReadM at h1 ⊢
  rw [hb] at h1 ⊢
  simp only [Bool.false_eq_true, if_false] at h1 ⊢
  have h43 : c.toNat ≠ 43 := fun e => hn.2.1 (UInt8.toNat_inj.1 (by rw [e]; rfl))
  have h45 : c.toNat ≠ 45 := fun e => hn.1 (UInt8.toNat_inj.1 (by rw [e]; rfl))
  have hp := Lib.parseIntB_plain 64 c r h43 h45
  cases hv : Lib.parseIntB 64 (c :: r) with
  | ok v =>
   have hb := Lib.parseIntB_bounds hv
   simp only [show ((2 ^ (64 - 1) : Nat) : Int) = 9223372036854775808 by decide] at hb
   rw [hp] at hv
   have h0 : 0 ≤ v := by
    cases hu : Lib.parseUintB 64 (c :: r) with
    | ok u =>
     rw [hu] at hv
     have e : Lib.signlessC (2 ^ (64 - 1)) (.ok u) = if 2 ^ (64 - 1) ≤ u then .range else .ok (u : Int) := rfl
     rw [e] at hv
     split at hv
     ·cases hv
     ·injection hv with hv
      omega
    | _ => rw [hu] at hv; cases hv
   exact ⟨rfl, h0, by show v ≤ 9223372036854775807; omega⟩
  | _ => first | (rw [hv] at h1; simp at h1; done) | (exact ⟨rfl, Int.le_refl 0, by show (0 : Int) ≤ 9223372036854775807; decide⟩)
 ·rename_i h1
  split at he
  ·simp at he
  ·simp at he
theorem take_all {p : UInt8 → Bool} : ∀ {l : Str} {b : UInt8}, b ∈ l.takeWhile p → p b = true
 | [], _, h => by cases h
 | a :: r, b, h => by
  rw [List.takeWhile_cons] at h
  by_cases ha : p a = true
  ·rw [if_pos ha] at h
   rcases List.mem_cons.1 h with rfl | h
   ·exact ha
   ·exact take_all h
  ·rw [if_neg ha] at h
   cases h
theorem wordOk_of {s : Str} {n : Nat} (h0 : s ≠ []) (he : (wordM s).2.2.2 = 0) : WordOk ⟨(wordM s).1, (wordM s).2.1, n⟩ := by
 cases s with
 | nil => exact absurd rfl h0
 | cons c r =>
 unfold wordM at he ⊢
 by_cases h1 : decide (0 < runM ((c :: r).take 1) letters) = true
 ·rw [if_pos h1] at he
  simp only [if_pos h1]
  unfold namedM at he ⊢
  by_cases r1 : lexReservedM (wordOf (c :: r) tails) = true
  ·simp only [if_pos r1]
   exact ⟨(fun h => by cases h), (fun h => by cases h)⟩
  ·rw [if_neg r1] at he
   simp only [if_neg r1]
   by_cases r2 : (!lexNameM (wordOf (c :: r) tails)) = true
   ·rw [if_pos r2] at he; simp at he
   ·simp only [if_neg r2]
    exact ⟨fun _ => by rw [← lexName_eq]; simpa using r2, fun h => by cases h⟩
 ·rw [if_neg h1] at he
  simp only [if_neg h1]
  by_cases h2 : decide (0 < runM ((c :: r).take 1) digs) = true
  ·rw [if_pos h2] at he
   simp only [if_pos h2]
   unfold numberM at he ⊢
   refine ⟨(fun h => by cases h), fun _ => digs_val ?_ (fun b hb => ?_) he⟩
   ·show wordOf (c :: r) digs ≠ []
    rw [wordOf_eq, List.takeWhile_cons, run_head h2]
    simp
   ·have hb : b ∈ wordOf (c :: r) digs := hb
    rw [wordOf_eq] at hb
    exact take_all hb
  ·rw [if_neg h2] at he
   simp only [if_neg h2]
   by_cases h3 : ((((c :: r).getD 0 0).toNat : Int) == 39) = true
   ·rw [if_pos h3] at he
    simp only [if_pos h3]
    unfold quotedM at he ⊢
    split
    ·exact ⟨(fun h => by cases h), (fun h => by cases h)⟩
    ·split
     ·exact ⟨(fun h => by cases h), (fun h => by cases h)⟩
     ·exact ⟨(fun h => by cases h), (fun h => by cases h)⟩
   ·simp only [if_neg h3]
    unfold signM
    split
    ·exact ⟨(fun h => by cases h), (fun h => by cases h)⟩
    ·split
     ·exact ⟨(fun h => by cases h), (fun h => by cases h)⟩
     ·exact ⟨(fun h => by cases h), (fun h => by cases h)⟩
theorem items_ok : ∀ (f q : Nat) (s : Str), ∀ it ∈ itemsF f q s, it.2 = 0 → WordOk it.1
 | 0, _, _, it, h, _ => by cases h
 | f + 1, q, s, it, h, h0 => by
  rw [itemsF] at h
  split at h
  ·cases h
  ·rename_i hs
   have hne : s ≠ [] := by rintro rfl; exact hs rfl
   rcases List.mem_cons.1 h with rfl | h
   ·exact wordOk_of hne h0
   ·split at h
    ·exact items_ok f _ _ it h h0
    ·cases h
theorem end_ok (n : Nat) : WordOk ⟨0, [], n⟩ := ⟨(fun h => by cases h), (fun h => by cases h)⟩
/-- What was parsed is right. -/
theorem parse_right {s : Str} (h : (parseM s).2.1 = 0) : refRightM (parseM s).1 = true ∧ allE rngN (parseM s).1 = true := by
 have hlex : (lexM s).2.1 = 0 ∧ (atM (lexM s).1 0).2.2.1 = 0 ∧ (parseM s).1 = (atM (lexM s).1 0).1 := by
  unfold parseM parseL at h ⊢
  by_cases h1 : ((lexM s).2.1 != 0) = true
  ·rw [if_pos h1] at h
   rw [show (lexM s).2.1 = 0 from h] at h1
   cases h1
  ·rw [if_neg h1] at h ⊢
   by_cases h2 : ((atM (lexM s).1 0).2.2.1 != 0) = true
   ·rw [if_pos h2] at h
    rw [show (atM (lexM s).1 0).2.2.1 = 0 from h] at h2
    cases h2
   ·rw [if_neg h2] at h ⊢
    by_cases h3 : ((tokAt (lexM s).1 (atM (lexM s).1 0).2.1.toNat).kind != 0) = true
    ·rw [if_pos h3] at h; cases h
    ·rw [if_neg h3]
     exact ⟨by simpa using h1, by simpa using h2, rfl⟩
 obtain ⟨hl, ha, he⟩ := hlex
 obtain ⟨_, hi, hM⟩ := lexM_ok hl
 have hw : ∀ i, WordOk (tokAt (lexM s).1 i) := fun i => by
  have hall : ∀ t ∈ (lexM s).1, WordOk t := fun t ht => by
   rw [hM] at ht
   rcases List.mem_append.1 ht with ht | ht
   ·obtain ⟨it, hit, rfl⟩ := List.mem_map.1 ht
    exact items_ok _ _ _ it hit (hi it hit)
   ·rw [List.mem_singleton.1 ht]
    exact end_ok _
  unfold tokAt
  rw [List.getD_eq_getElem?_getD]
  cases hg : (lexM s).1[i]? with
  | none => exact ⟨(fun h => by cases h), (fun h => by cases h)⟩
  | some t => exact hall t (List.mem_of_getElem? hg)
 rw [he]
 unfold atM at ha ⊢
 by_cases hc : ((atS (lexM s).1 0 (atR (lexM s).1 0)).code != 0) = true
 ·rw [if_pos hc] at ha
  rw [show (atS (lexM s).1 0 (atR (lexM s).1 0)).code = 0 from ha] at hc
  cases hc
 ·rw [if_neg hc]
  have hc : (atS (lexM s).1 0 (atR (lexM s).1 0)).code = 0 := by simpa using hc
  have h0 : (atR (lexM s).1 0).2.code = 0 ∧ depthE (atR (lexM s).1 0).1 ≤ 30 ∧ sizeE (atR (lexM s).1 0).1 ≤ 300 := by
   unfold atS at hc
   split at hc
   ·rename_i hh; exact absurd hc (by simpa using hh)
   ·rename_i hh
    split at hc
    ·exact absurd hc (fail_code (by decide) _)
    ·rename_i h2
     split at hc
     ·exact absurd hc (fail_code (by decide) _)
     ·rename_i h3
      simp only [decide_eq_true_eq, Int.not_lt] at h2 h3
      exact ⟨by simpa using hh, by omega, by omega⟩
  have := (fam_RB _ hw 30 0 rfl).1 ⟨0, 0, 0, 0⟩ rfl h0.1
  refine ⟨?_, this.2⟩
  unfold refRightM
  rw [Bool.and_eq_true, Bool.and_eq_true]
  exact ⟨⟨by simpa using h0.2.1, by simpa using h0.2.2⟩, this.1⟩
end Go.SX.Nb
namespace Go.SX.Nb
open Go Go.SX Go.Proofs
variable [ErrAt]
set_option maxRecDepth 8000
/-! The parse laws where nothing is too deep. -/
abbrev famG (B : Nat) (l : List Tok) (n : Nat) : Fam := famM l (B - n)
theorem fam_deepG {B : Nat} {l : List Tok} {n : Nat} (h : n < B) : famG B l n = ⟨pf l (famG B l (n + 1)) 0, pf l (famG B l (n + 1)) 2, pf l (famG B l (n + 1)) 6⟩ := by
 unfold famG
 rw [show B - n = (B - (n + 1)) + 1 by omega]
 rfl
def T1G (B : Nat) (l : List Tok) (x : Expr) : Prop := ∀ (k : Nat) (S : PS) (rest : List TK), k ≤ levE x → S.code = 0 → (31 ≤ S.nest ∧ S.nest + needE x ≤ B) → seg l S.i = toksE x ++ rest → stops k rest → pf l (famG B l S.nest) k S = (x, adv S (toksE x).length)
def T2G (B : Nat) (l : List Tok) (x : Expr) : Prop := ∀ (k : Nat) (S : PS) (rest : List TK), (k = 0 ∨ k = 1 ∨ k = 4 ∨ k = 5) → k ≤ levE x → S.code = 0 → (31 ≤ S.nest ∧ S.nest + needE x ≤ B) → seg l S.i = toksE x ++ rest → stops (k + 1) rest →
 ∃ n, l.length ≤ S.i + (toksE x).length + n ∧ leftM l (ofL k) (pf l (famG B l S.nest) (k + 1)) S = leftF l (ofL k) (pf l (famG B l S.nest) (k + 1)) n (x, adv S (toksE x).length)
theorem brk_atomG {B : Nat} {l : List Tok} {y : Expr} (hy : T1G B l y) {S : PS} {rest : List TK} (h0 : S.code = 0) (hn : (31 ≤ S.nest ∧ S.nest + (needE y + 1) ≤ B)) (hs : seg l S.i = ((5, [40]) :: (toksE y ++ [(5, [41])])) ++ rest) :
  pf l (famG B l S.nest) 7 S = (y, adv S ((5, [40]) :: (toksE y ++ [((5, [41]) : TK)])).length) := by
 have hs' : seg l S.i = (5, [40]) :: (toksE y ++ (5, [41]) :: rest) := by rw [hs]; simp
 obtain ⟨k1, t1, r1, i1⟩ := seg_cons hs'
 have e1 : isM l litT S = false := by rw [isM_seg hs', is_lit]; decide
 have e2 : isM l opT S = true := by rw [isM_seg hs', is_op]; decide
 show atomM l (famG B l S.nest) S = _
 unfold atomM
 rw [if_neg (by rw [h0]; decide), k1, e1, if_neg (by decide), if_neg (by decide), if_neg (by decide), if_pos e2]
 have hw : withinM (tokAt l S.i).at_ (famG B l S.nest).ei (nextM S) = (y, adv (nextM S) (toksE y).length) := by
  unfold withinM
  rw [if_neg (by show ¬ (((S.nest : Int) == 30) = true); simp; omega), fam_deepG (by omega)]
  have := hy 0 (deepM (nextM S)) ((5, [41]) :: rest) (Nat.zero_le _) h0 (by show (31 ≤ S.nest + 1 ∧ S.nest + 1 + needE y ≤ B); omega) r1 (fun h r e hm => by
   injection e with e _
   subst e
   exact ⟨by decide, by decide⟩)
  show ((pf l (famG B l (S.nest + 1)) 0 (deepM (nextM S))).1, riseM (pf l (famG B l (S.nest + 1)) 0 (deepM (nextM S))).2) = _
  have this' : pf l (famG B l (S.nest + 1)) 0 (deepM (nextM S)) = (y, adv (deepM (nextM S)) (toksE y).length) := this
  rw [this']
  rfl
 rw [hw]
 have r2 := seg_skip r1
 have hc : wantM l closeT (adv (nextM S) (toksE y).length) = adv (nextM S) ((toksE y).length + 1) := by
  obtain ⟨k2, t2, _, _⟩ := seg_cons r2
  unfold wantM
  rw [if_neg (by show ¬ ((S.code != 0) = true); rw [h0]; decide)]
  have k2' : (tokAt l (adv (nextM S) (toksE y).length).i).kind = 5 := k2
  have t2' : (tokAt l (adv (nextM S) (toksE y).length).i).text = [41] := t2
  rw [k2', t2', if_neg (by decide)]
  rfl
 show (y, wantM l closeT (adv (nextM S) (toksE y).length)) = _
 rw [hc, adv_next, adv_adv]
 congr 2
 simp
 omega
theorem kid_atG {B : Nat} {l : List Tok} {y : Expr} (hy : T1G B l y) {k : Nat} (hk : k ≤ 7) {S : PS} {rest : List TK} (h0 : S.code = 0) (hn : (31 ≤ S.nest ∧ S.nest + brkN k y (needE y) ≤ B)) (hs : seg l S.i = brkT k y (toksE y) ++ rest) (hst : stops k rest) :
  pf l (famG B l S.nest) k S = (y, adv S (brkT k y (toksE y)).length) := by
 unfold brkT at hs ⊢
 unfold brkN at hn
 by_cases hl : k ≤ levE y
 ·rw [if_pos hl] at hs hn ⊢
  exact hy k S rest hl h0 hn hs hst
 ·rw [if_neg hl] at hs hn ⊢
  have hs' : seg l S.i = (5, [40]) :: (toksE y ++ (5, [41]) :: rest) := by rw [hs]; simp
  exact pf_down h0 (seg_skip hs) (7 - k) k 7 (by omega) (Nat.le_refl _) (brk_atomG hy h0 (by omega) hs) hst (fun _ => by rw [isM_seg hs', is_not]; decide) (fun _ => by rw [isM_seg hs', is_neg]; decide)
theorem T_ofG {B : Nat} {l : List Tok} {x : Expr} (hx : allE nodeM x = true) (hA : ∀ (S : PS) (rest : List TK), S.code = 0 → (31 ≤ S.nest ∧ S.nest + needE x ≤ B) → seg l S.i = toksE x ++ rest → stops (levE x) rest → pf l (famG B l S.nest) (levE x) S = (x, adv S (toksE x).length))
  (hB : ∀ (S : PS) (rest : List TK), (levE x = 0 ∨ levE x = 1 ∨ levE x = 4 ∨ levE x = 5) → S.code = 0 → (31 ≤ S.nest ∧ S.nest + needE x ≤ B) → seg l S.i = toksE x ++ rest → stops (levE x + 1) rest →
   ∃ n, l.length ≤ S.i + (toksE x).length + n ∧ leftM l (ofL (levE x)) (pf l (famG B l S.nest) (levE x + 1)) S = leftF l (ofL (levE x)) (pf l (famG B l S.nest) (levE x + 1)) n (x, adv S (toksE x).length)) : T1G B l x ∧ T2G B l x := by
 have h1 : T1G B l x := fun k S rest hk h0 hn hs hst => by
  obtain ⟨g1, g2⟩ := head_is hx hs
  exact pf_down h0 (seg_skip hs) (levE x - k) k (levE x) (by omega) (levE_le x) (hA S rest h0 hn hs (hst.mono hk)) hst g1 g2
 refine ⟨h1, fun k S rest hk hkl h0 hn hs hst => ?_⟩
 rcases Nat.lt_or_ge k (levE x) with h | h
 ·refine ⟨l.length, by omega, ?_⟩
  unfold leftM
  rw [h1 (k + 1) S rest h h0 hn hs hst]
 ·obtain rfl : k = levE x := by omega
  exact hB S rest hk h0 hn hs hst
theorem bin_TG {B : Nat} {l : List Tok} {t : Str} {a b : Expr} (ht : 0 ≤ levelM t) (hx : allE nodeM (binX t a b) = true) (ha : T1G B l a ∧ T2G B l a) (hb : T1G B l b) : T1G B l (binX t a b) ∧ T2G B l (binX t a b) := by
 have hlv := level_le t
 obtain ⟨own, hown⟩ : ∃ own, own = (levelM t).toNat := ⟨_, rfl⟩
 have hoi : levelM t = (own : Int) := by omega
 have hB : ∀ (S : PS) (rest : List TK), (own = 0 ∨ own = 1 ∨ own = 4 ∨ own = 5) → S.code = 0 → (31 ≤ S.nest ∧ S.nest + needE (binX t a b) ≤ B) → seg l S.i = toksE (binX t a b) ++ rest → stops (own + 1) rest →
   ∃ n, l.length ≤ S.i + (toksE (binX t a b)).length + n ∧ leftM l (ofL own) (pf l (famG B l S.nest) (own + 1)) S = leftF l (ofL own) (pf l (famG B l S.nest) (own + 1)) n (binX t a b, adv S (toksE (binX t a b)).length) := by
  intro S rest hl h0 hn hs hst
  rw [toks_bin, ← hown, show firstL own = own by unfold firstL; split <;> omega] at hs ⊢
  rw [need_bin, ← hown, show firstL own = own by unfold firstL; split <;> omega] at hn
  have hs' : seg l S.i = brkT own a (toksE a) ++ (opTok t :: (brkT (own + 1) b (toksE b) ++ rest)) := by rw [hs]; simp
  have hna : (31 ≤ S.nest ∧ S.nest + brkN own a (needE a) ≤ B) := by omega
  have hRA : ∃ n, l.length ≤ S.i + (brkT own a (toksE a)).length + n ∧ leftM l (ofL own) (pf l (famG B l S.nest) (own + 1)) S = leftF l (ofL own) (pf l (famG B l S.nest) (own + 1)) n (a, adv S (brkT own a (toksE a)).length) := by
   by_cases hla : own ≤ levE a
   ·have e1 : brkT own a (toksE a) = toksE a := if_pos hla
    have e2 : brkN own a (needE a) = needE a := if_pos hla
    rw [e1] at hs' ⊢
    rw [e2] at hna
    exact ha.2 own S _ hl hla h0 hna hs' (stops_op ht (by omega))
   ·have e1 : brkT own a (toksE a) = brkT (own + 1) a (toksE a) := by unfold brkT; rw [if_neg hla, if_neg (by omega)]
    have e2 : brkN own a (needE a) = brkN (own + 1) a (needE a) := by unfold brkN; rw [if_neg hla, if_neg (by omega)]
    rw [e1] at hs' ⊢
    rw [e2] at hna
    refine ⟨l.length, by omega, ?_⟩
    unfold leftM
    rw [kid_atG ha.1 (by omega) h0 hna hs' (stops_op ht (by omega))]
  obtain ⟨n, hn1, hn2⟩ := hRA
  have s1 := seg_skip hs'
  have s1' : seg l (adv S (brkT own a (toksE a)).length).i = opTok t :: (brkT (own + 1) b (toksE b) ++ rest) := s1
  obtain ⟨_, tx, s2, i1⟩ := seg_cons s1'
  obtain ⟨m, rfl⟩ : ∃ m, n = m + 1 := ⟨n - 1, by have : S.i + (brkT own a (toksE a)).length < l.length := i1; omega⟩
  refine ⟨m, by simp only [List.length_append, List.length_cons]; omega, ?_⟩
  rw [hn2, leftF, if_pos (by
   show (((adv S (brkT own a (toksE a)).length).code == 0) && isM l (ofL own) (adv S (brkT own a (toksE a)).length)) = true
   rw [op_is s1', mark_level (ofL_left hl), hoi]
   show ((S.code == 0) && _) = true
   rw [h0]
   simp)]
  have hk := kid_atG (l := l) (S := adv S ((brkT own a (toksE a)).length + 1)) hb (k := own + 1) (by omega) h0 (show (31 ≤ S.nest ∧ S.nest + brkN (own + 1) b (needE b) ≤ B) by omega) s2 hst
  have e3 : nextM (adv S (brkT own a (toksE a)).length) = adv S ((brkT own a (toksE a)).length + 1) := by rw [adv_next, adv_adv]
  show leftF l (ofL own) _ m (binX (tokAt l (adv S (brkT own a (toksE a)).length).i).text a (pf l (famG B l S.nest) (own + 1) (nextM (adv S (brkT own a (toksE a)).length))).1, (pf l (famG B l S.nest) (own + 1) (nextM (adv S (brkT own a (toksE a)).length))).2) = _
  rw [e3, tx, show pf l (famG B l S.nest) (own + 1) (adv S ((brkT own a (toksE a)).length + 1)) = _ from hk, adv_adv]
  exact congrArg (fun n => leftF l (ofL own) (pf l (famG B l S.nest) (own + 1)) m (binX t a b, adv S n)) (by simp only [List.length_append, List.length_cons]; omega)
 refine T_ofG hx ?_ ?_
 ·rw [lev_bin, ← hown]
  intro S rest h0 hn hs hst
  by_cases h3 : own = 3
  ·subst h3
   rw [toks_bin, ← hown] at hs ⊢
   rw [need_bin, ← hown] at hn
   have e4 : firstL 3 = 4 := rfl
   rw [e4] at hs hn ⊢
   have hn4 : (31 ≤ S.nest ∧ S.nest + max (brkN 4 a (needE a)) (brkN 4 b (needE b)) ≤ B) := hn
   have hs' : seg l S.i = brkT 4 a (toksE a) ++ (opTok t :: (brkT 4 b (toksE b) ++ rest)) := by rw [hs]; simp
   have h1 : sumM l (famG B l S.nest) S = (a, adv S (brkT 4 a (toksE a)).length) := kid_atG (k := 4) ha.1 (by omega) h0 (by omega) hs' (stops_op ht (by omega))
   have s1 : seg l (adv S (brkT 4 a (toksE a)).length).i = opTok t :: (brkT 4 b (toksE b) ++ rest) := seg_skip hs'
   obtain ⟨_, tx, s2, i1⟩ := seg_cons s1
   have h2 : isM l cmpT (adv S (brkT 4 a (toksE a)).length) = true := by
    rw [op_is s1, show cmpT = ofL 3 from rfl, mark_level (by omega), hoi]
    rfl
   have h4 : sumM l (famG B l S.nest) (adv S ((brkT 4 a (toksE a)).length + 1)) = _ := kid_atG (l := l) (S := adv S ((brkT 4 a (toksE a)).length + 1)) hb (k := 4) (by omega) h0 (show (31 ≤ S.nest ∧ S.nest + brkN 4 b (needE b) ≤ B) by omega) s2 (hst.mono (by omega))
   show compareM l (famG B l S.nest) S = _
   unfold compareM
   rw [h1, if_neg (by rw [h2]; show ¬ (((S.code != 0) || _) = true); rw [h0]; decide), adv_next, adv_adv, h4, tx, adv_adv]
   refine Prod.ext rfl ?_
   show adv S _ = adv S (brkT 4 a (toksE a) ++ opTok t :: brkT 4 b (toksE b)).length
   congr 1
   simp only [List.length_append, List.length_cons]
   omega
  ·have hl : own = 0 ∨ own = 1 ∨ own = 4 ∨ own = 5 := by omega
   obtain ⟨n, _, h⟩ := hB S rest hl h0 hn hs (hst.mono (by omega))
   rw [pf_left hl, h]
   have hf : isM l (ofL own) (adv S (toksE (binX t a b)).length) = false := stops_isM hst (seg_skip hs) (ofL_left hl)
   cases n with
   | zero => rfl
   | succ n => rw [leftF, if_neg (by rw [hf]; simp)]
 ·rw [lev_bin, ← hown]
  exact hB
theorem neg_TG {B : Nat} {l : List Tok} {a : Expr} (hx : allE nodeM (oneX 3 a) = true) (ha : T1G B l a) : T1G B l (oneX 3 a) ∧ T2G B l (oneX 3 a) := by
 refine T_ofG hx ?_ (fun S rest h => by rw [lev_neg] at h; omega)
 rw [lev_neg, toks_neg, need_neg]
 intro S rest h0 hn hs hst
 obtain ⟨_, _, s1, _⟩ := seg_cons hs
 show negM l (famG B l S.nest) S = _
 unfold negM
 rw [if_neg (by rw [isM_seg hs, is_neg]; decide)]
 have hk := kid_atG (l := l) (S := deepM (nextM S)) ha (k := 6) (by omega) h0 (show (31 ≤ S.nest + 1 ∧ S.nest + 1 + brkN 6 a (needE a) ≤ B) by omega) s1 hst
 have hw : withinM (tokAt l S.i).at_ (famG B l S.nest).ne (nextM S) = (a, adv (nextM S) (brkT 6 a (toksE a)).length) := by
  unfold withinM
  rw [if_neg (by show ¬ (((S.nest : Int) == 30) = true); simp; omega), fam_deepG (by omega)]
  show ((pf l (famG B l (S.nest + 1)) 6 (deepM (nextM S))).1, riseM (pf l (famG B l (S.nest + 1)) 6 (deepM (nextM S))).2) = _
  rw [show pf l (famG B l (S.nest + 1)) 6 (deepM (nextM S)) = _ from hk]
  rfl
 rw [hw, adv_next, adv_adv]
 exact congrArg (fun n => (oneX 3 a, adv S n)) (by simp only [List.length_cons]; omega)
theorem no_TG {B : Nat} {l : List Tok} {a : Expr} (hx : allE nodeM (oneX 4 a) = true) (ha : T1G B l a) : T1G B l (oneX 4 a) ∧ T2G B l (oneX 4 a) := by
 refine T_ofG hx ?_ (fun S rest h => by rw [lev_no] at h; omega)
 rw [lev_no, toks_no, need_no]
 intro S rest h0 hn hs hst
 obtain ⟨_, _, s1, _⟩ := seg_cons hs
 show notM l (famG B l S.nest) S = _
 unfold notM
 rw [if_neg (by rw [isM_seg hs, is_not]; decide)]
 have hk := kid_atG (l := l) (S := deepM (nextM S)) ha (k := 2) (by omega) h0 (show (31 ≤ S.nest + 1 ∧ S.nest + 1 + brkN 2 a (needE a) ≤ B) by omega) s1 hst
 have hw : withinM (tokAt l S.i).at_ (famG B l S.nest).no (nextM S) = (a, adv (nextM S) (brkT 2 a (toksE a)).length) := by
  unfold withinM
  rw [if_neg (by show ¬ (((S.nest : Int) == 30) = true); simp; omega), fam_deepG (by omega)]
  show ((pf l (famG B l (S.nest + 1)) 2 (deepM (nextM S))).1, riseM (pf l (famG B l (S.nest + 1)) 2 (deepM (nextM S))).2) = _
  rw [show pf l (famG B l (S.nest + 1)) 2 (deepM (nextM S)) = _ from hk]
  rfl
 rw [hw, adv_next, adv_adv]
 exact congrArg (fun n => (oneX 4 a, adv S n)) (by simp only [List.length_cons]; omega)
theorem name_TG {B : Nat} {l : List Tok} {t : Str} (hx : allE nodeM (nameE t) = true) : T1G B l (nameE t) ∧ T2G B l (nameE t) := by
 refine T_ofG hx ?_ (fun S rest h => by rw [lev_name] at h; omega)
 rw [lev_name, toks_name]
 intro S rest h0 hn hs hst
 obtain ⟨k1, t1, s1, _⟩ := seg_cons (show seg l S.i = (1, t) :: rest from hs)
 show atomM l (famG B l S.nest) S = _
 have e1 : isM l litT S = false := by rw [isM_seg (show seg l S.i = (1, t) :: rest from hs)]; rfl
 have e2 : isM l opT (nextM S) = false := by
  cases rest with
  | nil => exact isM_nil s1
  | cons h r =>
   obtain ⟨k2, t2⟩ := h
   rw [isM_seg (show seg l (nextM S).i = (k2, t2) :: r from s1), is_op]
   cases hb : ((k2 == 5) || (k2 == 2)) with
   | false => rfl
   | true =>
    have : t2 ≠ [40] := (hst _ _ rfl hb).2
    rw [Bool.true_and, beq_eq_false_iff_ne]
    exact this
 unfold atomM
 rw [if_neg (by rw [h0]; decide), k1, e1, if_neg (by decide), if_neg (by decide), if_pos (by decide), e2, if_neg (by decide), t1]
 rfl
theorem args_TG {B : Nat} {l : List Tok} {nst : Nat} {rest : List TK} (hst : stops 0 rest) (hc : ∀ h r, rest = h :: r → isWord h [44] = false) : ∀ (ks : List Expr), (∀ y ∈ ks, T1G B l y) → ∀ (acc : List Expr) (S : PS) (n : Nat), S.nest = nst → S.code = 0 → (∀ y ∈ ks, (31 ≤ nst ∧ nst + needE y ≤ B)) → seg l S.i = sepT (toksL ks) ++ rest → l.length ≤ S.i + n →
  argsF l (pf l (famG B l nst) 0) n (acc, S) = (acc ++ ks, adv S (sepT (toksL ks)).length)
 | [], _, acc, S, n, hN, h0, _, hs, _ => by
  have hf : isM l commaT S = false := by
   have hs' : seg l S.i = rest := hs
   cases rest with
   | nil => exact isM_nil hs'
   | cons h r => obtain ⟨k2, t2⟩ := h; rw [isM_seg hs', is_comma]; exact hc _ _ rfl
  cases n with
  | zero => rw [argsF, List.append_nil]; rfl
  | succ n => rw [argsF, if_neg (by rw [hf]; simp), List.append_nil]; rfl
 | y :: ks, hT, acc, S, n, hN, h0, hnd, hs, hn => by
  have hs' : seg l S.i = (5, [44]) :: (toksE y ++ (sepT (toksL ks) ++ rest)) := by rw [hs]; simp [toksL, sepT]
  obtain ⟨_, _, s1, i1⟩ := seg_cons hs'
  obtain ⟨m, rfl⟩ : ∃ m, n = m + 1 := ⟨n - 1, by omega⟩
  have hy := hT y (by simp) 0 (nextM S) (sepT (toksL ks) ++ rest) (Nat.zero_le _) h0 (by have := hnd y (by simp); show (31 ≤ S.nest ∧ S.nest + _ ≤ B); omega) s1 (by
   cases ks with
   | nil => exact hst
   | cons z ks =>
    intro h r e _
    injection e with e _
    subst e
    exact ⟨by decide, by decide⟩)
  have hy' : pf l (famG B l nst) 0 (nextM S) = (y, adv (nextM S) (toksE y).length) := by rw [← hN]; exact hy
  rw [argsF, if_pos (by
   show ((S.code == 0) && isM l commaT S) = true
   rw [h0, isM_seg hs', is_comma]
   decide)]
  show argsF l (pf l (famG B l nst) 0) m (acc ++ [(pf l (famG B l nst) 0 (nextM S)).1], (pf l (famG B l nst) 0 (nextM S)).2) = _
  rw [hy']
  show argsF l (pf l (famG B l nst) 0) m (acc ++ [y], adv (nextM S) (toksE y).length) = _
  rw [args_TG hst hc ks (fun z hz => hT z (by simp [hz])) (acc ++ [y]) (adv (nextM S) (toksE y).length) m hN h0 (fun z hz => hnd z (by simp [hz])) (seg_skip s1) (by show l.length ≤ S.i + 1 + (toksE y).length + m; omega)]
  rw [adv_next, adv_adv, adv_adv, show acc ++ [y] ++ ks = acc ++ y :: ks by simp]
  exact congrArg (fun n => (acc ++ y :: ks, adv S n)) (by simp only [toksL, sepT, List.length_cons, List.length_append]; omega)
theorem call_TG {B : Nat} {l : List Tok} {t : Str} {k : List Expr} (hx : allE nodeM (.mk 6 t noV k) = true) (ha : arityM t = (k.length : Int)) (h1 : 1 ≤ k.length) (hT : ∀ y ∈ k, T1G B l y) : T1G B l (.mk 6 t noV k) ∧ T2G B l (.mk 6 t noV k) := by
 refine T_ofG hx ?_ (fun S rest h => by rw [lev_call] at h; omega)
 rw [lev_call, toks_call, need_call]
 intro S rest h0 hn hs hst
 match k, h1, ha, hT, hn, hs with
 | y :: ks, _, ha, hT, hn, hs =>
 rw [toksL, sep_drop] at hs ⊢
 have hs' : seg l S.i = (1, t) :: ((5, [40]) :: (toksE y ++ (sepT (toksL ks) ++ ((5, [41]) :: rest)))) := by rw [hs]; simp
 obtain ⟨k1, t1, s1, i1⟩ := seg_cons hs'
 have s1' : seg l (nextM S).i = (5, [40]) :: (toksE y ++ (sepT (toksL ks) ++ ((5, [41]) :: rest))) := s1
 obtain ⟨k2, t2, s2, i2⟩ := seg_cons s1'
 have hmax := maxN_ge (y :: ks)
 have hz : stops 0 (((5, [41]) : TK) :: rest) := fun h r e _ => by
  injection e with e _
  subst e
  exact ⟨by decide, by decide⟩
 have hy := hT y (by simp) 0 (deepM (nextM (nextM S))) (sepT (toksL ks) ++ ((5, [41]) :: rest)) (Nat.zero_le _) h0 (by have := hmax y (by simp); show (31 ≤ S.nest + 1 ∧ S.nest + 1 + _ ≤ B); omega) s2 (by
  cases ks with
  | nil => exact hz
  | cons z ks =>
   intro h r e _
   injection e with e _
   subst e
   exact ⟨by decide, by decide⟩)
 have hy' : pf l (famG B l (S.nest + 1)) 0 (deepM (nextM (nextM S))) = (y, adv (deepM (nextM (nextM S))) (toksE y).length) := hy
 have hargs := args_TG (l := l) (nst := S.nest + 1) hz (fun h r e => by
  injection e with e _
  subst e
  decide) ks (fun z hz => hT z (by simp [hz])) [y] (adv (deepM (nextM (nextM S))) (toksE y).length) l.length rfl h0 (fun z hz => by have := hmax z (by simp [hz]); omega) (seg_skip s2) (by omega)
 have hk : callKM l (famG B l S.nest) (nextM S) = (y :: ks, adv (nextM (nextM S)) ((toksE y).length + (sepT (toksL ks)).length)) := by
  unfold callKM kidsM
  rw [if_neg (by show ¬ (((S.nest : Int) == 30) = true); simp; omega), fam_deepG (by omega)]
  unfold argsM
  show ((argsF l (pf l (famG B l (S.nest + 1)) 0) l.length ([(pf l (famG B l (S.nest + 1)) 0 (deepM (nextM (nextM S)))).1], (pf l (famG B l (S.nest + 1)) 0 (deepM (nextM (nextM S)))).2)).1, riseM (argsF l (pf l (famG B l (S.nest + 1)) 0) l.length ([(pf l (famG B l (S.nest + 1)) 0 (deepM (nextM (nextM S)))).1], (pf l (famG B l (S.nest + 1)) 0 (deepM (nextM (nextM S)))).2)).2) = _
  rw [hy', hargs, adv_adv]
  rfl
 have s3 := seg_skip (seg_skip s2)
 have hw : wantM l closeT (callKM l (famG B l S.nest) (nextM S)).2 = adv (nextM (nextM S)) ((toksE y).length + (sepT (toksL ks)).length + 1) := by
  rw [hk]
  have s3' : seg l (adv (nextM (nextM S)) ((toksE y).length + (sepT (toksL ks)).length)).i = (5, [41]) :: rest := by
   show seg l ((nextM S).i + 1 + ((toksE y).length + (sepT (toksL ks)).length)) = _
   rw [← Nat.add_assoc]
   exact s3
  obtain ⟨k3, t3, _, _⟩ := seg_cons s3'
  show wantM l closeT (adv (nextM (nextM S)) ((toksE y).length + (sepT (toksL ks)).length)) = _
  unfold wantM
  rw [if_neg (by show ¬ ((S.code != 0) = true); rw [h0]; decide), k3, t3, if_neg (by decide)]
  rfl
 have e1 : isM l litT S = false := by rw [isM_seg hs']; rfl
 have e2 : isM l opT (nextM S) = true := by rw [isM_seg s1', is_op]; decide
 show atomM l (famG B l S.nest) S = _
 unfold atomM
 rw [if_neg (by rw [h0]; decide), k1, e1, if_neg (by decide), if_neg (by decide), if_pos (by decide), if_pos e2]
 unfold callM
 rw [t1, if_neg (by rw [ha]; omega), if_neg (by rw [hk, ha]; simp), hw, hk]
 refine Prod.ext rfl ?_
 show adv (nextM (nextM S)) ((toksE y).length + (sepT (toksL ks)).length + 1) = adv S _
 rw [adv_next, adv_next, adv_adv, adv_adv]
 congr 1
 simp only [List.length_cons, List.length_append, List.length_nil]
 omega
theorem val_TG {B : Nat} {l : List Tok} {v : Val} (hx : allE nodeM (valX v) = true) (hp : plainM v = true) (hv0 : 0 ≤ v.n) (hv1 : v.n ≤ 9223372036854775807) : T1G B l (valX v) ∧ T2G B l (valX v) := by
 refine T_ofG hx ?_ (fun S rest h => by rw [lev_val] at h; omega)
 rw [lev_val, toks_val]
 intro S rest h0 hn hs hst
 show atomM l (famG B l S.nest) S = _
 unfold atomM
 rw [if_neg (by rw [h0]; decide)]
 cases hk1 : v.kind == 1 with
 | true =>
  have e : valTok v = (3, printM v) := by unfold valTok; rw [hk1]; rfl
  rw [e] at hs
  obtain ⟨k1, t1, _, _⟩ := seg_cons (show seg l S.i = (3, printM v) :: rest from hs)
  have hk2 : (v.kind == 2) = false := by
   have : v.kind = 1 := by simpa using hk1
   rw [this]; rfl
  rw [k1, if_pos (by simp), t1, read_print hp hk2 hv0 hv1]
  rfl
 | false =>
  cases hk2 : v.kind == 2 with
  | true =>
   have e : valTok v = (4, v.s) := by unfold valTok; rw [hk1, hk2]; rfl
   rw [e] at hs
   have hs' : seg l S.i = (4, v.s) :: rest := hs
   obtain ⟨k1, t1, _, _⟩ := seg_cons hs'
   have e1 : isM l litT S = false := by rw [isM_seg hs']; rfl
   rw [k1, e1, if_neg (by decide), if_pos (by decide), t1]
   have hv : v = ⟨2, 0, v.s⟩ ∧ v.s.length ≤ 200 := by
    rcases plain_cases hp with e | e | e | e | e
    ·rw [e] at hk2; cases hk2
    ·rw [e] at hk2; cases hk2
    ·exact e
    ·rw [e] at hk2; cases hk2
    ·rw [e] at hk2; cases hk2
   rw [List.take_of_length_le hv.2, ← hv.1]
   rfl
  | false =>
   have e : valTok v = (2, printM v) := by unfold valTok; rw [hk1, hk2]; rfl
   rw [e] at hs
   have hs' : seg l S.i = (2, printM v) :: rest := hs
   obtain ⟨k1, t1, _, _⟩ := seg_cons hs'
   have hw : isMarkM (printM v) litT = true := by
    rw [is_lit]
    rcases plain_cases hp with e | e | e | e | e
    ·rw [e]; kernel_rfl
    ·rw [e] at hk1; cases hk1
    ·rw [e.1] at hk2; cases hk2
    ·rw [e]; kernel_rfl
    ·rw [e]; kernel_rfl
   have e1 : isM l litT S = true := by rw [isM_seg hs', hw]; rfl
   rw [e1, if_pos (by simp), t1, read_print hp hk2 hv0 hv1]
   rfl
theorem parse_mainG {B : Nat} (l : List Tok) : ∀ (n : Nat) (x : Expr), sizeE x ≤ n → allE nodeM x = true → allE rngN x = true → T1G B l x ∧ T2G B l x
 | 0, x, hn, _, _ => by rw [sizeE_eq] at hn; omega
 | n + 1, x, hn, hx, hr => by
  have hx0 := hx
  have hr0 := hr
  rw [allE_eq, Bool.and_eq_true] at hx0 hr0
  have ih : ∀ y ∈ x.kids, T1G B l y ∧ T2G B l y := fun y hy => parse_mainG l n y (size_kids hn hy) ((allL_iff _ _).1 hx0.2 y hy) ((allL_iff _ _).1 hr0.2 y hy)
  cases node_cases hx0.1 with
  | val v hv h0 =>
   have := hr0.1
   unfold rngN at this
   simp only [Bool.and_eq_true, decide_eq_true_eq] at this
   exact val_TG hx hv h0 this.2
  | name t ht => exact name_TG hx
  | neg a => exact neg_TG hx (ih a (by simp [oneX, Expr.kids])).1
  | no a => exact no_TG hx (ih a (by simp [oneX, Expr.kids])).1
  | bin t a b ht => exact bin_TG ht hx (ih a (by simp [binX, Expr.kids])) (ih b (by simp [binX, Expr.kids])).1
  | call t k hk =>
   refine call_TG hx hk ?_ (fun y hy => (ih y hy).1)
   have := arity_pos t
   omega
/-! The parser from a word on, and of a source. -/
end Go.SX.Nb
namespace Go.SX.Nb
open Go Go.SX Go.Proofs
variable [ErrAt]
set_option maxRecDepth 8000
/-! Other trees have other words, and other prints. -/
theorem toks_inj {x y : Expr} (hx : allE nodeM x = true) (gx : allE rngN x = true) (hy : allE nodeM y = true) (gy : allE rngN y = true) (h : toksE x = toksE y) : x = y := by
 let l : List Tok := (toksE x).map fun k => ⟨k.1, k.2, 0⟩
 have hs : seg l 0 = toksE x ++ [] := by
  show ((l.drop 0).map ktT) = _
  rw [List.drop_zero, List.append_nil]
  show ((toksE x).map fun k => (⟨k.1, k.2, 0⟩ : Tok)).map ktT = _
  rw [List.map_map]
  exact (List.map_congr_left (fun k _ => rfl)).trans (List.map_id _)
 have hst : stops 0 [] := fun a r e => by cases e
 have h1 := (parse_mainG (B := 31 + (needE x + needE y)) l _ x (Nat.le_refl _) hx gx).1 0 ⟨0, 31, 0, 0⟩ [] (Nat.zero_le _) rfl (by show 31 ≤ 31 ∧ 31 + needE x ≤ _; omega) hs hst
 have h2 := (parse_mainG (B := 31 + (needE x + needE y)) l _ y (Nat.le_refl _) hy gy).1 0 ⟨0, 31, 0, 0⟩ [] (Nat.zero_le _) rfl (by show 31 ≤ 31 ∧ 31 + needE y ≤ _; omega) (by rw [← h]; exact hs) hst
 exact congrArg Prod.fst (h1.symm.trans h2)
/-- Other trees have other prints. -/
theorem print_inj {x y : Expr} (hx : allE nodeM x = true) (gx : allE rngN x = true) (hy : allE nodeM y = true) (gy : allE rngN y = true) (hl : (printE x).length ≤ 4000) (h : printE x = printE y) : x = y := by
 obtain ⟨L, n, e, hL⟩ := print_words hx gx hl
 obtain ⟨L', n', e', hL'⟩ := print_words hy gy (by rw [← h]; exact hl)
 rw [h, e'] at e
 have e1 : L' ++ [(⟨0, [], n'⟩ : Tok)] = L ++ [⟨0, [], n⟩] := congrArg Prod.fst e
 have e2 : L' = L := (List.append_inj e1 (by have := congrArg List.length e1; simpa using this)).1
 exact toks_inj hx gx hy gy (by rw [← hL, ← hL', e2])
end Go.SX.Nb
namespace Go.SX.Nb
open Go Go.SX Go.Proofs
variable [ErrAt]
set_option maxRecDepth 8000
/-! The laws of printing. -/
/-- show.Print. -/
def showM (x : Expr) : Str × Int := if !(exprRightM x) then ([], 1) else if decide ((4000 : Int) < ((printE x).length : Int)) then ([], 3) else (printE x, 0)
theorem show_ok {x : Expr} (h : (showM x).2 = 0) : refRightM x = true ∧ (printE x).length ≤ 4000 ∧ showM x = (printE x, 0) := by
 unfold showM at h ⊢
 split at h
 ·cases h
 ·rename_i h1
  split at h
  ·cases h
  ·rename_i h2
   rw [if_neg h1, if_neg h2]
   refine ⟨by rw [← exprRight_eq]; simpa using h1, by simp at h2; omega, rfl⟩
theorem show_of {x : Expr} (h : refRightM x = true) : (showM x = ([], 3) ∧ 4000 < (printE x).length) ∨ (showM x = (printE x, 0) ∧ (printE x).length ≤ 4000) := by
 unfold showM
 rw [exprRight_eq, h]
 simp only [Bool.not_true, Bool.false_eq_true, if_false]
 split
 ·rename_i h2; exact .inl ⟨rfl, by simp at h2; omega⟩
 ·rename_i h2; exact .inr ⟨rfl, by simp at h2; omega⟩
/-- Printed again it is the same. -/
theorem once_law {s : Str} (h : (parseM s).2.1 = 0) : (showM (parseM s).1 = ([], 3) ∧ 4000 < (printE (parseM s).1).length) ∨ (showM (parseM s).1 = (printE (parseM s).1, 0) ∧ parseM (printE (parseM s).1) = ((parseM s).1, 0, 0)) := by
 obtain ⟨hr, hg⟩ := parse_right h
 rcases show_of hr with h1 | ⟨h1, h2⟩
 ·exact .inl h1
 ·exact .inr ⟨h1, print_parse hr hg h2 (parse_need h)⟩
/-- What is printed is parsed, unless brackets nest too deep. -/
theorem prints_law {x : Expr} (hr : refRightM x = true) (hg : allE rngN x = true) (hl : (printE x).length ≤ 4000) : (parseM (printE x)).2.1 = 18 ∨ parseM (printE x) = (x, 0, 0) := by
 by_cases hn : needE x ≤ 30
 ·exact .inr (print_parse hr hg hl hn)
 ·exact .inl (print_deep hr hg hl (by omega))
theorem right_node {x : Expr} (h : refRightM x = true) : allE nodeM x = true := by
 unfold refRightM at h
 rw [Bool.and_eq_true] at h
 exact h.2
/-- Other trees have other prints. -/
theorem apart_law {x y : Expr} (gx : allE rngN x = true) (gy : allE rngN y = true) (hx : (showM x).2 = 0) (hy : (showM y).2 = 0) : (showM x).1 = (showM y).1 ↔ x = y := by
 obtain ⟨rx, lx, ex⟩ := show_ok hx
 obtain ⟨ry, ly, ey⟩ := show_ok hy
 rw [ex, ey]
 exact ⟨fun h => print_inj (right_node rx) gx (right_node ry) gy lx h, fun h => by rw [h]⟩
end Go.SX.Nb
namespace Go.SX.Nb
open Go Go.SX Go.Proofs
variable [ErrAt]
set_option maxRecDepth 4000
abbrev resA (r : Rs) : AV := .tup [valA r.1, intA r.2]
abbrev intsA (l : List Int) : AV := .slice false 1 (l.map intA)
abbrev scopeA (c : List Col) (l : List Val) : AV := .agg [colsA c, valsA l]
end Go.SX.Nb
namespace Go.SX.Nb
open Go Go.SX Go.Proofs
variable [ErrAt]
set_option maxRecDepth 4000
/-- As many values as a node asks for. -/
structure ArgsOk (o : Int) (vs : List Val) : Prop where
 two : o = 5 → ∃ a b, vs = [a, b]
 one : o = 3 ∨ o = 4 → vs.length = 1
 call : o = 6 → vs.length = 1 ∨ ∃ a b, vs = [a, b]
 fine : ∀ v ∈ vs, Fine v
end Go.SX.Nb
namespace Go.SX.Nb
open Go Go.SX Go.Proofs
variable [ErrAt]
set_option maxRecDepth 4000
/-- What eval answers for a tree, over any heap. -/
abbrev EvalsTo (c : List Col) (l : List Val) (e : Expr) (r : Rs) : Prop := ∀ Hp, AFun Tryz.prog 44 [scopeA c l, exprA e] Hp (resA r)
end Go.SX.Nb
namespace Go.SX.Nb
open Go Go.SX Go.Proofs
variable [ErrAt]
set_option maxRecDepth 4000
abbrev signA (s : Sign) : AV := .agg [.slice false 1 (s.kids.map intA), intA s.own]
structure FitAt (s : Sign) (ks : List Int) (x : Nat × Int) : Prop where
 le : x.1 ≤ ks.length
 eq : fitK s.kids ks 0 = fitK (s.kids.drop x.1) (ks.drop x.1) x.2
theorem FitAt.step {s : Sign} {ks : List Int} {x : Nat × Int} (h : FitAt s ks x) (hk : x.1 < ks.length) (hs : x.1 < s.kids.length) : fitK s.kids ks 0 = (if s.kids[x.1] == -2 then fitK (s.kids.drop (x.1 + 1)) (ks.drop (x.1 + 1)) x.2 else if s.kids[x.1] == -1 then (if (meetM x.2 ks[x.1]).2 then fitK (s.kids.drop (x.1 + 1)) (ks.drop (x.1 + 1)) (meetM x.2 ks[x.1]).1 else none) else if (meetM s.kids[x.1] ks[x.1]).2 then fitK (s.kids.drop (x.1 + 1)) (ks.drop (x.1 + 1)) x.2 else none) := by
 rw [h.eq, List.drop_eq_getElem_cons hk, List.drop_eq_getElem_cons hs, fitK]
theorem FitAt.skip {s : Sign} {ks : List Int} {x : Nat × Int} (h : FitAt s ks x) (hk : x.1 < ks.length) (hs : x.1 < s.kids.length) (h2 : (s.kids[x.1] == -2) = true) : FitAt s ks (x.1 + 1, x.2) := ⟨hk, by rw [h.step hk hs, if_pos h2]⟩
theorem FitAt.same {s : Sign} {ks : List Int} {x : Nat × Int} (h : FitAt s ks x) (hk : x.1 < ks.length) (hs : x.1 < s.kids.length) (h2 : (s.kids[x.1] == -2) = false) (h1 : (s.kids[x.1] == -1) = true) (hm : (meetM x.2 ks[x.1]).2 = true) : FitAt s ks (x.1 + 1, (meetM x.2 ks[x.1]).1) := ⟨hk, by rw [h.step hk hs, if_neg (by rw [h2]; simp), if_pos h1, if_pos hm]⟩
theorem FitAt.want {s : Sign} {ks : List Int} {x : Nat × Int} (h : FitAt s ks x) (hk : x.1 < ks.length) (hs : x.1 < s.kids.length) (h2 : (s.kids[x.1] == -2) = false) (h1 : (s.kids[x.1] == -1) = false) (hm : (meetM s.kids[x.1] ks[x.1]).2 = true) : FitAt s ks (x.1 + 1, x.2) := ⟨hk, by rw [h.step hk hs, if_neg (by rw [h2]; simp), if_neg (by rw [h1]; simp), if_pos hm]⟩
theorem FitAt.bad {s : Sign} {ks : List Int} {x : Nat × Int} (h : FitAt s ks x) (hk : x.1 < ks.length) (hs : x.1 < s.kids.length) (h2 : (s.kids[x.1] == -2) = false) (hm : (if s.kids[x.1] == -1 then (meetM x.2 ks[x.1]).2 else (meetM s.kids[x.1] ks[x.1]).2) = false) : fitM s ks = (0, 10) := by
 unfold fitM
 rw [h.step hk hs, if_neg (by rw [h2]; simp)]
 split at hm
 ·rename_i h1
  rw [if_pos h1, if_neg (by rw [hm]; simp)]
 ·rename_i h1
  rw [if_neg h1, if_neg (by rw [hm]; simp)]
theorem FitAt.out {s : Sign} {ks : List Int} {x : Nat × Int} (h : FitAt s ks x) (hk : ks.length ≤ x.1) : fitM s ks = if s.own == -1 then (x.2, 0) else (s.own, 0) := by
 unfold fitM
 rw [h.eq, List.drop_of_length_le hk]
 cases s.kids.drop x.1 <;> rfl
theorem low_roE {n : Nat} {e : Expr} : Low n (.ro (exprC e)) := by have := exprA_low n e; rw [exprA_eq] at this; simpa using this
end Go.SX.Nb
namespace Go.SX.Nb
open Go Go.SX Go.Proofs
variable [ErrAt]
set_option maxRecDepth 4000
/-- The first fault of those that were asked. -/
structure AllAt (f : Expr → Rs) (k : List Expr) (x : Nat) : Prop where
 le : x ≤ k.length
 ok : ∀ (j : Nat) (y : Expr), j < x → k[j]? = some y → ((f y).2 != 0) = false
theorem AllAt.bad {f : Expr → Rs} {k : List Expr} {x : Nat} (h : AllAt f k x) (hx : x < k.length) (hb : ((f k[x]).2 != 0) = true) (g : List Val → Rs) : allR g (k.map f) = wrongR (f k[x]).2 := by
 unfold allR
 have : (k.map f).find? (fun q => q.2 != 0) = some ((k.map f)[x]'(by simpa using hx)) := find_at (by simpa using hx) (by simpa using hb) (fun j y hj hy => by
  rw [List.getElem?_map, Option.map_eq_some_iff] at hy
  obtain ⟨z, hz, rfl⟩ := hy
  exact h.ok j z hj hz)
 rw [this]
 simp
theorem AllAt.all {f : Expr → Rs} {k : List Expr} {x : Nat} (h : AllAt f k x) (hx : k.length ≤ x) (g : List Val → Rs) : allR g (k.map f) = if (k.take x).any (fun y => (f y).1.kind == 0) then (noV, 0) else g ((k.take x).map fun y => (f y).1) := by
 unfold allR
 have : (k.map f).find? (fun q => q.2 != 0) = none := find_none (fun j y hy => by
  rw [List.getElem?_map, Option.map_eq_some_iff] at hy
  obtain ⟨z, hz, rfl⟩ := hy
  exact h.ok j z (by have := (List.getElem?_eq_some_iff.1 hz).1; omega) hz)
 rw [this, List.take_of_length_le hx]
 simp only [List.any_map, List.map_map]
 rfl
theorem AllAt.next {f : Expr → Rs} {k : List Expr} {x : Nat} (h : AllAt f k x) (hx : x < k.length) (hb : ((f k[x]).2 != 0) = false) : AllAt f k (x + 1) := ⟨hx, upto_succ hx h.ok hb⟩
end Go.SX.Nb
namespace Go.SX.Nb
open Go Go.SX Go.Proofs
variable [ErrAt]
set_option maxRecDepth 4000
theorem kids_len {e : Expr} (h : nodeM e = true) : (e.op = 5 → e.kids.length = 2) ∧ (e.op = 3 ∨ e.op = 4 → e.kids.length = 1) ∧ (e.op = 6 → arityM e.text = (e.kids.length : Int)) ∧ (e.op = 1 ∨ e.op = 2 ∨ e.op = 3 ∨ e.op = 4 ∨ e.op = 5 ∨ e.op = 6) := by
 cases node_cases h with
 | val v hp h0 => simp [valX, Expr.op]
 | name t ht => simp [nameE, Expr.op]
 | neg a => simp [oneX, Expr.op, Expr.kids]
 | no a => simp [oneX, Expr.op, Expr.kids]
 | bin t a b ht => simp [binX, Expr.op, Expr.kids]
 | call t k ht => simpa [Expr.op, Expr.kids, Expr.text] using ht
theorem kidD {k : List Expr} {i : Nat} (h : i < k.length) : (k.map exprA)[i]? = some (exprA (k.getD i nullX)) ∧ k.getD i nullX ∈ k ∧ ∀ (f : Expr → Rs) (d : Rs), (k.map f).getD i d = f (k.getD i nullX) := by
 have e : k.getD i nullX = k[i] := by rw [List.getD_eq_getElem?_getD, List.getElem?_eq_getElem h]; rfl
 rw [e]
 refine ⟨by simp [h], List.getElem_mem h, fun f d => ?_⟩
 rw [List.getD_eq_getElem?_getD, List.getElem?_map, List.getElem?_eq_getElem h]
 rfl
end Go.SX.Nb
namespace Go.SX.Nb
open Go Go.SX Go.Proofs
variable [ErrAt]
set_option maxRecDepth 4000
def shLevM (s : Str) : Int := if s == [111, 114] then 0 else if s == [97, 110, 100] then 1 else if (((((s == [61]) || (s == [33, 61])) || (s == [60])) || (s == [60, 61])) || (s == [62])) || (s == [62, 61]) then 3 else if ((s == [43]) || (s == [45])) || (s == [38]) then 4 else if ((s == [42]) || (s == [47])) || (s == [37]) then 5 else 7
theorem marked_eq (s : Str) : shLevM s = if 0 ≤ levelM s then levelM s else 7 := by
 by_cases hf : s ∈ levels.flatten
 ·have h3 : (levels.flatten.all fun s => decide (shLevM s = if 0 ≤ levelM s then levelM s else 7)) = true := by kernel_rfl
  exact of_decide_eq_true (List.all_eq_true.1 h3 s hf)
 ·have hn := hf
  have h : levelM s = -1 := by
   rcases level_cases s with h | ⟨h, _⟩
   ·exact absurd h hf
   ·exact h
  rw [h]
  simp only [levels, List.flatten_cons, List.flatten_nil, List.append_nil, List.cons_append, List.nil_append, List.mem_cons, List.not_mem_nil, or_false, not_or] at hn
  obtain ⟨a1, a2, a3, a4, a5, a6, a7, a8, a9, b1, b2, b3, b4, b5⟩ := hn
  simp [shLevM, *]
/-- The level of a node. -/
def levI (e : Expr) : Int := if e.op == 4 then 2 else if e.op == 3 then 6 else if e.op == 5 then shLevM e.text else 7
theorem levI_eq {e : Expr} (h : nodeM e = true) : levI e = (levE e : Int) := by
 unfold levI levE
 split
 ·rfl
 ·split
  ·rfl
  ·split
   ·rename_i h5
    have hb : 0 ≤ levelM e.text := by
     have h5' : e.op = 5 := by simpa using h5
     rw [node_one] at h
     unfold nodeOneM at h
     simp [h5'] at h
     exact h.2.1
    rw [marked_eq, if_pos hb]
    omega
   ·rfl
theorem c36 (s : Str) (Hp : List AObj) : AFun Tryz.prog 36 [strA s] Hp (intA (shLevM s)) := by
 refine ACall.body [.tmp 2] [0] Tryz.func36 Tryz.ntmps36 (fun d => ?_)
 refine AW.seqR ?_
 refine R.assign ?_
 refine R.fin [0] ?_
 refine W.seq ?_
 refine AW.seqR ?_
 refine R.move ?_
 refine R.fin [3] ?_
 refine AW.block ?_
 refine AW.seqR ?_
 refine R.seql ?_
 refine R.assign ?_
 refine R.fin [3, 4] ?_
 refine W.cond (fun ht4 => ?_) (fun ht4 => ?_)
 ·skip
  refine AW.seqR ?_
  refine R.assign ?_
  refine R.fin [2] ?_
  refine AW.ret ?_
  refine K.blR ?_
  refine K.thR ?_
  exact K.fin (V.one V.tmp) ⟨by simp_all [shLevM], rfl⟩
 ·skip
  refine AW.seqR ?_
  refine R.seql ?_
  refine R.assign ?_
  refine R.fin [3, 6] ?_
  refine W.cond (fun ht6 => ?_) (fun ht6 => ?_)
  ·skip
   refine AW.seqR ?_
   refine R.assign ?_
   refine R.fin [2] ?_
   refine AW.ret ?_
   refine K.blR ?_
   refine K.thR ?_
   exact K.fin (V.one V.tmp) ⟨by simp_all [shLevM], rfl⟩
  ·skip
   refine W.join ⟨23, setF 3 (strA s) (setF 8 (boolA ((((((s == [61]) || (s == [33, 61])) || (s == [60])) || (s == [60, 61])) || (s == [62])) || (s == [62, 61]))) (fun _ => .any)), Hp, [], [], none⟩ ?_ ?_
   ·skip
    refine AW.seqR ?_
    refine R.seql ?_
    refine R.assign ?_
    refine R.fin [3, 8] ?_
    refine W.cond (fun ht8 => ?_) (fun ht8 => ?_)
    ·skip
     refine W.keep [3, 8] ?_
     refine AW.skip ?_
     refine K.thJ ?_
     exact StLe.of_eq (by simp [*])
    ·skip
     refine AW.seqR ?_
     refine R.seql ?_
     refine R.assign ?_
     refine R.fin [3, 8] ?_
     refine W.cond (fun ht8 => ?_) (fun ht8 => ?_)
     ·skip
      refine W.keep [3, 8] ?_
      refine AW.skip ?_
      refine K.thJ ?_
      exact StLe.of_eq (by simp [*])
     ·skip
      refine AW.seqR ?_
      refine R.seql ?_
      refine R.assign ?_
      refine R.fin [3, 8] ?_
      refine W.cond (fun ht8 => ?_) (fun ht8 => ?_)
      ·skip
       refine W.keep [3, 8] ?_
       refine AW.skip ?_
       refine K.thJ ?_
       exact StLe.of_eq (by simp [*])
      ·skip
       refine AW.seqR ?_
       refine R.seql ?_
       refine R.assign ?_
       refine R.fin [3, 8] ?_
       refine W.cond (fun ht8 => ?_) (fun ht8 => ?_)
       ·skip
        refine W.keep [3, 8] ?_
        refine AW.skip ?_
        refine K.thJ ?_
        exact StLe.of_eq (by simp [*])
       ·skip
        refine AW.seqR ?_
        refine R.seql ?_
        refine R.assign ?_
        refine R.fin [3, 8] ?_
        refine W.cond (fun ht8 => ?_) (fun ht8 => ?_)
        ·skip
         refine W.keep [3, 8] ?_
         refine AW.skip ?_
         refine K.thJ ?_
         exact StLe.of_eq (by simp [*])
        ·skip
         refine AW.region ?_
         refine R.seql ?_
         refine R.assign ?_
         refine R.fin [3, 8] ?_
         refine K.thJ ?_
         exact StLe.of_eq (by simp [*])
   ·skip
    refine W.cond (fun ht8 => ?_) (fun ht8 => ?_)
    ·skip
     refine AW.seqR ?_
     refine R.assign ?_
     refine R.fin [2] ?_
     refine AW.ret ?_
     refine K.blR ?_
     refine K.thR ?_
     exact K.fin (V.one V.tmp) ⟨by simp_all [shLevM], rfl⟩
    ·skip
     refine W.join ⟨23, setF 3 (strA s) (setF 15 (boolA (((s == [43]) || (s == [45])) || (s == [38]))) (fun _ => .any)), Hp, [], [], none⟩ ?_ ?_
     ·skip
      refine AW.seqR ?_
      refine R.seql ?_
      refine R.assign ?_
      refine R.fin [3, 15] ?_
      refine W.cond (fun ht15 => ?_) (fun ht15 => ?_)
      ·skip
       refine W.keep [3, 15] ?_
       refine AW.skip ?_
       refine K.thJ ?_
       exact StLe.of_eq (by simp [*])
      ·skip
       refine AW.seqR ?_
       refine R.seql ?_
       refine R.assign ?_
       refine R.fin [3, 15] ?_
       refine W.cond (fun ht15 => ?_) (fun ht15 => ?_)
       ·skip
        refine W.keep [3, 15] ?_
        refine AW.skip ?_
        refine K.thJ ?_
        exact StLe.of_eq (by simp [*])
       ·skip
        refine AW.region ?_
        refine R.seql ?_
        refine R.assign ?_
        refine R.fin [3, 15] ?_
        refine K.thJ ?_
        exact StLe.of_eq (by simp [*])
     ·skip
      refine W.cond (fun ht15 => ?_) (fun ht15 => ?_)
      ·skip
       refine AW.seqR ?_
       refine R.assign ?_
       refine R.fin [2] ?_
       refine AW.ret ?_
       refine K.blR ?_
       refine K.thR ?_
       exact K.fin (V.one V.tmp) ⟨by simp_all [shLevM], rfl⟩
      ·skip
       refine W.join ⟨23, setF 19 (boolA (((s == [42]) || (s == [47])) || (s == [37]))) (fun _ => .any), Hp, [], [], none⟩ ?_ ?_
       ·skip
        refine AW.seqR ?_
        refine R.seql ?_
        refine R.assign ?_
        refine R.fin [3, 19] ?_
        refine W.cond (fun ht19 => ?_) (fun ht19 => ?_)
        ·skip
         refine W.keep [19] ?_
         refine AW.skip ?_
         refine K.thJ ?_
         exact StLe.of_eq (by simp [*])
        ·skip
         refine AW.seqR ?_
         refine R.seql ?_
         refine R.assign ?_
         refine R.fin [3, 19] ?_
         refine W.cond (fun ht19 => ?_) (fun ht19 => ?_)
         ·skip
          refine W.keep [19] ?_
          refine AW.skip ?_
          refine K.thJ ?_
          exact StLe.of_eq (by simp [*])
         ·skip
          refine AW.region ?_
          refine R.seql ?_
          refine R.assign ?_
          refine R.fin [19] ?_
          refine K.thJ ?_
          exact StLe.of_eq (by simp [*])
       ·skip
        refine W.cond (fun ht19 => ?_) (fun ht19 => ?_)
        ·skip
         refine AW.seqR ?_
         refine R.assign ?_
         refine R.fin [2] ?_
         refine AW.ret ?_
         refine K.blR ?_
         refine K.thR ?_
         exact K.fin (V.one V.tmp) ⟨by simp_all [shLevM], rfl⟩
        ·skip
         refine AW.skip ?_
         refine K.blN ?_
         refine K.thN ?_
         refine AW.seqR ?_
         refine R.assign ?_
         refine R.fin [2] ?_
         refine AW.ret ?_
         exact K.fin (V.one V.tmp) ⟨by simp_all [shLevM], rfl⟩

theorem c15 (e : Expr) (Hp : List AObj) : AFun Tryz.prog 15 [exprA e] Hp (intA (levI e)) := by
 refine ACall.body [.tmp 2] [0] Tryz.func15 Tryz.ntmps15 (fun d => ?_)
 refine AW.seqR ?_
 refine R.boxRo ?_
 refine R.assign ?_
 refine R.fin [1] ?_
 refine W.seq ?_
 refine AW.seqR ?_
 refine R.fieldAddrRo (off := 0) Tryz.underlying27 Tryz.sizeOf3 ?_
 refine R.loadRo Tryz.isAgg3 ?_
 refine R.fin [1, 4] ?_
 refine AW.block ?_
 refine AW.seqR ?_
 refine R.eql ?_
 refine R.assign ?_
 refine R.fin [1, 4, 5] ?_
 refine W.cond (fun ht5 => ?_) (fun ht5 => ?_)
 ·skip
  refine AW.seqR ?_
  refine R.assign ?_
  refine R.fin [2] ?_
  refine AW.ret ?_
  refine K.blR ?_
  refine K.thR ?_
  exact K.fin (V.one V.tmp) ⟨by simp_all [levI], rfl⟩
 ·skip
  refine AW.seqR ?_
  refine R.eql ?_
  refine R.assign ?_
  refine R.fin [1, 4, 7] ?_
  refine W.cond (fun ht7 => ?_) (fun ht7 => ?_)
  ·skip
   refine AW.seqR ?_
   refine R.assign ?_
   refine R.fin [2] ?_
   refine AW.ret ?_
   refine K.blR ?_
   refine K.thR ?_
   exact K.fin (V.one V.tmp) ⟨by simp_all [levI], rfl⟩
  ·skip
   refine AW.seqR ?_
   refine R.eql ?_
   refine R.assign ?_
   refine R.fin [1, 9] ?_
   refine W.cond (fun ht9 => ?_) (fun ht9 => ?_)
   ·skip
    refine AW.seqR ?_
    refine R.fieldAddrRo (off := 1) Tryz.underlying27 Tryz.sizeOf9 ?_
    refine R.loadRo Tryz.isAgg9 ?_
    refine R.call Tryz.call36 (c36 e.text _) ?_
    refine R.assign ?_
    refine R.fin [2] ?_
    refine AW.ret ?_
    refine K.blR ?_
    refine K.thR ?_
    exact K.fin (V.one V.tmp) ⟨by simp_all [levI], rfl⟩
   ·skip
    refine AW.skip ?_
    refine K.blN ?_
    refine K.thN ?_
    refine AW.seqR ?_
    refine R.assign ?_
    refine R.fin [2] ?_
    refine AW.ret ?_
    exact K.fin (V.one V.tmp) ⟨by simp_all [levI], rfl⟩

theorem c16 (e : Expr) (Hp : List AObj) : AFun Tryz.prog 16 [exprA e] Hp (intA (levI e)) := by
 refine ACall.body [.tmp 2] [0] Tryz.func16 Tryz.ntmps16 (fun d => ?_)
 refine AW.seqR ?_
 refine R.boxRo ?_
 refine R.assign ?_
 refine R.fin [1] ?_
 refine W.seq ?_
 refine AW.seqR ?_
 refine R.fieldAddrRo (off := 0) Tryz.underlying27 Tryz.sizeOf3 ?_
 refine R.loadRo Tryz.isAgg3 ?_
 refine R.eql ?_
 refine R.fin [1, 5] ?_
 refine W.cond (fun ht5 => ?_) (fun ht5 => ?_)
 ·skip
  refine AW.seqR ?_
  refine R.assign ?_
  refine R.fin [2] ?_
  refine AW.ret ?_
  refine K.thR ?_
  exact K.fin (V.one V.tmp) ⟨by first | rw [hz] | simp_all [levI], rfl⟩
 ·skip
  refine AW.skip ?_
  refine K.thN ?_
  refine W.seq ?_
  refine AW.seqR ?_
  refine R.fieldAddrRo (off := 0) Tryz.underlying27 Tryz.sizeOf3 ?_
  refine R.loadRo Tryz.isAgg3 ?_
  refine R.eql ?_
  refine R.fin [1, 8] ?_
  refine W.cond (fun ht8 => ?_) (fun ht8 => ?_)
  ·skip
   refine AW.seqR ?_
   refine R.assign ?_
   refine R.fin [2] ?_
   refine AW.ret ?_
   refine K.thR ?_
   exact K.fin (V.one V.tmp) ⟨by first | rw [hz] | simp_all [levI], rfl⟩
  ·skip
   refine AW.skip ?_
   refine K.thN ?_
   refine W.seq ?_
   refine AW.seqR ?_
   refine R.fieldAddrRo (off := 0) Tryz.underlying27 Tryz.sizeOf3 ?_
   refine R.loadRo Tryz.isAgg3 ?_
   refine R.eql ?_
   refine R.move ?_
   refine G.fieldAddrRo (off := 1) Tryz.underlying27 Tryz.sizeOf9 ?_
   refine G.loadRo Tryz.isAgg9 ?_
   refine G.call Tryz.call37 (fun hB => c37 e.text _) ?_
   refine G.geq ?_
   refine R.pickAnd ?_
   refine R.fin [1, 17] ?_
   refine W.cond (fun ht17 => ?_) (fun ht17 => ?_)
   ·skip
    have hz : levI e = levelM e.text := by
     have h := ht17
     simp only [Bool.and_eq_true, beq_iff_eq, decide_eq_true_eq] at h
     simp [levI, h.1, marked_eq, h.2]
    refine AW.seqR ?_
    refine R.fieldAddrRo (off := 1) Tryz.underlying27 Tryz.sizeOf9 ?_
    refine R.loadRo Tryz.isAgg9 ?_
    refine R.call Tryz.call37 (c37 e.text _) ?_
    refine R.assign ?_
    refine R.fin [2] ?_
    refine AW.ret ?_
    refine K.thR ?_
    exact K.fin (V.one V.tmp) ⟨by first | rw [hz] | simp_all [levI], rfl⟩
   ·skip
    have hz : levI e = 7 := by
     have h := ht17
     simp only [Bool.and_eq_false_iff, beq_eq_false_iff_ne, decide_eq_false_iff_not] at h
     rcases h with h | h
     ·simp_all [levI]
     ·simp_all [levI, marked_eq]
      intro _ h2
      omega
    refine AW.skip ?_
    refine K.thN ?_
    refine AW.seqR ?_
    refine R.assign ?_
    refine R.fin [2] ?_
    refine AW.ret ?_
    exact K.fin (V.one V.tmp) ⟨by first | rw [hz] | simp_all [levI], rfl⟩

end Go.SX.Nb
namespace Go.Proofs
open Go.Shelf Go.RowKit

section
variable {P : Program} (w : World)

/-- Bytes behind a builder's bytes: what is handed back lies where it lay, or in the next block, or nowhere still. -/
theorem bldAppend {t u ty e : TypeId} {i : TypeInfo} (ht : P.underlying t = some (.slice e)) (hu : P.underlying u = some .string) (hi : P.info? e = some i) (hz : i.zero = some (.int .u8 0)) (hsize : i.size = 1) (hby : i.bytes = 1)
  (v : Value) (n : Nat) (xs : List Value) (hown : w.ownsRow 0 e 1 v n xs) (s : ByteArray) (hb : n + s.size ≤ 140737488355328) :
  ∃ v' w', (Builtin.append_ #[t, u] ty #[v, .string s]).run P w = .ok v' w' ∧ w'.ownsRow 0 e 1 v' (n + s.size) (xs ++ Lib.strCells s) ∧ w.grownBy w' v'.ownBlock ∧
   ((v = .slice none 0 0 ∧ v' = v ∧ s.size = 0) ∨ (∃ g cap, v = .slice (some ⟨g, 0, none⟩) n cap ∧ v' = .slice (some ⟨g, 0, none⟩) (n + s.size) cap) ∨ ∃ cap, v' = .slice (some ⟨w.heap.size, 0, none⟩) (n + s.size) cap ∧ 0 < n + s.size) := by
 have h63 : n + s.size ≤ maxLen := by unfold maxLen; omega
 obtain ⟨v', w', hr, h1, h2, h3⟩ := Lib.run_append_own_string (P := P) w 0 t u ty e i ht hu hi hz hsize hby v n xs hown s h63 hb (Nat.zero_le _)
 have hxl : xs.length = n := by simpa using hown.1
 refine ⟨v', w', hr, h1, ?_⟩
 rcases hown.2 with ⟨rfl, rfl⟩ | ⟨g, cap, cur, rfl, hbg, hg, hnc, hcm, hcs, htake⟩
 ·by_cases hm : s.size = 0
  ·have e1 := h3.2 ⟨rfl, hm⟩
   exact ⟨by rw [e1]; exact h2, .inl ⟨rfl, e1, hm⟩⟩
  ·have hr2 := run_append_nil_string (P := P) w t u ty e i (.int .u8 0) ht hu hi hz s (by omega) (by omega) (by rw [hby]; omega)
   rw [hr] at hr2
   injection hr2 with e1 e2
   refine ⟨?_, .inr (.inr ⟨_, by rw [e1, Nat.zero_add], by omega⟩)⟩
   rw [e2]
   exact ⟨rfl, rfl, rfl, by simp, fun k hk _ => Lib.alloc_old w.drew _ k hk⟩
 ·by_cases hroom : n + s.size ≤ cap
  ·have hcs' : cur.size = cap := by simpa using hcs
   have hr2 := Lib.run_append_room_string (P := P) w t u ty e i ht hu hi hsize g n cap cur hg s hroom (by omega)
   rw [hr] at hr2
   injection hr2 with e1 e2
   exact ⟨by rw [e1]; exact h2, .inr (.inl ⟨g, cap, rfl, e1⟩)⟩
  ·have holds : ∀ j u, xs[j]? = some u → w.cell? ((⟨g, 0, none⟩ : Addr).add j) = some u := hown.cells (g := g) rfl
   have hr2 := Lib.run_append_grow_string (P := P) w t u ty e i (.int .u8 0) ht hu hi hz ⟨g, 0, none⟩ n cap xs (by rw [hsize]; simpa using hxl) holds s (by omega) (by omega) (by rw [hby]; exact growslice_fits (by omega) (by omega))
   rw [hr] at hr2
   injection hr2 with e1 e2
   refine ⟨?_, .inr (.inr ⟨_, e1, by omega⟩)⟩
   rw [e2]
   exact ⟨rfl, rfl, rfl, by simp, fun k hk _ => Lib.alloc_old w.drew _ k hk⟩
end

theorem wpList_bldAppend {P : Program} {w w' : World} {ops : Array Oper} {rest : List Oper} {o : Oper} {a : Act} {Q : Exit → Act → World → Prop} {v v' : Value} {s : ByteArray} (hgd : o.guard = none) (sl x : Operand) (t u ty : TypeId)
  (ho : o.op = .call { callee := .builtin .append, args := #[sl, x], argTypes := #[t, u] }) (hty : o.type = ty) (hs : a.eval sl = v) (hx : a.eval x = .string s) (hrun : (Builtin.append_ #[t, u] ty #[v, .string s]).run P w = .ok v' w')
  (h : wpList P ops Q rest (a.put o.dst v') w') : wpList P ops Q (o :: rest) a w := by
 refine wpList_plain hgd fun K hK => ?_
 subst hty
 unfold Oper.wp execOp
 simp only [ho, resolve, invoke, builtin, Sem.run_bind, Sem.run_pure, Result.andThen_ok, List.map_toArray, List.map_cons, List.map_nil, hs, hx, hrun]
 exact hK _ _ h

section
variable {P : Program} {ρ : Ren}

set_option maxHeartbeats 1000000 in
set_option maxRecDepth 100000 in
/-- The check of an unused builder within a block of type T. -/
theorem bldCheck0 (L : Lays.n240 P ρ) (X : Builder.X72 P ρ) {T : TypeId} (hl : liesAt P P.depth T (2 / P.cellsOf T) 0 (ρ.t 72) 1 = true) (b : Nat) (w : World) (h0 : w.cell? ⟨b, 0, none⟩ = some (.pointer none)) (hsh : w.shape? b = some (T, 2)) (hfz : w.frozen? ⟨b, 0, none⟩ = false) :
  Calls P (ρ.f 240) #[.pointer (some ⟨b, 0, none⟩)] w fun e w' => e = .returned (.tuple #[]) ∧ w' = w.setCell ⟨b, 0, none⟩ (.pointer (some ⟨b, 0, none⟩)) := by
 obtain ⟨j, hj, hjs⟩ := Option.map_eq_some_iff.1 X.sizeBuilder
 have mixed := L.mixed
 have t72 := L.t72; have a72 := L.a72; have z72 := L.z72; have v72 := L.v72; have u72 := run_underlying L.t72
 have t70 := L.t70; have a70 := L.a70; have z70 := L.z70; have v70 := L.v70; have u70 := run_underlying L.t70
 have t9 := L.t9; have a9 := L.a9; have z9 := L.z9; have v9 := L.v9; have u9 := run_underlying L.t9
 have t4 := L.t4; have a4 := L.a4; have z4 := L.z4; have v4 := L.v4; have u4 := run_underlying L.t4
 have t164 := L.t164; have a164 := L.a164; have z164 := L.z164; have v164 := L.v164; have u164 := run_underlying L.t164
 go_enter L.f240, Body.n240_ntmps ρ
 go_wp2
 rw [Lib.run_to_unsafe w ⟨b, 0, none⟩ L.t70 L.t164 hj (by rw [hjs]; decide) hsh (Nat.zero_lt_succ 1)]
 simp only [Result.andThen]
 rw [Oper.upon_value]
 go_wp2
 rw [run_callFunc_extern L.f276 (by kernel_rfl) (by kernel_rfl) (by kernel_rfl) (e := Extern.AbiNoEscape.same) (by kernel_rfl)]
 rw [Lib.run_noEscape]
 simp only [Result.andThen]
 rw [Oper.upon_value]
 go_wp2
 rw [Lib.run_from_unsafe w ⟨b, 0, none⟩ L.t164 L.t70 hj hsh hl]
 simp only [Result.andThen]
 rw [Oper.upon_value]
 go_wp2
 go_end0
 exact ⟨rfl, rfl⟩

/-- The check: behind it the first cell holds the builder's own address; nothing else turns. -/
theorem bldCheck (L : Lays.n240 P ρ) (X : Builder.X72 P ρ) {T e : TypeId} (hl : liesAt P P.depth T (2 / P.cellsOf T) 0 (ρ.t 72) 1 = true) (b : Nat) (p v : Value) (n : Nat) (bs : List Value) (w : World) (h : BldAt T e b p v n bs w) :
  Calls P (ρ.f 240) #[.pointer (some ⟨b, 0, none⟩)] w fun e' w' => e' = .returned (.tuple #[]) ∧ BldAt T e b (.pointer (some ⟨b, 0, none⟩)) v n bs w' ∧ w.grownBy w' (some b) ∧ w'.heap.size = w.heap.size := by
 obtain ⟨h1, hp, h3, h4⟩ := h
 rcases hp with rfl | rfl
 ·refine (bldCheck0 L X hl b w (by rw [Lib.cell_of_heap h1]; rfl) (by simp [World.shape?, h1]) (Lib.frozen_of_heap h1 0)).mono ?_
  rintro e' w' ⟨rfl, rfl⟩
  have hgr : w.grownBy (w.setCell ⟨b, 0, none⟩ (.pointer (some ⟨b, 0, none⟩))) (some b) := ⟨rfl, rfl, rfl, by simp [World.setCell], fun k _ hk => Below.heap_setCell _ _ _ _ (fun e => hk (by simp [e]))⟩
  exact ⟨rfl, ⟨by simp [World.setCell, Array.getElem?_modify, h1], .inr rfl, h3.kept hgr (.inr h4), h4⟩, hgr, by simp [World.setCell]⟩
 ·refine (Any.Builder_copyCheck_used L X b w (by rw [Lib.cell_of_heap h1]; rfl)).mono ?_
  rintro e' w' ⟨rfl, rfl⟩
  exact ⟨rfl, ⟨h1, .inr rfl, h3, h4⟩, ⟨rfl, rfl, rfl, Nat.le_refl _, fun _ _ _ => rfl⟩, rfl⟩

set_option maxHeartbeats 1000000 in
set_option maxRecDepth 100000 in
/-- How many bytes there are. -/
theorem bldLen (L : Lays.n170 P ρ) {T e : TypeId} (b : Nat) (p v : Value) (n : Nat) (bs : List Value) (w : World) (h : BldAt T e b p v n bs w) :
  Calls P (ρ.f 170) #[.pointer (some ⟨b, 0, none⟩)] w fun e' w' => e' = .returned (.int .i64 n) ∧ w' = w := by
 obtain ⟨h1, _, h3, _⟩ := h
 obtain ⟨ao, cap, rfl⟩ : ∃ ao cap, v = .slice ao n cap := by
  rcases h3.2 with ⟨hv, h0⟩ | ⟨g, cap, cur, hv, _⟩
  ·exact ⟨none, 0, by rw [hv, h0]⟩
  ·exact ⟨_, _, hv⟩
 have c1 : w.cell? ⟨b, 1, none⟩ = some (.slice ao n cap) := by rw [Lib.cell_of_heap h1]; rfl
 have mixed := L.mixed
 have t72 := L.t72; have a72 := L.a72; have z72 := L.z72; have v72 := L.v72; have u72 := run_underlying L.t72
 have t70 := L.t70; have a70 := L.a70; have z70 := L.z70; have v70 := L.v70; have u70 := run_underlying L.t70
 have t37 := L.t37; have a37 := L.a37; have z37 := L.z37; have v37 := L.v37; have u37 := run_underlying L.t37
 have t3 := L.t3; have a3 := L.a3; have z3 := L.z3; have v3 := L.v3; have u3 := run_underlying L.t3
 go_enter L.f170, Body.n170_ntmps ρ
 go_wp2
 go_ret
 exact ⟨rfl, rfl⟩

set_option maxHeartbeats 2000000 in
set_option maxRecDepth 100000 in
/-- A text is written behind it. -/
theorem bldWrite (L : Lays.n166 P ρ) (X : Builder.Extra P ρ) {T : TypeId} (hl : liesAt P P.depth T (2 / P.cellsOf T) 0 (ρ.t 72) 1 = true) (hTe : T ≠ ρ.t 5) (b : Nat) (p v : Value) (n : Nat) (bs : List Value) (s : ByteArray) (w : World) (h : BldAt T (ρ.t 5) b p v n bs w)
  (hlen : n + s.size ≤ 140737488355328) :
  Calls P (ρ.f 166) #[.pointer (some ⟨b, 0, none⟩), .string s] w fun e w' => e = .returned (.tuple #[.int .i64 s.size, .nilIface]) ∧ ∃ v', BldAt T (ρ.t 5) b (.pointer (some ⟨b, 0, none⟩)) v' (n + s.size) (bs ++ Lib.strCells s) w' ∧
   (w'.os = w.os ∧ w'.tape = w.tape ∧ w'.output = w.output ∧ w.heap.size ≤ w'.heap.size) ∧ (∀ k, k < w.heap.size → k ≠ b → v'.ownBlock ≠ some k → w'.heap[k]? = w.heap[k]?) ∧
   ((v = .slice none 0 0 ∧ v' = v ∧ s.size = 0) ∨ (∃ g cap, v = .slice (some ⟨g, 0, none⟩) n cap ∧ v' = .slice (some ⟨g, 0, none⟩) (n + s.size) cap) ∨ ∃ cap, v' = .slice (some ⟨w.heap.size, 0, none⟩) (n + s.size) cap ∧ 0 < n + s.size) := by
 obtain ⟨i0, hi, hz0, hz1, hz2⟩ := info_parts X.infoByte
 have mixed := L.mixed
 have t72 := L.t72; have a72 := L.a72; have z72 := L.z72; have v72 := L.v72; have u72 := run_underlying L.t72
 have t70 := L.t70; have a70 := L.a70; have z70 := L.z70; have v70 := L.v70; have u70 := run_underlying L.t70
 have t37 := L.t37; have a37 := L.a37; have z37 := L.z37; have v37 := L.v37; have u37 := run_underlying L.t37
 have t3 := L.t3; have a3 := L.a3; have z3 := L.z3; have v3 := L.v3; have u3 := run_underlying L.t3
 have t9 := L.t9; have a9 := L.a9; have z9 := L.z9; have v9 := L.v9; have u9 := run_underlying L.t9
 have t4 := L.t4; have a4 := L.a4; have z4 := L.z4; have v4 := L.v4; have u4 := run_underlying L.t4
 have t164 := L.t164; have a164 := L.a164; have z164 := L.z164; have v164 := L.v164; have u164 := run_underlying L.t164
 have t5 := X.t5; have a5 := X.a5; have z5 := X.z5; have v5 := X.v5; have u5 := run_underlying X.t5
 have e240 : ∀ args w, (callFunc (ρ.f 240) args).run P w = .ok (.enter (ρ.f 240) args) w := enters_of L.f240 (by kernel_rfl) rfl
 go_enter L.f166, Body.n166_ntmps ρ
 go_wp2_with (go_at_fn (ρ.f 240); refine (bldCheck { L with } X.toX72 hl b p v n bs _ h).mono ?_)
 rintro e w1 ⟨rfl, ⟨hbk, _, hown, hne⟩, hg1, hs1⟩
 have c0 : w1.cell? ⟨b, 0, none⟩ = some (.pointer (some ⟨b, 0, none⟩)) := by rw [Lib.cell_of_heap hbk]; rfl
 have c1 : w1.cell? ⟨b, 1, none⟩ = some v := by rw [Lib.cell_of_heap hbk]; rfl
 obtain ⟨v', w2, hrun, hown', hgrow, hcase⟩ := bldAppend (P := P) w1 (ty := ρ.t 37) L.t37 L.t9 hi hz0 hz1 hz2 v n bs hown s hlen
 have hlt : b < w1.heap.size := (Array.getElem?_eq_some_iff.1 hbk).1
 have hne' : v'.ownBlock ≠ some b := by
  rcases hcase with ⟨_, e1, _⟩ | ⟨g, cap, e1, e2⟩ | ⟨cap, e1, _⟩
  ·rw [e1]; exact hne
  ·rw [e2]; rw [e1] at hne; exact hne
  ·rw [e1]; simp [Value.ownBlock]; omega
 have hb2 : w2.heap[b]? = some (.cells #[.pointer (some ⟨b, 0, none⟩), v] T (0, 0)) := by
  rw [hgrow.block b hlt (fun e => hne' e.symm)]
  exact hbk
 have d0 : w2.cell? ⟨b, 0, none⟩ = some (.pointer (some ⟨b, 0, none⟩)) := by rw [Lib.cell_of_heap hb2]; rfl
 have d1 : w2.cell? ⟨b, 1, none⟩ = some v := by rw [Lib.cell_of_heap hb2]; rfl
 have f1 : w2.frozen? ⟨b, 1, none⟩ = false := Lib.frozen_of_heap hb2 1
 obtain ⟨ao, n', cap, rfl⟩ : ∃ ao n' cap, v' = .slice ao n' cap := by
  rcases hown'.2 with ⟨hv, _⟩ | ⟨g, cap, cur, hv, _⟩
  ·exact ⟨_, _, _, hv⟩
  ·exact ⟨_, _, _, hv⟩
 go_wp2_with (at_builtin; refine wpList_bldAppend rfl _ _ (ρ.t 37) (ρ.t 9) (ρ.t 37) rfl rfl rfl rfl hrun ?_)
 go_ret2
 refine ⟨rfl, _, ⟨by simp [World.setCell, Array.getElem?_modify, hb2], .inr rfl, hown'.kept (row := some b) ⟨rfl, rfl, rfl, by simp [World.setCell], fun k _ hk => Below.heap_setCell _ _ _ _ (fun e => hk (by simp [e]))⟩ (.inr hne'), hne'⟩, ⟨?_, ?_, ?_, ?_⟩, fun k hk hkb hkr => ?_, ?_⟩
 ·exact hgrow.os.trans hg1.os
 ·exact hgrow.tape.trans hg1.tape
 ·exact hgrow.output.trans hg1.output
 ·have := hgrow.size
  simp [World.setCell]; omega
 ·rw [Below.heap_setCell _ _ _ _ hkb, hgrow.block k (by omega) (fun e => hkr e.symm), hg1.block k hk (by simpa using hkb)]
 ·rw [hs1] at hcase; exact hcase

set_option maxHeartbeats 2000000 in
set_option maxRecDepth 100000 in
/-- Its text: some of its row is frozen; nothing else turns. -/
theorem bldString (L : Lays.n169 P ρ) (X : Builder.Extra P ρ) {T : TypeId} (b : Nat) (p v : Value) (l : List UInt8) (w : World) (h : BldAt T (ρ.t 5) b p v l.length (Lib.byteCells l) w) (hcap : ∀ g, v ≠ .slice (some ⟨g, 0, none⟩) 0 0) :
  Calls P (ρ.f 169) #[.pointer (some ⟨b, 0, none⟩)] w fun e w' => e = .returned (.string ⟨l.toArray⟩) ∧ (w'.os = w.os ∧ w'.tape = w.tape ∧ w'.output = w.output ∧ w.heap.size ≤ w'.heap.size) ∧ ∀ k, v.ownBlock ≠ some k → w'.heap[k]? = w.heap[k]? := by
 obtain ⟨hbk, _, hown, hne⟩ := h
 have mixed := L.mixed
 have t72 := L.t72; have a72 := L.a72; have z72 := L.z72; have v72 := L.v72; have u72 := run_underlying L.t72
 have t70 := L.t70; have a70 := L.a70; have z70 := L.z70; have v70 := L.v70; have u70 := run_underlying L.t70
 have t37 := L.t37; have a37 := L.a37; have z37 := L.z37; have v37 := L.v37; have u37 := run_underlying L.t37
 have t127 := L.t127; have a127 := L.a127; have z127 := L.z127; have v127 := L.v127; have u127 := run_underlying L.t127
 have t3 := L.t3; have a3 := L.a3; have z3 := L.z3; have v3 := L.v3; have u3 := run_underlying L.t3
 have t9 := L.t9; have a9 := L.a9; have z9 := L.z9; have v9 := L.v9; have u9 := run_underlying L.t9
 have t5 := X.t5; have a5 := X.a5; have z5 := X.z5; have v5 := X.v5; have u5 := run_underlying X.t5
 rcases hown.2 with ⟨rfl, h0⟩ | ⟨g, cap, cur, rfl, hbg, hg, hnc, hcm, hcs, htake⟩
 ·have hl : l = [] := List.eq_nil_of_length_eq_zero h0
  subst hl
  have hUS := Any.unsafeString_none L X
  have c1 : w.drew.cell? ⟨b, 1, none⟩ = some (.slice none 0 0) := by
   have : w.drew.heap[b]? = some (.cells #[p, .slice none 0 0] T (0, 0)) := hbk
   rw [Lib.cell_of_heap this]; rfl
  have hSD : (Builtin.unsafeSliceData_ #[(ρ.t 37)] (ρ.t 127) #[.slice none 0 0]).run P w.drew = .ok (.pointer none) w.drew := rfl
  go_enter L.f169, Body.n169_ntmps ρ
  go_wp2
  go_region_o
  all_goals (go_wp2; go_ret; exact ⟨rfl, ⟨rfl, rfl, rfl, Nat.le_refl _⟩, fun _ _ => rfl⟩)
 ·have hc0 : cap ≠ 0 := by
   rintro rfl
   exact hcap g (by rw [show l.length = 0 by omega])
  have c1 : w.drew.cell? ⟨b, 1, none⟩ = some (.slice (some ⟨g, 0, none⟩) l.length cap) := by
   have : w.drew.heap[b]? = some (.cells #[p, .slice (some ⟨g, 0, none⟩) l.length cap] T (0, 0)) := hbk
   rw [Lib.cell_of_heap this]; rfl
  have hSD : (Builtin.unsafeSliceData_ #[(ρ.t 37)] (ρ.t 127) #[.slice (some ⟨g, 0, none⟩) l.length cap]).run P w.drew = .ok (.pointer (some ⟨g, 0, none⟩)) w.drew :=
   Lib.run_unsafeSliceData_row _ _ _ _ _ _ hc0
  by_cases hl : l = []
  ·subst hl
   have hUS := Any.unsafeString_none L X
   clear hc0 hcap
   simp only [List.length_nil] at c1 hSD
   go_enter L.f169, Body.n169_ntmps ρ
   go_wp2
   go_region_o
   all_goals (go_wp2; go_ret; exact ⟨rfl, ⟨rfl, rfl, rfl, Nat.le_refl _⟩, fun _ _ => rfl⟩)
  ·have hUS : (Builtin.unsafeString_ #[(ρ.t 127), (ρ.t 3)] (ρ.t 9) #[.pointer (some ⟨g, 0, none⟩), .int .i64 l.length]).run P w.drew = .ok (.string ⟨l.toArray⟩) (w.drew.freeze ⟨g, 0, none⟩ l.length) := by
    refine Lib.run_unsafeString_row w.drew (ρ.t 127) (ρ.t 3) (ρ.t 9) (ρ.t 5) L.t127 X.cellsByte g cur.size (by have hg' : w.drew.heap[g]? = some (.cells cur (ρ.t 5) (0, 0)) := hg; simp [World.shape?, hg']) l hl (by omega) (by unfold maxLen at hcm; omega) ?_
    intro j x hx
    exact hown.cells (g := g) rfl j (.int .u8 x.toNat) (by simp [Lib.byteCells, hx])
   have hfz : ∀ k, g ≠ k → (w.drew.freeze ⟨g, 0, none⟩ l.length).heap[k]? = w.heap[k]? := fun k hk => by
    unfold World.freeze
    split
    ·rfl
    ·show (w.heap.modify g _)[k]? = _
     rw [Array.getElem?_modify, if_neg hk]
   have hfs : (w.drew.freeze ⟨g, 0, none⟩ l.length).heap.size = w.heap.size := by
    unfold World.freeze
    split
    ·rfl
    ·show (w.heap.modify g _).size = _
     simp
   have hfo : (w.drew.freeze ⟨g, 0, none⟩ l.length).os = w.os ∧ (w.drew.freeze ⟨g, 0, none⟩ l.length).tape = w.tape ∧ (w.drew.freeze ⟨g, 0, none⟩ l.length).output = w.output := by
    unfold World.freeze
    split <;> exact ⟨rfl, rfl, rfl⟩
   clear hc0 hcap
   go_enter L.f169, Body.n169_ntmps ρ
   go_wp2
   go_region_o
   all_goals (go_wp2; go_ret; exact ⟨rfl, ⟨hfo.1, hfo.2.1, hfo.2.2, Nat.le_of_eq hfs.symm⟩, fun k hk => hfz k (fun e => hk (by rw [e]; rfl))⟩)
end
end Go.Proofs

namespace Go.SX.Nb
open Go Go.SX Go.Proofs Go.Shelf
variable [ErrAt]
set_option maxRecDepth 8000
/-! show's builder. -/
theorem bldX : Builder.Extra Tryz.prog Tryz.ren155 where
 sizeBuilder := by kernel_rfl
 liesBuilder := by kernel_rfl
 t5 := Tryz.underlying5
 a5 := Tryz.isAgg5
 z5 := Tryz.sizeOf5
 v5 := Tryz.zeroValue5
 infoByte := by kernel_rfl
 cellsByte := by kernel_rfl
 sizeByte := by kernel_rfl
 neB5 := by decide
theorem bldLies : liesAt Tryz.prog Tryz.prog.depth 73 (2 / Tryz.prog.cellsOf 73) 0 71 1 = true := by kernel_rfl
abbrev bldA (bs : Str) : AObj := .bld 73 5 bs
theorem low_bld {n : Nat} {bs : Str} : ObjLow n (bldA bs) := trivial
/-- (*strings.Builder).WriteString. -/
theorem c52 (bs s : Str) (hl : bs.length + s.length ≤ 140737488355328) (o : Nat) (Hp : List AObj) (ho : Hp[o]? = some (bldA bs)) :
  ACall Tryz.prog 52 [.ptr o 0, strA s] Hp (fun r H' => r = .tup [intA s.length, .v .nilIface] ∧ H' = Hp.set o (bldA (bs ++ s))) := by
 refine ACall.bldWrite ho (fun b p v w h => ?_)
 have hw := bldWrite Tryz.lays166 bldX (T := 73) bldLies (by decide) b p v bs.length (Lib.byteCells bs) ⟨s.toArray⟩ w h (by rw [bytes_size]; exact hl)
 rw [bytes_size, Lib.strCells_eq, ← Lib.byteCells_append] at hw
 exact hw
/-- (*strings.Builder).Len. -/
theorem c32 (bs : Str) (o : Nat) (Hp : List AObj) (ho : Hp[o]? = some (bldA bs)) : AFun Tryz.prog 32 [.ptr o 0] Hp (intA bs.length) :=
 AFun.bldLen ho (fun b p v w h => bldLen Tryz.lays170 (T := 73) (e := 5) b p v _ _ w h)
/-- (*strings.Builder).String. -/
theorem c33 (bs : Str) (o : Nat) (Hp : List AObj) (ho : Hp[o]? = some (bldA bs)) : ACall Tryz.prog 33 [.ptr o 0] Hp (fun r H' => r = strA bs ∧ H' = Hp.set o (.cells 73 [.any, .any])) :=
 ACall.bldString ho (fun b p v w h hc => bldString (ρ := Tryz.ren155) { Tryz.lays155 with } bldX (T := 73) b p v bs w h hc)
end Go.SX.Nb
namespace Go.SX.Nb
open Go Go.SX Go.Proofs
variable [ErrAt]
set_option maxRecDepth 4000
abbrev unitA : AV := .v (.tuple #[])
abbrev tops : Nat := 1099511627776
/-- What node writes. -/
def Nodes (e : Expr) : Prop := ∀ (o : Nat) (bs : Str) (Hp : List AObj), Hp[o]? = some (bldA bs) → bs.length + (printE e).length ≤ tops → ACall Tryz.prog 31 [.ptr o 0, exprA e] Hp (fun r H' => r = unitA ∧ H' = Hp.set o (bldA (bs ++ printE e)))
theorem printE_eq (e : Expr) : printE e = nodeS e.op e.text e.val e.kids (e.kids.map printE) := by
 cases e with
 | mk o t v k => rw [printE, printL_map]; rfl
theorem kidP {k : List Expr} {i : Nat} (h : i < k.length) : (k.map printE).getD i [] = printE (k.getD i nullX) := by
 rw [List.getD_eq_getElem?_getD, List.getD_eq_getElem?_getD, List.getElem?_map, List.getElem?_eq_getElem h]
 rfl
theorem sepS_snoc (l : List Str) (s : Str) : sepS (l ++ [s]) = sepS l ++ (44 :: 32 :: s) := by
 induction l with
 | nil => simp [sepS]
 | cons a r ih => simp [sepS, ih]
theorem sep_take {k : List Expr} {x : Nat} (h : x < k.length) : (sepS ((k.take (x + 1)).map printE)).drop 2 = (sepS ((k.take x).map printE)).drop 2 ++ (if 0 < x then [44, 32] else []) ++ printE k[x] := by
 rw [List.take_succ_eq_append_getElem h, List.map_append, List.map_singleton, sepS_snoc]
 cases x with
 | zero => simp [sepS]
 | succ x =>
  have : 2 ≤ (sepS ((k.take (x + 1)).map printE)).length := by
   rw [List.take_succ_eq_append_getElem (by omega), List.map_append, List.map_singleton, sepS_snoc]
   simp
   omega
  rw [List.drop_append_of_le_length this, if_pos (by omega)]
  simp
theorem sep_le {k : List Expr} (x : Nat) : (sepS ((k.take x).map printE)).length ≤ (sepS (k.map printE)).length := by
 have : k.map printE = (k.take x).map printE ++ (k.drop x).map printE := by rw [← List.map_append, List.take_append_drop]
 rw [this]
 have : ∀ a b : List Str, (sepS a).length ≤ (sepS (a ++ b)).length := by
  intro a b
  induction a with
  | nil => simp [sepS]
  | cons c r ih => simp [sepS]; exact ih
 exact this _ _
theorem set_set' {H : List AObj} {o : Nat} {a b : AObj} : (H.set o a).set o b = H.set o b := List.set_set _
theorem c54 (e : Expr) (he : Nodes e) (hlev : levI e = (levE e : Int)) (least : Nat) (l0 : Int) (hl0 : l0 = (least : Int)) (o : Nat) (bs : Str) (Hp : List AObj) (ho : Hp[o]? = some (bldA bs)) (hb : bs.length + (brkS least e (printE e)).length ≤ tops) : ACall Tryz.prog 54 [.ptr o 0, exprA e, intA l0] Hp (fun r H' => r = unitA ∧ H' = Hp.set o (bldA (bs ++ brkS least e (printE e)))) := by
 subst hl0
 refine ACall.body [] [0, 1, 2] Tryz.func54 Tryz.ntmps54 (fun d => ?_)
 refine AW.seqR ?_
 refine R.boxRo ?_
 refine R.fin [0, 2, 4] ?_
 refine W.seq ?_
 refine AW.seqR ?_
 refine R.loadRoN Tryz.isAgg27 Tryz.sizeOf27 ?_
 refine R.call Tryz.call15 (c15 e _) ?_
 refine R.move ?_
 refine R.geq ?_
 refine R.fin [0, 4, 9] ?_
 refine W.cond (fun ht9 => ?_) (fun ht9 => ?_)
 ·skip
  have hz : least ≤ levE e := by
   have h := ht9
   rw [hlev] at h
   simpa using h
  rw [show brkS least e (printE e) = printE e from if_pos hz] at hb ⊢
  refine AW.seqR ?_
  refine R.move ?_
  refine R.loadRoN Tryz.isAgg27 Tryz.sizeOf27 ?_
  refine R.callUp Tryz.call31 ho (by simp) low_bld (he o bs _ (get_up ho) (by omega)) ?_
  refine R.fin [] ?_
  refine AW.ret ?_
  refine K.thR ?_
  exact K.fin .nores ⟨rfl, by simp⟩
 ·skip
  have hz : ¬ least ≤ levE e := by
   have h := ht9
   rw [hlev] at h
   simpa using h
  rw [show brkS least e (printE e) = 40 :: (printE e ++ [41]) from if_neg hz] at hb ⊢
  simp only [List.length_cons, List.length_append, List.length_nil, tops] at hb
  refine AW.skip ?_
  refine K.thN ?_
  refine AW.seqR ?_
  refine R.move ?_
  refine R.nilPtr ?_
  refine R.fieldAddrPtr (fo := 0) Tryz.underlying73 Tryz.sizeOf71 ?_
  refine R.callUp Tryz.call52 ho (by simp) low_bld (c52 bs [40] (by simp only [tops, List.length_append, List.length_cons, List.length_nil] at *; omega) o _ (get_up ho)) ?_
  refine R.fin [0, 4] ?_
  refine AW.seqR ?_
  refine R.move ?_
  refine R.loadRoN Tryz.isAgg27 Tryz.sizeOf27 ?_
  refine R.callUp Tryz.call31 (getset ho) (by simp) low_bld (he o (bs ++ [40]) _ (get_up (getset ho)) (by simp only [tops, List.length_append, List.length_cons, List.length_nil] at *; omega)) ?_
  refine R.fin [0] ?_
  refine AW.region ?_
  refine R.move ?_
  refine R.nilPtr ?_
  refine R.fieldAddrPtr (fo := 0) Tryz.underlying73 Tryz.sizeOf71 ?_
  refine R.callUp Tryz.call52 (getset (getset ho)) (by simp) low_bld (c52 (bs ++ [40] ++ printE e) [41] (by simp only [tops, List.length_append, List.length_cons, List.length_nil] at *; omega) o _ (get_up (getset (getset ho)))) ?_
  refine R.fin [] ?_
  exact K.finN .nores ⟨rfl, by simp⟩

theorem c31 : ∀ (n : Nat) (e : Expr), okE n e → allE nodeM e = true → allE rngN e = true → Nodes e := by
 intro n
 induction n with
 | zero => exact fun e h => h.elim
 | succ n ih =>
 intro e hok hnd hrg o bs Hp ho hb
 have hnd0 := hnd
 have hrg0 := hrg
 rw [allE_eq, Bool.and_eq_true] at hnd0 hrg0
 have hev : ∀ y ∈ e.kids, Nodes y := fun y hy => ih y (hok.2.2 y hy) ((allL_iff _ _).1 hnd0.2 y hy) ((allL_iff _ _).1 hrg0.2 y hy)
 have hlv : ∀ y ∈ e.kids, levI y = (levE y : Int) := fun y hy => levI_eq (by have := (allL_iff _ _).1 hnd0.2 y hy; rw [allE_eq, Bool.and_eq_true] at this; exact this.1)
 obtain ⟨k5, k34, k6, kall⟩ := kids_len hnd0.1
 have hi64 : i64R e.val.n := by
  have := hrg0.1
  simp only [rngN, Bool.and_eq_true, decide_eq_true_eq] at this
  exact this
 have hlv0 := levI_eq hnd0.1
 have pe := printE_eq e
 have hol := (List.getElem?_eq_some_iff.1 ho).1
 unfold nodeS at pe
 refine ACall.body [] [0, 1] Tryz.func31 Tryz.ntmps31 (fun d => ?_)
 refine AW.seqR ?_
 refine R.boxRo ?_
 refine R.fin [0, 3] ?_
 refine AW.seqR ?_
 refine R.loadRoN Tryz.isAgg27 Tryz.sizeOf27 ?_
 refine R.call Tryz.call15 (c15 e _) ?_
 refine R.assign ?_
 refine R.fin [0, 3, 4] ?_
 refine AW.seqR ?_
 refine R.fieldAddrRo (off := 0) Tryz.underlying27 Tryz.sizeOf3 ?_
 refine R.loadRo Tryz.isAgg3 ?_
 refine R.fin [0, 3, 4, 11] ?_
 refine AW.block ?_
 refine AW.seqR ?_
 refine R.eql ?_
 refine R.assign ?_
 refine R.fin [0, 3, 4, 11, 12] ?_
 refine W.cond (fun ht12 => ?_) (fun ht12 => ?_)
 ·skip
  rw [if_pos ht12] at pe
  refine W.draw0 [0, 1, 3, 0, 8, 24, 63] 6 Tryzmixed (by kernel_rfl) ?_
  refine D.move ?_
  refine D.nilPtr ?_
  refine D.fieldAddrPtr (fo := 0) Tryz.underlying73 Tryz.sizeOf71 ?_
  refine D.fieldAddrRo (off := 2) Tryz.underlying27 Tryz.sizeOf24 ?_
  refine D.loadRoN Tryz.isAgg24 Tryz.sizeOf24 ?_
  refine D.call Tryz.call53 (c53 e.val hi64 _) ?_
  refine D.tail ?_
  refine R.callUp Tryz.call52 ho (by simp) low_bld (c52 bs (printM e.val) (by rw [pe] at hb; simp only [tops] at hb; omega) o _ (get_up ho)) ?_
  refine R.fin [] ?_
  refine K.blN ?_
  exact K.finN .nores ⟨rfl, by rw [pe] <;> simp [notW]⟩
 ·skip
  rw [if_neg (by rw [ht12]; simp)] at pe
  refine AW.seqR ?_
  refine R.eql ?_
  refine R.assign ?_
  refine R.fin [0, 3, 4, 11, 21] ?_
  refine W.cond (fun ht21 => ?_) (fun ht21 => ?_)
  ·skip
   rw [if_pos ht21] at pe
   refine W.draw0 [0, 1, 3, 0, 8, 31] 5 Tryzmixed (by kernel_rfl) ?_
   refine D.move ?_
   refine D.nilPtr ?_
   refine D.fieldAddrPtr (fo := 0) Tryz.underlying73 Tryz.sizeOf71 ?_
   refine D.fieldAddrRo (off := 1) Tryz.underlying27 Tryz.sizeOf9 ?_
   refine D.loadRo Tryz.isAgg9 ?_
   refine D.tail ?_
   refine R.callUp Tryz.call52 ho (by simp) low_bld (c52 bs e.text (by rw [pe] at hb; simp only [tops] at hb; omega) o _ (get_up ho)) ?_
   refine R.fin [] ?_
   refine K.blN ?_
   exact K.finN .nores ⟨rfl, by rw [pe] <;> simp [notW]⟩
  ·skip
   rw [if_neg (by rw [ht21]; simp)] at pe
   refine AW.seqR ?_
   refine R.eql ?_
   refine R.assign ?_
   refine R.fin [0, 3, 4, 11, 29] ?_
   refine W.cond (fun ht29 => ?_) (fun ht29 => ?_)
   ·skip
    rw [if_pos ht29] at pe
    have hkl := k34 (.inl (by simpa using ht29))
    rw [kidP (by omega)] at pe
    rw [pe] at hb
    simp only [List.length_cons, tops] at hb
    refine AW.seqR ?_
    refine R.move ?_
    refine R.nilPtr ?_
    refine R.fieldAddrPtr (fo := 0) Tryz.underlying73 Tryz.sizeOf71 ?_
    refine R.callUp Tryz.call52 ho (by simp) low_bld (c52 bs [45] (by simp only [tops, List.length_append, List.length_cons, List.length_nil] at *; omega) o _ (get_up ho)) ?_
    refine R.fin [0, 3] ?_
    refine AW.region ?_
    refine R.move ?_
    refine R.fieldAddrRo (off := 5) Tryz.underlying27 Tryz.sizeOf25 ?_
    refine R.loadRo Tryz.isAgg25 ?_
    refine R.indexAddr (0) (exprA (e.kids.getD 0 nullX)) Tryz.underlying25 Tryz.sizeOf27 (kidD (by omega)).1 ?_
    refine R.loadRoN Tryz.isAgg27 Tryz.sizeOf27 ?_
    refine R.callUp Tryz.call54 (getset ho) (by simp) low_bld (c54 (e.kids.getD 0 nullX) (hev _ (kidD (by omega)).2.1) (hlv _ (kidD (by omega)).2.1) (6) _ (rfl) o (bs ++ [45]) _ (get_up (getset ho)) (by simp only [tops, List.length_append, List.length_cons, List.length_nil] at *; omega)) ?_
    refine R.fin [] ?_
    refine K.blN ?_
    exact K.finN .nores ⟨rfl, by rw [pe] <;> simp [notW]⟩
   ·skip
    rw [if_neg (by rw [ht29]; simp)] at pe
    refine AW.seqR ?_
    refine R.eql ?_
    refine R.assign ?_
    refine R.fin [0, 3, 4, 11, 41] ?_
    refine W.cond (fun ht41 => ?_) (fun ht41 => ?_)
    ·skip
     rw [if_pos ht41] at pe
     have hkl := k34 (.inr (by simpa using ht41))
     rw [kidP (by omega)] at pe
     rw [pe] at hb
     simp only [List.length_cons, List.length_append, notW, List.length_nil, tops] at hb
     refine AW.seqR ?_
     refine R.move ?_
     refine R.nilPtr ?_
     refine R.fieldAddrPtr (fo := 0) Tryz.underlying73 Tryz.sizeOf71 ?_
     refine R.callUp Tryz.call52 ho (by simp) low_bld (c52 bs [110, 111, 116, 32] (by simp only [tops, List.length_append, List.length_cons, List.length_nil] at *; omega) o _ (get_up ho)) ?_
     refine R.fin [0, 3] ?_
     refine AW.region ?_
     refine R.move ?_
     refine R.fieldAddrRo (off := 5) Tryz.underlying27 Tryz.sizeOf25 ?_
     refine R.loadRo Tryz.isAgg25 ?_
     refine R.indexAddr (0) (exprA (e.kids.getD 0 nullX)) Tryz.underlying25 Tryz.sizeOf27 (kidD (by omega)).1 ?_
     refine R.loadRoN Tryz.isAgg27 Tryz.sizeOf27 ?_
     refine R.callUp Tryz.call54 (getset ho) (by simp) low_bld (c54 (e.kids.getD 0 nullX) (hev _ (kidD (by omega)).2.1) (hlv _ (kidD (by omega)).2.1) (2) _ (rfl) o (bs ++ [110, 111, 116, 32]) _ (get_up (getset ho)) (by simp only [tops, List.length_append, List.length_cons, List.length_nil] at *; omega)) ?_
     refine R.fin [] ?_
     refine K.blN ?_
     exact K.finN .nores ⟨rfl, by rw [pe] <;> simp [notW]⟩
    ·skip
     rw [if_neg (by rw [ht41]; simp)] at pe
     refine AW.seqR ?_
     refine R.eql ?_
     refine R.assign ?_
     refine R.fin [0, 3, 4, 11, 53] ?_
     refine W.cond (fun ht53 => ?_) (fun ht53 => ?_)
     ·skip
      rw [if_pos ht53] at pe
      have h5 : e.op = 5 := by simpa using ht53
      have hkl := k5 h5
      have hlv5 : levE e = (levelM e.text).toNat := by simp [levE, h5]
      have hl5 := level_le e.text
      rw [kidP (by omega), kidP (by omega)] at pe
      rw [pe] at hb
      simp only [List.length_cons, List.length_append, tops] at hb
      rw [hlv0, hlv5]
      refine AW.seqR ?_
      refine R.move ?_
      refine R.assign ?_
      refine R.fin [0, 3, 4, 5] ?_
      refine W.seq ?_
      refine AW.seqR ?_
      refine R.move ?_
      refine R.eql ?_
      refine R.fin [0, 3, 4, 5, 57] ?_
      refine W.cond (fun ht57 => ?_) (fun ht57 => ?_)
      ·skip
       have h3 : (levelM e.text).toNat = 3 := by have := ht57; simp at this; omega
       have hf1 : (((levelM e.text).toNat : Int) + 1) = ((firstL (levelM e.text).toNat : Nat) : Int) := by rw [h3]; rfl
       refine AW.region ?_
       refine R.move ?_
       refine R.add64 ?_
       refine R.assign ?_
       refine R.fin [0, 3, 4, 5] ?_
       refine K.thN ?_
       refine AW.seqR ?_
       refine R.move ?_
       refine R.fieldAddrRo (off := 5) Tryz.underlying27 Tryz.sizeOf25 ?_
       refine R.loadRo Tryz.isAgg25 ?_
       refine R.indexAddr (0) (exprA (e.kids.getD 0 nullX)) Tryz.underlying25 Tryz.sizeOf27 (kidD (by omega)).1 ?_
       refine R.loadRoN Tryz.isAgg27 Tryz.sizeOf27 ?_
       refine R.move ?_
       refine R.callUp Tryz.call54 ho (by simp) low_bld (c54 (e.kids.getD 0 nullX) (hev _ (kidD (by omega)).2.1) (hlv _ (kidD (by omega)).2.1) (firstL (levelM e.text).toNat) _ (by first | exact hf1 | rw [hf2]) o (bs) _ (get_up ho) (by simp only [tops, List.length_append, List.length_cons, List.length_nil] at *; omega)) ?_
       refine R.fin [0, 3, 4] ?_
       refine W.draw [0, 1, 3, 0, 8, 24, 56, 127] 7 Tryzmixed (by kernel_rfl) ?_
       refine D.move ?_
       refine D.nilPtr ?_
       refine D.fieldAddrPtr (fo := 0) Tryz.underlying73 Tryz.sizeOf71 ?_
       refine D.fieldAddrRo (off := 1) Tryz.underlying27 Tryz.sizeOf9 ?_
       refine D.loadRo Tryz.isAgg9 ?_
       refine D.sadd (hl := by simp only [List.length_cons, List.length_nil]; omega) ?_
       refine D.sadd (hl := by simp only [List.length_cons, List.length_nil, List.length_append]; omega) ?_
       refine D.tail ?_
       refine R.callUp Tryz.call52 (getset ho) (by simp) low_bld (c52 (bs ++ brkS (firstL (levelM e.text).toNat) (e.kids.getD 0 nullX) (printE (e.kids.getD 0 nullX))) (32 :: (e.text ++ [32])) (by simp only [tops, List.length_append, List.length_cons, List.length_nil] at *; omega) o _ (get_up (getset ho))) ?_
       refine R.fin [0, 3, 4] ?_
       refine AW.region ?_
       refine R.move ?_
       refine R.fieldAddrRo (off := 5) Tryz.underlying27 Tryz.sizeOf25 ?_
       refine R.loadRo Tryz.isAgg25 ?_
       refine R.indexAddr (1) (exprA (e.kids.getD 1 nullX)) Tryz.underlying25 Tryz.sizeOf27 (kidD (by omega)).1 ?_
       refine R.loadRoN Tryz.isAgg27 Tryz.sizeOf27 ?_
       refine R.move ?_
       refine R.add64 ?_
       refine R.callUp Tryz.call54 (getset (getset ho)) (by simp) low_bld (c54 (e.kids.getD 1 nullX) (hev _ (kidD (by omega)).2.1) (hlv _ (kidD (by omega)).2.1) ((levelM e.text).toNat + 1) _ (by first | rfl | (push_cast; rfl)) o (bs ++ brkS (firstL (levelM e.text).toNat) (e.kids.getD 0 nullX) (printE (e.kids.getD 0 nullX)) ++ 32 :: (e.text ++ [32])) _ (get_up (getset (getset ho))) (by simp only [tops, List.length_append, List.length_cons, List.length_nil] at *; omega)) ?_
       refine R.fin [] ?_
       refine K.blN ?_
       exact K.finN .nores ⟨rfl, by rw [pe] <;> simp [notW]⟩
      ·skip
       have h3 : (levelM e.text).toNat ≠ 3 := by have := ht57; simp at this; omega
       have hf2 : firstL (levelM e.text).toNat = (levelM e.text).toNat := by unfold firstL; rw [if_neg h3]
       refine AW.skip ?_
       refine K.thN ?_
       refine AW.seqR ?_
       refine R.move ?_
       refine R.fieldAddrRo (off := 5) Tryz.underlying27 Tryz.sizeOf25 ?_
       refine R.loadRo Tryz.isAgg25 ?_
       refine R.indexAddr (0) (exprA (e.kids.getD 0 nullX)) Tryz.underlying25 Tryz.sizeOf27 (kidD (by omega)).1 ?_
       refine R.loadRoN Tryz.isAgg27 Tryz.sizeOf27 ?_
       refine R.move ?_
       refine R.callUp Tryz.call54 ho (by simp) low_bld (c54 (e.kids.getD 0 nullX) (hev _ (kidD (by omega)).2.1) (hlv _ (kidD (by omega)).2.1) (firstL (levelM e.text).toNat) _ (by first | exact hf1 | rw [hf2]) o (bs) _ (get_up ho) (by simp only [tops, List.length_append, List.length_cons, List.length_nil] at *; omega)) ?_
       refine R.fin [0, 3, 4] ?_
       refine W.draw [0, 1, 3, 0, 8, 24, 56, 127] 7 Tryzmixed (by kernel_rfl) ?_
       refine D.move ?_
       refine D.nilPtr ?_
       refine D.fieldAddrPtr (fo := 0) Tryz.underlying73 Tryz.sizeOf71 ?_
       refine D.fieldAddrRo (off := 1) Tryz.underlying27 Tryz.sizeOf9 ?_
       refine D.loadRo Tryz.isAgg9 ?_
       refine D.sadd (hl := by simp only [List.length_cons, List.length_nil]; omega) ?_
       refine D.sadd (hl := by simp only [List.length_cons, List.length_nil, List.length_append]; omega) ?_
       refine D.tail ?_
       refine R.callUp Tryz.call52 (getset ho) (by simp) low_bld (c52 (bs ++ brkS (firstL (levelM e.text).toNat) (e.kids.getD 0 nullX) (printE (e.kids.getD 0 nullX))) (32 :: (e.text ++ [32])) (by simp only [tops, List.length_append, List.length_cons, List.length_nil] at *; omega) o _ (get_up (getset ho))) ?_
       refine R.fin [0, 3, 4] ?_
       refine AW.region ?_
       refine R.move ?_
       refine R.fieldAddrRo (off := 5) Tryz.underlying27 Tryz.sizeOf25 ?_
       refine R.loadRo Tryz.isAgg25 ?_
       refine R.indexAddr (1) (exprA (e.kids.getD 1 nullX)) Tryz.underlying25 Tryz.sizeOf27 (kidD (by omega)).1 ?_
       refine R.loadRoN Tryz.isAgg27 Tryz.sizeOf27 ?_
       refine R.move ?_
       refine R.add64 ?_
       refine R.callUp Tryz.call54 (getset (getset ho)) (by simp) low_bld (c54 (e.kids.getD 1 nullX) (hev _ (kidD (by omega)).2.1) (hlv _ (kidD (by omega)).2.1) ((levelM e.text).toNat + 1) _ (by first | rfl | (push_cast; rfl)) o (bs ++ brkS (firstL (levelM e.text).toNat) (e.kids.getD 0 nullX) (printE (e.kids.getD 0 nullX)) ++ 32 :: (e.text ++ [32])) _ (get_up (getset (getset ho))) (by simp only [tops, List.length_append, List.length_cons, List.length_nil] at *; omega)) ?_
       refine R.fin [] ?_
       refine K.blN ?_
       exact K.finN .nores ⟨rfl, by rw [pe] <;> simp [notW]⟩
     ·skip
      rw [if_neg (by rw [ht53]; simp)] at pe
      refine AW.seqR ?_
      refine R.eql ?_
      refine R.assign ?_
      refine R.fin [0, 3, 83] ?_
      refine W.cond (fun ht83 => ?_) (fun ht83 => ?_)
      ·skip
       have hsl : ∀ x, ((sepS ((e.kids.take x).map printE)).drop 2).length ≤ ((sepS (e.kids.map printE)).drop 2).length := fun x => by have := sep_le (k := e.kids) x; rw [List.length_drop, List.length_drop]; omega
       have hkl6 := hok.2.1
       rw [pe] at hb
       simp only [List.length_cons, List.length_append, List.length_nil, tops] at hb
       refine W.draw [0, 1, 3, 0, 8, 24, 63] 6 Tryzmixed (by kernel_rfl) ?_
       refine D.move ?_
       refine D.nilPtr ?_
       refine D.fieldAddrPtr (fo := 0) Tryz.underlying73 Tryz.sizeOf71 ?_
       refine D.fieldAddrRo (off := 1) Tryz.underlying27 Tryz.sizeOf9 ?_
       refine D.loadRo Tryz.isAgg9 ?_
       refine D.sadd (hl := by simp only [List.length_cons, List.length_nil]; omega) ?_
       refine D.tail ?_
       refine R.callUp Tryz.call52 ho (by simp) low_bld (c52 bs (e.text ++ [40]) (by simp only [tops, List.length_append, List.length_cons, List.length_nil] at *; omega) o _ (get_up ho)) ?_
       refine R.fin [0, 3] ?_
       refine W.seq ?_
       refine AW.seqR ?_
       refine R.fieldAddrRo (off := 5) Tryz.underlying27 Tryz.sizeOf25 ?_
       refine R.loadRo Tryz.isAgg25 ?_
       refine R.len Tryz.underlying25 ?_
       refine R.move ?_
       refine R.fin [0, 93, 94, 95] ?_
       refine AW.loopC (α := Nat) (fun x => ⟨114, setF 0 (.ptr o 0) (setF 93 (.slice false 6 (e.kids.map exprA)) (setF 94 (intA (e.kids.length : Nat)) (setF 95 (intA (x : Nat)) (fun _ => .any)))), Hp.set o (bldA (bs ++ (e.text ++ [40]) ++ (sepS ((e.kids.take x).map printE)).drop 2)), [], [], none⟩) (fun x => x ≤ e.kids.length) (fun x => e.kids.length - x) (0) (Nat.zero_le _) (StLe.of_eq (by simp [sepS])) rfl (fun x hx => ?_)
       refine AW.seqR ?_
       refine R.lss ?_
       refine R.fin [0, 93, 94, 95, 96] ?_
       refine W.condX (fun ht96 => ?_) (fun ht96 => ?_)
       ·skip
        have hlt : x < e.kids.length := by simpa using ht96
        have hst := sep_take hlt
        have hsl1 := hsl (x + 1)
        have hslx := hsl x
        refine W.seq ?_
        refine AW.block ?_
        refine AW.seqR ?_
        refine R.move ?_
        refine R.indexAddr (x) (exprA e.kids[x]) Tryz.underlying25 Tryz.sizeOf27 (getMap hlt) ?_
        refine R.loadRoN Tryz.isAgg27 Tryz.sizeOf27 ?_
        refine R.alloc Tryz.zeroValue27 ?_
        refine R.assign ?_
        refine R.storeOwn Tryz.sizeOf27 ?_
        refine R.fin [0, 6, 7, 93, 94, 95] ?_
        refine W.seq ?_
        refine AW.seqR ?_
        refine R.move ?_
        refine R.gtr ?_
        refine R.fin [0, 7, 93, 94, 95, 101] ?_
        refine W.cond (fun ht101 => ?_) (fun ht101 => ?_)
        ·skip
         have h0x : 0 < x := by simpa using ht101
         rw [if_pos h0x] at hst
         have hstl := congrArg List.length hst
         simp only [List.length_append, List.length_cons, List.length_nil] at hstl
         refine AW.region ?_
         refine R.move ?_
         refine R.nilPtr ?_
         refine R.fieldAddrPtr (fo := 0) Tryz.underlying73 Tryz.sizeOf71 ?_
         refine R.callUp Tryz.call52 (getset ho) (by simp) low_bld (c52 (bs ++ (e.text ++ [40]) ++ (sepS ((e.kids.take x).map printE)).drop 2) [44, 32] (by simp only [tops, List.length_append, List.length_cons, List.length_nil] at *; omega) o _ (get_up (getset ho))) ?_
         refine R.fin [0, 7, 93, 94, 95] ?_
         refine K.thN ?_
         refine AW.region ?_
         refine R.move ?_
         refine R.loadOwnN Tryz.isAgg27 Tryz.sizeOf27 ?_
         first | refine R.callUp Tryz.call31 (getset ho) (by simp) low_bld (hev _ (List.getElem_mem hlt) o (bs ++ (e.text ++ [40]) ++ (sepS ((e.kids.take x).map printE)).drop 2) _ (get_up (getset ho)) (by simp only [tops, List.length_append, List.length_cons, List.length_nil] at *; omega)) ?_ | refine R.callUp Tryz.call31 (getset (getset ho)) (by simp) low_bld (hev _ (List.getElem_mem hlt) o (bs ++ (e.text ++ [40]) ++ (sepS ((e.kids.take x).map printE)).drop 2 ++ [44, 32]) _ (get_up (getset (getset ho))) (by simp only [tops, List.length_append, List.length_cons, List.length_nil] at *; omega)) ?_
         refine R.fin [0, 93, 94, 95] ?_
         refine K.blN ?_
         refine K.thN ?_
         refine AW.region ?_
         refine R.add64 ?_
         refine R.move ?_
         refine R.fin [0, 93, 94, 95] ?_
         refine K.lpN (x + 1) hlt (by omega) ?_
         simp only [hst, set_set', List.append_assoc, List.append_nil]
         exact StCut.take (own := []) (fun _ => .refl _) (by repeat (first | exact lowF_any | refine lowF_set (by first | exact low_exprs | exact low_roE | (simp [or_imp, forall_and, oid] <;> omega)) ?_)) (by simp) (by simp)
        ·skip
         have h0x : ¬ 0 < x := by simpa using ht101
         rw [if_neg h0x] at hst
         have hstl := congrArg List.length hst
         simp only [List.length_append, List.length_cons, List.length_nil] at hstl
         refine AW.skip ?_
         refine K.thN ?_
         refine AW.region ?_
         refine R.move ?_
         refine R.loadOwnN Tryz.isAgg27 Tryz.sizeOf27 ?_
         first | refine R.callUp Tryz.call31 (getset ho) (by simp) low_bld (hev _ (List.getElem_mem hlt) o (bs ++ (e.text ++ [40]) ++ (sepS ((e.kids.take x).map printE)).drop 2) _ (get_up (getset ho)) (by simp only [tops, List.length_append, List.length_cons, List.length_nil] at *; omega)) ?_ | refine R.callUp Tryz.call31 (getset (getset ho)) (by simp) low_bld (hev _ (List.getElem_mem hlt) o (bs ++ (e.text ++ [40]) ++ (sepS ((e.kids.take x).map printE)).drop 2 ++ [44, 32]) _ (get_up (getset (getset ho))) (by simp only [tops, List.length_append, List.length_cons, List.length_nil] at *; omega)) ?_
         refine R.fin [0, 93, 94, 95] ?_
         refine K.blN ?_
         refine K.thN ?_
         refine AW.region ?_
         refine R.add64 ?_
         refine R.move ?_
         refine R.fin [0, 93, 94, 95] ?_
         refine K.lpN (x + 1) hlt (by omega) ?_
         simp only [hst, set_set', List.append_assoc, List.append_nil]
         exact StCut.take (own := []) (fun _ => .refl _) (by repeat (first | exact lowF_any | refine lowF_set (by first | exact low_exprs | exact low_roE | (simp [or_imp, forall_and, oid] <;> omega)) ?_)) (by simp) (by simp)
       ·skip
        have hxe : e.kids.take x = e.kids := List.take_of_length_le (by simp at ht96; omega)
        have hslx := hsl x
        refine K.lpE ?_
        refine K.thN ?_
        refine AW.region ?_
        refine R.move ?_
        refine R.nilPtr ?_
        refine R.fieldAddrPtr (fo := 0) Tryz.underlying73 Tryz.sizeOf71 ?_
        refine R.callUp Tryz.call52 (getset ho) (by simp) low_bld (c52 (bs ++ (e.text ++ [40]) ++ (sepS ((e.kids.take x).map printE)).drop 2) [41] (by simp only [tops, List.length_append, List.length_cons, List.length_nil] at *; omega) o _ (get_up (getset ho))) ?_
        refine R.fin [] ?_
        refine K.blN ?_
        exact K.finN .nores ⟨rfl, by rw [pe, hxe] <;> simp⟩
      ·skip
       exfalso
       have h6 := kall
       simp at ht12 ht21 ht29 ht41 ht53 ht83
       omega

end Go.SX.Nb
namespace Go.SX.Nb
open Go Go.SX Go.Proofs
variable [ErrAt]
set_option maxRecDepth 8000
/-! How long a print is. -/
theorem printM_len {v : Val} (hp : plainM v = true) (hi : i64R v.n) : (printM v).length ≤ 402 := by
 unfold printM
 rw [hp]
 simp only [Bool.not_true, Bool.false_eq_true, if_false]
 split
 ·have := Lib.itoa_length_le v.n hi.1 hi.2
  omega
 ·split
  ·rename_i h1 h2
   rw [replace_dbl]
   have h3 := dblM_len v.s
   have h4 : v.s.length ≤ 200 := by
    have k2 : v.kind = 2 := by simpa using h2
    simp [plainM, k2] at hp
    omega
   simp
   omega
  ·split
   ·simp
   ·split <;> simp
theorem brk_len (k : Nat) (x : Expr) (s : Str) : (brkS k x s).length ≤ s.length + 2 := by
 unfold brkS
 split <;> simp
theorem mark_len {t : Str} (h : 0 ≤ levelM t) : t.length ≤ 3 := by
 rcases level_cases t with hm | ⟨hm, _⟩
 ·have h3 : (levels.flatten.all fun s => decide (s.length ≤ 3)) = true := by kernel_rfl
  exact of_decide_eq_true (List.all_eq_true.1 h3 t hm)
 ·omega
theorem arityT_len {t : Str} {n : Nat} (h : arityM t = (n : Int)) : t.length ≤ 6 := by
 rcases call_names h with ⟨e, _⟩ | ⟨e, _⟩ | ⟨e, _⟩ | ⟨e, _⟩ | ⟨e, _⟩ | ⟨e, _⟩ | ⟨e, _⟩ | ⟨e, _⟩ <;> rw [e] <;> decide
theorem sepS_len {k : List Expr} (h : ∀ y ∈ k, (printE y).length + 10 ≤ 440 * sizeE y) : (sepS (k.map printE)).length ≤ 440 * sizeL k := by
 induction k with
 | nil => simp [sepS]
 | cons y r ih =>
  have h1 := h y List.mem_cons_self
  have h2 := ih (fun z hz => h z (List.mem_cons_of_mem _ hz))
  simp only [List.map_cons, sepS, sizeL, List.length_cons, List.length_append]
  omega
theorem print_len : ∀ (n : Nat) (e : Expr), sizeE e ≤ n → allE nodeM e = true → allE rngN e = true → (printE e).length + 10 ≤ 440 * sizeE e
 | 0, e, h, _, _ => by rw [sizeE_eq] at h; omega
 | n + 1, e, h, hn, hr => by
  rw [allE_eq, Bool.and_eq_true] at hn hr
  have hk : ∀ y ∈ e.kids, (printE y).length + 10 ≤ 440 * sizeE y := fun y hy => by
   obtain ⟨i, hi⟩ := List.getElem?_of_mem hy
   obtain ⟨hlt, rfl⟩ := List.getElem?_eq_some_iff.1 hi
   exact print_len n _ (by have := size_kid e hlt; omega) ((allL_iff _ _).1 hn.2 _ hy) ((allL_iff _ _).1 hr.2 _ hy)
  have hi : i64R e.val.n := by
   have := hr.1
   simp only [rngN, Bool.and_eq_true, decide_eq_true_eq] at this
   exact this
  rw [sizeE_eq]
  cases node_cases hn.1 with
  | val v hp h0 =>
   rw [pr_val]
   have := printM_len hp (v := v) hi
   simp only [valX, Expr.kids, sizeL]
   omega
  | name t ht =>
   rw [pr_name]
   have : t.length ≤ 16 := by
    cases t with
    | nil => simp
    | cons c r =>
     simp only [nameM, Bool.and_eq_true, decide_eq_true_eq] at ht
     exact ht.1.1.1
   simp only [nameE, Expr.kids, sizeL]
   omega
  | neg a =>
   rw [pr_neg]
   have h1 := brk_len 6 a (printE a)
   have h2 := hk a (by simp [oneX, Expr.kids])
   simp only [oneX, Expr.kids, sizeL, List.length_cons]
   omega
  | no a =>
   rw [pr_no]
   have h1 := brk_len 2 a (printE a)
   have h2 := hk a (by simp [oneX, Expr.kids])
   simp only [oneX, Expr.kids, sizeL, List.length_cons, List.length_append, notW, List.length_nil]
   omega
  | bin t a b ht =>
   rw [pr_bin]
   have h1 := brk_len (firstL (levelM t).toNat) a (printE a)
   have h2 := brk_len ((levelM t).toNat + 1) b (printE b)
   have h3 := hk a (by simp [binX, Expr.kids])
   have h4 := hk b (by simp [binX, Expr.kids])
   have h5 := mark_len ht
   simp only [binX, Expr.kids, sizeL, List.length_cons, List.length_append]
   omega
  | call t k ha =>
   rw [pr_call]
   have h1 := arityT_len ha
   have h2 := sepS_len (k := k) hk
   rw [← printL_map] at h2
   simp only [Expr.kids, List.length_cons, List.length_append, List.length_drop, List.length_nil]
   omega
theorem print_short {e : Expr} (hr : refRightM e = true) (hg : allE rngN e = true) : (printE e).length ≤ 132000 := by
 have h1 := right_node hr
 have h2 : sizeE e ≤ 300 := by
  unfold refRightM at hr
  simp only [Bool.and_eq_true, decide_eq_true_eq] at hr
  exact hr.1.2
 have := print_len _ e (Nat.le_refl _) h1 hg
 omega
end Go.SX.Nb
namespace Go.SX.Nb
open Go Go.SX Go.Proofs
variable [ErrAt]
set_option maxRecDepth 4000
/-- A number's two halves. -/
abbrev wideC (a : Int) : List AV := [boolA (decide (a < 0)), u64A ((sizeI a).tmod 4294967296), u64A (IntKind.u64.wrap ((sizeI a).tdiv 4294967296)), u64A 0, u64A 0, u64A 0]
theorem size_abs {a : Int} (h : i64R a) : sizeI a = (a.natAbs : Int) := by
 obtain ⟨h1, h2⟩ := h
 unfold sizeI
 simp only [IntKind.wrap_u64]
 split
 ·rename_i h3
  simp only [decide_eq_true_eq] at h3
  omega
 ·rename_i h3
  simp only [decide_eq_true_eq] at h3
  omega
theorem halves {u : Int} (h : 0 ≤ u) (h2 : u < 18446744073709551616) : IntKind.u64.wrap (IntKind.u64.wrap (IntKind.u64.wrap (u.tdiv 4294967296) * 4294967296) + u.tmod 4294967296) = u := by
 simp only [IntKind.wrap_u64]
 rw [Int.tdiv_eq_ediv_of_nonneg h, Int.tmod_eq_emod_of_nonneg h]
 omega
/-- How far the digits have come. -/
def DG (n : Nat) (x : Nat × Str) : Prop := (x.1 = n ∧ x.2 = []) ∨ (x.2 ≠ [] ∧ (if x.1 = 0 then [] else Lib.decDigits x.1) ++ x.2 = Lib.decDigits n)
theorem DG.step {n : Nat} {x : Nat × Str} (h : DG n x) (hc : 0 < x.1 ∨ x.2 = []) : DG n (x.1 / 10, UInt8.ofNat (48 + x.1 % 10) :: x.2) := by
 obtain ⟨u, s⟩ := x
 refine .inr ⟨by simp, ?_⟩
 simp only at *
 have key : (if u / 10 = 0 then [] else Lib.decDigits (u / 10)) ++ [UInt8.ofNat (48 + u % 10)] = Lib.decDigits u := by
  rw [Lib.decDigits.eq_1 u]
  by_cases h10 : u < 10
  ·rw [dif_pos h10, if_pos (by omega), Nat.mod_eq_of_lt h10]; rfl
  ·rw [dif_neg h10, if_neg (by omega)]
 rw [show UInt8.ofNat (48 + u % 10) :: s = [UInt8.ofNat (48 + u % 10)] ++ s from rfl, ← List.append_assoc, key]
 rcases h with ⟨h1, h2⟩ | ⟨h1, h2⟩
 ·simp only at h1 h2
  rw [h1, h2, List.append_nil]
 ·simp only at h1 h2
  rw [← h2, if_neg (by rcases hc with hc | hc; omega; exact absurd hc h1)]
theorem DG.done {n : Nat} {x : Nat × Str} (h : DG n x) (h1 : ¬ 0 < x.1) (h2 : x.2 ≠ []) : x.2 = Lib.decDigits n := by
 rcases h with ⟨_, h⟩ | ⟨_, h⟩
 ·exact absurd h h2
 ·rw [if_pos (by omega)] at h
  simpa using h
theorem DG.len {n : Nat} {x : Nat × Str} (h : DG n x) (hn : n ≤ 9223372036854775808) : x.2.length ≤ 21 := by
 have h2 : (Lib.decDigits n).length ≤ 21 := by
  have := Lib.itoa_length_le (-(n : Int)) (by omega) (by omega)
  unfold Lib.itoa at this
  split at this
  ·have e : (-(n : Int)).natAbs = n := by omega
   rw [e] at this
   simp at this
   omega
  ·have : n = 0 := by omega
   rw [this]
   rw [Lib.decDigits_one (by omega)]
   simp
 rcases h with ⟨_, h⟩ | ⟨_, h⟩
 ·rw [h]; simp
 ·have := congrArg List.length h
  rw [List.length_append] at this
  omega
theorem DG.le {n : Nat} {x : Nat × Str} (h : x.1 ≤ n) : x.1 / 10 ≤ n := by omega
theorem dig8 (u : Nat) : IntKind.u8.wrap (48 + IntKind.u8.wrap ((u : Int).tmod 10)) = ((UInt8.ofNat (48 + u % 10)).toNat : Int) := by
 rw [Int.tmod_eq_emod_of_nonneg (by omega)]
 simp [IntKind.wrap, IntKind.bits, IntKind.signed, UInt8.toNat_ofNat']
theorem quo10 {u n : Nat} (h : u ≤ n) (hn : n ≤ 9223372036854775808) : IntKind.u64.wrap ((u : Int).tdiv 10) = ((u / 10 : Nat) : Int) := by
 rw [Int.tdiv_eq_ediv_of_nonneg (by omega), IntKind.wrap_u64]
 omega
theorem itoa_abs (a : Int) : Lib.itoa a = if decide (a < 0) then 45 :: Lib.decDigits a.natAbs else Lib.decDigits a.natAbs := by
 unfold Lib.itoa
 by_cases h : a < 0
 ·simp [h]
 ·have : a.toNat = a.natAbs := by omega
  simp [h, this]
theorem c77 (a : Int) (Hp : List AObj) : AFun Tryz.prog 77 [intA a] Hp (.agg (wideC a)) := by
 refine ACall.body [.cell 2 119] [0] Tryz.func77 Tryz.ntmps77 (fun d => ?_)
 refine AW.seqR ?_
 refine R.alloc Tryz.zeroValue119 ?_
 refine R.fin [0, 2] ?_
 refine AW.seqR ?_
 refine R.move ?_
 refine R.lss ?_
 refine R.build (places := #[(0, 1), (1, 5)]) Tryz.underlying119 (fun w => by simp) Tryz.zeroValue119 ?_
 refine R.alloc Tryz.zeroValue119 ?_
 refine R.storeOwn Tryz.sizeOf119 ?_
 refine R.fin [0, 2, 3] ?_
 refine AW.seqR ?_
 refine R.move ?_
 refine R.iconv Tryz.underlying2 Tryz.underlying116 ?_
 refine R.assign ?_
 refine R.fin [0, 2, 3, 4] ?_
 refine W.seq ?_
 refine AW.seqR ?_
 refine R.move ?_
 refine R.lss ?_
 refine R.fin [2, 3, 4, 11] ?_
 refine W.cond (fun ht11 => ?_) (fun ht11 => ?_)
 ·skip
  have hm : sizeI a = IntKind.u64.wrap (0 - IntKind.u64.wrap a) := if_pos ht11
  refine AW.region ?_
  refine R.move ?_
  refine R.sub ?_
  refine R.assign ?_
  refine R.fin [2, 3, 4] ?_
  refine K.thN ?_
  refine AW.seqR ?_
  refine R.move ?_
  refine R.rem ?_
  refine R.fieldAddrPtr (fo := 1) Tryz.underlying119 Tryz.sizeOf117 ?_
  refine R.indexArrPtr (0) Tryz.underlying117 Tryz.sizeOf116 (by decide) ?_
  refine R.storeOwn Tryz.sizeOf116 ?_
  refine R.fin [2, 3, 4] ?_
  refine AW.seqR ?_
  refine R.move ?_
  refine R.quo ?_
  refine R.fieldAddrPtr (fo := 1) Tryz.underlying119 Tryz.sizeOf117 ?_
  refine R.indexArrPtr (1) Tryz.underlying117 Tryz.sizeOf116 (by decide) ?_
  refine R.storeOwn Tryz.sizeOf116 ?_
  refine R.fin [2, 3] ?_
  refine AW.seqR ?_
  refine R.loadOwnN Tryz.isAgg119 Tryz.sizeOf119 ?_
  refine R.storeOwn Tryz.sizeOf119 ?_
  refine R.fin [2] ?_
  refine AW.ret ?_
  exact K.fin (V.one (V.cellN Tryz.isAgg119 Tryz.sizeOf119)) ⟨by simp only [wideC, hm] <;> simp_all, rfl⟩
 ·skip
  have hm : sizeI a = IntKind.u64.wrap a := if_neg (by rw [ht11]; simp)
  refine AW.skip ?_
  refine K.thN ?_
  refine AW.seqR ?_
  refine R.move ?_
  refine R.rem ?_
  refine R.fieldAddrPtr (fo := 1) Tryz.underlying119 Tryz.sizeOf117 ?_
  refine R.indexArrPtr (0) Tryz.underlying117 Tryz.sizeOf116 (by decide) ?_
  refine R.storeOwn Tryz.sizeOf116 ?_
  refine R.fin [2, 3, 4] ?_
  refine AW.seqR ?_
  refine R.move ?_
  refine R.quo ?_
  refine R.fieldAddrPtr (fo := 1) Tryz.underlying119 Tryz.sizeOf117 ?_
  refine R.indexArrPtr (1) Tryz.underlying117 Tryz.sizeOf116 (by decide) ?_
  refine R.storeOwn Tryz.sizeOf116 ?_
  refine R.fin [2, 3] ?_
  refine AW.seqR ?_
  refine R.loadOwnN Tryz.isAgg119 Tryz.sizeOf119 ?_
  refine R.storeOwn Tryz.sizeOf119 ?_
  refine R.fin [2] ?_
  refine AW.ret ?_
  exact K.fin (V.one (V.cellN Tryz.isAgg119 Tryz.sizeOf119)) ⟨by simp only [wideC, hm] <;> simp_all, rfl⟩

theorem c55 (a : Int) (ha : i64R a) (Hp : List AObj) : AFun Tryz.prog 55 [intA a] Hp (strA (Lib.itoa a)) := by
 have hs := size_abs ha
 have hn : a.natAbs ≤ 9223372036854775808 := by have := ha.1; have := ha.2; omega
 have hh := halves (u := sizeI a) (by rw [hs]; omega) (by rw [hs]; omega)
 refine ACall.body [.tmp 2] [0] Tryz.func55 Tryz.ntmps55 (fun d => ?_)
 refine AW.seqR ?_
 refine R.assign ?_
 refine R.fin [0] ?_
 refine AW.seqR ?_
 refine R.move ?_
 refine R.call Tryz.call77 (c77 a _) ?_
 refine R.alloc Tryz.zeroValue119 ?_
 refine R.storeOwn Tryz.sizeOf119 ?_
 refine R.fin [3] ?_
 refine AW.seqR ?_
 refine R.fieldAddrPtr (fo := 1) Tryz.underlying119 Tryz.sizeOf117 ?_
 refine R.indexArrPtr (1) Tryz.underlying117 Tryz.sizeOf116 (by decide) ?_
 refine R.loadOwn Tryz.isAgg116 ?_
 refine R.mul ?_
 refine R.fieldAddrPtr (fo := 1) Tryz.underlying119 Tryz.sizeOf117 ?_
 refine R.indexArrPtr (0) Tryz.underlying117 Tryz.sizeOf116 (by decide) ?_
 refine R.loadOwn Tryz.isAgg116 ?_
 refine R.add ?_
 rw [hh, hs]
 refine R.assign ?_
 refine R.fin [3, 4] ?_
 refine AW.seqR ?_
 refine R.assign ?_
 refine R.fin [3, 4, 5] ?_
 refine W.seq ?_
 refine AW.loopC (α := Nat × Str) (fun x => ⟨37, setF 3 (.ptr (oid Hp.length 0) 0) (setF 4 (u64A (x.1 : Nat)) (setF 5 (strA x.2) (fun _ => .any))), Hp, [.cells 119 (wideC a)], [], none⟩) (fun x => x.1 ≤ a.natAbs ∧ DG a.natAbs x) (fun x => 2 * x.1 + (if x.2 = [] then 1 else 0)) ((a.natAbs, [])) ⟨Nat.le_refl _, .inl ⟨rfl, rfl⟩⟩ (StLe.of_eq (by simp)) rfl (fun x hx => ?_)
 refine W.seq ?_
 refine AW.seqR ?_
 refine R.move ?_
 refine R.gtr ?_
 refine R.move ?_
 refine G.move ?_
 refine G.seql ?_
 refine R.pickOr ?_
 refine R.fin [3, 4, 5, 21] ?_
 refine W.cond (fun ht21 => ?_) (fun ht21 => ?_)
 ·skip
  have hc : 0 < x.1 ∨ x.2 = [] := by
   have h := ht21
   simp only [Bool.or_eq_true, decide_eq_true_eq, beq_iff_eq] at h
   rcases h with h | h
   ·exact .inl (by omega)
   ·exact .inr h
  have hl21 := hx.2.len hn
  refine AW.skip ?_
  refine K.thN ?_
  refine AW.block ?_
  refine AW.seqR ?_
  refine R.move ?_
  refine R.rem ?_
  refine R.iconv Tryz.underlying116 Tryz.underlying5 ?_
  refine R.add ?_
  refine R.buildSl Tryz.underlying69 Tryz.sizeOf5 Tryz.zeroValue5 ?_
  rw [dig8]
  refine R.bytesStr [UInt8.ofNat (48 + x.1 % 10)] Tryz.underlying69 Tryz.underlying5 Tryz.underlying9 ?_
  refine R.move ?_
  refine R.sadd (hl := by simp only [List.length_cons, List.length_nil]; omega) ?_
  refine R.assign ?_
  refine R.fin [3, 4, 5] ?_
  refine AW.region ?_
  refine R.move ?_
  refine R.quo ?_
  rw [quo10 hx.1 hn]
  refine R.assign ?_
  refine R.fin [3, 4, 5] ?_
  refine K.blN ?_
  refine K.lpN (x.1 / 10, UInt8.ofNat (48 + x.1 % 10) :: x.2) ⟨DG.le hx.1, hx.2.step hc⟩ (by rw [if_neg (by simp)]; rcases hc with h | h; omega; rw [if_pos h]; omega) (StCut.of_eq rfl)
 ·skip
  have hl21 := hx.2.len hn
  have hD : x.2 = Lib.decDigits a.natAbs := by
   have h := ht21
   simp only [Bool.or_eq_false_iff, decide_eq_false_iff_not, beq_eq_false_iff_ne] at h
   exact hx.2.done (by omega) h.2
  refine AW.exit ?_
  refine K.thE ?_
  refine K.lpE ?_
  refine K.thN ?_
  refine W.seq ?_
  refine AW.seqR ?_
  refine R.fieldAddrPtr (fo := 0) Tryz.underlying119 Tryz.sizeOf4 ?_
  refine R.loadOwn Tryz.isAgg4 ?_
  refine R.fin [5, 33] ?_
  refine W.cond (fun ht33 => ?_) (fun ht33 => ?_)
  ·skip
   have hm := itoa_abs a
   rw [if_pos ht33] at hm
   refine AW.region ?_
   refine R.move ?_
   refine R.sadd (hl := by simp only [List.length_cons, List.length_nil]; omega) ?_
   refine R.assign ?_
   refine R.fin [5] ?_
   refine K.thN ?_
   refine AW.seqR ?_
   refine R.move ?_
   refine R.assign ?_
   refine R.fin [2] ?_
   refine AW.ret ?_
   exact K.fin (V.one V.tmp) ⟨by rw [hm, hD] <;> rfl, rfl⟩
  ·skip
   have hm := itoa_abs a
   rw [if_neg (by rw [ht33]; simp)] at hm
   refine AW.skip ?_
   refine K.thN ?_
   refine AW.seqR ?_
   refine R.move ?_
   refine R.assign ?_
   refine R.fin [2] ?_
   refine AW.ret ?_
   exact K.fin (V.one V.tmp) ⟨by rw [hm, hD] <;> rfl, rfl⟩

theorem plain_text {v : Val} (hp : plainM v = true) (h0 : (v.kind == 0) = false) (h1 : (v.kind == 1) = false) (h3 : (v.kind == 3) = false) : v = ⟨2, 0, v.s⟩ ∧ v.s.length ≤ 200 := by
 obtain ⟨k, n, s⟩ := v
 simp only [plainM] at *
 rw [h0, h1] at hp
 simp only [Bool.false_eq_true, if_false] at hp
 split at hp
 ·rename_i h2
  simp only [Bool.and_eq_true, beq_iff_eq, decide_eq_true_eq] at hp h2
  refine ⟨?_, by omega⟩
  rw [h2, hp.1]
 ·rw [h3] at hp
  simp at hp
theorem print_text (s : Str) (h : s.length ≤ 200) : printM ⟨2, 0, s⟩ = [39] ++ dblM s ++ [39] := by
 have : plainM ⟨2, 0, s⟩ = true := by simp [plainM]; omega
 unfold printM
 rw [this, ← replace_dbl]
 rfl
theorem c34v (v : Val) (hp : plainM v = true) (hi : i64R v.n) (Hp : List AObj) : AFun Tryz.prog 34 [valA v] Hp (strA (printM v)) := by
 by_cases hk : ((v.kind == 0) = false ∧ (v.kind == 1) = false) ∧ (v.kind == 3) = false
 ·obtain ⟨e, hl⟩ := plain_text hp hk.1.1 hk.1.2 hk.2
  rw [e, print_text _ hl]
  exact c34 v.s (by omega) Hp
 refine ACall.body [.tmp 2] [0] Tryz.func34 Tryz.ntmps34 (fun d => ?_)
 refine AW.seqR ?_
 refine R.boxRo ?_
 refine R.assign ?_
 refine R.fin [1] ?_
 refine W.seq ?_
 refine AW.seqR ?_
 refine R.fieldAddrRo (off := 0) Tryz.underlying24 Tryz.sizeOf3 ?_
 refine R.loadRo Tryz.isAgg3 ?_
 refine R.fin [1, 6] ?_
 refine AW.block ?_
 refine AW.seqR ?_
 refine R.eql ?_
 refine R.assign ?_
 refine R.fin [1, 6, 7] ?_
 refine W.cond (fun ht7 => ?_) (fun ht7 => ?_)
 ·skip
  have h0 : v.kind = 0 := by simpa using ht7
  refine AW.seqR ?_
  refine R.assign ?_
  refine R.fin [2] ?_
  refine AW.ret ?_
  refine K.blR ?_
  refine K.thR ?_
  exact K.fin (V.one V.tmp) ⟨by simp [printM, hp, *], rfl⟩
 ·skip
  refine AW.seqR ?_
  refine R.eql ?_
  refine R.assign ?_
  refine R.fin [1, 6, 9] ?_
  refine W.cond (fun ht9 => ?_) (fun ht9 => ?_)
  ·skip
   have h1 : v.kind = 1 := by simpa using ht9
   refine AW.seqR ?_
   refine R.fieldAddrRo (off := 1) Tryz.underlying24 Tryz.sizeOf2 ?_
   refine R.loadRo Tryz.isAgg2 ?_
   refine R.call Tryz.call55 (c55 v.n hi _) ?_
   refine R.assign ?_
   refine R.fin [2] ?_
   refine AW.ret ?_
   refine K.blR ?_
   refine K.thR ?_
   exact K.fin (V.one V.tmp) ⟨by simp [printM, hp, *], rfl⟩
  ·skip
   refine AW.seqR ?_
   refine R.eql ?_
   refine R.assign ?_
   refine R.fin [1, 14] ?_
   refine W.cond (fun ht14 => ?_) (fun ht14 => ?_)
   ·skip
    have h3 : v.kind = 3 := by simpa using ht14
    refine W.seq ?_
    refine AW.seqR ?_
    refine R.fieldAddrRo (off := 1) Tryz.underlying24 Tryz.sizeOf2 ?_
    refine R.loadRo Tryz.isAgg2 ?_
    refine R.eql ?_
    refine R.fin [18] ?_
    refine W.cond (fun ht18 => ?_) (fun ht18 => ?_)
    ·skip
     refine AW.seqR ?_
     refine R.assign ?_
     refine R.fin [2] ?_
     refine AW.ret ?_
     refine K.thR ?_
     refine K.blR ?_
     refine K.thR ?_
     exact K.fin (V.one V.tmp) ⟨by simp [printM, hp, *], rfl⟩
    ·skip
     refine AW.skip ?_
     refine K.thN ?_
     refine AW.seqR ?_
     refine R.assign ?_
     refine R.fin [2] ?_
     refine AW.ret ?_
     refine K.blR ?_
     refine K.thR ?_
     exact K.fin (V.one V.tmp) ⟨by simp [printM, hp, *], rfl⟩
   ·skip
    exfalso
    simp at hk ht7 ht9 ht14
    exact ht14 (hk ht7 ht9)

end Go.SX.Nb
namespace Go.SX.Nb
open Go Go.SX Go.Proofs
variable [ErrAt]
set_option maxRecDepth 4000
theorem brk3 {k : Expr} : ((k.op == 4) || (k.op == 5)) = !(decide (6 ≤ levE k)) := by
 have h5 := level_le k.text
 unfold levE
 by_cases h4 : (k.op == 4) = true
 ·simp [h4]
 ·by_cases h3 : (k.op == 3) = true
  ·have : k.op = 3 := by simpa using h3
   simp [this]
  ·by_cases h6 : (k.op == 5) = true
   ·have : k.op = 5 := by simpa using h6
    simp [this]
    omega
   ·simp [h3, h4, h6]
theorem lev_or {t : Str} (h : 0 ≤ levelM t) : ((t == [111, 114]) || (t == [97, 110, 100])) = !(decide (2 ≤ (levelM t).toNat)) := by
 rcases level_cases t with hm | ⟨hm, _⟩
 ·have h3 : (levels.flatten.all fun t => ((t == [111, 114]) || (t == [97, 110, 100])) == !(decide (2 ≤ (levelM t).toNat))) = true := by kernel_rfl
  simpa using List.all_eq_true.1 h3 t hm
 ·omega
theorem brk4 {k : Expr} (hn : nodeM k = true) : ((k.op == 5) && ((k.text == [111, 114]) || (k.text == [97, 110, 100]))) = !(decide (2 ≤ levE k)) := by
 unfold levE
 by_cases h4 : (k.op == 4) = true
 ·have : k.op = 4 := by simpa using h4
  simp [this]
 ·by_cases h3 : (k.op == 3) = true
  ·have : k.op = 3 := by simpa using h3
   simp [this]
  ·by_cases h6 : (k.op == 5) = true
   ·have h5 : k.op = 5 := by simpa using h6
    have hb : 0 ≤ levelM k.text := by
     rw [node_one] at hn
     unfold nodeOneM at hn
     simp [h5] at hn
     exact hn.2.1
    rw [h6, lev_or hb]
    simp [h5]
   ·simp [h3, h4, h6]
/-- What the chapter's print of a tree says. -/
def Refs (e : Expr) : Prop := ∀ Hp : List AObj, AFun Tryz.prog 12 [exprA e] Hp (strA (printE e))
theorem brkS_y {k : Nat} {x : Expr} {s : Str} (h : k ≤ levE x) : brkS k x s = s := if_pos h
theorem brkS_n {k : Nat} {x : Expr} {s : Str} (h : ¬ k ≤ levE x) : brkS k x s = 40 :: (s ++ [41]) := if_neg h
theorem c12 : ∀ (n : Nat) (e : Expr), okE n e → sizeE e ≤ 1048576 → allE nodeM e = true → allE rngN e = true → Refs e := by
 intro n
 induction n with
 | zero => exact fun e h => h.elim
 | succ n ih =>
 intro e hok hsz hnd hrg Hp
 have hlen := print_len _ e (Nat.le_refl _) hnd hrg
 have hnd0 := hnd
 have hrg0 := hrg
 rw [allE_eq, Bool.and_eq_true] at hnd0 hrg0
 have hkn : ∀ y ∈ e.kids, allE nodeM y = true := fun y hy => (allL_iff _ _).1 hnd0.2 y hy
 have hky : ∀ y ∈ e.kids, sizeE y ≤ 1048576 := fun y hy => by
  obtain ⟨i, hi⟩ := List.getElem?_of_mem hy
  obtain ⟨hlt, rfl⟩ := List.getElem?_eq_some_iff.1 hi
  have := size_kid e hlt
  omega
 have hev : ∀ y ∈ e.kids, Refs y := fun y hy => ih y (hok.2.2 y hy) (hky y hy) (hkn y hy) ((allL_iff _ _).1 hrg0.2 y hy)
 have hnn : ∀ y ∈ e.kids, nodeM y = true := fun y hy => by have := hkn y hy; rw [allE_eq, Bool.and_eq_true] at this; exact this.1
 have hlv : ∀ y ∈ e.kids, levI y = (levE y : Int) := fun y hy => levI_eq (hnn y hy)
 obtain ⟨k5, k34, k6, kall⟩ := kids_len hnd0.1
 have hi64 : i64R e.val.n := by
  have := hrg0.1
  simp only [rngN, Bool.and_eq_true, decide_eq_true_eq] at this
  exact this
 have hlv0 := levI_eq hnd0.1
 have pe := printE_eq e
 unfold nodeS at pe
 refine ACall.body [.tmp 2] [0] Tryz.func12 Tryz.ntmps12 (fun d => ?_)
 refine AW.seqR ?_
 refine R.boxRo ?_
 refine R.assign ?_
 refine R.fin [1] ?_
 refine W.seq ?_
 refine AW.seqR ?_
 refine R.fieldAddrRo (off := 0) Tryz.underlying27 Tryz.sizeOf3 ?_
 refine R.loadRo Tryz.isAgg3 ?_
 refine R.fin [1, 13] ?_
 refine AW.block ?_
 refine AW.seqR ?_
 refine R.eql ?_
 refine R.assign ?_
 refine R.fin [1, 13, 14] ?_
 refine W.cond (fun ht14 => ?_) (fun ht14 => ?_)
 ·skip
  rw [if_pos ht14] at pe
  have hpl : plainM e.val = true := by
   have h := hnd0.1
   rw [node_one] at h
   unfold nodeOneM at h
   rw [if_pos ht14] at h
   simp only [Bool.and_eq_true] at h
   exact h.1.1.1
  refine AW.seqR ?_
  refine R.fieldAddrRo (off := 2) Tryz.underlying27 Tryz.sizeOf24 ?_
  refine R.loadRoN Tryz.isAgg24 Tryz.sizeOf24 ?_
  refine R.call Tryz.call34 (c34v e.val hpl hi64 _) ?_
  refine R.assign ?_
  refine R.fin [2] ?_
  refine AW.ret ?_
  refine K.blR ?_
  refine K.thR ?_
  exact K.fin (V.one V.tmp) ⟨by first | (rw [pe, hxe]; simp; done) | (rw [pe] <;> simp [notW]), rfl⟩
 ·skip
  rw [if_neg (by rw [ht14]; simp)] at pe
  refine AW.seqR ?_
  refine R.eql ?_
  refine R.assign ?_
  refine R.fin [1, 13, 19] ?_
  refine W.cond (fun ht19 => ?_) (fun ht19 => ?_)
  ·skip
   rw [if_pos ht19] at pe
   refine AW.seqR ?_
   refine R.fieldAddrRo (off := 1) Tryz.underlying27 Tryz.sizeOf9 ?_
   refine R.loadRo Tryz.isAgg9 ?_
   refine R.assign ?_
   refine R.fin [2] ?_
   refine AW.ret ?_
   refine K.blR ?_
   refine K.thR ?_
   exact K.fin (V.one V.tmp) ⟨by first | (rw [pe, hxe]; simp; done) | (rw [pe] <;> simp [notW]), rfl⟩
  ·skip
   rw [if_neg (by rw [ht19]; simp)] at pe
   refine AW.seqR ?_
   refine R.eql ?_
   refine R.assign ?_
   refine R.fin [1, 13, 23] ?_
   refine W.cond (fun ht23 => ?_) (fun ht23 => ?_)
   ·skip
    rw [if_pos ht23] at pe
    have hkl := k34 (.inl (by simpa using ht23))
    rw [kidP (by omega)] at pe
    rw [pe] at hlen
    simp only [List.length_cons] at hlen
    have hm3 := hnn _ (kidD (k := e.kids) (i := 0) (by omega)).2.1
    refine AW.seqR ?_
    refine R.fieldAddrRo (off := 5) Tryz.underlying27 Tryz.sizeOf25 ?_
    refine R.loadRo Tryz.isAgg25 ?_
    refine R.indexAddr (0) (exprA (e.kids.getD 0 nullX)) Tryz.underlying25 Tryz.sizeOf27 (kidD (by omega)).1 ?_
    refine R.loadRoN Tryz.isAgg27 Tryz.sizeOf27 ?_
    refine R.call Tryz.call12 (hev (e.kids.getD 0 nullX) (kidD (by omega)).2.1 _) ?_
    refine R.assign ?_
    refine R.fin [1, 3] ?_
    refine W.seq ?_
    refine AW.seqR ?_
    refine R.fieldAddrRo (off := 5) Tryz.underlying27 Tryz.sizeOf25 ?_
    refine R.loadRo Tryz.isAgg25 ?_
    refine R.indexAddr (0) (exprA (e.kids.getD 0 nullX)) Tryz.underlying25 Tryz.sizeOf27 (kidD (by omega)).1 ?_
    refine R.fieldAddrRo (off := 0) Tryz.underlying27 Tryz.sizeOf3 ?_
    refine R.loadRo Tryz.isAgg3 ?_
    refine R.eql ?_
    refine R.move ?_
    refine G.fieldAddrRo (off := 5) Tryz.underlying27 Tryz.sizeOf25 ?_
    refine G.loadRo Tryz.isAgg25 ?_
    refine G.indexAddr (0) (exprA (e.kids.getD 0 nullX)) Tryz.underlying25 Tryz.sizeOf27 (fun _ => (kidD (by omega)).1) ?_
    refine G.fieldAddrRo (off := 0) Tryz.underlying27 Tryz.sizeOf3 ?_
    refine G.loadRo Tryz.isAgg3 ?_
    refine G.eql ?_
    refine R.pickOr ?_
    refine R.fin [3, 43] ?_
    refine W.cond (fun ht43 => ?_) (fun ht43 => ?_)
    ·skip
     have hbk : ¬ 6 ≤ levE (e.kids.getD 0 nullX) := by
      have h := ht43
      rw [brk3] at h
      simpa using h
     rw [brkS_n hbk] at pe hlen
     simp only [List.length_append, List.length_cons, List.length_nil] at hlen
     refine AW.region ?_
     refine R.move ?_
     refine R.sadd (hl := by simp only [List.length_append, List.length_cons, List.length_nil, List.length_drop] at *; omega) ?_
     refine R.sadd (hl := by simp only [List.length_append, List.length_cons, List.length_nil, List.length_drop] at *; omega) ?_
     refine R.assign ?_
     refine R.fin [3] ?_
     refine K.thN ?_
     refine AW.seqR ?_
     refine R.move ?_
     refine R.sadd (hl := by simp only [List.length_append, List.length_cons, List.length_nil, List.length_drop] at *; omega) ?_
     refine R.assign ?_
     refine R.fin [2] ?_
     refine AW.ret ?_
     refine K.blR ?_
     refine K.thR ?_
     exact K.fin (V.one V.tmp) ⟨by first | (rw [pe, hxe]; simp; done) | (rw [pe] <;> simp [notW]), rfl⟩
    ·skip
     have hbk : 6 ≤ levE (e.kids.getD 0 nullX) := by
      have h := ht43
      rw [brk3] at h
      simpa using h
     rw [brkS_y hbk] at pe hlen
     refine AW.skip ?_
     refine K.thN ?_
     refine AW.seqR ?_
     refine R.move ?_
     refine R.sadd (hl := by simp only [List.length_append, List.length_cons, List.length_nil, List.length_drop] at *; omega) ?_
     refine R.assign ?_
     refine R.fin [2] ?_
     refine AW.ret ?_
     refine K.blR ?_
     refine K.thR ?_
     exact K.fin (V.one V.tmp) ⟨by first | (rw [pe, hxe]; simp; done) | (rw [pe] <;> simp [notW]), rfl⟩
   ·skip
    rw [if_neg (by rw [ht23]; simp)] at pe
    refine AW.seqR ?_
    refine R.eql ?_
    refine R.assign ?_
    refine R.fin [1, 13, 49] ?_
    refine W.cond (fun ht49 => ?_) (fun ht49 => ?_)
    ·skip
     rw [if_pos ht49] at pe
     have hkl := k34 (.inr (by simpa using ht49))
     rw [kidP (by omega)] at pe
     rw [pe] at hlen
     simp only [List.length_cons, List.length_append, notW, List.length_nil] at hlen
     have hm3 := hnn _ (kidD (k := e.kids) (i := 0) (by omega)).2.1
     refine AW.seqR ?_
     refine R.fieldAddrRo (off := 5) Tryz.underlying27 Tryz.sizeOf25 ?_
     refine R.loadRo Tryz.isAgg25 ?_
     refine R.indexAddr (0) (exprA (e.kids.getD 0 nullX)) Tryz.underlying25 Tryz.sizeOf27 (kidD (by omega)).1 ?_
     refine R.loadRoN Tryz.isAgg27 Tryz.sizeOf27 ?_
     refine R.call Tryz.call12 (hev (e.kids.getD 0 nullX) (kidD (by omega)).2.1 _) ?_
     refine R.assign ?_
     refine R.fin [1, 4] ?_
     refine W.seq ?_
     refine AW.seqR ?_
     refine R.fieldAddrRo (off := 5) Tryz.underlying27 Tryz.sizeOf25 ?_
     refine R.loadRo Tryz.isAgg25 ?_
     refine R.indexAddr (0) (exprA (e.kids.getD 0 nullX)) Tryz.underlying25 Tryz.sizeOf27 (kidD (by omega)).1 ?_
     refine R.fieldAddrRo (off := 0) Tryz.underlying27 Tryz.sizeOf3 ?_
     refine R.loadRo Tryz.isAgg3 ?_
     refine R.eql ?_
     refine R.move ?_
     refine G.fieldAddrRo (off := 5) Tryz.underlying27 Tryz.sizeOf25 ?_
     refine G.loadRo Tryz.isAgg25 ?_
     refine G.indexAddr (0) (exprA (e.kids.getD 0 nullX)) Tryz.underlying25 Tryz.sizeOf27 (fun _ => (kidD (by omega)).1) ?_
     refine G.fieldAddrRo (off := 1) Tryz.underlying27 Tryz.sizeOf9 ?_
     refine G.loadRo Tryz.isAgg9 ?_
     refine G.seql ?_
     refine G.move ?_
     refine G.fieldAddrRo (off := 5) Tryz.underlying27 Tryz.sizeOf25 ?_
     refine G.loadRo Tryz.isAgg25 ?_
     refine G.indexAddr (0) (exprA (e.kids.getD 0 nullX)) Tryz.underlying25 Tryz.sizeOf27 (fun _ => (kidD (by omega)).1) ?_
     refine G.fieldAddrRo (off := 1) Tryz.underlying27 Tryz.sizeOf9 ?_
     refine G.loadRo Tryz.isAgg9 ?_
     refine G.seql ?_
     refine G.pickOr ?_
     refine R.pickAnd ?_
     refine R.fin [4, 77] ?_
     refine W.cond (fun ht77 => ?_) (fun ht77 => ?_)
     ·skip
      have hbk : ¬ 2 ≤ levE (e.kids.getD 0 nullX) := by
       have h := ht77
       rw [brk4 hm3] at h
       simpa using h
      rw [brkS_n hbk] at pe hlen
      simp only [List.length_append, List.length_cons, List.length_nil] at hlen
      refine AW.region ?_
      refine R.move ?_
      refine R.sadd (hl := by simp only [List.length_append, List.length_cons, List.length_nil, List.length_drop] at *; omega) ?_
      refine R.sadd (hl := by simp only [List.length_append, List.length_cons, List.length_nil, List.length_drop] at *; omega) ?_
      refine R.assign ?_
      refine R.fin [4] ?_
      refine K.thN ?_
      refine AW.seqR ?_
      refine R.move ?_
      refine R.sadd (hl := by simp only [List.length_append, List.length_cons, List.length_nil, List.length_drop] at *; omega) ?_
      refine R.assign ?_
      refine R.fin [2] ?_
      refine AW.ret ?_
      refine K.blR ?_
      refine K.thR ?_
      exact K.fin (V.one V.tmp) ⟨by first | (rw [pe, hxe]; simp; done) | (rw [pe] <;> simp [notW]), rfl⟩
     ·skip
      have hbk : 2 ≤ levE (e.kids.getD 0 nullX) := by
       have h := ht77
       rw [brk4 hm3] at h
       simpa using h
      rw [brkS_y hbk] at pe hlen
      refine AW.skip ?_
      refine K.thN ?_
      refine AW.seqR ?_
      refine R.move ?_
      refine R.sadd (hl := by simp only [List.length_append, List.length_cons, List.length_nil, List.length_drop] at *; omega) ?_
      refine R.assign ?_
      refine R.fin [2] ?_
      refine AW.ret ?_
      refine K.blR ?_
      refine K.thR ?_
      exact K.fin (V.one V.tmp) ⟨by first | (rw [pe, hxe]; simp; done) | (rw [pe] <;> simp [notW]), rfl⟩
    ·skip
     rw [if_neg (by rw [ht49]; simp)] at pe
     refine AW.seqR ?_
     refine R.eql ?_
     refine R.assign ?_
     refine R.fin [1, 83] ?_
     refine W.cond (fun ht83 => ?_) (fun ht83 => ?_)
     ·skip
      rw [if_pos ht83] at pe
      have h5 : e.op = 5 := by simpa using ht83
      have hkl := k5 h5
      have hlv5 : levE e = (levelM e.text).toNat := by simp [levE, h5]
      have hl5 := level_le e.text
      rw [kidP (by omega), kidP (by omega)] at pe
      rw [← hlv5] at pe
      rw [pe] at hlen
      simp only [List.length_cons, List.length_append] at hlen
      have hla := hlv _ (kidD (k := e.kids) (i := 0) (by omega)).2.1
      have hlb := hlv _ (kidD (k := e.kids) (i := 1) (by omega)).2.1
      refine W.draw [0, 1, 0, 4, 12, 28, 63, 0, 128, 384, 896, 2047, 4095, 8191, 16383] 11 Tryzmixed (by kernel_rfl) ?_
      refine D.loadRoN Tryz.isAgg27 Tryz.sizeOf27 ?_
      refine D.call Tryz.call16 (c16 e _) ?_
      refine D.fieldAddrRo (off := 5) Tryz.underlying27 Tryz.sizeOf25 ?_
      refine D.loadRo Tryz.isAgg25 ?_
      refine D.indexAddr (0) (exprA (e.kids.getD 0 nullX)) Tryz.underlying25 Tryz.sizeOf27 (kidD (by omega)).1 ?_
      refine D.loadRoN Tryz.isAgg27 Tryz.sizeOf27 ?_
      refine D.call Tryz.call16 (c16 (e.kids.getD 0 nullX) _) ?_
      refine D.fieldAddrRo (off := 5) Tryz.underlying27 Tryz.sizeOf25 ?_
      refine D.loadRo Tryz.isAgg25 ?_
      refine D.indexAddr (1) (exprA (e.kids.getD 1 nullX)) Tryz.underlying25 Tryz.sizeOf27 (kidD (by omega)).1 ?_
      refine D.loadRoN Tryz.isAgg27 Tryz.sizeOf27 ?_
      refine D.tail ?_
      refine R.call Tryz.call16 (c16 (e.kids.getD 1 nullX) _) ?_
      refine R.assign ?_
      refine R.assign ?_
      refine R.assign ?_
      refine R.fin [1, 5, 6, 7] ?_
      refine W.draw [0, 1, 3, 7, 15, 0, 32, 96, 224, 511, 1023, 2047] 9 Tryzmixed (by kernel_rfl) ?_
      refine D.fieldAddrRo (off := 5) Tryz.underlying27 Tryz.sizeOf25 ?_
      refine D.loadRo Tryz.isAgg25 ?_
      refine D.indexAddr (0) (exprA (e.kids.getD 0 nullX)) Tryz.underlying25 Tryz.sizeOf27 (kidD (by omega)).1 ?_
      refine D.loadRoN Tryz.isAgg27 Tryz.sizeOf27 ?_
      refine D.call Tryz.call12 (hev (e.kids.getD 0 nullX) (kidD (by omega)).2.1 _) ?_
      refine D.fieldAddrRo (off := 5) Tryz.underlying27 Tryz.sizeOf25 ?_
      refine D.loadRo Tryz.isAgg25 ?_
      refine D.indexAddr (1) (exprA (e.kids.getD 1 nullX)) Tryz.underlying25 Tryz.sizeOf27 (kidD (by omega)).1 ?_
      refine D.loadRoN Tryz.isAgg27 Tryz.sizeOf27 ?_
      refine D.tail ?_
      refine R.call Tryz.call12 (hev (e.kids.getD 1 nullX) (kidD (by omega)).2.1 _) ?_
      refine R.assign ?_
      refine R.assign ?_
      refine R.fin [1, 5, 6, 7, 8, 9] ?_
      refine W.seq ?_
      refine AW.seqR ?_
      refine R.move ?_
      refine R.move ?_
      refine R.lss ?_
      refine R.move ?_
      refine G.move ?_
      refine G.eql ?_
      refine G.move ?_
      refine G.move ?_
      refine G.eql ?_
      refine G.pickAnd ?_
      refine R.pickOr ?_
      refine R.fin [1, 5, 7, 8, 9, 117] ?_
      refine W.cond (fun ht117 => ?_) (fun ht117 => ?_)
      ·skip
       have hbk : ¬ firstL (levE e) ≤ levE (e.kids.getD 0 nullX) := by
        have h := ht117
        rw [hlv0, hla] at h
        simp only [Bool.or_eq_true, Bool.and_eq_true, decide_eq_true_eq, beq_iff_eq] at h
        unfold firstL
        split <;> omega
       rw [brkS_n hbk] at pe hlen
       simp only [List.length_append, List.length_cons, List.length_nil] at hlen
       refine AW.region ?_
       refine R.move ?_
       refine R.sadd (hl := by simp only [List.length_append, List.length_cons, List.length_nil, List.length_drop] at *; omega) ?_
       refine R.sadd (hl := by simp only [List.length_append, List.length_cons, List.length_nil, List.length_drop] at *; omega) ?_
       refine R.assign ?_
       refine R.fin [1, 5, 7, 8, 9] ?_
       refine K.thN ?_
       refine W.seq ?_
       refine AW.seqR ?_
       refine R.move ?_
       refine R.move ?_
       refine R.leq ?_
       refine R.fin [1, 8, 9, 123] ?_
       refine W.cond (fun ht123 => ?_) (fun ht123 => ?_)
       ·skip
        have hbk2 : ¬ levE e + 1 ≤ levE (e.kids.getD 1 nullX) := by
         have h := ht123
         rw [hlv0, hlb] at h
         simp only [decide_eq_true_eq] at h
         omega
        rw [brkS_n hbk2] at pe hlen
        simp only [List.length_append, List.length_cons, List.length_nil] at hlen
        refine AW.region ?_
        refine R.move ?_
        refine R.sadd (hl := by simp only [List.length_append, List.length_cons, List.length_nil, List.length_drop] at *; omega) ?_
        refine R.sadd (hl := by simp only [List.length_append, List.length_cons, List.length_nil, List.length_drop] at *; omega) ?_
        refine R.assign ?_
        refine R.fin [1, 8, 9] ?_
        refine K.thN ?_
        refine AW.seqR ?_
        refine R.move ?_
        refine R.sadd (hl := by simp only [List.length_append, List.length_cons, List.length_nil, List.length_drop] at *; omega) ?_
        refine R.fieldAddrRo (off := 1) Tryz.underlying27 Tryz.sizeOf9 ?_
        refine R.loadRo Tryz.isAgg9 ?_
        refine R.sadd (hl := by simp only [List.length_append, List.length_cons, List.length_nil, List.length_drop] at *; omega) ?_
        refine R.sadd (hl := by simp only [List.length_append, List.length_cons, List.length_nil, List.length_drop] at *; omega) ?_
        refine R.move ?_
        refine R.sadd (hl := by simp only [List.length_append, List.length_cons, List.length_nil, List.length_drop] at *; omega) ?_
        refine R.assign ?_
        refine R.fin [2] ?_
        refine AW.ret ?_
        refine K.blR ?_
        refine K.thR ?_
        exact K.fin (V.one V.tmp) ⟨by first | (rw [pe, hxe]; simp; done) | (rw [pe] <;> simp [notW]), rfl⟩
       ·skip
        have hbk2 : levE e + 1 ≤ levE (e.kids.getD 1 nullX) := by
         have h := ht123
         rw [hlv0, hlb] at h
         simp only [decide_eq_false_iff_not] at h
         omega
        rw [brkS_y hbk2] at pe hlen
        refine AW.skip ?_
        refine K.thN ?_
        refine AW.seqR ?_
        refine R.move ?_
        refine R.sadd (hl := by simp only [List.length_append, List.length_cons, List.length_nil, List.length_drop] at *; omega) ?_
        refine R.fieldAddrRo (off := 1) Tryz.underlying27 Tryz.sizeOf9 ?_
        refine R.loadRo Tryz.isAgg9 ?_
        refine R.sadd (hl := by simp only [List.length_append, List.length_cons, List.length_nil, List.length_drop] at *; omega) ?_
        refine R.sadd (hl := by simp only [List.length_append, List.length_cons, List.length_nil, List.length_drop] at *; omega) ?_
        refine R.move ?_
        refine R.sadd (hl := by simp only [List.length_append, List.length_cons, List.length_nil, List.length_drop] at *; omega) ?_
        refine R.assign ?_
        refine R.fin [2] ?_
        refine AW.ret ?_
        refine K.blR ?_
        refine K.thR ?_
        exact K.fin (V.one V.tmp) ⟨by first | (rw [pe, hxe]; simp; done) | (rw [pe] <;> simp [notW]), rfl⟩
      ·skip
       have hbk : firstL (levE e) ≤ levE (e.kids.getD 0 nullX) := by
        have h := ht117
        rw [hlv0, hla] at h
        simp only [Bool.or_eq_false_iff, Bool.and_eq_false_iff, decide_eq_false_iff_not, beq_eq_false_iff_ne] at h
        unfold firstL
        split <;> omega
       rw [brkS_y hbk] at pe hlen
       refine AW.skip ?_
       refine K.thN ?_
       refine W.seq ?_
       refine AW.seqR ?_
       refine R.move ?_
       refine R.move ?_
       refine R.leq ?_
       refine R.fin [1, 8, 9, 123] ?_
       refine W.cond (fun ht123 => ?_) (fun ht123 => ?_)
       ·skip
        have hbk2 : ¬ levE e + 1 ≤ levE (e.kids.getD 1 nullX) := by
         have h := ht123
         rw [hlv0, hlb] at h
         simp only [decide_eq_true_eq] at h
         omega
        rw [brkS_n hbk2] at pe hlen
        simp only [List.length_append, List.length_cons, List.length_nil] at hlen
        refine AW.region ?_
        refine R.move ?_
        refine R.sadd (hl := by simp only [List.length_append, List.length_cons, List.length_nil, List.length_drop] at *; omega) ?_
        refine R.sadd (hl := by simp only [List.length_append, List.length_cons, List.length_nil, List.length_drop] at *; omega) ?_
        refine R.assign ?_
        refine R.fin [1, 8, 9] ?_
        refine K.thN ?_
        refine AW.seqR ?_
        refine R.move ?_
        refine R.sadd (hl := by simp only [List.length_append, List.length_cons, List.length_nil, List.length_drop] at *; omega) ?_
        refine R.fieldAddrRo (off := 1) Tryz.underlying27 Tryz.sizeOf9 ?_
        refine R.loadRo Tryz.isAgg9 ?_
        refine R.sadd (hl := by simp only [List.length_append, List.length_cons, List.length_nil, List.length_drop] at *; omega) ?_
        refine R.sadd (hl := by simp only [List.length_append, List.length_cons, List.length_nil, List.length_drop] at *; omega) ?_
        refine R.move ?_
        refine R.sadd (hl := by simp only [List.length_append, List.length_cons, List.length_nil, List.length_drop] at *; omega) ?_
        refine R.assign ?_
        refine R.fin [2] ?_
        refine AW.ret ?_
        refine K.blR ?_
        refine K.thR ?_
        exact K.fin (V.one V.tmp) ⟨by first | (rw [pe, hxe]; simp; done) | (rw [pe] <;> simp [notW]), rfl⟩
       ·skip
        have hbk2 : levE e + 1 ≤ levE (e.kids.getD 1 nullX) := by
         have h := ht123
         rw [hlv0, hlb] at h
         simp only [decide_eq_false_iff_not] at h
         omega
        rw [brkS_y hbk2] at pe hlen
        refine AW.skip ?_
        refine K.thN ?_
        refine AW.seqR ?_
        refine R.move ?_
        refine R.sadd (hl := by simp only [List.length_append, List.length_cons, List.length_nil, List.length_drop] at *; omega) ?_
        refine R.fieldAddrRo (off := 1) Tryz.underlying27 Tryz.sizeOf9 ?_
        refine R.loadRo Tryz.isAgg9 ?_
        refine R.sadd (hl := by simp only [List.length_append, List.length_cons, List.length_nil, List.length_drop] at *; omega) ?_
        refine R.sadd (hl := by simp only [List.length_append, List.length_cons, List.length_nil, List.length_drop] at *; omega) ?_
        refine R.move ?_
        refine R.sadd (hl := by simp only [List.length_append, List.length_cons, List.length_nil, List.length_drop] at *; omega) ?_
        refine R.assign ?_
        refine R.fin [2] ?_
        refine AW.ret ?_
        refine K.blR ?_
        refine K.thR ?_
        exact K.fin (V.one V.tmp) ⟨by first | (rw [pe, hxe]; simp; done) | (rw [pe] <;> simp [notW]), rfl⟩
     ·skip
      rw [if_neg (by rw [ht83]; simp)] at pe
      have hsl : ∀ x, ((sepS ((e.kids.take x).map printE)).drop 2).length ≤ ((sepS (e.kids.map printE)).drop 2).length := fun x => by have := sep_le (k := e.kids) x; rw [List.length_drop, List.length_drop]; omega
      have hkl6 := hok.2.1
      rw [pe] at hlen
      simp only [List.length_cons, List.length_append, List.length_nil] at hlen
      refine AW.skip ?_
      refine K.blN ?_
      refine K.thN ?_
      refine AW.seqR ?_
      refine R.fieldAddrRo (off := 1) Tryz.underlying27 Tryz.sizeOf9 ?_
      refine R.loadRo Tryz.isAgg9 ?_
      refine R.sadd (hl := by simp only [List.length_append, List.length_cons, List.length_nil, List.length_drop] at *; omega) ?_
      refine R.assign ?_
      refine R.fin [1, 10] ?_
      refine W.seq ?_
      refine AW.seqR ?_
      refine R.assign ?_
      refine R.fin [1, 10, 11] ?_
      refine AW.loopC (α := Nat) (fun x => ⟨159, setF 1 (.ro (exprC e)) (setF 10 (strA (e.text ++ [40] ++ (sepS ((e.kids.take x).map printE)).drop 2)) (setF 11 (intA (x : Nat)) (fun _ => .any))), Hp, [], [], none⟩) (fun x => x ≤ e.kids.length) (fun x => e.kids.length - x) (0) (Nat.zero_le _) (StLe.of_eq (by simp [sepS])) rfl (fun x hx => ?_)
      refine W.seq ?_
      refine AW.seqR ?_
      refine R.move ?_
      refine R.fieldAddrRo (off := 5) Tryz.underlying27 Tryz.sizeOf25 ?_
      refine R.loadRo Tryz.isAgg25 ?_
      refine R.len Tryz.underlying25 ?_
      refine R.lss ?_
      refine R.fin [1, 10, 11, 142] ?_
      refine W.cond (fun ht142 => ?_) (fun ht142 => ?_)
      ·skip
       have hlt : x < e.kids.length := by simpa using ht142
       have hst := sep_take hlt
       have hsl1 := hsl (x + 1)
       have hslx := hsl x
       refine AW.skip ?_
       refine K.thN ?_
       refine W.seq ?_
       refine AW.block ?_
       refine W.seq ?_
       refine AW.seqR ?_
       refine R.move ?_
       refine R.gtr ?_
       refine R.fin [1, 10, 11, 146] ?_
       refine W.cond (fun ht146 => ?_) (fun ht146 => ?_)
       ·skip
        have h0x : 0 < x := by simpa using ht146
        rw [if_pos h0x] at hst
        have hstl := congrArg List.length hst
        simp only [List.length_append, List.length_cons, List.length_nil] at hstl
        refine AW.region ?_
        refine R.move ?_
        refine R.sadd (hl := by simp only [List.length_append, List.length_cons, List.length_nil, List.length_drop] at *; omega) ?_
        refine R.assign ?_
        refine R.fin [1, 10, 11] ?_
        refine K.thN ?_
        refine AW.region ?_
        refine R.move ?_
        refine R.fieldAddrRo (off := 5) Tryz.underlying27 Tryz.sizeOf25 ?_
        refine R.loadRo Tryz.isAgg25 ?_
        refine R.move ?_
        refine R.indexAddr (x) (exprA e.kids[x]) Tryz.underlying25 Tryz.sizeOf27 (getMap hlt) ?_
        refine R.loadRoN Tryz.isAgg27 Tryz.sizeOf27 ?_
        refine R.call Tryz.call12 (hev _ (List.getElem_mem hlt) _) ?_
        refine R.sadd (hl := by simp only [List.length_append, List.length_cons, List.length_nil, List.length_drop] at *; omega) ?_
        refine R.assign ?_
        refine R.fin [1, 10, 11] ?_
        refine K.blN ?_
        refine K.thN ?_
        refine AW.region ?_
        refine R.move ?_
        refine R.add64 ?_
        refine R.assign ?_
        refine R.fin [1, 10, 11] ?_
        exact K.lpN (x + 1) hlt (by omega) (StCut.of_eq (by simp only [hst, List.append_assoc, List.append_nil] <;> rfl))
       ·skip
        have h0x : ¬ 0 < x := by simpa using ht146
        rw [if_neg h0x] at hst
        have hstl := congrArg List.length hst
        simp only [List.length_append, List.length_cons, List.length_nil] at hstl
        refine AW.skip ?_
        refine K.thN ?_
        refine AW.region ?_
        refine R.move ?_
        refine R.fieldAddrRo (off := 5) Tryz.underlying27 Tryz.sizeOf25 ?_
        refine R.loadRo Tryz.isAgg25 ?_
        refine R.move ?_
        refine R.indexAddr (x) (exprA e.kids[x]) Tryz.underlying25 Tryz.sizeOf27 (getMap hlt) ?_
        refine R.loadRoN Tryz.isAgg27 Tryz.sizeOf27 ?_
        refine R.call Tryz.call12 (hev _ (List.getElem_mem hlt) _) ?_
        refine R.sadd (hl := by simp only [List.length_append, List.length_cons, List.length_nil, List.length_drop] at *; omega) ?_
        refine R.assign ?_
        refine R.fin [1, 10, 11] ?_
        refine K.blN ?_
        refine K.thN ?_
        refine AW.region ?_
        refine R.move ?_
        refine R.add64 ?_
        refine R.assign ?_
        refine R.fin [1, 10, 11] ?_
        exact K.lpN (x + 1) hlt (by omega) (StCut.of_eq (by simp only [hst, List.append_assoc, List.append_nil] <;> rfl))
      ·skip
       have hxe : e.kids.take x = e.kids := List.take_of_length_le (by simp at ht142; omega)
       have hslx := hsl x
       refine AW.exit ?_
       refine K.thE ?_
       refine K.lpE ?_
       refine K.thN ?_
       refine AW.seqR ?_
       refine R.move ?_
       refine R.sadd (hl := by simp only [List.length_append, List.length_cons, List.length_nil, List.length_drop] at *; omega) ?_
       refine R.assign ?_
       refine R.fin [2] ?_
       refine AW.ret ?_
       exact K.fin (V.one V.tmp) ⟨by first | (rw [pe, hxe]; simp; done) | (rw [pe] <;> simp [notW]), rfl⟩

end Go.SX.Nb
namespace Go.SX.Nb
open Go Go.SX Go.Proofs
variable [ErrAt]
set_option maxRecDepth 4000
abbrev xo (own : Bool) (t : Str) (ks : List Expr) : AObj := .cells 27 [intA 6, strA t, intA 0, intA 0, strA [], .slice own 6 (ks.map exprA)]
theorem low_xo {n : Nat} {own : Bool} {t : Str} {ks : List Expr} : ObjLow n (xo own t ks) := by
 show ∀ z ∈ [intA 6, strA t, intA 0, intA 0, strA [], AV.slice own 6 (ks.map exprA)], Low n z
 intro z hz
 simp only [List.mem_cons, List.not_mem_nil, or_false] at hz
 rcases hz with rfl | rfl | rfl | rfl | rfl | rfl
 all_goals first | exact low_exprs | simp
theorem const69 : constAV (.agg #[.int .i64 0, .string ⟨#[]⟩, .int .i64 0, .int .i64 0, .string ⟨#[]⟩, .slice none 0 0]) = .agg [intA 0, strA [], intA 0, intA 0, strA [], .nil] := rfl
attribute [go_sem] const69
theorem gA {Hp : List AObj} {o ox : Nat} {z A B : AObj} (ho : Hp[o]? = some z) (hne : ox ≠ o) : ((Hp.set o A).set ox B)[o]? = some A := by rw [List.getElem?_set_ne hne]; exact getset ho
theorem gB {Hp : List AObj} {o ox : Nat} {z A B : AObj} (hox : Hp[ox]? = some z) : ((Hp.set o A).set ox B)[ox]? = some B := by
 have := (List.getElem?_eq_some_iff.1 hox).1
 simp [this]
theorem setA {Hp : List AObj} {o ox : Nat} {A A' B : AObj} (hne : ox ≠ o) : ((Hp.set o A).set ox B).set o A' = (Hp.set o A').set ox B := by rw [List.set_comm _ _ hne, List.set_set]
theorem exprs_snoc (ks : List Expr) (x : Expr) : ks.map exprA ++ [.agg [.v (.int .i64 x.op), .v (sv x.text), .v (.int .i64 x.val.kind), .v (.int .i64 x.val.n), .v (sv x.val.s), .slice false 6 (x.kids.map exprA)]] = (ks ++ [x]).map exprA := by rw [List.map_append, List.map_cons, List.map_nil, exprA_eq x]
theorem c213 (l : List Tok) (S : PS) (t : Str) (Dv : Fam) (o ox : Nat) (Hp : List AObj) (hne : ox ≠ o) (ho : Hp[o]? = some (pr l S)) (hox : Hp[ox]? = some (xo true t [])) (hi : S.i < l.length) (hl : TokEnd l) (hll : l.length ≤ 1048576) (hf : Good l S.nest Dv.ei) (hcf : PC 46 l Dv.ei S.nest) : ACall Tryz.prog 213 [.ptr ox 0, .ro [.ptr o 0]] Hp (fun r H' => r = exprA (.mk 6 t noV (argsM l Dv.ei S).1) ∧ H' = (Hp.set o (pr l (argsM l Dv.ei S).2)).set ox (xo true t (argsM l Dv.ei S).1)) := by
 have hoxl := (List.getElem?_eq_some_iff.1 hox).1
 have hol := (List.getElem?_eq_some_iff.1 ho).1
 refine ACall.body [.cell 2 27] [0, 1] Tryz.func213 Tryz.ntmps213 (fun d => ?_)
 refine AW.seqR ?_
 refine R.alloc Tryz.zeroValue27 ?_
 refine R.fin [0, 1, 2] ?_
 refine W.drawT [0, 1, 0, 4, 3, 0, 63, 127, 255, 127, 639] [1, 3] [.q 1 [] [0], .s [4] (some 0) [] [], .q 1 [] [1], .s [6] (some 1) [] [], .q 2 [] []] (fun B => (Hp.set o (if B 1 = true then pr l (Dv.ei S).2 else pr l S)).set ox (if B 0 = true then xo false t [] else xo true t [])) (fun _ => [zero69]) Tryzmixed (by kernel_rfl) (by simp only [Bool.false_eq_true, if_false]; rw [set_same ho, set_same hox]) rfl (fun B => by simp) ?_
 apply Y.q
 case h1 =>
  intro B hT hF
  refine D.fieldAddrPtr (fo := 5) Tryz.underlying27 Tryz.sizeOf25 ?_
  exact D.end rfl rfl
 case hTF => decide
 refine Y.loadUpT (o := ox) (t' := 27) (cs := [intA 6, strA t, intA 0, intA 0, strA [], .slice true 6 ([].map exprA)]) (cs' := [intA 6, strA t, intA 0, intA 0, strA [], .slice false 6 ([].map exprA)]) Tryz.isAgg25 (fun B hB => ⟨by simp only [hB]; exact gB hox, by simp [upd, List.set_set] <;> rfl, rfl⟩) ?_
 apply Y.q
 case h1 =>
  intro B hT hF
  refine D.loadRo Tryz.isAgg88 ?_
  exact D.end rfl rfl
 case hTF => decide
 refine Y.callUp (r := exprA (Dv.ei S).1) (o := o) (x0 := pr l S) (x := pr l (Dv.ei S).2) Tryz.call46 (fun B hT hF hB => ⟨by simp only [hB]; exact gA ho hne, ?_, rfl, low_pr, ?_⟩) ?_
 ·simp only [upd, hB, Nat.reduceEqDiff, if_false, if_true, Bool.false_eq_true]
  exact (setA hne).symm
 ·simp only [hB]
  exact hcf o _ S (get_up (gA ho hne)) hi rfl
 apply Y.q
 case h1 =>
  intro B hT hF
  refine D.len Tryz.underlying25 ?_
  refine D.buildSlice Tryz.underlying25 Tryz.sizeOf27 Tryz.zeroValue27 ?_
  exact D.end rfl rfl
 case hTF => decide
 refine Y.appendPut (tn := [1, 3]) (U := (Hp.set o (pr l (Dv.ei S).2)).set ox (xo false t [])) (O := [zero69]) (o := ox) (t' := 27) (cs := [intA 6, strA t, intA 0, intA 0, strA [], .slice false 6 ([].map exprA)]) (by kernel_rfl) Tryz.underlying25 Tryz.type27 Tryz.sizeOf27 Tryz.sizeOf25 Tryz.underlying27 (get_up (gB hox)) ?_ ?_ ?_ (hfsz := Tryz.sizeOf25)
 ·simp [Tryz.t27]
 ·simp [Tryz.t27]
 refine R.fieldAddrPtr (fo := 5) Tryz.underlying27 Tryz.sizeOf25 ?_
 refine R.storeUpT Tryz.sizeOf25 (gB hox) ?_ ?_
 ·first | (rw [exprs_snoc]; exact low_exprs) | (have := low_exprs (n := ((Hp.set o (pr l (Dv.ei S).2)).set ox (xo false t [])).length) (k := 6) (o := true) (l := [(Dv.ei S).1]); simp only [List.map_cons, List.map_nil, exprA_eq] at this; exact this)
 refine R.fin [0, 1, 2] ?_
 refine W.seq ?_
 refine AW.loopC (α := List Expr × PS) (fun r => ⟨34, setF 0 (.ptr ox 0) (setF 1 (.ro [.ptr o 0]) (setF 2 (.ptr (oid Hp.length 0) 0) (fun _ => .any))), (Hp.set o (pr l r.2)).set ox (xo true t r.1), [zero69], [], none⟩) (fun r => ArgsAt l Dv.ei S r) (fun r => l.length - r.2.i) (([(Dv.ei S).1], (Dv.ei S).2)) (.start (hf S hi rfl)) (StLe.of_eq (by simp [List.set_set, xo, exprA_eq])) rfl (fun r hx => ?_)
 refine W.seq ?_
 refine AW.seqR ?_
 refine R.loadRo Tryz.isAgg88 ?_
 refine R.nilPtr ?_
 refine R.fieldAddrPtr (fo := 3) Tryz.underlying90 Tryz.sizeOf30 ?_
 refine R.fieldAddrPtr (fo := 0) Tryz.underlying30 Tryz.sizeOf28 ?_
 refine R.loadUp Tryz.isAgg28 (gA ho hne) ?_
 refine R.eql ?_
 refine R.move ?_
 refine G.loadRo Tryz.isAgg88 ?_
 refine G.call Tryz.call92 (fun hB => c92 l r.2 commaT o _ (get_up (gA ho hne)) hx.fact.lt hl (by decide)) ?_
 refine R.pickAnd ?_
 refine R.fin [0, 1, 2, 21] ?_
 refine W.cond (fun ht21 => ?_) (fun ht21 => ?_)
 ·skip
  have hon := hx.on hl ht21 hf
  have hle := hon.2.1.le
  have hlt0 := hx.fact.lt
  refine AW.skip ?_
  refine K.thN ?_
  refine AW.block ?_
  refine AW.seqR ?_
  refine R.loadRo Tryz.isAgg88 ?_
  refine R.callUp Tryz.call93 (gA ho hne) (by simp) low_pr (c93 l r.2 o _ (get_up (gA ho hne)) hx.fact.lt hll) ?_
  refine R.fin [0, 1, 2] ?_
  refine W.drawT0 [0, 1, 0, 4, 3, 0, 63, 127, 255, 127, 639] [1, 3] [.q 1 [] [0], .s [25] (some 0) [] [], .q 1 [] [1], .s [27] (some 1) [] [], .q 2 [] []] (fun B => (Hp.set o (if B 1 = true then pr l (Dv.ei (nextM r.2)).2 else pr l (nextM r.2))).set ox (if B 0 = true then xo false t r.1 else xo true t r.1)) (fun _ => [zero69]) Tryzmixed (by kernel_rfl) (by simp only [Bool.false_eq_true, if_false]; exact (setA hne).symm) rfl (fun B => by simp) ?_
  apply Y.q
  case h1 =>
   intro B hT hF
   refine D.fieldAddrPtr (fo := 5) Tryz.underlying27 Tryz.sizeOf25 ?_
   exact D.end rfl rfl
  case hTF => decide
  refine Y.loadUpT (o := ox) (t' := 27) (cs := [intA 6, strA t, intA 0, intA 0, strA [], .slice true 6 (r.1.map exprA)]) (cs' := [intA 6, strA t, intA 0, intA 0, strA [], .slice false 6 (r.1.map exprA)]) Tryz.isAgg25 (fun B hB => ⟨by simp only [hB]; exact gB hox, by simp [upd, List.set_set] <;> rfl, rfl⟩) ?_
  apply Y.q
  case h1 =>
   intro B hT hF
   refine D.loadRo Tryz.isAgg88 ?_
   exact D.end rfl rfl
  case hTF => decide
  refine Y.callUp (r := exprA (Dv.ei (nextM r.2)).1) (o := o) (x0 := pr l (nextM r.2)) (x := pr l (Dv.ei (nextM r.2)).2) Tryz.call46 (fun B hT hF hB => ⟨by simp only [hB]; exact gA ho hne, ?_, rfl, low_pr, ?_⟩) ?_
  ·simp only [upd, hB, Nat.reduceEqDiff, if_false, if_true, Bool.false_eq_true]
   exact (setA hne).symm
  ·simp only [hB]
   exact hcf o _ (nextM r.2) (get_up (gA ho hne)) hon.1 hx.fact.nest
  apply Y.q
  case h1 =>
   intro B hT hF
   refine D.len Tryz.underlying25 ?_
   refine D.buildSlice Tryz.underlying25 Tryz.sizeOf27 Tryz.zeroValue27 ?_
   exact D.end rfl rfl
  case hTF => decide
  refine Y.appendPut (tn := [1, 3]) (U := (Hp.set o (pr l (Dv.ei (nextM r.2)).2)).set ox (xo false t r.1)) (O := [zero69]) (o := ox) (t' := 27) (cs := [intA 6, strA t, intA 0, intA 0, strA [], .slice false 6 (r.1.map exprA)]) (by kernel_rfl) Tryz.underlying25 Tryz.type27 Tryz.sizeOf27 Tryz.sizeOf25 Tryz.underlying27 (get_up (gB hox)) ?_ ?_ ?_ (hfsz := Tryz.sizeOf25)
  ·have := hx.fact.len; have := hx.fact.lt; simp only [List.length_map, Tryz.t27]; omega
  ·have := hx.fact.len; have := hx.fact.lt; simp only [List.length_map, Tryz.t27]; omega
  refine R.fieldAddrPtr (fo := 5) Tryz.underlying27 Tryz.sizeOf25 ?_
  refine R.storeUpT Tryz.sizeOf25 (gB hox) ?_ ?_
  ·first | (rw [exprs_snoc]; exact low_exprs) | (have := low_exprs (n := ((Hp.set o (pr l (Dv.ei S).2)).set ox (xo false t [])).length) (k := 6) (o := true) (l := [(Dv.ei S).1]); simp only [List.map_cons, List.map_nil, exprA_eq] at this; exact this)
  refine R.fin [0, 1, 2] ?_
  refine K.blN ?_
  refine K.lpN (r.1 ++ [(Dv.ei (nextM r.2)).1], (Dv.ei (nextM r.2)).2) hon.2.2 (by show l.length - (Dv.ei (nextM r.2)).2.i < l.length - r.2.i; have : r.2.i + 1 ≤ (Dv.ei (nextM r.2)).2.i := hle; omega) (StCut.of_eq ?_)
  simp only [show Tryz.t27.size = 6 from rfl, exprs_snoc, List.set_set]
 ·skip
  have hout := hx.out (by rw [ht21]; simp)
  refine AW.exit ?_
  refine K.thE ?_
  refine K.lpE ?_
  refine K.thN ?_
  refine AW.seqR ?_
  refine R.loadUpN Tryz.isAgg27 Tryz.sizeOf27 (gB hox) ?_
  refine R.storeOwn Tryz.sizeOf27 ?_
  refine R.fin [2] ?_
  refine AW.ret ?_
  exact K.fin (V.one (V.cellN Tryz.isAgg27 Tryz.sizeOf27)) ⟨by rw [hout, mk_agg]; rfl, by rw [hout]⟩ (hlow := by have := exprA_low Hp.length (.mk 6 t noV r.1); rw [mk_agg] at this; simpa using this)

end Go.SX.Nb
