/- Texts on the way to this: QueryPrints answers true for whatever it is handed: what is printed of a query is parsed as the same, unless brackets nest too deep, any query that is right has the text that the reference says, and any other one has none. (part 8) -/
import Derived.Test.YtldolkjhlcpidaaGreatDoorProg
import Derived.Shelf.Strconv.Itoa4
import Derived.KernelRfl
import Derived.Test.YtldolkjhlcpidaaGreatDoorQueryPrintsCardSaidPart7
set_option linter.all false
namespace Go.SX.Nb
open Go Go.SX Go.Proofs
variable [ErrAt]
set_option maxRecDepth 4000
abbrev prq (l : List Tok) (S : QS) : AObj := .cells 47 [.slice false 3 (l.map tokA), intA (S.i : Int), intA S.code, intA S.at_]
abbrev qoC (own : Bool) (q : Qry) : List AV := [boolA q.all, .slice own 1 (q.cols.map strA), intA q.whr.op, strA q.whr.text, intA q.whr.val.kind, intA q.whr.val.n, strA q.whr.val.s, .slice false 6 (q.whr.kids.map exprA), intA q.lim]
abbrev qo (own : Bool) (q : Qry) : AObj := .cells 30 (qoC own q)
theorem low_prq {n : Nat} {l : List Tok} {S : QS} : ObjLow n (prq l S) := by
 show ∀ y ∈ [AV.slice false 3 (l.map tokA), intA (S.i : Int), intA S.code, intA S.at_], Low n y
 intro y hy
 simp only [List.mem_cons, List.not_mem_nil, or_false] at hy
 rcases hy with rfl | rfl | rfl | rfl
 ·simp [or_imp, forall_and]
 all_goals simp
theorem low_strs {n : Nat} {own : Bool} {l : List Str} : Low n (.slice own 1 (l.map strA)) := by simp
theorem low_qo {n : Nat} {own : Bool} {q : Qry} : ObjLow n (qo own q) := by
 show ∀ y ∈ qoC own q, Low n y
 intro y hy
 simp only [qoC, List.mem_cons, List.not_mem_nil, or_false] at hy
 rcases hy with rfl | rfl | rfl | rfl | rfl | rfl | rfl | rfl | rfl
 all_goals first | exact low_exprs | exact low_strs | simp
abbrev unitQ : AV := .v (.tuple #[])
theorem c20 (l : List Tok) (S : QS) (e : Int) (o : Nat) (Hp : List AObj) (ho : Hp[o]? = some (prq l S)) (hi : S.i < l.length) : ACall Tryz.prog 20 [.ptr o 0, intA e] Hp (fun r H' => r = unitQ ∧ H' = Hp.set o (prq l (failQ l e S))) := by
 refine ACall.body [] [0, 1] Tryz.func20 Tryz.ntmps20 (fun d => ?_)
 refine Z0 ?_;refine Z247 ?_;refine R.loadUp jA ho ?_;refine R.eql ?_;refine R.fin [0, 1, 9] ?_
 refine W.cond (fun ht9 => ?_) (fun ht9 => ?_)
 ·have e : failQ l e S = ⟨S.i, e, ((tokAt l S.i).at_ : Int)⟩ := if_pos ht9
  refine W.draw0 [0, 0, 0, 4, 12, 28, 0, 64, 192, 448, 1020, 2044, 4092, 8190, 16383, 32767, 65535] 14 Tryzmixed (by kernel_rfl) ?_;refine Z160 ?_;refine Z245 ?_;refine Z62 ?_;refine Z143 ?_;refine D.fieldAddrRo (off := 2) jU Tryz.sizeOf3 ?_;refine Z280 ?_;refine D.build (places := #[(0, 1), (1, 1)]) jU (fun w => by simp) jZ ?_;refine D.tail ?_;refine R.nilPtr ?_;refine R.fieldAddrPtr (fo := 2) jU Tryz.sizeOf33 ?_
  refine R.storeUp jS ho ?_ ?_
  ·simp
  exact Z140
 have e : failQ l e S = S := if_neg (by rw [ht9]; simp)
 exact Z144

theorem c47 (l : List Tok) (S : QS) (s : Str) (o : Nat) (Hp : List AObj) (ho : Hp[o]? = some (prq l S)) (hi : S.i < l.length) (hll : l.length ≤ 1048576) : ACall Tryz.prog 47 [.ptr o 0, strA s] Hp (fun r H' => r = boolA (isQ l s S) ∧ H' = Hp.set o (prq l (stepQ l s S))) := by
 refine ACall.body [.tmp 4] [0, 1] Tryz.func47 Tryz.ntmps47 (fun d => ?_)
 refine Z123 ?_;refine W.drawY [0, 1, 3, 7, 0, 16, 48, 112, 255, 511, 0, 2047] [] [.q 10 [] [], .s [5] none [] [], .s [5] none [] []] (fun _ => Hp) (fun _ => []) Tryzmixed (by kernel_rfl) rfl rfl (fun _ => rfl) ?_
 apply Y.q
 case h1 =>
  intro B hT hF
  refine Z245 ?_;refine Z62 ?_;refine Z143 ?_;exact Z183
 case hTF => decide
 refine Z182 ?_;refine Y.tail (tn := [])  ?_;refine R.fin [0, 1, 5] ?_;refine Z0 ?_;refine Z247 ?_;refine R.loadUp jA ho ?_;refine Z98 ?_;refine Z127 ?_;refine Z198 ?_;refine Z127 ?_;refine G.eql ?_;refine G.pickOr ?_;refine Z61 ?_;refine Z21 ?_;refine G.move ?_;refine G.seql ?_;refine Z107 ?_;refine R.fin [0, 6] ?_;refine Z10 ?_;refine R.fin [0, 6, 39] ?_
 refine W.cond (fun ht39 => ?_) (fun ht39 => ?_)
 ·have e : stepQ l s S = nextQ S := if_pos ht39
  refine Z6 ?_;refine Z39 ?_;refine Z229 ?_;refine Z39 ?_
  refine R.storeUp jS ho ?_ ?_
  ·simp
  refine R.fin [6] ?_;refine Z164 ?_;refine Z258 ?_;exact Z152
 have e : stepQ l s S = S := if_neg (by rw [show isQ l s S = false from ht39]; simp)
 refine Z95 ?_;refine Z258 ?_;exact Z152

theorem step_1 {l : List Tok} {s : Str} {S : QS} (h : isQ l s S = true) : stepQ l s S = nextQ S := if_pos h
theorem step_0 {l : List Tok} {s : Str} {S : QS} (h : isQ l s S = false) : stepQ l s S = S := if_neg (by rw [h]; simp)
theorem want_1 {l : List Tok} {s : Str} {S : QS} (h : isQ l s S = true) : wantQ l s S = nextQ S := if_pos h
theorem want_0 {l : List Tok} {s : Str} {S : QS} (h : isQ l s S = false) : wantQ l s S = failQ l 8 S := if_neg (by rw [h]; simp)
theorem c16 (l : List Tok) (S : QS) (s : Str) (o : Nat) (Hp : List AObj) (ho : Hp[o]? = some (prq l S)) (hi : S.i < l.length) (hll : l.length ≤ 1048576) : ACall Tryz.prog 16 [.ptr o 0, strA s] Hp (fun r H' => r = unitQ ∧ H' = Hp.set o (prq l (wantQ l s S))) := by
 refine ACall.body [] [0, 1] Tryz.func16 Tryz.ntmps16 (fun d => ?_)
 refine Z47 ?_;refine R.callUp Tryz.call47 ho (by simp) low_prq (c47 l S s o _ (get_up ho) hi hll) ?_;refine R.not ?_;refine R.fin [0, 7] ?_
 refine W.cond (fun ht7 => ?_) (fun ht7 => ?_)
 ·have hq : isQ l s S = false := by simpa using ht7
  have e := want_0 hq
  rw [step_0 hq, set_same ho]
  refine Z6 ?_;refine R.callUp Tryz.call20 ho (by simp) low_prq (c20 l S 8 o _ (get_up ho) hi) ?_;exact Z140
 have hq : isQ l s S = true := by simpa using ht7
 have e := want_1 hq
 rw [step_1 hq]
 exact Z144

theorem name_1 {l : List Tok} {q : Qry} {S : QS} (h : (S.code != 0) = true) : nameQ l (q, S) = (q, S) := if_pos h
theorem name_2 {l : List Tok} {q : Qry} {S : QS} (h : (S.code != 0) = false) (h2 : ((tokAt l S.i).kind != 1) = true) : nameQ l (q, S) = (q, failQ l 8 S) := by unfold nameQ; rw [if_neg (by show ¬ (S.code != 0) = true; rw [h]; simp), if_pos h2]
theorem name_3 {l : List Tok} {q : Qry} {S : QS} (h : (S.code != 0) = false) (h2 : ((tokAt l S.i).kind != 1) = false) (h3 : ((q.cols.length : Int) == 12) = true) : nameQ l (q, S) = (q, failQ l 3 S) := by unfold nameQ; rw [if_neg (by show ¬ (S.code != 0) = true; rw [h]; simp), if_neg (by show ¬ ((tokAt l S.i).kind != 1) = true; rw [h2]; simp), if_pos h3]
theorem name_4 {l : List Tok} {q : Qry} {S : QS} (h : (S.code != 0) = false) (h2 : ((tokAt l S.i).kind != 1) = false) (h3 : ((q.cols.length : Int) == 12) = false) : nameQ l (q, S) = (⟨q.all, q.cols ++ [(tokAt l S.i).text], q.whr, q.lim⟩, nextQ S) := by unfold nameQ; rw [if_neg (by show ¬ (S.code != 0) = true; rw [h]; simp), if_neg (by show ¬ ((tokAt l S.i).kind != 1) = true; rw [h2]; simp), if_neg (by show ¬ ((q.cols.length : Int) == 12) = true; rw [h3]; simp)]
theorem same2 {Hp : List AObj} {o oq : Nat} {A B : AObj} (hne : oq ≠ o) (ho : Hp[o]? = some A) (hoq : Hp[oq]? = some B) : (Hp.set o A).set oq B = Hp := by rw [set_same ho, set_same hoq]
theorem c48 (l : List Tok) (S : QS) (q : Qry) (o oq : Nat) (Hp : List AObj) (hne : oq ≠ o) (ho : Hp[o]? = some (prq l S)) (hoq : Hp[oq]? = some (qo true q)) (hi : S.i < l.length) (hll : l.length ≤ 1048576) (hcl : q.cols.length ≤ 1048576) : ACall Tryz.prog 48 [.ptr o 0, .ptr oq 0] Hp (fun r H' => r = unitQ ∧ H' = (Hp.set o (prq l (nameQ l (q, S)).2)).set oq (qo true (nameQ l (q, S)).1)) := by
 refine ACall.body [] [0, 1] Tryz.func48 Tryz.ntmps48 (fun d => ?_)
 refine W.drawY [0, 1, 3, 7, 0, 16, 48, 112, 255, 511, 0, 2047] [] [.q 10 [] [], .s [4] none [] [], .s [4] none [] []] (fun _ => Hp) (fun _ => []) Tryzmixed (by kernel_rfl) rfl rfl (fun _ => rfl) ?_
 apply Y.q
 case h1 =>
  intro B hT hF
  refine Z245 ?_;refine Z62 ?_;refine Z143 ?_;exact Z183
 case hTF => decide
 refine Z182 ?_;refine Y.tail (tn := [])  ?_;refine R.fin [0, 1, 4] ?_;refine Z197 ?_;refine Z247 ?_;refine R.loadUp jA ho ?_;refine R.neq ?_;refine Z258 ?_;refine R.fin [0, 1, 4, 15] ?_
 refine W.cond (fun ht15 => ?_) (fun ht15 => ?_)
 ·have e := name_1 (l := l) (q := q) ht15
  refine Z141 ?_
  exact K.fin .nores (hp := ⟨rfl, by first | (rw [e]; exact (same2 hne ho hoq).symm) | (rw [e]; exact (set_same (by rw [List.getElem?_set_ne (Ne.symm hne)]; exact hoq)).symm) | (rw [e]; simp only [List.set_set]; rw [List.set_comm _ _ hne]; simp only [qo, qoC, List.map_append, List.map_cons, List.map_nil]; rfl)⟩)
 refine Z187 ?_;refine R.neq ?_;refine Z258 ?_;refine R.fin [0, 1, 4, 22] ?_
 refine W.cond (fun ht22 => ?_) (fun ht22 => ?_)
 ·have e := name_2 (q := q) ht15 ht22
  refine Z0 ?_;refine R.callUp Tryz.call20 ho (by simp) low_prq (c20 l S 8 o _ (get_up ho) hi) ?_;refine R.fin [] ?_;refine Z141 ?_
  exact K.fin .nores (hp := ⟨rfl, by first | (rw [e]; exact (same2 hne ho hoq).symm) | (rw [e]; exact (set_same (by rw [List.getElem?_set_ne (Ne.symm hne)]; exact hoq)).symm) | (rw [e]; simp only [List.set_set]; rw [List.set_comm _ _ hne]; simp only [qo, qoC, List.map_append, List.map_cons, List.map_nil]; rfl)⟩)
 refine Z0 ?_;refine R.nilPtr ?_;refine R.fieldAddrPtr (fo := 1) jU Tryz.sizeOf23 ?_;refine R.loadUp jA hoq ?_;refine R.len jU ?_;refine Z14 ?_;refine R.fin [0, 1, 4, 28] ?_
 refine W.cond (fun ht28 => ?_) (fun ht28 => ?_)
 ·rw [List.length_map] at ht28
  have e := name_3 ht15 ht22 ht28
  refine Z0 ?_;refine R.callUp Tryz.call20 ho (by simp) low_prq (c20 l S 3 o _ (get_up ho) hi) ?_;refine R.fin [] ?_;refine Z141 ?_
  exact K.fin .nores (hp := ⟨rfl, by first | (rw [e]; exact (same2 hne ho hoq).symm) | (rw [e]; exact (set_same (by rw [List.getElem?_set_ne (Ne.symm hne)]; exact hoq)).symm) | (rw [e]; simp only [List.set_set]; rw [List.set_comm _ _ hne]; simp only [qo, qoC, List.map_append, List.map_cons, List.map_nil]; rfl)⟩)
 rw [List.length_map] at ht28
 have e := name_4 ht15 ht22 ht28
 refine Z22 ?_;refine W.drawY [0, 0, 2, 6, 14, 0, 32, 96, 254, 511, 1023, 2047] [4] [.q 4 [] [], .s [41] (some 0) [] [], .q 3 [] [], .s [41, 45] none [0] []] (fun B => Hp.set oq (if B 0 = true then qo false q else qo true q)) (fun _ => []) Tryzmixed (by kernel_rfl) (set_same hoq) rfl (fun B => by simp) ?_
 apply Y.q
 case h1 =>
  intro B hT hF
  refine D.move ?_;refine Z41 ?_;refine D.fieldAddrPtr (fo := 1) jU Tryz.sizeOf23 ?_;exact Z269
 case hTF => decide
 refine Y.loadUpT (o := oq) (t' := 30) (cs := [boolA q.all, .slice true 1 (q.cols.map strA), intA q.whr.op, strA q.whr.text, intA q.whr.val.kind, intA q.whr.val.n, strA q.whr.val.s, .slice false 6 (q.whr.kids.map exprA), intA q.lim]) (cs' := [boolA q.all, .slice false 1 (q.cols.map strA), intA q.whr.op, strA q.whr.text, intA q.whr.val.kind, intA q.whr.val.n, strA q.whr.val.s, .slice false 6 (q.whr.kids.map exprA), intA q.lim]) Tryz.isAgg23 (fun B hB => ⟨by simp only [hB]; exact getset hoq, (List.set_set ..).symm, rfl⟩) ?_
 apply Y.q
 case h1 =>
  intro B hT hF
  refine D.fieldAddrRo (off := 1) jU Tryz.sizeOf9 ?_;refine Z280 ?_;exact Z103
 case hTF => decide
 refine Y.append jU Tryz.type9 ?_ ?_ ?_
 ·simp [Tryz.t9]; omega
 ·simp [Tryz.t9]; omega
 refine Y.tail (tn := [4]) (U := Hp.set oq (qo false q)) ?_;refine R.nilPtr ?_;refine R.fieldAddrPtr (fo := 1) jU Tryz.sizeOf23 ?_
 refine R.storeUpT jS (getset hoq) ?_ ?_
 ·simp [or_imp, forall_and]
 refine R.fin [0] ?_;refine Z6 ?_;refine Z39 ?_
 refine R.loadUp jA (by rw [List.getElem?_set_ne hne, List.getElem?_set_ne hne]; exact ho) ?_
 refine R.add64 ?_;refine Z39 ?_
 refine R.storeUp jS (by rw [List.getElem?_set_ne hne, List.getElem?_set_ne hne]; exact ho) ?_ ?_
 ·simp
 refine R.fin [] ?_
 exact K.finN .nores (hp := ⟨rfl, by first | (rw [e]; exact (same2 hne ho hoq).symm) | (rw [e]; exact (set_same (by rw [List.getElem?_set_ne (Ne.symm hne)]; exact hoq)).symm) | (rw [e]; simp only [List.set_set]; rw [List.set_comm _ _ hne]; simp only [qo, qoC, List.map_append, List.map_cons, List.map_nil]; rfl)⟩)

end Go.SX.Nb
namespace Go.Proofs
open Go Go.Shelf
def Tryz.ren171 : Ren where
 f := fun x => match x with | 171 => 33 | 243 => 64 | 246 => 94 | 283 => 125 | 284 => 126 | 285 => 127 | 286 => 128 | 129 => 150 | 317 => 149 | 318 => 151 | 319 => 152 | 320 => 153 | 337 => 173 | 338 => 174 | n => n
 t := fun x => match x with | 3 => 3 | 9 => 9 | 2 => 2 | 4 => 4 | 171 => 144 | 0 => 0 | 53 => 81 | 37 => 80 | 5 => 5 | 173 => 147 | 212 => 172 | 51 => 173 | 20 => 20 | 213 => 174 | 46 => 164 | 232 => 193 | 233 => 194 | n => n
 g := fun x => match x with | 17 => 3 | 18 => 4 | 19 => 5 | n => n
theorem Tryz.lays171 : LaysM.n171 Tryz.prog Tryz.ren171 where
 mixed := by kernel_rfl
 f129 := Tryz.func150
 f171 := Tryz.func33
 f243 := Tryz.func64
 f246 := Tryz.func94
 f283 := Tryz.func125
 f284 := Tryz.func126
 f285 := Tryz.func127
 f286 := Tryz.func128
 f317 := Tryz.func149
 f318 := Tryz.func151
 f319 := Tryz.func152
 f320 := Tryz.func153
 f337 := Tryz.func173
 f338 := Tryz.func174
 t0 := Tryz.underlying0
 a0 := Tryz.isAgg0
 z0 := Tryz.sizeOf0
 v0 := Tryz.zeroValue0
 t2 := Tryz.underlying2
 a2 := Tryz.isAgg2
 z2 := Tryz.sizeOf2
 v2 := Tryz.zeroValue2
 t3 := Tryz.underlying3
 a3 := Tryz.isAgg3
 z3 := Tryz.sizeOf3
 v3 := Tryz.zeroValue3
 t4 := Tryz.underlying4
 a4 := Tryz.isAgg4
 z4 := Tryz.sizeOf4
 v4 := Tryz.zeroValue4
 t5 := Tryz.underlying5
 a5 := Tryz.isAgg5
 z5 := Tryz.sizeOf5
 v5 := Tryz.zeroValue5
 t9 := Tryz.underlying9
 a9 := Tryz.isAgg9
 z9 := Tryz.sizeOf9
 v9 := Tryz.zeroValue9
 t20 := Tryz.underlying20
 a20 := Tryz.isAgg20
 z20 := Tryz.sizeOf20
 v20 := Tryz.zeroValue20
 t37 := Tryz.underlying80
 a37 := Tryz.isAgg80
 z37 := Tryz.sizeOf80
 v37 := Tryz.zeroValue80
 t46 := Tryz.underlying164
 a46 := Tryz.isAgg164
 z46 := Tryz.sizeOf164
 v46 := Tryz.zeroValue164
 t51 := Tryz.underlying173
 a51 := Tryz.isAgg173
 z51 := Tryz.sizeOf173
 v51 := Tryz.zeroValue173
 t53 := Tryz.underlying81
 a53 := Tryz.isAgg81
 z53 := Tryz.sizeOf81
 v53 := Tryz.zeroValue81
 t171 := Tryz.underlying144
 a171 := Tryz.isAgg144
 z171 := Tryz.sizeOf144
 v171 := Tryz.zeroValue144
 t173 := Tryz.underlying147
 a173 := Tryz.isAgg147
 z173 := Tryz.sizeOf147
 v173 := Tryz.zeroValue147
 t212 := Tryz.underlying172
 a212 := Tryz.isAgg172
 z212 := Tryz.sizeOf172
 v212 := Tryz.zeroValue172
 t213 := Tryz.underlying174
 a213 := Tryz.isAgg174
 z213 := Tryz.sizeOf174
 t232 := Tryz.underlying193
 a232 := Tryz.isAgg193
 z232 := Tryz.sizeOf193
 v232 := Tryz.zeroValue193
 t233 := Tryz.underlying194
 a233 := Tryz.isAgg194
 z233 := Tryz.sizeOf194
 v233 := Tryz.zeroValue194
 g17 := by kernel_rfl
 g18 := by kernel_rfl
 g19 := by kernel_rfl
 i0 := by kernel_rfl
 i2 := by kernel_rfl
 i3 := by kernel_rfl
 i4 := by kernel_rfl
 i5 := by kernel_rfl
 i9 := by kernel_rfl
 i20 := by kernel_rfl
 i37 := by kernel_rfl
 i46 := by kernel_rfl
 i51 := by kernel_rfl
 i53 := by kernel_rfl
 i171 := by kernel_rfl
 i173 := by kernel_rfl
 i212 := by kernel_rfl
 i232 := by kernel_rfl
 i233 := by kernel_rfl
 m17 := by kernel_rfl
 m18 := by kernel_rfl
 m19 := by kernel_rfl
end Go.Proofs
namespace Go.SX
variable [GI : GlobInv]
open Classical Go.RowKit
section
variable {P : Program} {g : FuncId} {Hp : List AObj}
theorem AFun.libAny {xs : List Value} {n : Value} (h : ∀ w, GlobIn w → Calls P g xs.toArray w (fun e w' => ∃ u, e = .returned (.tuple #[n, u]) ∧ Below w.heap.size w w')) : AFun P g (xs.map .v) Hp (.tup [.v n, .any]) := by
 intro d G w vs hn hv hH hT
 have hvs := vals_of hn (fun i y u a b => ⟨_, hv i y u a b⟩)
 subst hvs
 refine (callsIn_wide.2 (h w (fun x hx => let ⟨_, u, a, b⟩ := hT.glob x hx; ⟨u, a, b⟩))).mono ?_
 rintro e w' ⟨u, rfl, hb⟩
 obtain ⟨h1, h2⟩ := below_heap hH hT hb
 refine ⟨.tuple #[n, u], G, .tup [.v n, .any], Hp, rfl, .tup _ _ _ rfl (fun i y u' hy hu => ?_), h1, h2, (below_turn hT hb).keep _, rfl, rfl, rfl⟩
 match i with
 | 0 => simp at hy hu; subst hy; subst hu; exact .v _ _
 | 1 => simp at hy; subst hy; exact .any _ _
 | i + 2 => simp at hy
end
end Go.SX
