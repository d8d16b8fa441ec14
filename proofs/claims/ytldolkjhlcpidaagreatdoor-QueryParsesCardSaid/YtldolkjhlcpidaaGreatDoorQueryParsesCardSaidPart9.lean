/- Texts on the way to this: QueryParses answers true for whatever it is handed: any source of up to 2000 bytes is parsed as the reference says, or the first fault is told; what is parsed is right, and printed it is parsed as the same. (part 9) -/
import Derived.Test.YtldolkjhlcpidaaGreatDoorProg
import Derived.Shelf.Strconv.Itoa4
import Derived.KernelRfl
import Derived.Test.YtldolkjhlcpidaaGreatDoorQueryParsesCardSaidPart8
set_option linter.all false
namespace Go.SX.Nb
open Go Go.SX Go.Proofs
variable [ErrAt]
set_option maxRecDepth 4000
abbrev prq (l : List Tok) (S : QS) : AObj := .cells 47 [.slice false 3 (l.map D0), A3 (S.i : Int), A3 S.code, A3 S.at_]
abbrev qoC (own : Bool) (q : Qry) : List AV := [Ao q.all, .slice own 1 (q.cols.map A7), A3 q.whr.op, A7 q.whr.text, A3 q.whr.val.kind, A3 q.whr.val.n, A7 q.whr.val.s, .slice false 6 (q.whr.kids.map Af), A3 q.lim]
abbrev qo (own : Bool) (q : Qry) : AObj := .cells 30 (qoC own q)
theorem Fc {n : Nat} {l : List Tok} {S : QS} : ObjLow n (prq l S) := by
 show ∀ y ∈ [AV.slice false 3 (l.map D0), A3 (S.i : Int), A3 S.code, A3 S.at_], Low n y
 intro y hy
 simp only [List.mem_cons, List.not_mem_nil, or_false] at hy
 rcases hy with rfl | rfl | rfl | rfl
 ·simp [or_imp, forall_and]
 all_goals simp
theorem o0 {n : Nat} {own : Bool} {l : List Str} : Low n (.slice own 1 (l.map A7)) := by simp
theorem o1 {n : Nat} {own : Bool} {q : Qry} : ObjLow n (qo own q) := by
 show ∀ y ∈ qoC own q, Low n y
 intro y hy
 simp only [qoC, List.mem_cons, List.not_mem_nil, or_false] at hy
 rcases hy with rfl | rfl | rfl | rfl | rfl | rfl | rfl | rfl | rfl
 all_goals first | exact Ds | exact o0 | simp
abbrev J2 : AV := .v (.tuple #[])
theorem c20 (l : List Tok) (S : QS) (e : Int) (o : Nat) (Hp : List AObj) (ho : Hp[o]? = some (prq l S)) (hi : S.i < l.length) : ACall Tryz.prog 20 [.ptr o 0, A3 e] Hp (fun r H' => r = J2 ∧ H' = Hp.set o (prq l (Bq l e S))) := by
 refine ACall.body [] [0, 1] Tryz.func20 Tryz.ntmps20 (fun d => ?_)
 refine Vt ?_;refine l5 ?_;refine R.fin [0, 1, 9] ?_
 refine W.cond (fun ht9 => ?_) (fun ht9 => ?_)
 ·have e : Bq l e S = ⟨S.i, e, ((A4 l S.i).at_ : Int)⟩ := if_pos ht9
  refine zq ?_;refine kw ?_;refine xf ?_;refine AAt ?_;refine qm ?_
  refine R.storeUp jS ho ?_ ?_
  ·simp
  exact Z48
 have e : Bq l e S = S := if_neg (by rw [ht9]; simp)
 exact Z67

theorem c47 (l : List Tok) (S : QS) (s : Str) (o : Nat) (Hp : List AObj) (ho : Hp[o]? = some (prq l S)) (hi : S.i < l.length) (hll : l.length ≤ 1048576) : ACall Tryz.prog 47 [.ptr o 0, A7 s] Hp (fun r H' => r = Ao (isQ l s S) ∧ H' = Hp.set o (prq l (Xn l s S))) := by
 refine ACall.body [.tmp 4] [0, 1] Tryz.func47 Tryz.ntmps47 (fun d => ?_)
 refine Z1 ?_;refine Z66 ?_
 apply Y.q
 case h1 =>
  intro B hT hF
  exact l6
 case hTF => decide
 refine Yv ?_;refine R.fin [0, 1, 5] ?_;refine Vt ?_;refine R.loadUp jA ho ?_;refine Rh ?_;refine Z92 ?_;refine G.eql ?_;refine G.move ?_;refine Z92 ?_;refine lc ?_;refine Yp ?_;refine Z36 ?_;refine G.move ?_;refine G.seql ?_;refine Z39 ?_;refine R.fin [0, 6] ?_;refine Z8 ?_;refine R.fin [0, 6, 39] ?_
 refine W.cond (fun ht39 => ?_) (fun ht39 => ?_)
 ·have e : Xn l s S = Ai S := if_pos ht39
  refine Vx ?_;refine Z87 ?_
  refine R.storeUp jS ho ?_ ?_
  ·simp
  refine R.fin [6] ?_;refine K.thN ?_;refine gt ?_;exact zm
 have e : Xn l s S = S := if_neg (by rw [show isQ l s S = false from ht39]; simp)
 refine Ls ?_;refine B3 ?_;exact zm

theorem Qu {l : List Tok} {s : Str} {S : QS} (h : isQ l s S = true) : Xn l s S = Ai S := if_pos h
theorem Qv {l : List Tok} {s : Str} {S : QS} (h : isQ l s S = false) : Xn l s S = S := if_neg (by rw [h]; simp)
theorem yu {l : List Tok} {s : Str} {S : QS} (h : isQ l s S = true) : Ei l s S = Ai S := if_pos h
theorem yw {l : List Tok} {s : Str} {S : QS} (h : isQ l s S = false) : Ei l s S = Bq l 8 S := if_neg (by rw [h]; simp)
theorem c16 (l : List Tok) (S : QS) (s : Str) (o : Nat) (Hp : List AObj) (ho : Hp[o]? = some (prq l S)) (hi : S.i < l.length) (hll : l.length ≤ 1048576) : ACall Tryz.prog 16 [.ptr o 0, A7 s] Hp (fun r H' => r = J2 ∧ H' = Hp.set o (prq l (Ei l s S))) := by
 refine ACall.body [] [0, 1] Tryz.func16 Tryz.ntmps16 (fun d => ?_)
 refine Z31 ?_;refine R.callUp Tryz.call47 ho (by simp) Fc (c47 l S s o _ (Ab ho) hi hll) ?_;refine R.not ?_;refine R.fin [0, 7] ?_
 refine W.cond (fun ht7 => ?_) (fun ht7 => ?_)
 ·have hq : isQ l s S = false := by simpa using ht7
  have e := yw hq
  rw [Qv hq, B5 ho]
  refine Z5 ?_;refine R.callUp Tryz.call20 ho (by simp) Fc (c20 l S 8 o _ (Ab ho) hi) ?_;exact Z48
 have hq : isQ l s S = true := by simpa using ht7
 have e := yu hq
 rw [Qu hq]
 exact Z67

theorem yx {l : List Tok} {q : Qry} {S : QS} (h : (S.code != 0) = true) : Cd l (q, S) = (q, S) := if_pos h
theorem yy {l : List Tok} {q : Qry} {S : QS} (h : (S.code != 0) = false) (h2 : ((A4 l S.i).kind != 1) = true) : Cd l (q, S) = (q, Bq l 8 S) := by unfold Cd; rw [if_neg (by show ¬ (S.code != 0) = true; rw [h]; simp), if_pos h2]
theorem yz {l : List Tok} {q : Qry} {S : QS} (h : (S.code != 0) = false) (h2 : ((A4 l S.i).kind != 1) = false) (h3 : ((q.cols.length : Int) == 12) = true) : Cd l (q, S) = (q, Bq l 3 S) := by unfold Cd; rw [if_neg (by show ¬ (S.code != 0) = true; rw [h]; simp), if_neg (by show ¬ ((A4 l S.i).kind != 1) = true; rw [h2]; simp), if_pos h3]
theorem z6 {l : List Tok} {q : Qry} {S : QS} (h : (S.code != 0) = false) (h2 : ((A4 l S.i).kind != 1) = false) (h3 : ((q.cols.length : Int) == 12) = false) : Cd l (q, S) = (⟨q.all, q.cols ++ [(A4 l S.i).text], q.whr, q.lim⟩, Ai S) := by unfold Cd; rw [if_neg (by show ¬ (S.code != 0) = true; rw [h]; simp), if_neg (by show ¬ ((A4 l S.i).kind != 1) = true; rw [h2]; simp), if_neg (by show ¬ ((q.cols.length : Int) == 12) = true; rw [h3]; simp)]
theorem Td {Hp : List AObj} {o oq : Nat} {A B : AObj} (hne : oq ≠ o) (ho : Hp[o]? = some A) (hoq : Hp[oq]? = some B) : (Hp.set o A).set oq B = Hp := by rw [B5 ho, B5 hoq]
theorem c48 (l : List Tok) (S : QS) (q : Qry) (o oq : Nat) (Hp : List AObj) (hne : oq ≠ o) (ho : Hp[o]? = some (prq l S)) (hoq : Hp[oq]? = some (qo true q)) (hi : S.i < l.length) (hll : l.length ≤ 1048576) (hcl : q.cols.length ≤ 1048576) : ACall Tryz.prog 48 [.ptr o 0, .ptr oq 0] Hp (fun r H' => r = J2 ∧ H' = (Hp.set o (prq l (Cd l (q, S)).2)).set oq (qo true (Cd l (q, S)).1)) := by
 refine ACall.body [] [0, 1] Tryz.func48 Tryz.ntmps48 (fun d => ?_)
 refine W.drawY [0, 1, 3, 7, 0, 16, 48, 112, 255, 511, 0, 2047] [] [.q 10 [] [], .s [4] none [] [], .s [4] none [] []] (fun _ => Hp) (fun _ => []) Ae (by kernel_rfl) rfl rfl (fun _ => rfl) ?_
 apply Y.q
 case h1 =>
  intro B hT hF
  exact l6
 case hTF => decide
 refine Yv ?_;refine R.fin [0, 1, 4] ?_;refine Z38 ?_;refine Vt ?_;refine Yx ?_;refine B3 ?_;refine R.fin [0, 1, 4, 15] ?_
 refine W.cond (fun ht15 => ?_) (fun ht15 => ?_)
 ·have e := yx (l := l) (q := q) ht15
  refine AW.ret ?_;refine Z6 ?_
  exact K.fin .nores (hp := ⟨rfl, by first | (rw [e]; exact (Td hne ho hoq).symm) | (rw [e]; exact (B5 (by rw [List.getElem?_set_ne (Ne.symm hne)]; exact hoq)).symm) | (rw [e]; simp only [List.set_set]; rw [List.set_comm _ _ hne]; simp only [qo, qoC, List.map_append, List.map_cons, List.map_nil]; rfl)⟩)
 refine Yu ?_;refine R.neq ?_;refine B3 ?_;refine R.fin [0, 1, 4, 22] ?_
 refine W.cond (fun ht22 => ?_) (fun ht22 => ?_)
 ·have e := yy (q := q) ht15 ht22
  refine Z0 ?_;refine R.callUp Tryz.call20 ho (by simp) Fc (c20 l S 8 o _ (Ab ho) hi) ?_;refine Rf ?_;refine Z6 ?_
  exact K.fin .nores (hp := ⟨rfl, by first | (rw [e]; exact (Td hne ho hoq).symm) | (rw [e]; exact (B5 (by rw [List.getElem?_set_ne (Ne.symm hne)]; exact hoq)).symm) | (rw [e]; simp only [List.set_set]; rw [List.set_comm _ _ hne]; simp only [qo, qoC, List.map_append, List.map_cons, List.map_nil]; rfl)⟩)
 refine Z0 ?_;refine R.nilPtr ?_;refine rk ?_;refine R.loadUp jA hoq ?_;refine R.len jU ?_;refine Z30 ?_;refine R.fin [0, 1, 4, 28] ?_
 refine W.cond (fun ht28 => ?_) (fun ht28 => ?_)
 ·rw [List.length_map] at ht28
  have e := yz ht15 ht22 ht28
  refine Z0 ?_;refine R.callUp Tryz.call20 ho (by simp) Fc (c20 l S 3 o _ (Ab ho) hi) ?_;refine Rf ?_;refine Z6 ?_
  exact K.fin .nores (hp := ⟨rfl, by first | (rw [e]; exact (Td hne ho hoq).symm) | (rw [e]; exact (B5 (by rw [List.getElem?_set_ne (Ne.symm hne)]; exact hoq)).symm) | (rw [e]; simp only [List.set_set]; rw [List.set_comm _ _ hne]; simp only [qo, qoC, List.map_append, List.map_cons, List.map_nil]; rfl)⟩)
 rw [List.length_map] at ht28
 have e := z6 ht15 ht22 ht28
 refine Z34 ?_;refine W.drawY [0, 0, 2, 6, 14, 0, 32, 96, 254, 511, 1023, 2047] [4] [.q 4 [] [], .s [41] (some 0) [] [], .q 3 [] [], .s [41, 45] none [0] []] (fun B => Hp.set oq (if B 0 = true then qo false q else qo true q)) (fun _ => []) Ae (by kernel_rfl) (B5 hoq) rfl (fun B => by simp) ?_
 apply Y.q
 case h1 =>
  intro B hT hF
  refine D.move ?_;refine Z11 ?_;exact ww
 case hTF => decide
 refine Y.loadUpT (o := oq) (t' := 30) (cs := [Ao q.all, .slice true 1 (q.cols.map A7), A3 q.whr.op, A7 q.whr.text, A3 q.whr.val.kind, A3 q.whr.val.n, A7 q.whr.val.s, .slice false 6 (q.whr.kids.map Af), A3 q.lim]) (cs' := [Ao q.all, .slice false 1 (q.cols.map A7), A3 q.whr.op, A7 q.whr.text, A3 q.whr.val.kind, A3 q.whr.val.n, A7 q.whr.val.s, .slice false 6 (q.whr.kids.map Af), A3 q.lim]) Tryz.isAgg23 (fun B hB => ⟨by simp only [hB]; exact Aa hoq, (List.set_set ..).symm, rfl⟩) ?_
 apply Y.q
 case h1 =>
  intro B hT hF
  refine Z54 ?_;exact Z70
 case hTF => decide
 refine Y.append jU Tryz.type9 ?_ ?_ ?_
 ·simp [Tryz.t9]; omega
 ·simp [Tryz.t9]; omega
 refine Y.tail (tn := [4]) (U := Hp.set oq (qo false q)) ?_;refine R.nilPtr ?_;refine rk ?_
 refine R.storeUpT jS (Aa hoq) ?_ ?_
 ·simp [or_imp, forall_and]
 refine R.fin [0] ?_;refine Vx ?_
 refine R.loadUp jA (by rw [List.getElem?_set_ne hne, List.getElem?_set_ne hne]; exact ho) ?_
 refine Z62 ?_
 refine R.storeUp jS (by rw [List.getElem?_set_ne hne, List.getElem?_set_ne hne]; exact ho) ?_ ?_
 ·simp
 refine R.fin [] ?_
 exact K.finN .nores (hp := ⟨rfl, by first | (rw [e]; exact (Td hne ho hoq).symm) | (rw [e]; exact (B5 (by rw [List.getElem?_set_ne (Ne.symm hne)]; exact hoq)).symm) | (rw [e]; simp only [List.set_set]; rw [List.set_comm _ _ hne]; simp only [qo, qoC, List.map_append, List.map_cons, List.map_nil]; rfl)⟩)

end Go.SX.Nb
namespace Go.Proofs
open Go Go.Shelf
def Tryz.ren171 : Ren where
 f := fun x => match x with | 171 => 33 | 243 => 64 | 246 => 94 | 283 => 125 | 284 => 126 | 285 => 127 | 286 => 128 | 129 => 150 | 317 => 149 | 318 => 151 | 319 => 152 | 320 => 153 | 337 => 173 | 338 => 174 | n => n
 t := fun x => match x with | 3 => 3 | 9 => 9 | 2 => 2 | 4 => 4 | 171 => 144 | 0 => 0 | 53 => 81 | 37 => 80 | 5 => 5 | 173 => 147 | 212 => 172 | 51 => 173 | 20 => 20 | 213 => 174 | 46 => 164 | 232 => 193 | 233 => 194 | n => n
 g := fun x => match x with | 17 => 3 | 18 => 4 | 19 => 5 | n => n
theorem Tryz.lays171 : LaysM.n171 Tryz.prog Tryz.ren171 where
 mixed := by kernel_rfl
 f129 := Tryz.func150
 f171 := Tryz.func33
 f243 := Tryz.func64
 f246 := Tryz.func94
 f283 := Tryz.func125
 f284 := Tryz.func126
 f285 := Tryz.func127
 f286 := Tryz.func128
 f317 := Tryz.func149
 f318 := Tryz.func151
 f319 := Tryz.func152
 f320 := Tryz.func153
 f337 := Tryz.func173
 f338 := Tryz.func174
 t0 := Tryz.underlying0
 a0 := Tryz.isAgg0
 z0 := Tryz.sizeOf0
 v0 := Tryz.zeroValue0
 t2 := Tryz.underlying2
 a2 := Tryz.isAgg2
 z2 := Tryz.sizeOf2
 v2 := Tryz.zeroValue2
 t3 := Tryz.underlying3
 a3 := Tryz.isAgg3
 z3 := Tryz.sizeOf3
 v3 := Tryz.zeroValue3
 t4 := Tryz.underlying4
 a4 := Tryz.isAgg4
 z4 := Tryz.sizeOf4
 v4 := Tryz.zeroValue4
 t5 := Tryz.underlying5
 a5 := Tryz.isAgg5
 z5 := Tryz.sizeOf5
 v5 := Tryz.zeroValue5
 t9 := Tryz.underlying9
 a9 := Tryz.isAgg9
 z9 := Tryz.sizeOf9
 v9 := Tryz.zeroValue9
 t20 := Tryz.underlying20
 a20 := Tryz.isAgg20
 z20 := Tryz.sizeOf20
 v20 := Tryz.zeroValue20
 t37 := Tryz.underlying80
 a37 := Tryz.isAgg80
 z37 := Tryz.sizeOf80
 v37 := Tryz.zeroValue80
 t46 := Tryz.underlying164
 a46 := Tryz.isAgg164
 z46 := Tryz.sizeOf164
 v46 := Tryz.zeroValue164
 t51 := Tryz.underlying173
 a51 := Tryz.isAgg173
 z51 := Tryz.sizeOf173
 v51 := Tryz.zeroValue173
 t53 := Tryz.underlying81
 a53 := Tryz.isAgg81
 z53 := Tryz.sizeOf81
 v53 := Tryz.zeroValue81
 t171 := Tryz.underlying144
 a171 := Tryz.isAgg144
 z171 := Tryz.sizeOf144
 v171 := Tryz.zeroValue144
 t173 := Tryz.underlying147
 a173 := Tryz.isAgg147
 z173 := Tryz.sizeOf147
 v173 := Tryz.zeroValue147
 t212 := Tryz.underlying172
 a212 := Tryz.isAgg172
 z212 := Tryz.sizeOf172
 v212 := Tryz.zeroValue172
 t213 := Tryz.underlying174
 a213 := Tryz.isAgg174
 z213 := Tryz.sizeOf174
 t232 := Tryz.underlying193
 a232 := Tryz.isAgg193
 z232 := Tryz.sizeOf193
 v232 := Tryz.zeroValue193
 t233 := Tryz.underlying194
 a233 := Tryz.isAgg194
 z233 := Tryz.sizeOf194
 v233 := Tryz.zeroValue194
 g17 := by kernel_rfl
 g18 := by kernel_rfl
 g19 := by kernel_rfl
 i0 := by kernel_rfl
 i2 := by kernel_rfl
 i3 := by kernel_rfl
 i4 := by kernel_rfl
 i5 := by kernel_rfl
 i9 := by kernel_rfl
 i20 := by kernel_rfl
 i37 := by kernel_rfl
 i46 := by kernel_rfl
 i51 := by kernel_rfl
 i53 := by kernel_rfl
 i171 := by kernel_rfl
 i173 := by kernel_rfl
 i212 := by kernel_rfl
 i232 := by kernel_rfl
 i233 := by kernel_rfl
 m17 := by kernel_rfl
 m18 := by kernel_rfl
 m19 := by kernel_rfl
end Go.Proofs
namespace Go.SX
variable [GI : GlobInv]
open Classical Go.RowKit
section
variable {P : Program} {g : FuncId} {Hp : List AObj}
theorem AFun.libAny {xs : List Value} {n : Value} (h : ∀ w, F5 w → Calls P g xs.toArray w (fun e w' => ∃ u, e = .returned (.tuple #[n, u]) ∧ Below w.heap.size w w')) : AFun P g (xs.map .v) Hp (.tup [.v n, .any]) := by
 intro d G w vs hn hv hH hT
 have hvs := Of hn (fun i y u a b => ⟨_, hv i y u a b⟩)
 subst hvs
 refine (callsIn_wide.2 (h w (fun x hx => let ⟨_, u, a, b⟩ := hT.glob x hx; ⟨u, a, b⟩))).mono ?_
 rintro e w' ⟨u, rfl, hb⟩
 obtain ⟨h1, h2⟩ := L5 hH hT hb
 refine ⟨.tuple #[n, u], G, .tup [.v n, .any], Hp, rfl, .tup _ _ _ rfl (fun i y u' hy hu => ?_), h1, h2, (If hT hb).keep _, rfl, rfl, rfl⟩
 match i with
 | 0 => simp at hy hu; subst hy; subst hu; exact .v _ _
 | 1 => simp at hy; subst hy; exact .any _ _
 | i + 2 => simp at hy
end
end Go.SX
