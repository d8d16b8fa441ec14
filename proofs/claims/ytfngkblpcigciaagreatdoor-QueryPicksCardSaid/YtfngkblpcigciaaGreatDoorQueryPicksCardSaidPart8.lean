/- Texts on the way to this: QueryPicks answers true for whatever it is handed: the answer has, of each row that the query of all columns tells, just the values of its own columns. (part 8) -/
import Derived.Test.YtfngkblpcigciaaGreatDoorProg
import Derived.Shelf.Strconv.Itoa4
import Derived.KernelRfl
import Derived.Test.YtfngkblpcigciaaGreatDoorQueryPicksCardSaidPart7
set_option linter.all false
namespace Go.SX.Nb
open Go Go.SX Go.Proofs
variable [ErrAt]
set_option maxRecDepth 4000
abbrev prq (l : List Tok) (S : QS) : AObj := .cells 77 [.slice false 3 (l.map Er), A4 (S.i : Int), A4 S.code, A4 S.at_]
abbrev qoC (own : Bool) (q : Qry) : List AV := [Ak q.all, .slice own 1 (q.cols.map A8), A4 q.whr.op, A8 q.whr.text, A4 q.whr.val.kind, A4 q.whr.val.n, A8 q.whr.val.s, .slice false 6 (q.whr.kids.map Ab), A4 q.lim]
abbrev qo (own : Bool) (q : Qry) : AObj := .cells 29 (qoC own q)
theorem Dy {n : Nat} {l : List Tok} {S : QS} : ObjLow n (prq l S) := by
 show ∀ y ∈ [AV.slice false 3 (l.map Er), A4 (S.i : Int), A4 S.code, A4 S.at_], Low n y
 intro y hy
 simp only [List.mem_cons, List.not_mem_nil, or_false] at hy
 rcases hy with rfl | rfl | rfl | rfl
 ·simp [or_imp, forall_and]
 all_goals simp
theorem dg {n : Nat} {own : Bool} {l : List Str} : Low n (.slice own 1 (l.map A8)) := by simp
theorem dh {n : Nat} {own : Bool} {q : Qry} : ObjLow n (qo own q) := by
 show ∀ y ∈ qoC own q, Low n y
 intro y hy
 simp only [qoC, List.mem_cons, List.not_mem_nil, or_false] at hy
 rcases hy with rfl | rfl | rfl | rfl | rfl | rfl | rfl | rfl | rfl
 all_goals first | exact Cb | exact dg | simp
abbrev L5 : AV := .v (.tuple #[])
theorem c42 (l : List Tok) (S : QS) (e : Int) (o : Nat) (Hp : List AObj) (ho : Hp[o]? = some (prq l S)) (hi : S.i < l.length) : ACall Tryz.prog 42 [.ptr o 0, A4 e] Hp (fun r H' => r = L5 ∧ H' = Hp.set o (prq l (E4 l e S))) := by
 refine ACall.body [] [0, 1] Tryz.func42 Tryz.ntmps42 (fun d => ?_)
 refine Z0 ?_;refine be ?_;refine R.loadUp jA ho ?_;refine R.eql ?_;refine R.fin [0, 1, 9] ?_
 refine W.cond (fun ht9 => ?_) (fun ht9 => ?_)
 ·have e : E4 l e S = ⟨S.i, e, ((A9 l S.i).at_ : Int)⟩ := if_pos ht9
  refine W.draw0 [0, 0, 0, 4, 12, 28, 0, 64, 192, 448, 1020, 2044, 4092, 8190, 16383, 32767, 65535] 14 Ae (by kernel_rfl) ?_;refine Xo ?_;refine gt ?_;refine Z69 ?_;refine lg ?_;refine D.fieldAddrRo (off := 2) jU Tryz.sizeOf3 ?_;refine Fs ?_;refine D.build (places := #[(0, 1), (1, 1)]) jU (fun w => by simp) jZ ?_;refine D.tail ?_;refine R.nilPtr ?_;refine R.fieldAddrPtr (fo := 2) jU Tryz.sizeOf50 ?_
  refine R.storeUp jS ho ?_ ?_
  ·simp
  exact o4
 have e : E4 l e S = S := if_neg (by rw [ht9]; simp)
 exact o5

theorem c72 (l : List Tok) (S : QS) (s : Str) (o : Nat) (Hp : List AObj) (ho : Hp[o]? = some (prq l S)) (hi : S.i < l.length) (hll : l.length ≤ 1048576) : ACall Tryz.prog 72 [.ptr o 0, A8 s] Hp (fun r H' => r = Ak (isQ l s S) ∧ H' = Hp.set o (prq l (Tc l s S))) := by
 refine ACall.body [.tmp 4] [0, 1] Tryz.func72 Tryz.ntmps72 (fun d => ?_)
 refine Z87 ?_;refine W.drawY [0, 1, 3, 7, 0, 16, 48, 112, 255, 511, 0, 2047] [] [.q 10 [] [], .s [5] none [] [], .s [5] none [] []] (fun _ => Hp) (fun _ => []) Ae (by kernel_rfl) rfl rfl (fun _ => rfl) ?_
 apply Y.q
 case h1 =>
  intro B hT hF
  refine gt ?_;refine Z69 ?_;refine lg ?_;exact ly
 case hTF => decide
 refine lx ?_;refine Y.tail (tn := [])  ?_;refine R.fin [0, 1, 5] ?_;refine Z0 ?_;refine be ?_;refine R.loadUp jA ho ?_;refine Mf ?_;refine Z98 ?_;refine G.eql ?_;refine G.move ?_;refine Z98 ?_;refine G.eql ?_;refine G.pickOr ?_;refine U2 ?_;refine Z28 ?_;refine G.move ?_;refine G.seql ?_;refine Z32 ?_;refine R.fin [0, 6] ?_;refine Z9 ?_;refine R.fin [0, 6, 39] ?_
 refine W.cond (fun ht39 => ?_) (fun ht39 => ?_)
 ·have e : Tc l s S = C7 S := if_pos ht39
  refine Z21 ?_;refine Z42 ?_;refine gh ?_;refine Z42 ?_
  refine R.storeUp jS ho ?_ ?_
  ·simp
  refine R.fin [6] ?_;refine K.thN ?_;refine Z64 ?_;exact o7
 have e : Tc l s S = S := if_neg (by rw [show isQ l s S = false from ht39]; simp)
 refine Z5 ?_;refine Z64 ?_;exact o7

theorem Nu {l : List Tok} {s : Str} {S : QS} (h : isQ l s S = true) : Tc l s S = C7 S := if_pos h
theorem Nv {l : List Tok} {s : Str} {S : QS} (h : isQ l s S = false) : Tc l s S = S := if_neg (by rw [h]; simp)
theorem n9 {l : List Tok} {s : Str} {S : QS} (h : isQ l s S = true) : Ju l s S = C7 S := if_pos h
theorem na {l : List Tok} {s : Str} {S : QS} (h : isQ l s S = false) : Ju l s S = E4 l 8 S := if_neg (by rw [h]; simp)
theorem c38 (l : List Tok) (S : QS) (s : Str) (o : Nat) (Hp : List AObj) (ho : Hp[o]? = some (prq l S)) (hi : S.i < l.length) (hll : l.length ≤ 1048576) : ACall Tryz.prog 38 [.ptr o 0, A8 s] Hp (fun r H' => r = L5 ∧ H' = Hp.set o (prq l (Ju l s S))) := by
 refine ACall.body [] [0, 1] Tryz.func38 Tryz.ntmps38 (fun d => ?_)
 refine Z29 ?_;refine R.callUp Tryz.call72 ho (by simp) Dy (c72 l S s o _ (Ac ho) hi hll) ?_;refine R.not ?_;refine R.fin [0, 7] ?_
 refine W.cond (fun ht7 => ?_) (fun ht7 => ?_)
 ·have hq : isQ l s S = false := by simpa using ht7
  have e := na hq
  rw [Nv hq, B4 ho]
  refine Z21 ?_;refine R.callUp Tryz.call42 ho (by simp) Dy (c42 l S 8 o _ (Ac ho) hi) ?_;exact o4
 have hq : isQ l s S = true := by simpa using ht7
 have e := n9 hq
 rw [Nu hq]
 exact o5

theorem nb {l : List Tok} {q : Qry} {S : QS} (h : (S.code != 0) = true) : De l (q, S) = (q, S) := if_pos h
theorem nc {l : List Tok} {q : Qry} {S : QS} (h : (S.code != 0) = false) (h2 : ((A9 l S.i).kind != 1) = true) : De l (q, S) = (q, E4 l 8 S) := by unfold De; rw [if_neg (by show ¬ (S.code != 0) = true; rw [h]; simp), if_pos h2]
theorem nd {l : List Tok} {q : Qry} {S : QS} (h : (S.code != 0) = false) (h2 : ((A9 l S.i).kind != 1) = false) (h3 : ((q.cols.length : Int) == 12) = true) : De l (q, S) = (q, E4 l 3 S) := by unfold De; rw [if_neg (by show ¬ (S.code != 0) = true; rw [h]; simp), if_neg (by show ¬ ((A9 l S.i).kind != 1) = true; rw [h2]; simp), if_pos h3]
theorem nf {l : List Tok} {q : Qry} {S : QS} (h : (S.code != 0) = false) (h2 : ((A9 l S.i).kind != 1) = false) (h3 : ((q.cols.length : Int) == 12) = false) : De l (q, S) = (⟨q.all, q.cols ++ [(A9 l S.i).text], q.whr, q.lim⟩, C7 S) := by unfold De; rw [if_neg (by show ¬ (S.code != 0) = true; rw [h]; simp), if_neg (by show ¬ ((A9 l S.i).kind != 1) = true; rw [h2]; simp), if_neg (by show ¬ ((q.cols.length : Int) == 12) = true; rw [h3]; simp)]
theorem Pw {Hp : List AObj} {o oq : Nat} {A B : AObj} (hne : oq ≠ o) (ho : Hp[o]? = some A) (hoq : Hp[oq]? = some B) : (Hp.set o A).set oq B = Hp := by rw [B4 ho, B4 hoq]
theorem c73 (l : List Tok) (S : QS) (q : Qry) (o oq : Nat) (Hp : List AObj) (hne : oq ≠ o) (ho : Hp[o]? = some (prq l S)) (hoq : Hp[oq]? = some (qo true q)) (hi : S.i < l.length) (hll : l.length ≤ 1048576) (hcl : q.cols.length ≤ 1048576) : ACall Tryz.prog 73 [.ptr o 0, .ptr oq 0] Hp (fun r H' => r = L5 ∧ H' = (Hp.set o (prq l (De l (q, S)).2)).set oq (qo true (De l (q, S)).1)) := by
 refine ACall.body [] [0, 1] Tryz.func73 Tryz.ntmps73 (fun d => ?_)
 refine W.drawY [0, 1, 3, 7, 0, 16, 48, 112, 255, 511, 0, 2047] [] [.q 10 [] [], .s [4] none [] [], .s [4] none [] []] (fun _ => Hp) (fun _ => []) Ae (by kernel_rfl) rfl rfl (fun _ => rfl) ?_
 apply Y.q
 case h1 =>
  intro B hT hF
  refine gt ?_;refine Z69 ?_;refine lg ?_;exact ly
 case hTF => decide
 refine lx ?_;refine Y.tail (tn := [])  ?_;refine R.fin [0, 1, 4] ?_;refine Gg ?_;refine be ?_;refine R.loadUp jA ho ?_;refine Rr ?_;refine R.fin [0, 1, 4, 15] ?_
 refine W.cond (fun ht15 => ?_) (fun ht15 => ?_)
 ·have e := nb (l := l) (q := q) ht15
  refine Z59 ?_
  exact K.fin .nores (hp := ⟨rfl, by first | (rw [e]; exact (Pw hne ho hoq).symm) | (rw [e]; exact (B4 (by rw [List.getElem?_set_ne (Ne.symm hne)]; exact hoq)).symm) | (rw [e]; simp only [List.set_set]; rw [List.set_comm _ _ hne]; simp only [qo, qoC, List.map_append, List.map_cons, List.map_nil]; rfl)⟩)
 refine Mb ?_;refine Rr ?_;refine R.fin [0, 1, 4, 22] ?_
 refine W.cond (fun ht22 => ?_) (fun ht22 => ?_)
 ·have e := nc (q := q) ht15 ht22
  refine Z0 ?_;refine R.callUp Tryz.call42 ho (by simp) Dy (c42 l S 8 o _ (Ac ho) hi) ?_;refine R.fin [] ?_;refine Z59 ?_
  exact K.fin .nores (hp := ⟨rfl, by first | (rw [e]; exact (Pw hne ho hoq).symm) | (rw [e]; exact (B4 (by rw [List.getElem?_set_ne (Ne.symm hne)]; exact hoq)).symm) | (rw [e]; simp only [List.set_set]; rw [List.set_comm _ _ hne]; simp only [qo, qoC, List.map_append, List.map_cons, List.map_nil]; rfl)⟩)
 refine Z0 ?_;refine R.nilPtr ?_;refine R.fieldAddrPtr (fo := 1) jU Tryz.sizeOf22 ?_;refine R.loadUp jA hoq ?_;refine R.len jU ?_;refine Z20 ?_;refine R.fin [0, 1, 4, 28] ?_
 refine W.cond (fun ht28 => ?_) (fun ht28 => ?_)
 ·rw [List.length_map] at ht28
  have e := nd ht15 ht22 ht28
  refine Z0 ?_;refine R.callUp Tryz.call42 ho (by simp) Dy (c42 l S 3 o _ (Ac ho) hi) ?_;refine R.fin [] ?_;refine Z59 ?_
  exact K.fin .nores (hp := ⟨rfl, by first | (rw [e]; exact (Pw hne ho hoq).symm) | (rw [e]; exact (B4 (by rw [List.getElem?_set_ne (Ne.symm hne)]; exact hoq)).symm) | (rw [e]; simp only [List.set_set]; rw [List.set_comm _ _ hne]; simp only [qo, qoC, List.map_append, List.map_cons, List.map_nil]; rfl)⟩)
 rw [List.length_map] at ht28
 have e := nf ht15 ht22 ht28
 refine Z17 ?_;refine W.drawY [0, 0, 2, 6, 14, 0, 32, 96, 254, 511, 1023, 2047] [4] [.q 4 [] [], .s [41] (some 0) [] [], .q 3 [] [], .s [41, 45] none [0] []] (fun B => Hp.set oq (if B 0 = true then qo false q else qo true q)) (fun _ => []) Ae (by kernel_rfl) (B4 hoq) rfl (fun B => by simp) ?_
 apply Y.q
 case h1 =>
  intro B hT hF
  refine D.move ?_;refine Z44 ?_;refine D.fieldAddrPtr (fo := 1) jU Tryz.sizeOf22 ?_;exact Jd
 case hTF => decide
 refine Y.loadUpT (o := oq) (t' := 29) (cs := [Ak q.all, .slice true 1 (q.cols.map A8), A4 q.whr.op, A8 q.whr.text, A4 q.whr.val.kind, A4 q.whr.val.n, A8 q.whr.val.s, .slice false 6 (q.whr.kids.map Ab), A4 q.lim]) (cs' := [Ak q.all, .slice false 1 (q.cols.map A8), A4 q.whr.op, A8 q.whr.text, A4 q.whr.val.kind, A4 q.whr.val.n, A8 q.whr.val.s, .slice false 6 (q.whr.kids.map Ab), A4 q.lim]) Tryz.isAgg22 (fun B hB => ⟨by simp only [hB]; exact Ad hoq, (List.set_set ..).symm, rfl⟩) ?_
 apply Y.q
 case h1 =>
  intro B hT hF
  refine Z72 ?_;exact Z94
 case hTF => decide
 refine Y.append jU Tryz.type9 ?_ ?_ ?_
 ·simp [Tryz.t9]; omega
 ·simp [Tryz.t9]; omega
 refine Y.tail (tn := [4]) (U := Hp.set oq (qo false q)) ?_;refine R.nilPtr ?_;refine R.fieldAddrPtr (fo := 1) jU Tryz.sizeOf22 ?_
 refine R.storeUpT jS (Ad hoq) ?_ ?_
 ·simp [or_imp, forall_and]
 refine R.fin [0] ?_;refine Z21 ?_;refine Z42 ?_
 refine R.loadUp jA (by rw [List.getElem?_set_ne hne, List.getElem?_set_ne hne]; exact ho) ?_
 refine R.add64 ?_;refine Z42 ?_
 refine R.storeUp jS (by rw [List.getElem?_set_ne hne, List.getElem?_set_ne hne]; exact ho) ?_ ?_
 ·simp
 refine R.fin [] ?_
 exact K.finN .nores (hp := ⟨rfl, by first | (rw [e]; exact (Pw hne ho hoq).symm) | (rw [e]; exact (B4 (by rw [List.getElem?_set_ne (Ne.symm hne)]; exact hoq)).symm) | (rw [e]; simp only [List.set_set]; rw [List.set_comm _ _ hne]; simp only [qo, qoC, List.map_append, List.map_cons, List.map_nil]; rfl)⟩)

end Go.SX.Nb
namespace Go.Proofs
open Go Go.Shelf
def Tryz.ren171 : Ren where
 f := fun x => match x with | 171 => 45 | 243 => 81 | 246 => 119 | 283 => 153 | 284 => 154 | 285 => 155 | 286 => 156 | 129 => 179 | 317 => 178 | 318 => 180 | 319 => 181 | 320 => 182 | 337 => 204 | 338 => 205 | n => n
 t := fun x => match x with | 3 => 3 | 9 => 9 | 2 => 2 | 4 => 4 | 171 => 187 | 0 => 0 | 53 => 97 | 37 => 119 | 5 => 5 | 173 => 190 | 212 => 216 | 51 => 217 | 20 => 20 | 213 => 218 | 46 => 42 | 232 => 237 | 233 => 238 | n => n
 g := fun x => match x with | 17 => 3 | 18 => 4 | 19 => 5 | n => n
theorem Tryz.lays171 : LaysM.n171 Tryz.prog Tryz.ren171 where
 mixed := by kernel_rfl
 f129 := Tryz.func179
 f171 := Tryz.func45
 f243 := Tryz.func81
 f246 := Tryz.func119
 f283 := Tryz.func153
 f284 := Tryz.func154
 f285 := Tryz.func155
 f286 := Tryz.func156
 f317 := Tryz.func178
 f318 := Tryz.func180
 f319 := Tryz.func181
 f320 := Tryz.func182
 f337 := Tryz.func204
 f338 := Tryz.func205
 t0 := Tryz.underlying0
 a0 := Tryz.isAgg0
 z0 := Tryz.sizeOf0
 v0 := Tryz.zeroValue0
 t2 := Tryz.underlying2
 a2 := Tryz.isAgg2
 z2 := Tryz.sizeOf2
 v2 := Tryz.zeroValue2
 t3 := Tryz.underlying3
 a3 := Tryz.isAgg3
 z3 := Tryz.sizeOf3
 v3 := Tryz.zeroValue3
 t4 := Tryz.underlying4
 a4 := Tryz.isAgg4
 z4 := Tryz.sizeOf4
 v4 := Tryz.zeroValue4
 t5 := Tryz.underlying5
 a5 := Tryz.isAgg5
 z5 := Tryz.sizeOf5
 v5 := Tryz.zeroValue5
 t9 := Tryz.underlying9
 a9 := Tryz.isAgg9
 z9 := Tryz.sizeOf9
 v9 := Tryz.zeroValue9
 t20 := Tryz.underlying20
 a20 := Tryz.isAgg20
 z20 := Tryz.sizeOf20
 v20 := Tryz.zeroValue20
 t37 := Tryz.underlying119
 a37 := Tryz.isAgg119
 z37 := Tryz.sizeOf119
 v37 := Tryz.zeroValue119
 t46 := Tryz.underlying42
 a46 := Tryz.isAgg42
 z46 := Tryz.sizeOf42
 v46 := Tryz.zeroValue42
 t51 := Tryz.underlying217
 a51 := Tryz.isAgg217
 z51 := Tryz.sizeOf217
 v51 := Tryz.zeroValue217
 t53 := Tryz.underlying97
 a53 := Tryz.isAgg97
 z53 := Tryz.sizeOf97
 v53 := Tryz.zeroValue97
 t171 := Tryz.underlying187
 a171 := Tryz.isAgg187
 z171 := Tryz.sizeOf187
 v171 := Tryz.zeroValue187
 t173 := Tryz.underlying190
 a173 := Tryz.isAgg190
 z173 := Tryz.sizeOf190
 v173 := Tryz.zeroValue190
 t212 := Tryz.underlying216
 a212 := Tryz.isAgg216
 z212 := Tryz.sizeOf216
 v212 := Tryz.zeroValue216
 t213 := Tryz.underlying218
 a213 := Tryz.isAgg218
 z213 := Tryz.sizeOf218
 t232 := Tryz.underlying237
 a232 := Tryz.isAgg237
 z232 := Tryz.sizeOf237
 v232 := Tryz.zeroValue237
 t233 := Tryz.underlying238
 a233 := Tryz.isAgg238
 z233 := Tryz.sizeOf238
 v233 := Tryz.zeroValue238
 g17 := by kernel_rfl
 g18 := by kernel_rfl
 g19 := by kernel_rfl
 i0 := by kernel_rfl
 i2 := by kernel_rfl
 i3 := by kernel_rfl
 i4 := by kernel_rfl
 i5 := by kernel_rfl
 i9 := by kernel_rfl
 i20 := by kernel_rfl
 i37 := by kernel_rfl
 i46 := by kernel_rfl
 i51 := by kernel_rfl
 i53 := by kernel_rfl
 i171 := by kernel_rfl
 i173 := by kernel_rfl
 i212 := by kernel_rfl
 i232 := by kernel_rfl
 i233 := by kernel_rfl
 m17 := by kernel_rfl
 m18 := by kernel_rfl
 m19 := by kernel_rfl
end Go.Proofs
namespace Go.SX
variable [GI : GlobInv]
open Classical Go.RowKit
section
variable {P : Program} {g : FuncId} {Hp : List AObj}
theorem AFun.libAny {xs : List Value} {n : Value} (h : ∀ w, Ds w → Calls P g xs.toArray w (fun e w' => ∃ u, e = .returned (.tuple #[n, u]) ∧ Below w.heap.size w w')) : AFun P g (xs.map .v) Hp (.tup [.v n, .any]) := by
 intro d G w vs hn hv hH hT
 have hvs := Lp hn (fun i y u a b => ⟨_, hv i y u a b⟩)
 subst hvs
 refine (callsIn_wide.2 (h w (fun x hx => let ⟨_, u, a, b⟩ := hT.glob x hx; ⟨u, a, b⟩))).mono ?_
 rintro e w' ⟨u, rfl, hb⟩
 obtain ⟨h1, h2⟩ := Im hH hT hb
 refine ⟨.tuple #[n, u], G, .tup [.v n, .any], Hp, rfl, .tup _ _ _ rfl (fun i y u' hy hu => ?_), h1, h2, (Gf hT hb).keep _, rfl, rfl, rfl⟩
 match i with
 | 0 => simp at hy hu; subst hy; subst hu; exact .v _ _
 | 1 => simp at hy; subst hy; exact .any _ _
 | i + 2 => simp at hy
end
end Go.SX
