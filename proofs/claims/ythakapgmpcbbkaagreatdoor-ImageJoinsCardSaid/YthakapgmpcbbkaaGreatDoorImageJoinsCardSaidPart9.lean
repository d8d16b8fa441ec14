/- Texts on the way to this: ImageJoins answers true for whatever it is handed: of any moves, cut in two at any place: a row forth through both parts, one behind the other, is the row forth; back likewise (up to 50 columns and values, 8 moves). (part 9) -/
import Derived.Below
import Derived.Test.YthakapgmpcbbkaaGreatDoorImageJoinsCardSaidPart8
set_option linter.all false
namespace Go.SX.Nb
open Go Go.SX Go.Proofs
variable [ErrAt]
set_option maxRecDepth 4000
abbrev pmO (L:List Tok) (i:Nat):AObj:=.cells 99 [ck L,A2 (i:Int)]
abbrev mvC (m:Mov):List AV:=[A2 m.kind,.slice true 1 (m.take.map A9),.slice true 2 (m.give.map B0),.slice true 6 (m.ahead.map A5),.slice true 6 (m.back.map A5)]
abbrev mvO (m:Mov):AObj:=.cells 77 (mvC m)
abbrev bj (e a:Int):Value:=.iface 59 (.agg [Value.int .i64 e,Value.int .i64 a].toArray)
abbrev Lj:AV:=.v (.tuple #[])
theorem Az {n:Nat} {L:List Tok} {i:Nat}:ObjLow n (pmO L i):=by
 show ∀y∈[AV.slice false 3 (L.map H0),A2 (i:Int)],Low n y
 intro y hy
 simp only [List.mem_cons,List.not_mem_nil,or_false] at hy
 rcases hy with rfl|rfl
 ·simp [or_imp,forall_and]
 simp
/-- A contract of the parser: it comes to what the model comes to, or the model's fault is F0. -/
def CP (g:FuncId) (args:List AV) (H:List AObj) {α:Type} (X:PR α) (Q:α→Nat→AV→List AObj→Prop) (R:List AObj→Prop):Prop:=
 ACallP Tryz.prog g args H (fun r H'=>∃c j,X=.ok c j∧Q c j r H') (fun v H'=>∃e a,X=.bad e a∧v=bj e a∧R H')
theorem CP.ok {g:FuncId} {args:List AV} {H:List AObj} {α:Type} {X:PR α} {Q:α→Nat→AV→List AObj→Prop} {R:List AObj→Prop} {c:α} {j:Nat} (h:CP g args H X Q R) (hX:X=.ok c j):ACall Tryz.prog g args H (fun r H'=>Q c j r H'):=
 ACall.ofP (h.mono (fun r H' ⟨c',j',e,hq⟩=>by rw [hX] at e;injection e with e1 e2;subst e1;subst e2;exact hq) (fun v H' ⟨e,a,he,_⟩=>by rw [hX] at he;cases he))
theorem CP.bad {g:FuncId} {args:List AV} {H:List AObj} {α:Type} {X:PR α} {Q:α→Nat→AV→List AObj→Prop} {R:List AObj→Prop} {e a:Int} (h:CP g args H X Q R) (hX:X=.bad e a):ACallP Tryz.prog g args H (fun _ _=>False) (fun v H'=>v=bj e a∧R H'):=
 h.mono (fun r H' ⟨c',j',he,hq⟩=>by rw [hX] at he;cases he) (fun v H' ⟨e',a',he,hv,hR⟩=>by rw [hX] at he;injection he with e1 e2;subst e1;subst e2;exact ⟨hv,hR⟩)
/-- The parser's object alone has turned. -/
def W1 (L:List Tok) (o:Nat) (Hp H':List AObj):Prop:=∃j,H'=Hp.set o (pmO L j)
theorem W1.refl {L:List Tok} {o i:Nat} {Hp:List AObj} (ho:Hp[o]? = some (pmO L i)):W1 L o Hp Hp:=⟨i,(Ej ho).symm⟩
theorem c73 (L:List Tok) (i o:Nat) (Hp:List AObj) (ho:Hp[o]? = some (pmO L i)) (hi:i<L.length):AFun Tryz.prog 73 [.ptr o 0] Hp (H0 (A7 L i)):=by
 refine ACall.body [.cell 2 130] [0] Tryz.func73 Tryz.ntmps73 (fun d=>?_)
 refine zz ?_;refine Z37 ?_
 refine D.go (h:=Q.loadUp ho) (hr:=?_)
 refine Z37 ?_
 refine D.go (h:=Q.loadUp ho) (hr:=?_)
 refine D.tail ?_
 refine R.go (h:=Q.indexAddr (i) (H0 (A7 L i)) (fun _=>Nm hi)) (hr:=?_)
 refine R.go ?_;exact wj

theorem c74 (L:List Tok) (i o:Nat) (e:Int) (Hp:List AObj) (ho:Hp[o]? = some (pmO L i)) (hi:i<L.length):ACallP Tryz.prog 74 [.ptr o 0,A2 e] Hp (fun _ _=>False) (fun v H'=>v=bj e (A7 L i).at_∧H'=Hp):=by
 refine ACallP.body [] [0,1] Tryz.func74 Tryz.ntmps74 (fun d=>?_)
 refine W.drawY0 [0,0,2,6,14,0,32,96,224,510,1022,2046,4095,8191,16383] [14] [.q 14 [] [],.s [] (some 0) [] []] (fun _=>Hp) (fun B=>[]++bot (B 0)) Aa (by kernel_rfl) rfl rfl (fun _=>rfl) ?_
 apply Y.q
 case h1 =>
  intro B hT hF
  refine Pe ?_
  refine D.go (h:=Q.loadUp ho) (hr:=?_)
  refine Z37 ?_
  refine D.go (h:=Q.loadUp ho) (hr:=?_)
  refine D.go (h:=Q.indexAddr (i) (H0 (A7 L i)) (fun _=>Nm hi)) (hr:=?_)
  refine Z10 ?_;refine D.build (places:=#[(0,1),(1,1)]) jU (fun w=>by simp) jZ ?_;refine D.makeIface (.of jU) ?_;exact Lp
 case hTF=>decide
 refine Y.panic (vs:=[.int .i64 e,.int .i64 ((A7 L i).at_:Int)]) (fun B hB f=>?_) ?_
 ·exact K.finPP ⟨rfl,rfl⟩
 exact sd

theorem ABl (L:List Tok) (s:Str) (i o:Nat) (Hp:List AObj) (ho:Hp[o]? = some (pmO L i)) (hi:i<L.length):AFun Tryz.prog 144 [.ptr o 0,A9 s] Hp (At (isP L s i)):=by
 refine ACall.body [.tmp 4] [0,1] Tryz.func144 Tryz.ntmps144 (fun d=>?_)
 refine Z51 ?_;refine wl ?_;refine Z21 ?_;refine R.fin [1,5] ?_;refine Z19 ?_;refine Z41 ?_;refine Wi ?_;exact sa

theorem N1 (L:List Tok) (s:Str) (i o:Nat) (Hp:List AObj) (ho:Hp[o]? = some (pmO L i)) (hi:i<L.length) (hll:L.length≤500000):CP 103 [.ptr o 0,A9 s] Hp (Bw L s i) (fun _ j r H'=>r=Lj∧H'=Hp.set o (pmO L j)) (W1 L o Hp):=by
 refine ACallP.body [] [0,1] Tryz.func103 Tryz.ntmps103 (fun d=>?_)
 refine Z31 ?_;refine R.call Tryz.call144 (ABl L s i o _ (A6 ho) hi) ?_;refine R.go ?_;refine R.fin [0,7] ?_
 refine W.cond (fun ht7=>?_) (fun ht7=>?_)
 ·have hq:isP L s i=false:=by simpa using ht7
  have e:Bw L s i=.bad 8 (A7 L i).at_:=if_neg (by rw [hq];simp)
  refine AW.regionK ?_
  refine ARunK.one (R.go (ARun.nil ?_))
  refine wy ?_
  rintro x U O hU hl' ⟨rfl,hH⟩
  obtain ⟨rfl,rfl⟩:=H8 hU hH
  refine ⟨fun h=>h,fun o h=>(by cases h),?_⟩
  exact rr
 have hq:isP L s i=true:=by simpa using ht7
 have e:Bw L s i=.ok () (i+1):=if_pos hq
 refine Z6 ?_;refine Pc ?_
 refine R.go (h:=Q.loadUp ho) (hr:=?_)
 refine Z29 ?_
 refine R.storeUp jS ho ?_ ?_
 ·simp
 refine R.fin [] ?_;exact K.finPN .nores (hp:=⟨(),i+1,e,rfl,rfl⟩)

theorem Ph (L:List Tok) (i o:Nat) (Hp:List AObj) (ho:Hp[o]? = some (pmO L i)) (hi:i<L.length) (hll:L.length≤500000):CP 138 [.ptr o 0] Hp (Ep L i) (fun s j r H'=>r=A9 s∧H'=Hp.set o (pmO L j)) (W1 L o Hp):=by
 refine ACallP.body [.tmp 2] [0] Tryz.func138 Tryz.ntmps138 (fun d=>?_)
 refine Z47 ?_;refine wl ?_;refine Z21 ?_;refine Mc ?_;refine Z30 ?_;refine R.fin [0,3,8] ?_
 refine W.cond (fun ht8=>?_) (fun ht8=>?_)
 ·have e:Ep L i=.bad 8 (A7 L i).at_:=if_pos ht8
  refine AW.regionK ?_
  refine ARunK.one (R.go (ARun.nil ?_))
  refine wy ?_
  rintro x U O hU hl' ⟨rfl,hH⟩
  obtain ⟨rfl,rfl⟩:=H8 hU hH
  refine ⟨fun h=>h,fun o h=>(by cases h),?_⟩
  exact rr
 have e:Ep L i=.ok (A7 L i).text (i+1):=if_neg (by rw [ht8];simp)
 refine Mb ?_
 refine R.go (h:=Q.loadUp ho) (hr:=?_)
 refine Z29 ?_
 refine R.storeUp jS ho ?_ ?_
 ·simp
 refine R.fin [3] ?_;refine Z13 ?_;refine Z4 ?_;exact K.finP (V.one V.tmp) (hp:=⟨_,i+1,e,rfl,rfl⟩)

theorem getset {Hp:List AObj} {o:Nat} {A B:AObj} (h:Hp[o]? = some A):(Hp.set o B)[o]? = some B:=by
 have:=(List.getElem?_eq_some_iff.1 h).1
 simp [this]
theorem W1.set {L:List Tok} {o i:Nat} {Hp:List AObj}:W1 L o Hp (Hp.set o (pmO L i)):=⟨i,rfl⟩
theorem B9 {l:List AObj} {i:Nat} {x:AObj} (h:∀y∈l,ObjLow (l.set i x).length y) (hx:∀n,ObjLow n x):∀y∈l.set i x,ObjLow (l.set i x).length y:=Dy h (hx _)
theorem c168 (L:List Tok) (i o:Nat) (Hp:List AObj) (ho:Hp[o]? = some (pmO L i)) (hi:i<L.length) (hl:TokEnd L) (hll:L.length≤500000):CP 168 [.ptr o 0] Hp (Gb L i) (fun c j r H'=>r=B0 c∧H'=Hp.set o (pmO L j)) (W1 L o Hp):=by
 refine ACallP.body [.cell 2 48] [0] Tryz.func168 Tryz.ntmps168 (fun d=>?_)
 refine Z52 ?_
 rcases hN:Ep L i with ⟨s,j⟩|⟨e,a⟩
 rotate_left
 ·refine AW.seqRK ?_
  refine ARunK.one (R.go (ARun.nil ?_))
  refine RK.callBad Tryz.call138 ((Ph L i o _ (A6 ho) hi hll).bad hN) ?_
  rintro x U O hU hl' ⟨rfl,j',hH⟩
  obtain ⟨rfl,rfl⟩:=B8 hU (List.getElem?_eq_some_iff.1 ho).1 hH
  refine ⟨fun h=>B9 h (fun n=>Az),fun o h=>(by cases h),?_⟩
  refine K.thP ?_;exact K.finPP ⟨_,_,by unfold Gb;rw [hN];rfl,rfl,j',rfl⟩
 have hj:j<L.length:=(Ef hl hi _ _ hN).2
 have e0:Gb L i=Y9 L s j:=by unfold Gb;rw [hN];rfl
 refine Z2 ?_;refine R.callUp (x:=pmO L j) Tryz.call138 ho (by simp) Az ((Ph L i o _ (A6 ho) hi hll).ok hN) ?_;refine V3 ?_;refine Wh ?_;refine Z2 ?_;refine R.call Tryz.call73 (c73 L j o _ (A6 (getset ho)) hj) ?_;refine Z21 ?_;refine R.fin [0,2,3,4] ?_;refine Z31 ?_;refine R.call Tryz.call190 (ACh (A7 L j).text _) ?_;refine R.go ?_;refine Fu ?_;refine R.fin [0,2,3,4] ?_;refine Z19 ?_;refine V0 ?_;refine R.fin [0,2,3,21] ?_
 refine W.cond (fun ht21=>?_) (fun ht21=>?_)
 ·have e:Gb L i=.bad 8 (A7 L j).at_:=by rw [e0];exact if_pos ht21
  refine AW.regionK ?_
  refine ARunK.one (R.go (ARun.nil ?_))
  refine RK.callBad Tryz.call74 (c74 L j o 8 _ (A6 (getset ho)) hj) ?_
  rintro x U O hU hl' ⟨rfl,hH⟩
  obtain ⟨rfl,rfl⟩:=H8 hU hH
  refine ⟨fun h=>h,fun o h=>(by cases h),?_⟩
  refine K.thP ?_;exact K.finPP ⟨_,_,e,rfl,W1.set⟩
 have e:Gb L i=.ok ⟨s,Il (A7 L j).text⟩ (j+1):=by rw [e0];exact if_neg (by rw [ht21];simp)
 refine Mb ?_
 refine R.go (h:=Q.loadUp (getset ho)) (hr:=?_)
 refine Z29 ?_
 refine R.storeUp jS (getset ho) ?_ ?_
 ·simp
 refine Hl ?_;refine Z2 ?_;refine Z11 ?_;exact K.finP (V.one (V.cellN jA jS)) (hp:=⟨_,j+1,e,rfl,by rw [List.set_set];rfl⟩)

theorem qo (L:List Tok) (i o:Nat) (Hp:List AObj) (ho:Hp[o]? = some (pmO L i)) (hi:i<L.length) (hl:TokEnd L) (hll:L.length≤500000):CP 169 [.ptr o 0] Hp (I3 L i) (fun c j r H'=>r=A5 c∧H'=Hp.set o (pmO L j)) (W1 L o Hp):=by
 refine ACallP.body [.cell 2 103] [0] Tryz.func169 Tryz.ntmps169 (fun d=>?_)
 refine Z52 ?_;refine W.drawY [0,1,3,7,0,16,48,112,255,511,1023,1023,1023,0,0,26623,61439,131071] [] [.q 13 [] [],.s [3] none [] [],.s [5] none [] [],.s [3] none [] [],.q 1 [] [],.s [5] none [] []] (fun _=>Hp) (fun _=>[.cells 103 [A2 0,A9 [],A2 0,A2 0,A9 [],.nil]]) Aa (by kernel_rfl) rfl rfl (fun _=>rfl) ?_
 apply Y.q
 case h1 =>
  intro B hT hF
  refine Z37 ?_
  refine D.go (h:=Q.loadUp ho) (hr:=?_)
  refine Z37 ?_
  refine D.go (h:=Q.loadUp ho) (hr:=?_)
  refine D.call Tryz.call191 (ACx L i hi hl hll (fun n Dv h1 h2=>k9 hl (by omega) n Dv h1 h2) _) ?_;exact m0
 case hTF=>decide
 refine Y.allocP Tryz.zeroValue103 ?_;refine Y.allocP Tryz.zeroValue59 ?_;refine Y.storeP Tryz.sizeOf103 ?_
 apply Y.q
 case h1 =>
  intro B hT hF
  exact Z68
 case hTF=>decide
 refine Y.storeP Tryz.sizeOf59 ?_;refine Y.tail (tn:=[])  ?_;refine R.fin [0,2,3,4,5] ?_;refine Z30 ?_;refine R.fin [0,2,3,4,5,21] ?_
 refine W.cond (fun ht21=>?_) (fun ht21=>?_)
 ·have e:I3 L i=.bad (atM L i).2.2.1 (atM L i).2.2.2:=if_pos ht21
  refine AW.regionK ?_
  refine ARunK.one (R.go (ARun.nil ?_))
  refine ARunK.one (R.makeIface (.of Tryz.underlying59) (ARun.nil ?_))
  refine RK.panic (vs:=[.int .i64 (atM L i).2.2.1,.int .i64 (atM L i).2.2.2]) ?_;exact rr
 obtain ⟨k,hk,hkl⟩:=tz hl (by omega) hi (by simpa using ht21)
 have e:I3 L i=.ok (atM L i).1 k:=(if_neg (by rw [ht21];simp)).trans (by rw [hk];rfl)
 rw [hk]
 refine Z6 ?_;refine Z19 ?_
 refine R.storeUp jS ho ?_ ?_
 ·simp
 refine Hl ?_;refine Z2 ?_;refine Z11 ?_;exact K.finP (V.one (V.cellN jA jS)) (hp:=⟨_,k,e,(Ab _).symm,rfl⟩) (hlow:=by have:=Ad Hp.length (atM L i).1;rw [Ab] at this;exact this)

/-- The parser's object and the move's, turned. -/
def U2 (L:List Tok) (Hp:List AObj) (o om i:Nat) (x:AObj):List AObj:=(Hp.set o (pmO L i)).set om x
theorem U2_len {L:List Tok} {Hp:List AObj} {o om i:Nat} {x:AObj}:(U2 L Hp o om i x).length=Hp.length:=by simp [U2]
theorem Ck {L:List Tok} {Hp:List AObj} {o om i:Nat} {x z:AObj} (hm:Hp[om]? = some z):(U2 L Hp o om i x)[om]? = some x:=gB hm
theorem Ba {L:List Tok} {Hp:List AObj} {o om i:Nat} {x z:AObj} (ho:Hp[o]? = some z) (hne:om≠o):(U2 L Hp o om i x)[o]? = some (pmO L i):=gA ho hne
theorem Bu {L:List Tok} {Hp:List AObj} {o om i j:Nat} {x:AObj} (hne:om≠o):(U2 L Hp o om i x).set o (pmO L j)=U2 L Hp o om j x:=qd hne
theorem U2_setm {L:List Tok} {Hp:List AObj} {o om i:Nat} {x y:AObj}:(U2 L Hp o om i x).set om y=U2 L Hp o om i y:=List.set_set ..
theorem N2 {L:List Tok} {Hp:List AObj} {o om i:Nat} {x:AObj} (ho:Hp[o]? = some (pmO L i)) (hm:Hp[om]? = some x):U2 L Hp o om i x=Hp:=by unfold U2;rw [Ej ho,Ej hm]
theorem bn {L:List Tok} {Hp:List AObj} {o om i:Nat} {x:AObj} (hne:om≠o) (hm:Hp[om]? = some x):Hp.set o (pmO L i)=U2 L Hp o om i x:=(Ej (by rw [List.getElem?_set_ne (Ne.symm hne)];exact hm)).symm
theorem Ed {L:List Tok} {Hp:List AObj} {o om i q:Nat} {x:AObj} (h1:q≠o) (h2:q≠om):(U2 L Hp o om i x)[q]? = Hp[q]? := by unfold U2;rw [List.getElem?_set_ne (Ne.symm h2),List.getElem?_set_ne (Ne.symm h1)]
def W2 (L:List Tok) (o om:Nat) (Hp H':List AObj):Prop:=∃j m,H'=U2 L Hp o om j (mvO m)
theorem M2 {n k:Nat} {o:Bool} {l:List Expr} {x:Expr}:Low n (.slice o k (l.map A5++[.agg (E5 x)])):=by
 rw [show AV.agg (E5 x)=A5 x from (Ab x).symm];exact bb
theorem Bq {n:Nat} {m:Mov}:ObjLow n (mvO m):=by
 show ∀y∈mvC m,Low n y
 intro y hy
 simp only [mvC,List.mem_cons,List.not_mem_nil,or_false] at hy
 rcases hy with rfl|rfl|rfl|rfl|rfl
 all_goals first|exact Di|simp [or_imp,forall_and]
theorem km {L:List Tok} {Hp:List AObj} {o om i:Nat} {m:Mov} {c:Col} {x:AObj}:(U2 L Hp o om i x).set om (.cells 77 [A2 m.kind,.slice true 1 (m.take.map A9),.slice true 2 (m.give.map B0++[B0 c]),.slice true 6 (m.ahead.map A5),.slice true 6 (m.back.map A5)])=U2 L Hp o om i (mvO (C2 m c)):=by
 rw [U2_setm];simp only [mvO,mvC,C2,List.map_append,List.map_cons,List.map_nil]
theorem kn {L:List Tok} {Hp:List AObj} {o om i:Nat} {m:Mov} {e:Expr} {x:AObj}:(U2 L Hp o om i x).set om (.cells 77 [A2 m.kind,.slice true 1 (m.take.map A9),.slice true 2 (m.give.map B0),.slice true 6 (m.ahead.map A5++[.agg (E5 e)]),.slice true 6 (m.back.map A5)])=U2 L Hp o om i (mvO (U6 m e)):=by
 rw [U2_setm,show AV.agg (E5 e)=A5 e from (Ab e).symm];simp only [mvO,mvC,U6,List.map_append,List.map_cons,List.map_nil]
theorem ko {L:List Tok} {Hp:List AObj} {o om i:Nat} {m:Mov} {e:Expr} {x:AObj}:(U2 L Hp o om i x).set om (.cells 77 [A2 m.kind,.slice true 1 (m.take.map A9),.slice true 2 (m.give.map B0),.slice true 6 (m.ahead.map A5),.slice true 6 (m.back.map A5++[.agg (E5 e)])])=U2 L Hp o om i (mvO (ea m e)):=by
 rw [U2_setm,show AV.agg (E5 e)=A5 e from (Ab e).symm];simp only [mvO,mvC,ea,List.map_append,List.map_cons,List.map_nil]
theorem kp {L:List Tok} {Hp:List AObj} {o om i:Nat} {m:Mov} {s:Str} {x:AObj}:(U2 L Hp o om i x).set om (.cells 77 [A2 m.kind,.slice true 1 (m.take.map A9++[A9 s]),.slice true 2 (m.give.map B0),.slice true 6 (m.ahead.map A5),.slice true 6 (m.back.map A5)])=U2 L Hp o om i (mvO (eb m s)):=by
 rw [U2_setm];simp only [mvO,mvC,eb,List.map_append,List.map_cons,List.map_nil]

theorem bo (L:List Tok) (m:Mov) (i o om:Nat) (Hp:List AObj) (hne:om≠o) (ho:Hp[o]? = some (pmO L i)) (hm:Hp[om]? = some (mvO m)) (hi:i<L.length) (hl:TokEnd L) (hll:L.length≤500000) (hb:MvLe m (2*i-1)):CP 137 [.ptr o 0,.ptr om 0] Hp (D9 L m i) (fun m' j r H'=>r=Lj∧H'=U2 L Hp o om j (mvO m')) (W2 L o om Hp):=by
 have:=hb.take;have:=hb.give;have:=hb.ahead;have:=hb.back
 refine ACallP.body [] [0,1] Tryz.func137 Tryz.ntmps137 (fun d=>?_)
 rcases hC:Gb L i with ⟨c,j⟩|⟨e,a⟩
 rotate_left
 ·refine W.drawY [0,0,2,6,14,0,32,96,254,511,1023,2047] [6] [.q 6 [] [],.s [10] (some 0) [] [],.s [] none [0] [],.s [] none [0] [],.s [] none [0] [],.s [] none [0] [],.s [] none [0] []] (fun _=>Hp) (fun B=>[]++bot (B 0)) Aa (by kernel_rfl) rfl rfl (fun _=>rfl) ?_
  apply Y.q
  case h1 =>
   intro B hT hF
   refine Pe ?_
   refine D.go (h:=Q.loadUp hm) (hr:=?_)
   exact Z68
  case hTF=>decide
  refine Y.callBad (own0:=[]) Tryz.call168 (fun B hB=>⟨rfl,by simp [bot,hB]⟩) ((c168 L i o _ (A6 ho) hi hl hll).bad hC) ?_ ?_
  ·rintro x U O f hU hl' ⟨rfl,j',hH⟩
   obtain ⟨rfl,rfl⟩:=B8 hU (List.getElem?_eq_some_iff.1 ho).1 hH
   refine ⟨fun h=>B9 h (fun n=>Az),fun o h=>(by cases h),?_⟩
   exact K.finPP ⟨_,_,by unfold D9;rw [hC];rfl,rfl,j',m,bn hne hm⟩
  refine Z17 ?_;exact s6
 have hj:=Oa hl hi _ _ hC
 refine W.drawY [0,0,2,6,14,0,32,96,254,511,1023,2047] [4,6] [.q 4 [] [],.s [8] (some 0) [] [],.q 1 [] [1],.s [10] (some 1) [] [],.q 1 [1] [],.s [8,12] none [0,1] []] (fun B=>U2 L Hp o om (if B 1=true then j else i) (if B 0=true then .cells 77 [A2 m.kind,.slice true 1 (m.take.map A9),.slice false 2 (m.give.map B0),.slice true 6 (m.ahead.map A5),.slice true 6 (m.back.map A5)] else .cells 77 [A2 m.kind,.slice true 1 (m.take.map A9),.slice true 2 (m.give.map B0),.slice true 6 (m.ahead.map A5),.slice true 6 (m.back.map A5)])) (fun _=>[]) Aa (by kernel_rfl) (N2 ho hm) rfl (fun B=>U2_len) ?_
 apply Y.q
 case h1 =>
  intro B hT hF
  exact m0
 case hTF=>decide
 refine Y.loadUpT (o:=om) (t':=77) (cs:=[A2 m.kind,.slice true 1 (m.take.map A9),.slice true 2 (m.give.map B0),.slice true 6 (m.ahead.map A5),.slice true 6 (m.back.map A5)]) (cs':=[A2 m.kind,.slice true 1 (m.take.map A9),.slice false 2 (m.give.map B0),.slice true 6 (m.ahead.map A5),.slice true 6 (m.back.map A5)]) Tryz.isAgg22 (fun B hB=>⟨by simp only [hB];exact Ck hm,U2_setm.symm,rfl⟩) ?_
 apply Y.q
 case h1 =>
  intro B hT hF
  exact Z68
 case hTF=>decide
 refine Y.callUp (r:=B0 c) (o:=o) (x0:=pmO L i) (x:=pmO L j) Tryz.call168 (fun B hB1 hB2 hB=>⟨by simp only [hB];exact Ba ho hne,(Bu hne).symm,rfl,Az,?_⟩) ?_
 ·simp only [hB]
  exact (c168 L i o _ (A6 (Ba ho hne)) hi hl hll).ok hC
 apply Y.q
 case h1 =>
  intro B hT hF
  exact Z44
 case hTF=>decide
 refine Y.append jU Tryz.type48 ?_ ?_ ?_
 ·simp [Tryz.t48];omega
 ·simp [Tryz.t48];omega
 refine Y.tail (tn:=[4,6]) (U:=U2 L Hp o om j (.cells 77 [A2 m.kind,.slice true 1 (m.take.map A9),.slice false 2 (m.give.map B0),.slice true 6 (m.ahead.map A5),.slice true 6 (m.back.map A5)])) ?_;refine Z0 ?_
 refine R.storeUpT jS (Ck hm) ?_ ?_
 ·simp [or_imp,forall_and]
 refine R.fin [0,1] ?_;refine AW.upEq (km (m:=m) (c:=c)) ?_
 rcases hW:Bw L [61] j with ⟨u,j2⟩|⟨e,a⟩
 rotate_left
 ·refine AW.seqRK ?_
  refine ARunK.one (R.go (ARun.nil ?_))
  refine RK.callBad Tryz.call103 ((N1 L [61] j o _ (A6 (Ba ho hne)) hj.2 hll).bad hW) ?_
  rintro x U O hU hl' ⟨rfl,j',hH⟩
  obtain ⟨rfl,rfl⟩:=B8 hU (List.getElem?_eq_some_iff.1 (Ba (L:=L) (i:=j) (x:=mvO (C2 m c)) ho hne)).1 hH
  refine ⟨fun h=>B9 h (fun n=>Az),fun o h=>(by cases h),?_⟩
  refine K.thP ?_;exact K.finPP ⟨_,_,by unfold D9;rw [hC];show (Bw L [61] j).bind _=_;rw [hW];rfl,rfl,j',C2 m c,Bu hne⟩
 have hj2:=D6 hl hj.2 _ _ hW
 refine Z2 ?_;refine R.callUp (x:=pmO L j2) Tryz.call103 (Ba ho hne) (by simp) Az ((N1 L [61] j o _ (A6 (Ba ho hne)) hj.2 hll).ok hW) ?_
 rw [Bu hne]
 refine R.fin [0,1] ?_
 rcases hT:I3 L j2 with ⟨x,k⟩|⟨e,a⟩
 rotate_left
 ·refine W.drawY0 [0,1,3,7,0,16,15,0,255,511,1023,511,2559,6655] [5] [.q 5 [] [],.s [22] (some 0) [] [],.q 2 [] [],.s [] none [0] [],.s [] none [0] [],.s [] none [0] [],.s [] none [0] [],.s [] none [0] [],.s [] none [0] []] (fun _=>U2 L Hp o om j2 (mvO (C2 m c))) (fun B=>[]++bot (B 0)) Aa (by kernel_rfl) rfl rfl (fun _=>rfl) ?_
  apply Y.q
  case h1 =>
   intro B hT hF
   refine Z37 ?_
   refine D.go (h:=Q.loadUp (Ck hm)) (hr:=?_)
   exact Z68
  case hTF=>decide
  refine Y.callBad (own0:=[]) Tryz.call169 (fun B hB=>⟨rfl,by simp [bot,hB]⟩) ((qo L j2 o _ (A6 (Ba ho hne)) hj2.2 hl hll).bad hT) ?_ ?_
  ·rintro x U O f hU hl' ⟨rfl,j',hH⟩
   obtain ⟨rfl,rfl⟩:=B8 hU (List.getElem?_eq_some_iff.1 (Ba (L:=L) (i:=j2) (x:=mvO (C2 m c)) ho hne)).1 hH
   refine ⟨fun h=>B9 h (fun n=>Az),fun o h=>(by cases h),?_⟩
   exact K.finPP ⟨_,_,by unfold D9;rw [hC];show (Bw L [61] j).bind _=_;rw [hW];show (I3 L j2).bind _=_;rw [hT];rfl,rfl,j',C2 m c,Bu hne⟩
  apply Y.q
  case h1 =>
   intro B hT hF
   exact gg
  case hTF=>decide
  refine Z17 ?_;exact ry
 have hk:=Ji hl hll hj2.2 hT
 refine W.drawT0 [0,1,3,7,0,16,15,0,255,511,1023,511,2559,6655] [3,5] [.q 3 [] [0],.s [20] (some 0) [] [],.q 1 [] [1],.s [22] (some 1) [] [],.q 2 [] []] (fun B=>U2 L Hp o om (if B 1=true then k else j2) (if B 0=true then .cells 77 [A2 (C2 m c).kind,.slice true 1 ((C2 m c).take.map A9),.slice true 2 ((C2 m c).give.map B0),.slice false 6 ((C2 m c).ahead.map A5),.slice true 6 ((C2 m c).back.map A5)] else .cells 77 [A2 (C2 m c).kind,.slice true 1 ((C2 m c).take.map A9),.slice true 2 ((C2 m c).give.map B0),.slice true 6 ((C2 m c).ahead.map A5),.slice true 6 ((C2 m c).back.map A5)])) (fun _=>[]) Aa (by kernel_rfl) rfl rfl (fun B=>by rw [U2_len];exact U2_len.symm) ?_
 apply Y.q
 case h1 =>
  intro B hT hF
  exact rt
 case hTF=>decide
 refine Y.loadUpT (o:=om) (t':=77) (cs:=[A2 (C2 m c).kind,.slice true 1 ((C2 m c).take.map A9),.slice true 2 ((C2 m c).give.map B0),.slice true 6 ((C2 m c).ahead.map A5),.slice true 6 ((C2 m c).back.map A5)]) (cs':=[A2 (C2 m c).kind,.slice true 1 ((C2 m c).take.map A9),.slice true 2 ((C2 m c).give.map B0),.slice false 6 ((C2 m c).ahead.map A5),.slice true 6 ((C2 m c).back.map A5)]) Tryz.isAgg75 (fun B hB=>⟨by simp only [hB];exact Ck hm,U2_setm.symm,rfl⟩) ?_
 apply Y.q
 case h1 =>
  intro B hT hF
  exact Z68
 case hTF=>decide
 refine Y.callUp (r:=A5 x) (o:=o) (x0:=pmO L j2) (x:=pmO L k) Tryz.call169 (fun B hB1 hB2 hB=>⟨by simp only [hB];exact Ba ho hne,(Bu hne).symm,rfl,Az,?_⟩) ?_
 ·simp only [hB]
  exact (qo L j2 o _ (A6 (Ba ho hne)) hj2.2 hl hll).ok hT
 apply Y.q
 case h1 =>
  intro B hT hF
  exact gg
 case hTF=>decide
 refine Y.appendPut4 (tn:=[3,5]) (U:=U2 L Hp o om k (.cells 77 [A2 (C2 m c).kind,.slice true 1 ((C2 m c).take.map A9),.slice true 2 ((C2 m c).give.map B0),.slice false 6 ((C2 m c).ahead.map A5),.slice true 6 ((C2 m c).back.map A5)])) (O:=[]) (o:=om) (t':=77) (cs:=[A2 (C2 m c).kind,.slice true 1 ((C2 m c).take.map A9),.slice true 2 ((C2 m c).give.map B0),.slice false 6 ((C2 m c).ahead.map A5),.slice true 6 ((C2 m c).back.map A5)]) (by kernel_rfl) jU Tryz.type103 Tryz.sizeOf103 Tryz.sizeOf75 jU (A6 (Ck hm)) ?_ ?_ ?_ (hfsz:=Tryz.sizeOf75)
 ·simp [Tryz.t103,C2];omega
 ·simp [Tryz.t103,C2];omega
 refine Z0 ?_
 refine R.storeUpT jS (Ck hm) ?_ ?_
 ·exact M2
 refine R.fin [] ?_;exact K.finPN .nores (hp:=⟨U6 (C2 m c) x,k,by unfold D9;rw [hC];show (Bw L [61] j).bind _=_;rw [hW];show (I3 L j2).bind _=_;rw [hT];rfl,rfl,by exact kn (m:=C2 m c)⟩)

/-- What is asked of a part of a move that is a closure. -/
def ec (L:List Tok) (o om g:Nat) (caps:List AV) (Hp:List AObj) (one:Mov→Nat→PR Mov):Prop:=
 ∀m i,MvLe m (2*i-1)→0<i→i<L.length→CP g caps (U2 L Hp o om i (mvO m)) (one m i) (fun m' j r H'=>r=Lj∧H'=U2 L Hp o om j (mvO m')) (W2 L o om Hp)
theorem Gq {L:List Tok} {Hp:List AObj} {o om i j:Nat} {x y:AObj} (hne:om≠o):U2 L (U2 L Hp o om i x) o om j y=U2 L Hp o om j y:=by
 unfold U2
 rw [qd hne,List.set_set]
theorem qq {L:List Tok} {Hp H':List AObj} {o om i:Nat} {x:AObj} (hne:om≠o) (h:W2 L o om (U2 L Hp o om i x) H'):W2 L o om Hp H':=by
 obtain ⟨j,m,e⟩:=h
 exact ⟨j,m,by rw [e,Gq hne]⟩
theorem AE0 (L:List Tok) (m:Mov) (i o om bp bm:Nat) (Hp:List AObj) (hne:om≠o) (ho:Hp[o]? = some (pmO L i)) (hm:Hp[om]? = some (mvO m)) (hbp:Hp[bp]? = some (.cells 97 [.ptr o 0])) (hbm:Hp[bm]? = some (.cells 159 [.ptr om 0])) (hi:i<L.length) (hl:TokEnd L) (hll:L.length≤500000) (hb:MvLe m (2*i-1)):CP 170 [.ptr bm 0,.ptr bp 0] Hp (Mx L m i) (fun m' j r H'=>r=Lj∧H'=U2 L Hp o om j (mvO m')) (W2 L o om Hp):=by
 have n1:bp≠o:=fun e=>by rw [e,ho] at hbp;simp at hbp
 have n2:bp≠om:=fun e=>by rw [e,hm] at hbp;simp at hbp
 have n3:bm≠o:=fun e=>by rw [e,ho] at hbm;simp at hbm
 have n4:bm≠om:=fun e=>by rw [e,hm] at hbm;simp at hbm
 have:=hb.take;have:=hb.give;have:=hb.ahead;have:=hb.back
 refine ACallP.body [] [0,1] Tryz.func170 Tryz.ntmps170 (fun d=>?_)
 refine W.flip Aa (by kernel_rfl) Tryz.zeroValue4 Tryz.sizeOf4 Tryz.isAgg4 (fun fb=>?_)
 refine AW.keep [0,1,3] (by simp only [go_sem,↓reduceIte,Nat.reduceEqDiff,Nat.reduceAdd]<;>rfl) ?_
 refine W.cond (fun ht3=>?_) (fun ht3=>?_)
 ·rcases hT:I3 L i with ⟨x,k⟩|⟨e,a⟩
  rotate_left
  ·refine W.drawY [0,1,3,7,0,16,15,0,255,511,1023,2047] [5] [.q 5 [] [],.s [9] (some 0) [] [],.q 2 [] [],.s [] none [0] [],.s [] none [0] [],.s [] none [0] [],.s [] none [0] []] (fun _=>Hp) (fun B=>[.cells 4 [.v (.bool fb)]]++bot (B 0)) Aa (by kernel_rfl) rfl rfl (fun _=>rfl) ?_
   apply Y.q
   case h1 =>
    intro B hT hF
    refine D.go (h:=Q.loadUp hbm) (hr:=?_)
    refine Z10 ?_
    refine D.go (h:=Q.loadUp hm) (hr:=?_)
    refine D.go (h:=Q.loadUp hbp) (hr:=?_)
    exact Lp
   case hTF=>decide
   refine Y.callBad (own0:=[.cells 4 [.v (.bool fb)]]) Tryz.call169 (fun B hB=>⟨rfl,by simp [bot,hB]⟩) ((qo L i o _ (A6 ho) hi hl hll).bad hT) ?_ ?_
   ·rintro x U O f hU hl' ⟨rfl,j',hH⟩
    obtain ⟨rfl,rfl⟩:=B8 hU (List.getElem?_eq_some_iff.1 ho).1 hH
    refine ⟨fun h=>B9 h (fun n=>Az),fun o h=>(by cases h),?_⟩
    exact AAm
   apply Y.q
   case h1 =>
    intro B hT hF
    exact gg
   case hTF=>decide
   exact ry
  have hk:=Ji hl hll hi hT
  refine W.drawZ0 [0,1,3,7,0,16,15,0,255,511,1023,2047] [3,5] [.q 3 [] [0],.s [7] (some 0) [] [],.q 1 [] [1],.s [9] (some 1) [] [],.q 2 [] []] (fun B=>U2 L Hp o om (if B 1=true then k else i) (if B 0=true then .cells 77 [A2 m.kind,.slice true 1 (m.take.map A9),.slice true 2 (m.give.map B0),.slice true 6 (m.ahead.map A5),.slice false 6 (m.back.map A5)] else .cells 77 [A2 m.kind,.slice true 1 (m.take.map A9),.slice true 2 (m.give.map B0),.slice true 6 (m.ahead.map A5),.slice true 6 (m.back.map A5)])) (fun _=>[.cells 4 [.v (.bool fb)]]) Aa (by kernel_rfl) (N2 ho hm) rfl (fun B=>U2_len) ?_
  apply Y.q
  case h1 =>
   intro B hT hF
   refine D.go (h:=Q.loadUp ((Ed n3 n4).trans hbm)) (hr:=?_)
   exact Z61
  case hTF=>decide
  refine Y.loadUpT (o:=om) (t':=77) (cs:=[A2 m.kind,.slice true 1 (m.take.map A9),.slice true 2 (m.give.map B0),.slice true 6 (m.ahead.map A5),.slice true 6 (m.back.map A5)]) (cs':=[A2 m.kind,.slice true 1 (m.take.map A9),.slice true 2 (m.give.map B0),.slice true 6 (m.ahead.map A5),.slice false 6 (m.back.map A5)]) Tryz.isAgg75 (fun B hB=>⟨by simp only [hB];exact Ck hm,U2_setm.symm,rfl⟩) ?_
  apply Y.q
  case h1 =>
   intro B hT hF
   refine D.go (h:=Q.loadUp ((Ed n1 n2).trans hbp)) (hr:=?_)
   exact Lp
  case hTF=>decide
  refine Y.callUp (r:=A5 x) (o:=o) (x0:=pmO L i) (x:=pmO L k) Tryz.call169 (fun B hB1 hB2 hB=>⟨by simp only [hB];exact Ba ho hne,(Bu hne).symm,rfl,Az,?_⟩) ?_
  ·simp only [hB]
   exact AAn
  apply Y.q
  case h1 =>
   intro B hT hF
   exact gg
  case hTF=>decide
  refine Y.put2 (tn:=[3,5]) (U:=U2 L Hp o om k (.cells 77 [A2 m.kind,.slice true 1 (m.take.map A9),.slice true 2 (m.give.map B0),.slice true 6 (m.ahead.map A5),.slice false 6 (m.back.map A5)])) (O:=[.cells 4 [.v (.bool fb)]]) (o:=om) (t':=77) (cs:=[A2 m.kind,.slice true 1 (m.take.map A9),.slice true 2 (m.give.map B0),.slice true 6 (m.ahead.map A5),.slice false 6 (m.back.map A5)]) jU Tryz.type103 Tryz.sizeOf103 Tryz.sizeOf75 jU (A6 (Ck hm)) ?_ ?_ ?_ (hfsz:=Tryz.sizeOf75)
  ·simp [Tryz.t103];omega
  ·simp [Tryz.t103];omega
  refine Z0 ?_
  refine R.storeUpT jS (Ck hm) ?_ ?_
  ·exact M2
  exact zc
 rcases hT:I3 L i with ⟨x,k⟩|⟨e,a⟩
 rotate_left
 ·refine W.drawY0 [0,0,2,6,14,0,32,96,254,511,1023,2047] [6] [.q 6 [] [],.s [22] (some 0) [] [],.s [] none [0] [],.s [] none [0] [],.s [] none [0] [],.s [] none [0] [],.s [] none [0] []] (fun _=>Hp) (fun B=>[.cells 4 [.v (.bool fb)]]++bot (B 0)) Aa (by kernel_rfl) rfl rfl (fun _=>rfl) ?_
  apply Y.q
  case h1 =>
   intro B hT hF
   refine D.go (h:=Q.loadUp hbm) (hr:=?_)
   refine D.go (h:=Q.loadUp hbm) (hr:=?_)
   refine Z10 ?_
   refine D.go (h:=Q.loadUp hm) (hr:=?_)
   refine D.go (h:=Q.loadUp hbp) (hr:=?_)
   exact Lp
  case hTF=>decide
  refine Y.callBad (own0:=[.cells 4 [.v (.bool fb)]]) Tryz.call169 (fun B hB=>⟨rfl,by simp [bot,hB]⟩) ((qo L i o _ (A6 ho) hi hl hll).bad hT) ?_ ?_
  ·rintro x U O f hU hl' ⟨rfl,j',hH⟩
   obtain ⟨rfl,rfl⟩:=B8 hU (List.getElem?_eq_some_iff.1 ho).1 hH
   refine ⟨fun h=>B9 h (fun n=>Az),fun o h=>(by cases h),?_⟩
   exact AAm
  refine Z17 ?_;exact s6
 have hk:=Ji hl hll hi hT
 refine W.drawY0 [0,0,2,6,14,0,32,96,254,511,1023,2047] [4,6] [.q 4 [] [],.s [20] (some 0) [] [],.q 1 [] [1],.s [22] (some 1) [] [],.q 1 [1] [],.s [20,24] none [0,1] []] (fun B=>U2 L Hp o om (if B 1=true then k else i) (if B 0=true then .cells 77 [A2 m.kind,.slice true 1 (m.take.map A9),.slice true 2 (m.give.map B0),.slice true 6 (m.ahead.map A5),.slice false 6 (m.back.map A5)] else .cells 77 [A2 m.kind,.slice true 1 (m.take.map A9),.slice true 2 (m.give.map B0),.slice true 6 (m.ahead.map A5),.slice true 6 (m.back.map A5)])) (fun _=>[.cells 4 [.v (.bool fb)]]) Aa (by kernel_rfl) (N2 ho hm) rfl (fun B=>U2_len) ?_
 apply Y.q
 case h1 =>
  intro B hT hF
  refine D.go (h:=Q.loadUp ((Ed n3 n4).trans hbm)) (hr:=?_)
  refine D.go (h:=Q.loadUp ((Ed n3 n4).trans hbm)) (hr:=?_)
  exact Z61
 case hTF=>decide
 refine Y.loadUpT (o:=om) (t':=77) (cs:=[A2 m.kind,.slice true 1 (m.take.map A9),.slice true 2 (m.give.map B0),.slice true 6 (m.ahead.map A5),.slice true 6 (m.back.map A5)]) (cs':=[A2 m.kind,.slice true 1 (m.take.map A9),.slice true 2 (m.give.map B0),.slice true 6 (m.ahead.map A5),.slice false 6 (m.back.map A5)]) Tryz.isAgg75 (fun B hB=>⟨by simp only [hB];exact Ck hm,U2_setm.symm,rfl⟩) ?_
 apply Y.q
 case h1 =>
  intro B hT hF
  refine D.go (h:=Q.loadUp ((Ed n1 n2).trans hbp)) (hr:=?_)
  exact Lp
 case hTF=>decide
 refine Y.callUp (r:=A5 x) (o:=o) (x0:=pmO L i) (x:=pmO L k) Tryz.call169 (fun B hB1 hB2 hB=>⟨by simp only [hB];exact Ba ho hne,(Bu hne).symm,rfl,Az,?_⟩) ?_
 ·simp only [hB]
  exact AAn
 apply Y.q
 case h1 =>
  intro B hT hF
  exact Z44
 case hTF=>decide
 refine Y.append jU Tryz.type103 ?_ ?_ ?_
 ·simp [Tryz.t103];omega
 ·simp [Tryz.t103];omega
 refine Y.tail (tn:=[4,6]) (U:=U2 L Hp o om k (.cells 77 [A2 m.kind,.slice true 1 (m.take.map A9),.slice true 2 (m.give.map B0),.slice true 6 (m.ahead.map A5),.slice false 6 (m.back.map A5)])) ?_;refine Z0 ?_
 refine R.storeUpT jS (Ck hm) ?_ ?_
 ·exact M2
 exact zc

theorem Cl {L:List Tok} {Hp:List AObj} {o om i j n:Nat} {x y:AObj} (hne:om≠o) (hy:ObjLow n y) (h:∀z∈U2 L Hp o om i x,ObjLow n z):∀z∈U2 L Hp o om j y,ObjLow n z:=by
 intro z hz
 rw [show U2 L Hp o om j y=((U2 L Hp o om i x).set o (pmO L j)).set om y by rw [Bu hne,U2_setm]] at hz
 rcases List.mem_or_eq_of_mem_set hz with hz|rfl
 ·rcases List.mem_or_eq_of_mem_set hz with hz|rfl
  ·exact h z hz
  exact Az
 exact hy
theorem Da {L:List Tok} {Hp own:List AObj} {o om i:Nat} {x:AObj} (h1:o<Hp.length) (h2:om<Hp.length):U2 L (Hp++own) o om i x=U2 L Hp o om i x++own:=by
 unfold U2
 rw [List.set_append_left _ _ h1,List.set_append_left _ _ (by simpa using h2)]
theorem E8 {L:List Tok} {Hp own U O:List AObj} {o om i:Nat} {x:AObj} (hne:om≠o) (h1:o<Hp.length) (h2:om<Hp.length) (hU:U.length=(U2 L Hp o om i x).length) (h:W2 L o om (U2 L Hp o om i x++own) (U++O)):W2 L o om Hp U∧own=O:=by
 obtain ⟨j,m,e⟩:=h
 rw [Da (by rw [U2_len];exact h1) (by rw [U2_len];exact h2),Gq hne] at e
 obtain ⟨rfl,rfl⟩:=H8 (by rw [hU,U2_len,U2_len]) e
 exact ⟨⟨j,m,rfl⟩,rfl⟩
/-- Where the loop of things with commas between stands. -/
structure ListAt (L:List Tok) (n:Int) (one:Mov→Nat→PR Mov) (X:PR Mov) (x:Nat×Mov×Nat):Prop where
 lt:x.2.2<L.length
 pos:0<x.2.2
 le:MvLe x.2.1 (2*x.2.2)
 k:x.1≤x.2.2
 fuel:∃f,X=Kk L n one f x.1 x.2.1 x.2.2∧L.length-x.2.2<f
theorem ListAt.step {L:List Tok} {n:Int} {one:Mov→Nat→PR Mov} {X:PR Mov} {x:Nat×Mov×Nat} (h:ListAt L n one X x) (hq:Lh L n x.1 x.2.2=true):∃f,X=((Bw L [44] x.2.2).bind fun _ j=>(one x.2.1 j).bind fun m j=>Kk L n one f (x.1+1) m j)∧L.length-x.2.2<f+1:=by
 obtain ⟨f,e,hf⟩:=h.fuel
 obtain ⟨f,rfl⟩:∃g,f=g+1:=⟨f-1,by omega⟩
 refine ⟨f,?_,hf⟩
 rw [e,Kk,if_pos hq]
theorem ListAt.on {L:List Tok} (hl:TokEnd L) {n:Int} {one:Mov→Nat→PR Mov} (hP:Su L one) {X:PR Mov} {x:Nat×Mov×Nat} (h:ListAt L n one X x) (hq:Lh L n x.1 x.2.2=true) {u:Unit} {j:Nat} (hW:Bw L [44] x.2.2=.ok u j) {m2:Mov} {j2:Nat} (hO:one x.2.1 j=.ok m2 j2):ListAt L n one X (x.1+1,m2,j2)∧x.2.2<j2:=by
 obtain ⟨f,e,hf⟩:=h.step hq
 have h1:=D6 hl h.lt _ _ hW
 have hj:j=x.2.2+1:=by
  unfold Bw at hW
  split at hW
  ·injection hW with _ h;exact h.symm
  cases hW
 obtain ⟨a1,a2,a3⟩:=hP x.2.1 j (h.le.mono (by omega)) (by omega) h1.2 _ _ hO
 have:=h.k
 refine ⟨⟨a2,by show 0<j2;omega,a3,by show x.1+1≤j2;omega,f,?_,by show L.length-j2<f;omega⟩,by omega⟩
 rw [e,hW]
 show (one x.2.1 j).bind _=_
 rw [hO];rfl
theorem ListAt.bad1 {L:List Tok} {n:Int} {one:Mov→Nat→PR Mov} {X:PR Mov} {x:Nat×Mov×Nat} (h:ListAt L n one X x) (hq:Lh L n x.1 x.2.2=true) {e a:Int} (hW:Bw L [44] x.2.2=.bad e a):X=.bad e a:=by
 obtain ⟨f,e,_⟩:=h.step hq
 rw [e,hW];rfl
theorem ListAt.bad2 {L:List Tok} {n:Int} {one:Mov→Nat→PR Mov} {X:PR Mov} {x:Nat×Mov×Nat} (h:ListAt L n one X x) (hq:Lh L n x.1 x.2.2=true) {u:Unit} {j:Nat} (hW:Bw L [44] x.2.2=.ok u j) {e a:Int} (hO:one x.2.1 j=.bad e a):X=.bad e a:=by
 obtain ⟨f,e,_⟩:=h.step hq
 rw [e,hW]
 show (one x.2.1 j).bind _=_
 rw [hO];rfl
theorem ListAt.out {L:List Tok} {n:Int} {one:Mov→Nat→PR Mov} {X:PR Mov} {x:Nat×Mov×Nat} (h:ListAt L n one X x) (hq:Lh L n x.1 x.2.2=false):X=.ok x.2.1 x.2.2:=by
 obtain ⟨f,e,hf⟩:=h.fuel
 obtain ⟨f,rfl⟩:∃g,f=g+1:=⟨f-1,by omega⟩
 rw [e,Kk,if_neg (by rw [hq];simp)]
theorem c143 (L:List Tok) (m:Mov) (i o om bp bm:Nat) (Hp:List AObj) (hne:om≠o) (ho:Hp[o]? = some (pmO L i)) (hm:Hp[om]? = some (mvO m)) (hbp:Hp[bp]? = some (.cells 97 [.ptr o 0])) (hbm:Hp[bm]? = some (.cells 159 [.ptr om 0])) (hi:i<L.length) (hl:TokEnd L) (hll:L.length≤500000) (hb:MvLe m (2*i-1)):CP 143 [.ptr bm 0,.ptr bp 0] Hp (Li L m i) (fun m' j r H'=>r=Lj∧H'=U2 L Hp o om j (mvO m')) (W2 L o om Hp):=by
 have n1:bp≠o:=fun e=>by rw [e,ho] at hbp;simp at hbp
 have n2:bp≠om:=fun e=>by rw [e,hm] at hbp;simp at hbp
 have n3:bm≠o:=fun e=>by rw [e,ho] at hbm;simp at hbm
 have n4:bm≠om:=fun e=>by rw [e,hm] at hbm;simp at hbm
 have:=hb.take;have:=hb.give;have:=hb.ahead;have:=hb.back
 refine ACallP.body [] [0,1] Tryz.func143 Tryz.ntmps143 (fun d=>?_)
 rcases hT:Ep L i with ⟨s,k⟩|⟨e,a⟩
 rotate_left
 ·refine W.drawY0 [0,0,2,6,14,0,32,96,254,511,1023,2047] [6] [.q 6 [] [],.s [8] (some 0) [] [],.s [] none [0] [],.s [] none [0] [],.s [] none [0] [],.s [] none [0] [],.s [] none [0] []] (fun _=>Hp) (fun B=>[]++bot (B 0)) Aa (by kernel_rfl) rfl rfl (fun _=>rfl) ?_
  apply Y.q
  case h1 =>
   intro B hT hF
   refine D.go (h:=Q.loadUp hbm) (hr:=?_)
   refine D.go (h:=Q.loadUp hbm) (hr:=?_)
   refine Z10 ?_
   refine D.go (h:=Q.loadUp hm) (hr:=?_)
   refine D.go (h:=Q.loadUp hbp) (hr:=?_)
   exact Lp
  case hTF=>decide
  refine Y.callBad (own0:=[]) Tryz.call138 (fun B hB=>⟨rfl,by simp [bot,hB]⟩) ((Ph L i o _ (A6 ho) hi hll).bad hT) ?_ ?_
  ·rintro x U O f hU hl' ⟨rfl,j',hH⟩
   obtain ⟨rfl,rfl⟩:=B8 hU (List.getElem?_eq_some_iff.1 ho).1 hH
   refine ⟨fun h=>B9 h (fun n=>Az),fun o h=>(by cases h),?_⟩
   exact K.finPP ⟨_,_,by unfold Li;rw [hT];rfl,rfl,j',m,bn hne hm⟩
  refine Z17 ?_;exact s6
 have hk:=Ef hl hi _ _ hT
 refine W.drawY0 [0,0,2,6,14,0,32,96,254,511,1023,2047] [4,6] [.q 4 [] [],.s [6] (some 0) [] [],.q 1 [] [1],.s [8] (some 1) [] [],.q 1 [1] [],.s [6,10] none [0,1] []] (fun B=>U2 L Hp o om (if B 1=true then k else i) (if B 0=true then .cells 77 [A2 m.kind,.slice false 1 (m.take.map A9),.slice true 2 (m.give.map B0),.slice true 6 (m.ahead.map A5),.slice true 6 (m.back.map A5)] else .cells 77 [A2 m.kind,.slice true 1 (m.take.map A9),.slice true 2 (m.give.map B0),.slice true 6 (m.ahead.map A5),.slice true 6 (m.back.map A5)])) (fun _=>[]) Aa (by kernel_rfl) (N2 ho hm) rfl (fun B=>U2_len) ?_
 apply Y.q
 case h1 =>
  intro B hT hF
  refine D.go (h:=Q.loadUp ((Ed n3 n4).trans hbm)) (hr:=?_)
  refine D.go (h:=Q.loadUp ((Ed n3 n4).trans hbm)) (hr:=?_)
  exact Z61
 case hTF=>decide
 refine Y.loadUpT (o:=om) (t':=77) (cs:=[A2 m.kind,.slice true 1 (m.take.map A9),.slice true 2 (m.give.map B0),.slice true 6 (m.ahead.map A5),.slice true 6 (m.back.map A5)]) (cs':=[A2 m.kind,.slice false 1 (m.take.map A9),.slice true 2 (m.give.map B0),.slice true 6 (m.ahead.map A5),.slice true 6 (m.back.map A5)]) Tryz.isAgg74 (fun B hB=>⟨by simp only [hB];exact Ck hm,U2_setm.symm,rfl⟩) ?_
 apply Y.q
 case h1 =>
  intro B hT hF
  refine D.go (h:=Q.loadUp ((Ed n1 n2).trans hbp)) (hr:=?_)
  exact Lp
 case hTF=>decide
 refine Y.callUp (r:=A9 s) (o:=o) (x0:=pmO L i) (x:=pmO L k) Tryz.call138 (fun B hB1 hB2 hB=>⟨by simp only [hB];exact Ba ho hne,(Bu hne).symm,rfl,Az,?_⟩) ?_
 ·simp only [hB]
  exact (Ph L i o _ (A6 (Ba ho hne)) hi hll).ok hT
 apply Y.q
 case h1 =>
  intro B hT hF
  exact Z44
 case hTF=>decide
 refine Y.append jU Tryz.type9 ?_ ?_ ?_
 ·simp [Tryz.t9];omega
 ·simp [Tryz.t9];omega
 refine Y.tail (tn:=[4,6]) (U:=U2 L Hp o om k (.cells 77 [A2 m.kind,.slice false 1 (m.take.map A9),.slice true 2 (m.give.map B0),.slice true 6 (m.ahead.map A5),.slice true 6 (m.back.map A5)])) ?_;refine Z0 ?_
 refine R.storeUpT jS (Ck hm) ?_ ?_
 ·simp [or_imp,forall_and]
 refine R.fin [] ?_;exact K.finPN .nores (hp:=⟨eb m s,k,by unfold Li;rw [hT];rfl,rfl,by exact kp⟩)

theorem AE1 (L:List Tok) (m:Mov) (i o om bp bm:Nat) (Hp:List AObj) (hne:om≠o) (ho:Hp[o]? = some (pmO L i)) (hm:Hp[om]? = some (mvO m)) (hbp:Hp[bp]? = some (.cells 97 [.ptr o 0])) (hbm:Hp[bm]? = some (.cells 159 [.ptr om 0])) (hi:i<L.length) (hl:TokEnd L) (hll:L.length≤500000) (hb:MvLe m (2*i-1)):CP 142 [.ptr bp 0,.ptr bm 0] Hp (D9 L m i) (fun m' j r H'=>r=Lj∧H'=U2 L Hp o om j (mvO m')) (W2 L o om Hp):=by
 have hol:=(List.getElem?_eq_some_iff.1 ho).1
 have hml:=(List.getElem?_eq_some_iff.1 hm).1
 have n1:bp≠o:=fun e=>by rw [e,ho] at hbp;simp at hbp
 have n2:bp≠om:=fun e=>by rw [e,hm] at hbp;simp at hbp
 have n3:bm≠o:=fun e=>by rw [e,ho] at hbm;simp at hbm
 have n4:bm≠om:=fun e=>by rw [e,hm] at hbm;simp at hbm
 have:=hb.take;have:=hb.give;have:=hb.ahead;have:=hb.back
 refine ACallP.body [] [0,1] Tryz.func142 Tryz.ntmps142 (fun d=>?_)
 refine mo ?_
 rcases hT:D9 L m i with ⟨m2,k⟩|⟨e,a⟩
 rotate_left
 ·refine AW.regionK ?_
  refine ARunK.one (R.go (h:=Q.loadUp ((Ed n1 n2).trans hbp)) (hr:=ARun.nil ?_))
  refine ARunK.one (R.go (h:=Q.loadUp ((Ed n3 n4).trans hbm)) (hr:=ARun.nil ?_))
  refine RK.callBad Tryz.call137 ((bo L m i o om _ hne (A6 (Ba ho hne)) (A6 (Ck hm)) hi hl hll hb).bad hT) ?_
  rintro x U O hU hl' ⟨rfl,hW2⟩
  obtain ⟨⟨j',m',rfl⟩,rfl⟩:=E8 hne hol hml hU hW2
  refine ⟨fun h=>Cl hne Bq h,fun o h=>(by cases h),?_⟩
  exact K.finPP ⟨_,_,rfl,rfl,j',m',rfl⟩
 refine AW.region ?_
 refine R.go (h:=Q.loadUp ((Ed n1 n2).trans hbp)) (hr:=?_)
 refine R.go (h:=Q.loadUp ((Ed n3 n4).trans hbm)) (hr:=?_)
 refine R.callX (up':=U2 L Hp o om k (mvO m2)) (own':=[]) Tryz.call137 (((bo L m i o om _ hne (A6 (Ba ho hne)) (A6 (Ck hm)) hi hl hll hb).ok hT).mono (fun r H' e=>⟨e.1,e.2.trans (by rw [List.append_nil,List.append_nil,Gq hne])⟩)) (by rw [U2_len,U2_len]) (fun h=>Cl hne Bq h) ?_;refine R.fin [] ?_;exact K.finPN .nores (hp:=⟨m2,k,rfl,rfl,rfl⟩)

theorem kq (L:List Tok) (n:Int) (m:Mov) (i o om g:Nat) (caps:List AV) (one:Mov→Nat→PR Mov) (Hp:List AObj) (hne:om≠o) (ho:Hp[o]? = some (pmO L i)) (hm:Hp[om]? = some (mvO m)) (h0:0<i) (hi:i<L.length) (hl:TokEnd L) (hll:L.length≤500000) (hb:MvLe m (2*i-1)) (hcall:∀args w,(callFunc g args).run Tryz.prog w=.ok (.enter g args) w) (hC:ec L o om g caps Hp one) (hP:Su L one):CP 141 [.ptr o 0,A2 n,.fn (.func g) [] caps] Hp (Fc L n one m i) (fun m' j r H'=>r=Lj∧H'=U2 L Hp o om j (mvO m')) (W2 L o om Hp):=by
 have hol:=(List.getElem?_eq_some_iff.1 ho).1
 have hml:=(List.getElem?_eq_some_iff.1 hm).1
 refine ACallP.body [] [0,1,2] Tryz.func141 Tryz.ntmps141 (fun d=>?_)
 refine mo ?_
 rcases h1:one m i with ⟨m1,j1⟩|⟨e,a⟩
 rotate_left
 ·refine AW.seqRK ?_
  refine ARunK.one (R.go (ARun.nil ?_))
  refine RK.callBad hcall (by rw [List.append_nil];exact (hC m i hb h0 hi).bad h1) ?_
  rintro z U O hU hl' ⟨rfl,j',m',hH⟩
  obtain ⟨rfl,rfl⟩:=H8 (A:=U2 L Hp o om j' (mvO m')) (B:=[]) (by rw [hU,U2_len,U2_len]) (hH.trans (List.append_nil _).symm)
  refine ⟨fun h=>Cl hne Bq h,fun o h=>(by cases h),?_⟩
  refine K.thP ?_;exact K.finPP ⟨_,_,by unfold Fc;rw [h1];rfl,rfl,j',m',rfl⟩
 have g1:=hP m i hb h0 hi _ _ h1
 have e0:Fc L n one m i=Kk L n one (L.length+1) 1 m1 j1:=by unfold Fc;rw [h1];rfl
 refine Z2 ?_
 refine R.callVX (up':=U2 L Hp o om j1 (mvO m1)) (own':=[]) hcall (by rw [List.append_nil,List.append_nil];exact (hC m i hb h0 hi).ok h1) (by rw [U2_len,U2_len]) (fun h=>Cl hne Bq h) ?_
 refine Qa ?_;refine Z2 ?_;refine R.fin [0,1,2,6] ?_
 refine AW.loopC (α:=Nat×Mov×Nat) (fun x=>⟨30,A3 0 (.ptr o 0) (A3 1 (A2 n) (A3 2 (.fn (.func g) [] caps) (A3 6 (A2 (x.1:Int)) (fun _=>.any)))),U2 L Hp o om x.2.2 (mvO x.2.1),[],[],none⟩) (fun x=>ListAt L n one (Fc L n one m i) x) (fun x=>L.length-x.2.2) ((1,m1,j1)) ⟨g1.2.1,by show 0<j1;omega,g1.2.2,by show 1≤j1;omega,_,e0,by show L.length-j1<_;omega⟩ (StLe.refl _) rfl (fun x hx=>?_)
 refine Z48 ?_;refine Z95 ?_;refine Z41 ?_;refine G.call Tryz.call144 (fun hB=>ABl L [44] x.2.2 o _ (A6 (Ba ho hne)) hx.lt) ?_;refine Sf ?_;refine R.fin [0,1,2,6,23] ?_
 refine W.cond (fun ht23=>?_) (fun ht23=>?_)
 ·have hq:Lh L n x.1 x.2.2=true:=ht23
  refine Z86 ?_
  rcases hW:Bw L [44] x.2.2 with ⟨u,j⟩|⟨e,a⟩
  rotate_left
  ·refine AW.seqRK ?_
   refine ARunK.one (R.go (ARun.nil ?_))
   refine RK.callBad Tryz.call103 ((N1 L [44] x.2.2 o _ (A6 (Ba ho hne)) hx.lt hll).bad hW) ?_
   rintro z U O hU hl' ⟨rfl,j',hH⟩
   obtain ⟨rfl,rfl⟩:=B8 hU (List.getElem?_eq_some_iff.1 (Ba (L:=L) (i:=x.2.2) (x:=mvO x.2.1) ho hne)).1 hH
   refine ⟨fun h=>B9 h (fun n=>Az),fun o h=>(by cases h),?_⟩
   refine Wk ?_;refine K.thP ?_;refine K.lpP ?_;exact K.finPP ⟨_,_,hx.bad1 hq hW,rfl,j',x.2.1,Bu hne⟩
  have hj:=D6 hl hx.lt _ _ hW
  have hpos:=hx.pos
  refine Z2 ?_;refine R.callUp (x:=pmO L j) Tryz.call103 (Ba ho hne) (by simp) Az ((N1 L [44] x.2.2 o _ (A6 (Ba ho hne)) hx.lt hll).ok hW) ?_
  rw [Bu hne]
  refine R.fin [0,1,2,6] ?_
  rcases hO:one x.2.1 j with ⟨m2,j2⟩|⟨e,a⟩
  rotate_left
  ·refine AW.regionK ?_
   refine ARunK.one (R.go (ARun.nil ?_))
   refine RK.callBad hcall (by rw [List.append_nil];exact (hC x.2.1 j (hx.le.mono (by omega)) (by omega) hj.2).bad hO) ?_
   rintro z U O hU hl' ⟨rfl,j',m',hH⟩
   obtain ⟨rfl,rfl⟩:=H8 (A:=U2 L Hp o om j' (mvO m')) (B:=[]) (by rw [hU,U2_len,U2_len]) (hH.trans (List.append_nil _).symm)
   refine ⟨fun h=>Cl hne Bq h,fun o h=>(by cases h),?_⟩
   refine K.blP ?_;refine K.thP ?_;refine K.lpP ?_;exact K.finPP ⟨_,_,hx.bad2 hq hW hO,rfl,j',m',rfl⟩
  have hon:=hx.on hl hP hq hW hO
  refine Z81 ?_
  refine R.callVX (up':=U2 L Hp o om j2 (mvO m2)) (own':=[]) hcall (by rw [List.append_nil,List.append_nil];exact (hC x.2.1 j (hx.le.mono (by omega)) (by omega) hj.2).ok hO) (by rw [U2_len,U2_len]) (fun h=>Cl hne Bq h) ?_
  refine R.fin [0,1,2,6] ?_;refine Z14 ?_;refine Z81 ?_
  refine R.go (h:=Q.add64 (h2:=fun _=>by have:=hx.k;have:=hx.lt;omega)) (hr:=?_)
  refine R.go ?_;refine R.fin [0,1,2,6] ?_
  refine K.lpN (x.1+1,m2,j2) hon.1 (by have:=hx.lt;have:=hon.2;show L.length-j2<L.length-x.2.2;omega) (StCut.of_eq rfl)
 have hq:Lh L n x.1 x.2.2=false:=ht23
 have e:=hx.out hq
 refine Z59 ?_;refine K.lpE ?_;exact K.finPN .nores (hp:=⟨_,_,e,rfl,rfl⟩)

theorem CP.mono {g:FuncId} {args:List AV} {H:List AObj} {α:Type} {X:PR α} {Q Q':α→Nat→AV→List AObj→Prop} {R R':List AObj→Prop} (h:CP g args H X Q R) (hQ:∀c j r H',Q c j r H'→Q' c j r H') (hR:∀H',R H'→R' H'):CP g args H X Q' R':=
 ACallP.mono h (fun r H' ⟨c,j,e,hq⟩=>⟨c,j,e,hQ _ _ _ _ hq⟩) (fun v H' ⟨e,a,e1,e2,h⟩=>⟨e,a,e1,e2,hR _ h⟩)
section
variable {L:List Tok} {o om bp bm:Nat} {X:List AObj} {z z':AObj}
theorem U7 (hne:om≠o) (ho:X[o]? = some z) (hm:X[om]? = some z') (hbp:X[bp]? = some (.cells 97 [.ptr o 0])) (hbm:X[bm]? = some (.cells 159 [.ptr om 0])) (n1:bp≠o) (n2:bp≠om) (n3:bm≠o) (n4:bm≠om) (hl:TokEnd L) (hll:L.length≤500000):ec L o om 170 [.ptr bm 0,.ptr bp 0] X (Mx L):=
 fun m i hb _ hi=>(AE0 L m i o om bp bm (U2 L X o om i (mvO m)) hne (Ba ho hne) (Ck hm) ((Ed n1 n2).trans hbp) ((Ed n3 n4).trans hbm) hi hl hll hb).mono (fun c j r H' e=>⟨e.1,e.2.trans (Gq hne)⟩) (fun H' h=>qq hne h)
theorem U8 (hne:om≠o) (ho:X[o]? = some z) (hm:X[om]? = some z') (hbp:X[bp]? = some (.cells 97 [.ptr o 0])) (hbm:X[bm]? = some (.cells 159 [.ptr om 0])) (n1:bp≠o) (n2:bp≠om) (n3:bm≠o) (n4:bm≠om) (hl:TokEnd L) (hll:L.length≤500000):ec L o om 143 [.ptr bm 0,.ptr bp 0] X (Li L):=
 fun m i hb _ hi=>(c143 L m i o om bp bm (U2 L X o om i (mvO m)) hne (Ba ho hne) (Ck hm) ((Ed n1 n2).trans hbp) ((Ed n3 n4).trans hbm) hi hl hll hb).mono (fun c j r H' e=>⟨e.1,e.2.trans (Gq hne)⟩) (fun H' h=>qq hne h)
theorem U9 (hne:om≠o) (ho:X[o]? = some z) (hm:X[om]? = some z') (hbp:X[bp]? = some (.cells 97 [.ptr o 0])) (hbm:X[bm]? = some (.cells 159 [.ptr om 0])) (n1:bp≠o) (n2:bp≠om) (n3:bm≠o) (n4:bm≠om) (hl:TokEnd L) (hll:L.length≤500000):ec L o om 142 [.ptr bp 0,.ptr bm 0] X (D9 L):=
 fun m i hb _ hi=>(AE1 L m i o om bp bm (U2 L X o om i (mvO m)) hne (Ba ho hne) (Ck hm) ((Ed n1 n2).trans hbp) ((Ed n3 n4).trans hbm) hi hl hll hb).mono (fun c j r H' e=>⟨e.1,e.2.trans (Gq hne)⟩) (fun H' h=>qq hne h)
end
attribute [go_sem] U2_len
theorem Pi {L:List Tok} {Hp own:List AObj} {o om i n:Nat} {x z:AObj} (h:own[n]? = some z):(U2 L Hp o om i x++own)[oid Hp.length n]? = some z:=by
 unfold oid
 rw [List.getElem?_append_right (by rw [U2_len];omega),U2_len,Nat.add_sub_cancel_left]
 exact h
theorem D7 {n k o:Nat} (h:o<n):oid n k≠o:=by unfold oid;omega
theorem Yb (L:List Tok) (m:Mov) (i o om:Nat) (Hp:List AObj) (hne:om≠o) (ho:Hp[o]? = some (pmO L i)) (hm:Hp[om]? = some (mvO m)) (hi:i<L.length) (hl:TokEnd L) (hll:L.length≤500000) (hb:MvLe m (2*i)):CP 139 [.ptr o 0,.ptr om 0] Hp (Du L m i) (fun m' j r H'=>r=Lj∧H'=U2 L Hp o om j (mvO m')) (W2 L o om Hp):=by
 have hol:=(List.getElem?_eq_some_iff.1 ho).1
 have hml:=(List.getElem?_eq_some_iff.1 hm).1
 refine ACallP.body [] [0,1] Tryz.func139 Tryz.ntmps139 (fun d=>?_)
 refine Cz ?_;refine R.box ?_;refine R.box ?_;refine Hl ?_;refine mo ?_
 rcases hW:Bw L dz i with ⟨u,j⟩|⟨e,a⟩
 rotate_left
 ·refine AW.seqRK ?_
  refine ARunK.one (R.go (ARun.nil ?_))
  refine RK.callBad Tryz.call103 (N1 L dz i o _ (A6 (Ba ho hne)) hi hll |>.bad hW) ?_
  rintro x U O hU hl' ⟨rfl,j',hH⟩
  obtain ⟨rfl,rfl⟩:=B8 hU (List.getElem?_eq_some_iff.1 (Ba (L:=L) (i:=i) (x:=mvO m) ho hne)).1 hH
  refine ⟨fun h=>B9 h (fun n=>Az),fun o h=>(by cases h),?_⟩
  refine K.thP ?_;exact K.finPP ⟨_,_,by unfold Du;rw [hW];rfl,rfl,j',m,Bu hne⟩
 have hj:=D6 hl hi _ _ hW
 refine Z2 ?_;refine R.callUp (x:=pmO L j) Tryz.call103 (Ba ho hne) (by simp) Az ((N1 L dz i o _ (A6 (Ba ho hne)) hi hll).ok hW) ?_
 rw [Bu hne]
 refine Hl ?_
 rcases hP:Fc L ((m.take.map A9).length:Int) (Mx L) m j with ⟨m2,k⟩|⟨e,a⟩
 rotate_left
 ·refine W.drawY0 [0,0,2,6,14,30,0,127] [7] [.q 7 [] [],.s [13] (some 0) [] []] (fun _=>U2 L Hp o om j (mvO m)) (fun B=>[.cells 97 [.ptr o 0],.cells 159 [.ptr om 0]]++bot (B 0)) Aa (by kernel_rfl) rfl rfl (fun _=>rfl) ?_
  apply Y.q
  case h1 =>
   intro B hT hF
   refine Pe ?_
   refine D.go (h:=Q.loadUp (Ck hm)) (hr:=?_)
   refine D.go ?_;refine D.makeFunc ?_;exact Lp
  case hTF=>decide
  refine Y.callBad (own0:=[.cells 97 [.ptr o 0],.cells 159 [.ptr om 0]]) Tryz.call141 (fun B hB=>⟨rfl,by simp [bot,hB]⟩) ((kq L (((m.take.map A9).length:Int)) m j o om 170 [.ptr (oid Hp.length 1) 0,.ptr (oid Hp.length 0) 0] (Mx L) (U2 L Hp o om j (mvO m)++[.cells 97 [.ptr o 0],.cells 159 [.ptr om 0]]) hne (A6 (Ba ho hne)) (A6 (Ck hm)) (by omega) hj.2 hl hll (hb.mono (by omega)) Tryz.call170 (U7 (z:=pmO L j) (z':=mvO m) hne (A6 (Ba ho hne)) (A6 (Ck hm)) (Pi rfl) (Pi rfl) (D7 hol) (D7 hml) (D7 hol) (D7 hml) hl hll) (Ry hl hll)).bad hP) ?_ ?_
  ·rintro x U O f hU hl' ⟨rfl,hW2⟩
   obtain ⟨⟨j',m',rfl⟩,rfl⟩:=E8 hne hol hml hU hW2
   refine ⟨fun h=>Cl hne Bq h,fun o h=>(by cases h),?_⟩
   exact K.finPP ⟨_,_,by unfold Du;rw [hW];show Fc L _ _ m j=_;rw [←hP,List.length_map],rfl,j',m',rfl⟩
  exact sd
 refine W.drawQ0 [0,0,2,6,14,30,0,127] 7 Aa (by kernel_rfl) ?_;refine Pe ?_
 refine D.go (h:=Q.loadUp (Ck hm)) (hr:=?_)
 refine D.go ?_;refine D.makeFunc ?_;refine D.tail ?_
 refine R.callX (up':=U2 L Hp o om k (mvO m2)) (own':=[.cells 97 [.ptr o 0],.cells 159 [.ptr om 0]]) Tryz.call141 (((kq L (((m.take.map A9).length:Int)) m j o om 170 [.ptr (oid Hp.length 1) 0,.ptr (oid Hp.length 0) 0] (Mx L) (U2 L Hp o om j (mvO m)++[.cells 97 [.ptr o 0],.cells 159 [.ptr om 0]]) hne (A6 (Ba ho hne)) (A6 (Ck hm)) (by omega) hj.2 hl hll (hb.mono (by omega)) Tryz.call170 (U7 (z:=pmO L j) (z':=mvO m) hne (A6 (Ba ho hne)) (A6 (Ck hm)) (Pi rfl) (Pi rfl) (D7 hol) (D7 hml) (D7 hol) (D7 hml) hl hll) (Ry hl hll)).ok hP).mono (fun r H' e=>⟨e.1,e.2.trans (by first|rw [Da (by rw [U2_len];exact hol) (by rw [U2_len];exact hml),Gq hne]|rw [Da hol hml])⟩)) (by first|rfl|rw [U2_len,U2_len]|rw [U2_len]) (fun h=>Cl hne Bq h) ?_
 refine R.fin [] ?_;exact K.finPN .nores (hp:=⟨m2,k,by unfold Du;rw [hW];show Fc L _ _ m j=_;rw [←hP,List.length_map],rfl,rfl⟩)

theorem Ua {L:List Tok} {Hp:List AObj} {o om i:Nat} {m:Mov} {s:Str} {x:AObj}:(U2 L Hp o om i x).set om (.cells 77 [A2 m.kind,.slice true 1 [A9 s],.slice true 2 (m.give.map B0),.slice true 6 (m.ahead.map A5),.slice true 6 (m.back.map A5)])=U2 L Hp o om i (mvO (takeS m s)):=U2_setm
theorem ee {n:Nat} {x:Expr}:Low n (.slice true 6 [.agg (E5 x)]):=by
 have:=Di (n:=n) (k:=6) (o:=true) (l:=[x])
 simp only [List.map_cons,List.map_nil] at this
 rw [Ab] at this
 exact this
theorem Yc {n:Nat} {x:Expr}:Low n (.slice true 6 [A5 x]):=Di (l:=[x])
theorem qr {L:List Tok} {m m1:Mov} {i k:Nat} (h:D9 L m i=.ok m1 k):(m1.give.map B0)[0]? = some (B0 (m1.give.getD 0 ⟨[],0⟩)):=by
 obtain ⟨c,j,h1,h2⟩:=PR.bind_ok h
 obtain ⟨u,j2,h3,h4⟩:=PR.bind_ok h2
 obtain ⟨x,j3,h5,h6⟩:=PR.bind_ok h4
 injection h6 with h6 h7
 subst h6
 show ((m.give++[c]).map B0)[0]? = some (B0 ((m.give++[c]).getD 0 ⟨[],0⟩))
 cases m.give<;>rfl
section
variable {L:List Tok} {m:Mov} {i:Nat}
theorem qt (h1:(m.kind==1)=true):Ey L m i=D9 L m i:=if_pos h1
theorem bq (h1:(m.kind==1)=false) (h2:(m.kind==2)=true):Ey L m i=(Ep L i).bind fun s j=>Du L (takeS m s) j:=by
 unfold Ey;rw [if_neg (by rw [h1];simp),if_pos h2]
theorem qu (h1:(m.kind==1)=false) (h2:(m.kind==2)=false) (h3:(m.kind==3)=true):Ey L m i=H6 L m i:=by
 unfold Ey;rw [if_neg (by rw [h1];simp),if_neg (by rw [h2];simp),if_pos h3]
theorem Rz (h1:(m.kind==1)=false) (h2:(m.kind==2)=false) (h3:(m.kind==3)=false) (h4:(m.kind==4)=true):Ey L m i=(Ep L i).bind fun s j=>(Bw L Fq j).bind fun _ j=>(Fc L 0 (D9 L) (takeS m s) j).bind fun m j=>Du L m j:=by
 unfold Ey;rw [if_neg (by rw [h1];simp),if_neg (by rw [h2];simp),if_neg (by rw [h3];simp),if_pos h4]
theorem S1 (h1:(m.kind==1)=false) (h2:(m.kind==2)=false) (h3:(m.kind==3)=false) (h4:(m.kind==4)=false) (h5:(m.kind==5)=true):Ey L m i=(Fc L 0 (Li L) m i).bind fun m j=>(Bw L Fq j).bind fun _ j=>(D9 L m j).bind fun m j=>Du L m j:=by
 unfold Ey;rw [if_neg (by rw [h1];simp),if_neg (by rw [h2];simp),if_neg (by rw [h3];simp),if_neg (by rw [h4];simp),if_pos h5]
theorem br (h1:(m.kind==1)=false) (h2:(m.kind==2)=false) (h3:(m.kind==3)=false) (h4:(m.kind==4)=false) (h5:(m.kind==5)=false) (h6:(m.kind==6)=true):Ey L m i=(D9 L m i).bind fun m j=>Du L (takeS m (m.give.getD 0 ⟨[],0⟩).name) j:=by
 unfold Ey;rw [if_neg (by rw [h1];simp),if_neg (by rw [h2];simp),if_neg (by rw [h3];simp),if_neg (by rw [h4];simp),if_neg (by rw [h5];simp),if_pos h6]
theorem yq (h1:(m.kind==1)=false) (h2:(m.kind==2)=false) (h3:(m.kind==3)=false) (h4:(m.kind==4)=false) (h5:(m.kind==5)=false) (h6:(m.kind==6)=false):Ey L m i=.ok m i:=by
 unfold Ey;rw [if_neg (by rw [h1];simp),if_neg (by rw [h2];simp),if_neg (by rw [h3];simp),if_neg (by rw [h4];simp),if_neg (by rw [h5];simp),if_neg (by rw [h6];simp)]
end
theorem ABm (L:List Tok) (m:Mov) (i o om:Nat) (Hp:List AObj) (hne:om≠o) (ho:Hp[o]? = some (pmO L i)) (hm:Hp[om]? = some (mvO m)) (hi:i<L.length) (hl:TokEnd L) (hll:L.length≤500000) (hb:MvLe m (2*i-1)):CP 140 [.ptr o 0,.ptr om 0] Hp (H6 L m i) (fun m' j r H'=>r=Lj∧H'=U2 L Hp o om j (mvO m')) (W2 L o om Hp):=by
 refine ACallP.body [] [0,1] Tryz.func140 Tryz.ntmps140 (fun d=>?_)
 refine mo ?_
 rcases h1:Ep L i with ⟨s,j⟩|⟨e,a⟩
 rotate_left
 ·refine AW.seqRK ?_
  refine ARunK.one (R.go (ARun.nil ?_))
  refine ARunK.one (R.go (ARun.nil ?_))
  refine RK.callBad Tryz.call138 ((Ph L i o _ (A6 (Ba ho hne)) hi hll).bad h1) ?_
  rintro x U O hU hl' ⟨rfl,j',hH⟩
  obtain ⟨rfl,rfl⟩:=B8 hU (List.getElem?_eq_some_iff.1 (Ba (L:=L) (i:=i) (x:=mvO m) ho hne)).1 hH
  refine ⟨fun h=>B9 h (fun n=>Az),fun o h=>(by cases h),?_⟩
  refine K.thP ?_;exact K.finPP ⟨_,_,by unfold H6;rw [h1];rfl,rfl,j',m,Bu hne⟩
 have hj:=Ef hl hi _ _ h1
 refine Z1 ?_;refine R.callUp (x:=pmO L j) Tryz.call138 (Ba ho hne) (by simp) Az ((Ph L i o _ (A6 (Ba ho hne)) hi hll).ok h1) ?_
 rw [Bu hne]
 refine Lo ?_;refine Z0 ?_
 refine R.storeUpT jS (Ck hm) ?_ ?_
 ·simp [or_imp,forall_and]
 refine R.fin [0,1] ?_;refine AW.upEq (U2_setm (y:=.cells 77 [A2 m.kind,.slice true 1 ([A9 s]),.slice true 2 (m.give.map B0),.slice true 6 (m.ahead.map A5),.slice true 6 (m.back.map A5)])) ?_
 rcases h2:Bw L toW j with ⟨u,j2⟩|⟨e,a⟩
 rotate_left
 ·refine AW.seqRK ?_
  refine ARunK.one (R.go (ARun.nil ?_))
  refine RK.callBad Tryz.call103 ((N1 L toW j o _ (A6 (Ba ho hne)) hj.2 hll).bad h2) ?_
  rintro x U O hU hl' ⟨rfl,j',hH⟩
  obtain ⟨rfl,rfl⟩:=B8 hU (List.getElem?_eq_some_iff.1 (Ba (L:=L) (i:=j) (x:=.cells 77 [A2 m.kind,.slice true 1 ([A9 s]),.slice true 2 (m.give.map B0),.slice true 6 (m.ahead.map A5),.slice true 6 (m.back.map A5)]) ho hne)).1 hH
  refine ⟨fun h=>B9 h (fun n=>Az),fun o h=>(by cases h),?_⟩
  refine K.thP ?_;exact K.finPP ⟨_,_,by unfold H6;rw [h1];show (Bw L toW j).bind _=_;rw [h2];rfl,rfl,j',(⟨m.kind,[s],m.give,m.ahead,m.back⟩:Mov),Bu hne⟩
 have hj2:=D6 hl hj.2 _ _ h2
 refine Z2 ?_;refine R.callUp (x:=pmO L j2) Tryz.call103 (Ba ho hne) (by simp) Az ((N1 L toW j o _ (A6 (Ba ho hne)) hj.2 hll).ok h2) ?_
 rw [Bu hne]
 refine R.fin [0,1] ?_
 rcases h3:Ep L j2 with ⟨t,k⟩|⟨e,a⟩
 rotate_left
 ·refine AW.seqRK ?_
  refine ARunK.one (R.go (ARun.nil ?_))
  refine RK.callBad Tryz.call138 ((Ph L j2 o _ (A6 (Ba ho hne)) hj2.2 hll).bad h3) ?_
  rintro x U O hU hl' ⟨rfl,j',hH⟩
  obtain ⟨rfl,rfl⟩:=B8 hU (List.getElem?_eq_some_iff.1 (Ba (L:=L) (i:=j2) (x:=.cells 77 [A2 m.kind,.slice true 1 ([A9 s]),.slice true 2 (m.give.map B0),.slice true 6 (m.ahead.map A5),.slice true 6 (m.back.map A5)]) ho hne)).1 hH
  refine ⟨fun h=>B9 h (fun n=>Az),fun o h=>(by cases h),?_⟩
  refine K.thP ?_;exact K.finPP ⟨_,_,by unfold H6;rw [h1];show (Bw L toW j).bind _=_;rw [h2];show (Ep L j2).bind _=_;rw [h3];rfl,rfl,j',(⟨m.kind,[s],m.give,m.ahead,m.back⟩:Mov),Bu hne⟩
 refine Z2 ?_;refine R.callUp (x:=pmO L k) Tryz.call138 (Ba ho hne) (by simp) Az ((Ph L j2 o _ (A6 (Ba ho hne)) hj2.2 hll).ok h3) ?_
 rw [Bu hne]
 refine R.go ?_;refine R.fin [1,4] ?_;refine Z1 ?_;refine V3 ?_;refine Lo ?_;refine Z0 ?_
 refine R.storeUpT jS (Ck hm) ?_ ?_
 ·simp [or_imp,forall_and]
 refine R.fin [1,4] ?_;refine AW.upEq (U2_setm (y:=.cells 77 [A2 m.kind,.slice true 1 ([A9 s]),.slice true 2 ([B0 ⟨t,0⟩]),.slice true 6 (m.ahead.map A5),.slice true 6 (m.back.map A5)])) ?_;refine Z20 ?_;refine Z29 ?_
 refine R.go (h:=Q.loadUp (Ck hm)) (hr:=?_)
 refine R.go (h:=Q.indexAddr (0) (A9 s) (fun _=>rfl)) (hr:=?_)
 refine R.go ?_;refine R.call Tryz.call112 (ua s _) ?_;refine Lo ?_;refine R.go ?_;refine R.call Tryz.call112 (ua t _) ?_;refine Lo ?_;refine Z0 ?_
 refine R.storeUpT jS (Ck hm) ?_ ?_
 ·first|exact ee|exact Yc
 rw [U2_setm]
 refine Z0 ?_
 refine R.storeUpT jS (Ck hm) ?_ ?_
 ·first|exact ee|exact Yc
 rw [U2_setm]
 refine R.fin [] ?_;exact K.finPN .nores (hp:=⟨⟨m.kind,[s],[⟨t,0⟩],[Bv s],[Bv t]⟩,k,by unfold H6;rw [h1];show (Bw L toW j).bind _=_;rw [h2];show (Ep L j2).bind _=_;rw [h3];rfl,rfl,by simp only [mvO,mvC,List.map_cons,List.map_nil,Ab]⟩)

theorem kr {L:List Tok} {Hp:List AObj} {o om i:Nat} {m:Mov} {c:Col} {x:AObj}:(U2 L Hp o om i x).set om (.cells 77 [A2 m.kind,.slice true 1 [A9 c.name],.slice true 2 (m.give.map B0),.slice true 6 (m.ahead.map A5),.slice true 6 (m.back.map A5)])=U2 L Hp o om i (mvO (takeS m c.name)):=U2_setm
theorem ABn (L:List Tok) (m:Mov) (i o om:Nat) (Hp:List AObj) (hne:om≠o) (ho:Hp[o]? = some (pmO L i)) (hm:Hp[om]? = some (mvO m)) (hi:i<L.length) (hl:TokEnd L) (hll:L.length≤500000) (hb:MvLe m (2*i-1)) (h0:0<i):CP 102 [.ptr o 0,.ptr om 0] Hp (Ey L m i) (fun m' j r H'=>r=Lj∧H'=U2 L Hp o om j (mvO m')) (W2 L o om Hp):=by
 have hol:=(List.getElem?_eq_some_iff.1 ho).1
 have hml:=(List.getElem?_eq_some_iff.1 hm).1
 refine ACallP.body [] [0,1] Tryz.func102 Tryz.ntmps102 (fun d=>?_)
 refine Cz ?_;refine R.box ?_;refine R.box ?_;refine Hl ?_;refine mo ?_;refine Z13 ?_
 refine R.go (h:=Q.loadUp (Ck hm)) (hr:=?_)
 refine R.fin [2,3,7] ?_;refine Z90 ?_;refine R.fin [2,3,7,8] ?_
 refine W.cond (fun ht8=>?_) (fun ht8=>?_)
 ·rcases h1:D9 L m i with ⟨m1,k⟩|⟨e,a⟩
  rotate_left
  ·refine AW.regionK ?_
   refine ARunK.one (R.go (ARun.nil ?_))
   refine ARunK.one (R.go (ARun.nil ?_))
   refine AAo ?_
   rintro x U O hU hl' ⟨rfl,hW2⟩
   obtain ⟨⟨j',m',rfl⟩,rfl⟩:=E8 hne hol hml hU hW2
   refine ⟨fun h=>Cl hne Bq h,fun o h=>(by cases h),?_⟩
   refine K.blP ?_;exact K.finPP ⟨_,_,by rw [qt ht8];rw [h1],rfl,j',m',rfl⟩
  refine Z20 ?_
  refine R.callX (up':=U2 L Hp o om k (mvO m1)) (own':=[.cells 97 [.ptr o 0],.cells 159 [.ptr om 0]]) Tryz.call137 (((bo L m i o om (U2 L Hp o om i (mvO m)++[.cells 97 [.ptr o 0],.cells 159 [.ptr om 0]]) hne (A6 (Ba ho hne)) (A6 (Ck hm)) hi hl hll hb).ok h1).mono (fun r H' e=>⟨e.1,e.2.trans (by first|rw [Da (by rw [U2_len];exact hol) (by rw [U2_len];exact hml),Gq hne]|rw [Da hol hml])⟩)) (by first|rfl|rw [U2_len,U2_len]|rw [U2_len]) (fun h=>Cl hne Bq h) ?_
  refine Z85 ?_;exact K.finPN .nores (hp:=⟨m1,k,by rw [qt ht8];rw [h1],rfl,rfl⟩)
 refine Z1 ?_;refine R.fin [2,3,7,13] ?_
 refine W.cond (fun ht13=>?_) (fun ht13=>?_)
 ·rcases h1:Ep L i with ⟨s,j⟩|⟨e,a⟩
  rotate_left
  ·refine W.drawY [0,0,2,6,15,31,63] [2] [.q 2 [] [],.s [17] (some 0) [] [],.s [] none [0] [],.s [] none [0] [],.s [] none [0] [],.s [] none [0] []] (fun _=>U2 L Hp o om i (mvO m)) (fun B=>[.cells 97 [.ptr o 0],.cells 159 [.ptr om 0]]++bot (B 0)) Aa (by kernel_rfl) rfl rfl (fun _=>rfl) ?_
   apply Y.q
   case h1 =>
    intro B hT hF
    exact Z61
   case hTF=>decide
   refine Y.callBad (own0:=[.cells 97 [.ptr o 0],.cells 159 [.ptr om 0]]) Tryz.call138 (fun B hB=>⟨rfl,by simp [bot,hB]⟩) ((Ph L i o _ (A6 (Ba ho hne)) hi hll).bad h1) ?_ ?_
   ·rintro x U O f hU hl' ⟨rfl,j',hH⟩
    obtain ⟨rfl,rfl⟩:=B8 hU (List.getElem?_eq_some_iff.1 (Ba (L:=L) (i:=i) (x:=mvO m) ho hne)).1 hH
    refine ⟨fun h=>B9 h (fun n=>Az),fun o h=>(by cases h),?_⟩
    refine K.blP ?_;exact K.finPP ⟨_,_,by rw [bq ht8 ht13];rw [h1];rfl,rfl,j',m,Bu hne⟩
   exact ry
  have hj:=Ef hl hi _ _ h1
  refine W.drawY [0,0,2,6,15,31,63] [2] [.q 2 [] [],.s [17] (some 0) [] [],.s [18] none [0] []] (fun B=>U2 L Hp o om (if B 0=true then j else i) (mvO m)) (fun _=>[.cells 97 [.ptr o 0],.cells 159 [.ptr om 0]]) Aa (by kernel_rfl) rfl rfl (fun B=>by rw [U2_len];exact U2_len.symm) ?_
  apply Y.q
  case h1 =>
   intro B hT hF
   exact Z61
  case hTF=>decide
  refine Y.callUp (r:=A9 s) (o:=o) (x0:=pmO L i) (x:=pmO L j) Tryz.call138 (fun B hB1 hB2 hB=>⟨by simp only [hB];exact Ba ho hne,(Bu hne).symm,rfl,Az,?_⟩) ?_
  ·simp only [hB]
   exact (Ph L i o _ (A6 (Ba ho hne)) hi hll).ok h1
  refine zn ?_;refine Z0 ?_
  refine R.storeUpT jS (Ck hm) ?_ ?_
  ·simp [or_imp,forall_and]
  refine Hl ?_;refine AW.upEq (Ua (m:=m) (s:=s)) ?_
  rcases h2:Du L (takeS m s) j with ⟨m2,k⟩|⟨e,a⟩
  rotate_left
  ·refine AW.regionK ?_
   refine ARunK.one (R.go (ARun.nil ?_))
   refine ARunK.one (R.go (ARun.nil ?_))
   refine RK.callBad Tryz.call139 ((Yb L (takeS m s) j o om (U2 L Hp o om j (mvO (takeS m s))++[.cells 97 [.ptr o 0],.cells 159 [.ptr om 0]]) hne (A6 (Ba ho hne)) (A6 (Ck hm)) hj.2 hl hll ((hb.mono (by omega:2*i-1≤2*j)).takeS (by omega))).bad h2) ?_
   rintro x U O hU hl' ⟨rfl,hW2⟩
   obtain ⟨⟨j',m',rfl⟩,rfl⟩:=E8 hne hol hml hU hW2
   refine ⟨fun h=>Cl hne Bq h,fun o h=>(by cases h),?_⟩
   refine K.blP ?_;exact K.finPP ⟨_,_,by rw [bq ht8 ht13];rw [h1];show Du L (takeS m s) j=_;rw [h2],rfl,j',m',rfl⟩
  refine Z20 ?_
  refine R.callX (up':=U2 L Hp o om k (mvO m2)) (own':=[.cells 97 [.ptr o 0],.cells 159 [.ptr om 0]]) Tryz.call139 (((Yb L (takeS m s) j o om (U2 L Hp o om j (mvO (takeS m s))++[.cells 97 [.ptr o 0],.cells 159 [.ptr om 0]]) hne (A6 (Ba ho hne)) (A6 (Ck hm)) hj.2 hl hll ((hb.mono (by omega:2*i-1≤2*j)).takeS (by omega))).ok h2).mono (fun r H' e=>⟨e.1,e.2.trans (by first|rw [Da (by rw [U2_len];exact hol) (by rw [U2_len];exact hml),Gq hne]|rw [Da hol hml])⟩)) (by first|rfl|rw [U2_len,U2_len]|rw [U2_len]) (fun h=>Cl hne Bq h) ?_
  refine Z85 ?_;exact K.finPN .nores (hp:=⟨m2,k,by rw [bq ht8 ht13];rw [h1];show Du L (takeS m s) j=_;rw [h2],rfl,rfl⟩)
 refine Z1 ?_;refine R.fin [2,3,7,24] ?_
 refine W.cond (fun ht24=>?_) (fun ht24=>?_)
 ·rcases h1:H6 L m i with ⟨m1,k⟩|⟨e,a⟩
  rotate_left
  ·refine AW.regionK ?_
   refine ARunK.one (R.go (ARun.nil ?_))
   refine ARunK.one (R.go (ARun.nil ?_))
   refine RK.callBad Tryz.call140 ((ABm L m i o om (U2 L Hp o om i (mvO m)++[.cells 97 [.ptr o 0],.cells 159 [.ptr om 0]]) hne (A6 (Ba ho hne)) (A6 (Ck hm)) hi hl hll hb).bad h1) ?_
   rintro x U O hU hl' ⟨rfl,hW2⟩
   obtain ⟨⟨j',m',rfl⟩,rfl⟩:=E8 hne hol hml hU hW2
   refine ⟨fun h=>Cl hne Bq h,fun o h=>(by cases h),?_⟩
   refine K.blP ?_;exact K.finPP ⟨_,_,by rw [qu ht8 ht13 ht24];rw [h1],rfl,j',m',rfl⟩
  refine Z20 ?_
  refine R.callX (up':=U2 L Hp o om k (mvO m1)) (own':=[.cells 97 [.ptr o 0],.cells 159 [.ptr om 0]]) Tryz.call140 (((ABm L m i o om (U2 L Hp o om i (mvO m)++[.cells 97 [.ptr o 0],.cells 159 [.ptr om 0]]) hne (A6 (Ba ho hne)) (A6 (Ck hm)) hi hl hll hb).ok h1).mono (fun r H' e=>⟨e.1,e.2.trans (by first|rw [Da (by rw [U2_len];exact hol) (by rw [U2_len];exact hml),Gq hne]|rw [Da hol hml])⟩)) (by first|rfl|rw [U2_len,U2_len]|rw [U2_len]) (fun h=>Cl hne Bq h) ?_
  refine Z85 ?_;exact K.finPN .nores (hp:=⟨m1,k,by rw [qu ht8 ht13 ht24];rw [h1],rfl,rfl⟩)
 refine Z1 ?_;refine R.fin [2,3,7,29] ?_
 refine W.cond (fun ht29=>?_) (fun ht29=>?_)
 ·rcases h1:Ep L i with ⟨s,j⟩|⟨e,a⟩
  rotate_left
  ·refine W.drawY [0,0,2,6,15,31,63] [2] [.q 2 [] [],.s [33] (some 0) [] [],.s [] none [0] [],.s [] none [0] [],.s [] none [0] [],.s [] none [0] []] (fun _=>U2 L Hp o om i (mvO m)) (fun B=>[.cells 97 [.ptr o 0],.cells 159 [.ptr om 0]]++bot (B 0)) Aa (by kernel_rfl) rfl rfl (fun _=>rfl) ?_
   apply Y.q
   case h1 =>
    intro B hT hF
    exact Z61
   case hTF=>decide
   refine Y.callBad (own0:=[.cells 97 [.ptr o 0],.cells 159 [.ptr om 0]]) Tryz.call138 (fun B hB=>⟨rfl,by simp [bot,hB]⟩) ((Ph L i o _ (A6 (Ba ho hne)) hi hll).bad h1) ?_ ?_
   ·rintro x U O f hU hl' ⟨rfl,j',hH⟩
    obtain ⟨rfl,rfl⟩:=B8 hU (List.getElem?_eq_some_iff.1 (Ba (L:=L) (i:=i) (x:=mvO m) ho hne)).1 hH
    refine ⟨fun h=>B9 h (fun n=>Az),fun o h=>(by cases h),?_⟩
    refine K.blP ?_;exact K.finPP ⟨_,_,by rw [Rz ht8 ht13 ht24 ht29];rw [h1];rfl,rfl,j',m,Bu hne⟩
   exact ry
  have hj:=Ef hl hi _ _ h1
  refine W.drawY [0,0,2,6,15,31,63] [2] [.q 2 [] [],.s [33] (some 0) [] [],.s [34] none [0] []] (fun B=>U2 L Hp o om (if B 0=true then j else i) (mvO m)) (fun _=>[.cells 97 [.ptr o 0],.cells 159 [.ptr om 0]]) Aa (by kernel_rfl) rfl rfl (fun B=>by rw [U2_len];exact U2_len.symm) ?_
  apply Y.q
  case h1 =>
   intro B hT hF
   exact Z61
  case hTF=>decide
  refine Y.callUp (r:=A9 s) (o:=o) (x0:=pmO L i) (x:=pmO L j) Tryz.call138 (fun B hB1 hB2 hB=>⟨by simp only [hB];exact Ba ho hne,(Bu hne).symm,rfl,Az,?_⟩) ?_
  ·simp only [hB]
   exact (Ph L i o _ (A6 (Ba ho hne)) hi hll).ok h1
  refine zn ?_;refine Z0 ?_
  refine R.storeUpT jS (Ck hm) ?_ ?_
  ·simp [or_imp,forall_and]
  refine Hl ?_;refine AW.upEq (Ua (m:=m) (s:=s)) ?_
  rcases h2:Bw L Fq j with ⟨u,j2⟩|⟨e,a⟩
  rotate_left
  ·refine AW.seqRK ?_
   refine ARunK.one (R.go (ARun.nil ?_))
   refine RK.callBad Tryz.call103 ((N1 L Fq j o _ (A6 (Ba ho hne)) hj.2 hll).bad h2) ?_
   rintro x U O hU hl' ⟨rfl,j',hH⟩
   obtain ⟨rfl,rfl⟩:=B8 hU (List.getElem?_eq_some_iff.1 (Ba (L:=L) (i:=j) (x:=mvO (takeS m s)) ho hne)).1 hH
   refine ⟨fun h=>B9 h (fun n=>Az),fun o h=>(by cases h),?_⟩
   refine Wk ?_;exact K.finPP ⟨_,_,by rw [Rz ht8 ht13 ht24 ht29];rw [h1];show (Bw L Fq j).bind _=_;rw [h2];rfl,rfl,j',(takeS m s),Bu hne⟩
  have hj2:=D6 hl hj.2 _ _ h2
  refine Z2 ?_;refine R.callUp (x:=pmO L j2) Tryz.call103 (Ba ho hne) (by simp) Az ((N1 L Fq j o _ (A6 (Ba ho hne)) hj.2 hll).ok h2) ?_
  rw [Bu hne]
  refine Hl ?_
  rcases h3:Fc L 0 (D9 L) (takeS m s) j2 with ⟨m1,j3⟩|⟨e,a⟩
  rotate_left
  ·refine AW.seqRK ?_
   refine ARunK.one (R.go (ARun.nil ?_))
   refine ARunK.one (R.makeFunc (ARun.nil ?_))
   refine RK.callBad Tryz.call141 ((kq L (0) (takeS m s) j2 o om 142 [.ptr (oid Hp.length 0) 0,.ptr (oid Hp.length 1) 0] (D9 L) (U2 L Hp o om j2 (mvO (takeS m s))++[.cells 97 [.ptr o 0],.cells 159 [.ptr om 0]]) hne (A6 (Ba ho hne)) (A6 (Ck hm)) (by omega) hj2.2 hl hll ((hb.mono (by omega:2*i-1≤2*j2-1)).takeS (by omega)) Tryz.call142 (U9 (z:=pmO L j2) (z':=mvO (takeS m s)) hne (A6 (Ba ho hne)) (A6 (Ck hm)) (Pi rfl) (Pi rfl) (D7 hol) (D7 hml) (D7 hol) (D7 hml) hl hll) (H7 hl hll)).bad h3) ?_
   rintro x U O hU hl' ⟨rfl,hW2⟩
   obtain ⟨⟨j',m',rfl⟩,rfl⟩:=E8 hne hol hml hU hW2
   refine ⟨fun h=>Cl hne Bq h,fun o h=>(by cases h),?_⟩
   refine Wk ?_;exact K.finPP ⟨_,_,by rw [Rz ht8 ht13 ht24 ht29];rw [h1];show (Bw L Fq j).bind _=_;rw [h2];show (Fc L 0 (D9 L) (takeS m s) j2).bind _=_;rw [h3];rfl,rfl,j',m',rfl⟩
  have hj3:=N0 hl (H7 hl hll) (takeS m s) j2 ((hb.mono (by omega:2*i-1≤2*j2-1)).takeS (by omega)) (by omega) hj2.2 _ _ h3
  refine Z2 ?_;refine R.makeFunc ?_
  refine R.callX (up':=U2 L Hp o om j3 (mvO m1)) (own':=[.cells 97 [.ptr o 0],.cells 159 [.ptr om 0]]) Tryz.call141 (((kq L (0) (takeS m s) j2 o om 142 [.ptr (oid Hp.length 0) 0,.ptr (oid Hp.length 1) 0] (D9 L) (U2 L Hp o om j2 (mvO (takeS m s))++[.cells 97 [.ptr o 0],.cells 159 [.ptr om 0]]) hne (A6 (Ba ho hne)) (A6 (Ck hm)) (by omega) hj2.2 hl hll ((hb.mono (by omega:2*i-1≤2*j2-1)).takeS (by omega)) Tryz.call142 (U9 (z:=pmO L j2) (z':=mvO (takeS m s)) hne (A6 (Ba ho hne)) (A6 (Ck hm)) (Pi rfl) (Pi rfl) (D7 hol) (D7 hml) (D7 hol) (D7 hml) hl hll) (H7 hl hll)).ok h3).mono (fun r H' e=>⟨e.1,e.2.trans (by first|rw [Da (by rw [U2_len];exact hol) (by rw [U2_len];exact hml),Gq hne]|rw [Da hol hml])⟩)) (by first|rfl|rw [U2_len,U2_len]|rw [U2_len]) (fun h=>Cl hne Bq h) ?_
  refine Hl ?_
  rcases h4:Du L m1 j3 with ⟨m2,k⟩|⟨e,a⟩
  rotate_left
  ·refine AW.regionK ?_
   refine ARunK.one (R.go (ARun.nil ?_))
   refine ARunK.one (R.go (ARun.nil ?_))
   refine RK.callBad Tryz.call139 ((Yb L m1 j3 o om (U2 L Hp o om j3 (mvO m1)++[.cells 97 [.ptr o 0],.cells 159 [.ptr om 0]]) hne (A6 (Ba ho hne)) (A6 (Ck hm)) hj3.2.1 hl hll hj3.2.2).bad h4) ?_
   rintro x U O hU hl' ⟨rfl,hW2⟩
   obtain ⟨⟨j',m',rfl⟩,rfl⟩:=E8 hne hol hml hU hW2
   refine ⟨fun h=>Cl hne Bq h,fun o h=>(by cases h),?_⟩
   refine K.blP ?_;exact K.finPP ⟨_,_,by rw [Rz ht8 ht13 ht24 ht29];rw [h1];show (Bw L Fq j).bind _=_;rw [h2];show (Fc L 0 (D9 L) (takeS m s) j2).bind _=_;rw [h3];show Du L m1 j3=_;rw [h4],rfl,j',m',rfl⟩
  refine Z20 ?_
  refine R.callX (up':=U2 L Hp o om k (mvO m2)) (own':=[.cells 97 [.ptr o 0],.cells 159 [.ptr om 0]]) Tryz.call139 (((Yb L m1 j3 o om (U2 L Hp o om j3 (mvO m1)++[.cells 97 [.ptr o 0],.cells 159 [.ptr om 0]]) hne (A6 (Ba ho hne)) (A6 (Ck hm)) hj3.2.1 hl hll hj3.2.2).ok h4).mono (fun r H' e=>⟨e.1,e.2.trans (by first|rw [Da (by rw [U2_len];exact hol) (by rw [U2_len];exact hml),Gq hne]|rw [Da hol hml])⟩)) (by first|rfl|rw [U2_len,U2_len]|rw [U2_len]) (fun h=>Cl hne Bq h) ?_
  refine Z85 ?_;exact K.finPN .nores (hp:=⟨m2,k,by rw [Rz ht8 ht13 ht24 ht29];rw [h1];show (Bw L Fq j).bind _=_;rw [h2];show (Fc L 0 (D9 L) (takeS m s) j2).bind _=_;rw [h3];show Du L m1 j3=_;rw [h4],rfl,rfl⟩)
 refine Z1 ?_;refine R.fin [2,3,7,45] ?_
 refine W.cond (fun ht45=>?_) (fun ht45=>?_)
 ·rcases h1:Fc L 0 (Li L) m i with ⟨m1,j⟩|⟨e,a⟩
  rotate_left
  ·refine AW.seqRK ?_
   refine ARunK.one (R.go (ARun.nil ?_))
   refine ARunK.one (R.makeFunc (ARun.nil ?_))
   refine RK.callBad Tryz.call141 ((kq L (0) m i o om 143 [.ptr (oid Hp.length 1) 0,.ptr (oid Hp.length 0) 0] (Li L) (U2 L Hp o om i (mvO m)++[.cells 97 [.ptr o 0],.cells 159 [.ptr om 0]]) hne (A6 (Ba ho hne)) (A6 (Ck hm)) h0 hi hl hll hb Tryz.call143 (U8 (z:=pmO L i) (z':=mvO m) hne (A6 (Ba ho hne)) (A6 (Ck hm)) (Pi rfl) (Pi rfl) (D7 hol) (D7 hml) (D7 hol) (D7 hml) hl hll) (Mz hl)).bad h1) ?_
   rintro x U O hU hl' ⟨rfl,hW2⟩
   obtain ⟨⟨j',m',rfl⟩,rfl⟩:=E8 hne hol hml hU hW2
   refine ⟨fun h=>Cl hne Bq h,fun o h=>(by cases h),?_⟩
   refine Wk ?_;exact K.finPP ⟨_,_,by rw [S1 ht8 ht13 ht24 ht29 ht45];rw [h1];rfl,rfl,j',m',rfl⟩
  have hj:=N0 hl (Mz hl) m i hb h0 hi _ _ h1
  refine Z2 ?_;refine R.makeFunc ?_
  refine R.callX (up':=U2 L Hp o om j (mvO m1)) (own':=[.cells 97 [.ptr o 0],.cells 159 [.ptr om 0]]) Tryz.call141 (((kq L (0) m i o om 143 [.ptr (oid Hp.length 1) 0,.ptr (oid Hp.length 0) 0] (Li L) (U2 L Hp o om i (mvO m)++[.cells 97 [.ptr o 0],.cells 159 [.ptr om 0]]) hne (A6 (Ba ho hne)) (A6 (Ck hm)) h0 hi hl hll hb Tryz.call143 (U8 (z:=pmO L i) (z':=mvO m) hne (A6 (Ba ho hne)) (A6 (Ck hm)) (Pi rfl) (Pi rfl) (D7 hol) (D7 hml) (D7 hol) (D7 hml) hl hll) (Mz hl)).ok h1).mono (fun r H' e=>⟨e.1,e.2.trans (by first|rw [Da (by rw [U2_len];exact hol) (by rw [U2_len];exact hml),Gq hne]|rw [Da hol hml])⟩)) (by first|rfl|rw [U2_len,U2_len]|rw [U2_len]) (fun h=>Cl hne Bq h) ?_
  refine Hl ?_
  rcases h2:Bw L Fq j with ⟨u,j2⟩|⟨e,a⟩
  rotate_left
  ·refine AW.seqRK ?_
   refine ARunK.one (R.go (ARun.nil ?_))
   refine RK.callBad Tryz.call103 ((N1 L Fq j o _ (A6 (Ba ho hne)) hj.2.1 hll).bad h2) ?_
   rintro x U O hU hl' ⟨rfl,j',hH⟩
   obtain ⟨rfl,rfl⟩:=B8 hU (List.getElem?_eq_some_iff.1 (Ba (L:=L) (i:=j) (x:=mvO m1) ho hne)).1 hH
   refine ⟨fun h=>B9 h (fun n=>Az),fun o h=>(by cases h),?_⟩
   refine Wk ?_;exact K.finPP ⟨_,_,by rw [S1 ht8 ht13 ht24 ht29 ht45];rw [h1];show (Bw L Fq j).bind _=_;rw [h2];rfl,rfl,j',m1,Bu hne⟩
  have hj2:=D6 hl hj.2.1 _ _ h2
  have hj2e:=Hu h2
  refine Z2 ?_;refine R.callUp (x:=pmO L j2) Tryz.call103 (Ba ho hne) (by simp) Az ((N1 L Fq j o _ (A6 (Ba ho hne)) hj.2.1 hll).ok h2) ?_
  rw [Bu hne]
  refine Hl ?_
  rcases h3:D9 L m1 j2 with ⟨m2,j3⟩|⟨e,a⟩
  rotate_left
  ·refine AW.seqRK ?_
   refine ARunK.one (R.go (ARun.nil ?_))
   refine ARunK.one (R.go (ARun.nil ?_))
   refine RK.callBad Tryz.call137 ((bo L m1 j2 o om (U2 L Hp o om j2 (mvO m1)++[.cells 97 [.ptr o 0],.cells 159 [.ptr om 0]]) hne (A6 (Ba ho hne)) (A6 (Ck hm)) hj2.2 hl hll (hj.2.2.mono (by omega))).bad h3) ?_
   rintro x U O hU hl' ⟨rfl,hW2⟩
   obtain ⟨⟨j',m',rfl⟩,rfl⟩:=E8 hne hol hml hU hW2
   refine ⟨fun h=>Cl hne Bq h,fun o h=>(by cases h),?_⟩
   refine Wk ?_;exact K.finPP ⟨_,_,by rw [S1 ht8 ht13 ht24 ht29 ht45];rw [h1];show (Bw L Fq j).bind _=_;rw [h2];show (D9 L m1 j2).bind _=_;rw [h3];rfl,rfl,j',m',rfl⟩
  have hj3:=H7 hl hll m1 j2 (hj.2.2.mono (by omega)) (by omega) hj2.2 _ _ h3
  refine Z1 ?_
  refine R.callX (up':=U2 L Hp o om j3 (mvO m2)) (own':=[.cells 97 [.ptr o 0],.cells 159 [.ptr om 0]]) Tryz.call137 (((bo L m1 j2 o om (U2 L Hp o om j2 (mvO m1)++[.cells 97 [.ptr o 0],.cells 159 [.ptr om 0]]) hne (A6 (Ba ho hne)) (A6 (Ck hm)) hj2.2 hl hll (hj.2.2.mono (by omega))).ok h3).mono (fun r H' e=>⟨e.1,e.2.trans (by first|rw [Da (by rw [U2_len];exact hol) (by rw [U2_len];exact hml),Gq hne]|rw [Da hol hml])⟩)) (by first|rfl|rw [U2_len,U2_len]|rw [U2_len]) (fun h=>Cl hne Bq h) ?_
  refine Hl ?_
  rcases h4:Du L m2 j3 with ⟨m3,k⟩|⟨e,a⟩
  rotate_left
  ·refine AW.regionK ?_
   refine ARunK.one (R.go (ARun.nil ?_))
   refine ARunK.one (R.go (ARun.nil ?_))
   refine RK.callBad Tryz.call139 ((Yb L m2 j3 o om (U2 L Hp o om j3 (mvO m2)++[.cells 97 [.ptr o 0],.cells 159 [.ptr om 0]]) hne (A6 (Ba ho hne)) (A6 (Ck hm)) hj3.2.1 hl hll hj3.2.2).bad h4) ?_
   rintro x U O hU hl' ⟨rfl,hW2⟩
   obtain ⟨⟨j',m',rfl⟩,rfl⟩:=E8 hne hol hml hU hW2
   refine ⟨fun h=>Cl hne Bq h,fun o h=>(by cases h),?_⟩
   refine K.blP ?_;exact K.finPP ⟨_,_,by rw [S1 ht8 ht13 ht24 ht29 ht45];rw [h1];show (Bw L Fq j).bind _=_;rw [h2];show (D9 L m1 j2).bind _=_;rw [h3];show Du L m2 j3=_;rw [h4],rfl,j',m',rfl⟩
  refine Z20 ?_
  refine R.callX (up':=U2 L Hp o om k (mvO m3)) (own':=[.cells 97 [.ptr o 0],.cells 159 [.ptr om 0]]) Tryz.call139 (((Yb L m2 j3 o om (U2 L Hp o om j3 (mvO m2)++[.cells 97 [.ptr o 0],.cells 159 [.ptr om 0]]) hne (A6 (Ba ho hne)) (A6 (Ck hm)) hj3.2.1 hl hll hj3.2.2).ok h4).mono (fun r H' e=>⟨e.1,e.2.trans (by first|rw [Da (by rw [U2_len];exact hol) (by rw [U2_len];exact hml),Gq hne]|rw [Da hol hml])⟩)) (by first|rfl|rw [U2_len,U2_len]|rw [U2_len]) (fun h=>Cl hne Bq h) ?_
  refine Z85 ?_;exact K.finPN .nores (hp:=⟨m3,k,by rw [S1 ht8 ht13 ht24 ht29 ht45];rw [h1];show (Bw L Fq j).bind _=_;rw [h2];show (D9 L m1 j2).bind _=_;rw [h3];show Du L m2 j3=_;rw [h4],rfl,rfl⟩)
 refine Z1 ?_;refine R.fin [2,3,58] ?_
 refine W.cond (fun ht58=>?_) (fun ht58=>?_)
 ·rcases h1:D9 L m i with ⟨m1,j⟩|⟨e,a⟩
  rotate_left
  ·refine AW.seqRK ?_
   refine ARunK.one (R.go (ARun.nil ?_))
   refine ARunK.one (R.go (ARun.nil ?_))
   refine AAo ?_
   rintro x U O hU hl' ⟨rfl,hW2⟩
   obtain ⟨⟨j',m',rfl⟩,rfl⟩:=E8 hne hol hml hU hW2
   refine ⟨fun h=>Cl hne Bq h,fun o h=>(by cases h),?_⟩
   refine Wk ?_;exact K.finPP ⟨_,_,by rw [br ht8 ht13 ht24 ht29 ht45 ht58];rw [h1];rfl,rfl,j',m',rfl⟩
  have hj:=H7 hl hll m i hb h0 hi _ _ h1
  refine Z1 ?_
  refine R.callX (up':=U2 L Hp o om j (mvO m1)) (own':=[.cells 97 [.ptr o 0],.cells 159 [.ptr om 0]]) Tryz.call137 (((bo L m i o om (U2 L Hp o om i (mvO m)++[.cells 97 [.ptr o 0],.cells 159 [.ptr om 0]]) hne (A6 (Ba ho hne)) (A6 (Ck hm)) hi hl hll hb).ok h1).mono (fun r H' e=>⟨e.1,e.2.trans (by first|rw [Da (by rw [U2_len];exact hol) (by rw [U2_len];exact hml),Gq hne]|rw [Da hol hml])⟩)) (by first|rfl|rw [U2_len,U2_len]|rw [U2_len]) (fun h=>Cl hne Bq h) ?_
  refine Hl ?_;refine W.drawY [0,0,2,6,14,30,62,126,254,511,1023,2047] [] [.q 8 [] [],.s [71] none [] []] (fun _=>U2 L Hp o om j (mvO m1)) (fun _=>[.cells 97 [.ptr o 0],.cells 159 [.ptr om 0]]) Aa (by kernel_rfl) rfl rfl (fun B=>rfl) ?_
  apply Y.q
  case h1 =>
   intro B hT hF
   refine Pe ?_
   refine D.go (h:=Q.loadUp (Ck hm)) (hr:=?_)
   refine D.go (h:=Q.indexAddr (0) (B0 (m1.give.getD 0 ⟨[],0⟩)) (fun _=>qr h1)) (hr:=?_)
   exact Z61
  case hTF=>decide
  refine Y.buildSlice jU Tryz.sizeOf9 Tryz.zeroValue9 ?_;refine Y.tail (tn:=[]) (U:=U2 L Hp o om j (mvO m1)) ?_;refine Z0 ?_
  refine R.storeUpT jS (Ck hm) ?_ ?_
  ·simp [or_imp,forall_and]
  refine Hl ?_;refine AW.upEq (kr (m:=m1) (c:=m1.give.getD 0 ⟨[],0⟩)) ?_
  rcases h2:Du L (takeS m1 (m1.give.getD 0 ⟨[],0⟩).name) j with ⟨m2,k⟩|⟨e,a⟩
  rotate_left
  ·refine AW.regionK ?_
   refine ARunK.one (R.go (ARun.nil ?_))
   refine ARunK.one (R.go (ARun.nil ?_))
   refine RK.callBad Tryz.call139 ((Yb L (takeS m1 (m1.give.getD 0 ⟨[],0⟩).name) j o om (U2 L Hp o om j (mvO (takeS m1 (m1.give.getD 0 ⟨[],0⟩).name))++[.cells 97 [.ptr o 0],.cells 159 [.ptr om 0]]) hne (A6 (Ba ho hne)) (A6 (Ck hm)) hj.2.1 hl hll (hj.2.2.takeS (by omega))).bad h2) ?_
   rintro x U O hU hl' ⟨rfl,hW2⟩
   obtain ⟨⟨j',m',rfl⟩,rfl⟩:=E8 hne hol hml hU hW2
   refine ⟨fun h=>Cl hne Bq h,fun o h=>(by cases h),?_⟩
   refine K.blP ?_;exact K.finPP ⟨_,_,by rw [br ht8 ht13 ht24 ht29 ht45 ht58];rw [h1];show Du L (takeS m1 (m1.give.getD 0 ⟨[],0⟩).name) j=_;rw [h2],rfl,j',m',rfl⟩
  refine Z20 ?_
  refine R.callX (up':=U2 L Hp o om k (mvO m2)) (own':=[.cells 97 [.ptr o 0],.cells 159 [.ptr om 0]]) Tryz.call139 (((Yb L (takeS m1 (m1.give.getD 0 ⟨[],0⟩).name) j o om (U2 L Hp o om j (mvO (takeS m1 (m1.give.getD 0 ⟨[],0⟩).name))++[.cells 97 [.ptr o 0],.cells 159 [.ptr om 0]]) hne (A6 (Ba ho hne)) (A6 (Ck hm)) hj.2.1 hl hll (hj.2.2.takeS (by omega))).ok h2).mono (fun r H' e=>⟨e.1,e.2.trans (by first|rw [Da (by rw [U2_len];exact hol) (by rw [U2_len];exact hml),Gq hne]|rw [Da hol hml])⟩)) (by first|rfl|rw [U2_len,U2_len]|rw [U2_len]) (fun h=>Cl hne Bq h) ?_
  refine Z85 ?_;exact K.finPN .nores (hp:=⟨m2,k,by rw [br ht8 ht13 ht24 ht29 ht45 ht58];rw [h1];show Du L (takeS m1 (m1.give.getD 0 ⟨[],0⟩).name) j=_;rw [h2],rfl,rfl⟩)
 refine AW.skip ?_;refine K.blN ?_;exact K.finPN .nores (hp:=⟨m,i,yq ht8 ht13 ht24 ht29 ht45 ht58,rfl,rfl⟩)

def ABo:Str:=[32,97,100,100,32,100,114,111,112,32,114,101,110,97,109,101,32,115,112,108,105,116,32,109,101,114,103,101,32,114,101,116,121,112,101]
theorem kt:K2 ABo [32]=migWords:=by kernel_rfl
theorem c96 (k:Int) (Hp:List AObj):AFun Tryz.prog 96 [A2 k] Hp (A9 (D5 k)):=by
 refine ACall.body [.tmp 2] [0] Tryz.func96 Tryz.ntmps96 (fun d=>?_)
 refine Wo ?_;refine Sf ?_;refine R.fin [0,8] ?_
 refine W.cond (fun ht8=>?_) (fun ht8=>?_)
 ·have hm:D5 k=[]:=if_pos ht8
  refine Z49 ?_;exact wd
 have hm:D5 k=migWords.getD k.toNat []:=if_neg (by rw [ht8];simp)
 refine Zd ?_;refine R.call Tryz.call44 (c44 ABo [32] (by decide) (by decide) _) ?_
 rw [kt]
 refine R.go ?_
 have hk:1≤k∧k≤6:=by simp at ht8;omega
 have hget:(migWords.map A9)[k.toNat]? = some (A9 (migWords.getD k.toNat [])):=by
  have hlt:k.toNat<migWords.length:=by show k.toNat<7;omega
  rw [List.getElem?_map,List.getElem?_eq_getElem hlt,List.getD_eq_getElem?_getD,List.getElem?_eq_getElem hlt]
  rfl
 refine R.go (h:=Q.indexAddr (k.toNat) (A9 (migWords.getD k.toNat [])) (fun _=>hget)) (hr:=?_)
 refine Z64 ?_;exact ml

theorem ku {s:Str} {x:Nat} (h:∀j:Nat,j<x→(D5 ((j:Int)+1)==s)=false) (hx:x<6) (he:(D5 ((x:Int)+1)==s)=true):Dc s=(x:Int)+1:=by
 have a:∀j:Nat,j<x→∀k:Int,k=(j:Int)+1→(D5 k==s)=false:=fun j hj k e=>by rw [e];exact h j hj
 have b:∀k:Int,k=(x:Int)+1→(D5 k==s)=true:=fun k e=>by rw [e];exact he
 have h6:x=0∨x=1∨x=2∨x=3∨x=4∨x=5:=by omega
 unfold Dc
 rcases h6 with rfl|rfl|rfl|rfl|rfl|rfl
 ·rw [if_pos (b 1 rfl)];rfl
 ·rw [if_neg (by rw [a 0 (by omega) 1 rfl];simp),if_pos (b 2 rfl)];rfl
 ·rw [if_neg (by rw [a 0 (by omega) 1 rfl];simp),if_neg (by rw [a 1 (by omega) 2 rfl];simp),if_pos (b 3 rfl)];rfl
 ·rw [if_neg (by rw [a 0 (by omega) 1 rfl];simp),if_neg (by rw [a 1 (by omega) 2 rfl];simp),if_neg (by rw [a 2 (by omega) 3 rfl];simp),if_pos (b 4 rfl)];rfl
 ·rw [if_neg (by rw [a 0 (by omega) 1 rfl];simp),if_neg (by rw [a 1 (by omega) 2 rfl];simp),if_neg (by rw [a 2 (by omega) 3 rfl];simp),if_neg (by rw [a 3 (by omega) 4 rfl];simp),if_pos (b 5 rfl)];rfl
 rw [if_neg (by rw [a 0 (by omega) 1 rfl];simp),if_neg (by rw [a 1 (by omega) 2 rfl];simp),if_neg (by rw [a 2 (by omega) 3 rfl];simp),if_neg (by rw [a 3 (by omega) 4 rfl];simp),if_neg (by rw [a 4 (by omega) 5 rfl];simp),if_pos (b 6 rfl)];rfl
theorem Yd {s:Str} {x:Nat} (h:∀j:Nat,j<x→(D5 ((j:Int)+1)==s)=false) (he:(D5 ((x:Int)+1)==s)=false):∀j:Nat,j<x+1→(D5 ((j:Int)+1)==s)=false:=fun j hj=>by
 rcases Nat.lt_or_ge j x with h1|h1
 ·exact h j h1
 rw [show j=x by omega];exact he
theorem kv {s:Str} {x:Nat} (h:∀j:Nat,j<x→(D5 ((j:Int)+1)==s)=false) (hx:6≤x):Dc s=0:=by
 have a:∀j:Nat,j<6→∀k:Int,k=(j:Int)+1→(D5 k==s)=false:=fun j hj k e=>by rw [e];exact h j (by omega)
 unfold Dc
 rw [if_neg (by rw [a 0 (by omega) 1 rfl];simp),if_neg (by rw [a 1 (by omega) 2 rfl];simp),if_neg (by rw [a 2 (by omega) 3 rfl];simp),if_neg (by rw [a 3 (by omega) 4 rfl];simp),if_neg (by rw [a 4 (by omega) 5 rfl];simp),if_neg (by rw [a 5 (by omega) 6 rfl];simp)]
theorem AE2 (s:Str) (Hp:List AObj):AFun Tryz.prog 101 [A9 s] Hp (A2 (Dc s)):=by
 refine ACall.body [.tmp 2] [0] Tryz.func101 Tryz.ntmps101 (fun d=>?_)
 refine Z47 ?_;refine Z36 ?_;refine Mc ?_
 refine AW.loopC (α:=Nat) (fun x=>⟨13,A3 0 (A9 s) (A3 3 (A2 ((x:Nat)+1)) (fun _=>.any)),Hp,[],[],none⟩) (fun x=>∀j:Nat,j<x→(D5 ((j:Int)+1)==s)=false) (fun x=>6-x) (0) (fun j h=>by omega) (StLe.refl _) rfl (fun x hx=>?_)
 refine Z31 ?_;refine R.fin [0,3,5] ?_
 refine W.cond (fun ht5=>?_) (fun ht5=>?_)
 ·have hx6:x<6:=by simp at ht5;omega
  refine Z86 ?_;refine Z2 ?_;refine R.call Tryz.call96 (c96 _ _) ?_;refine Z0 ?_;refine R.fin [0,3,11] ?_
  refine W.cond (fun ht11=>?_) (fun ht11=>?_)
  ·refine Z1 ?_;refine Z4 ?_;refine Z54 ?_;exact K.fin (V.one V.tmp) ⟨by rw [ku hx hx6 ht11],rfl⟩
  refine Z57 ?_;refine ge ?_
  refine K.lpN (x+1) (Yd hx ht11) (by omega) (StCut.of_eq rfl)
 have hx6:6≤x:=by simp at ht5;omega
 refine Z98 ?_;refine Z49 ?_;exact K.fin (V.one V.tmp) ⟨by rw [kv hx hx6],rfl⟩

theorem qv {L:List Tok} {Hp own:List AObj} {o i n:Nat} {x:AObj} (h1:o<Hp.length):U2 L (Hp++own) o (oid Hp.length n) i x=Hp.set o (pmO L i)++own.set n x:=by
 unfold U2 oid
 rw [List.set_append_left _ _ h1,List.set_append,if_neg (by simp),List.length_set,Nat.add_sub_cancel_left]
theorem Ye {L:List Tok} {Hp:List AObj} {o i j n:Nat} (h:∀z∈Hp.set o (pmO L i),ObjLow n z):∀z∈Hp.set o (pmO L j),ObjLow n z:=by
 intro z hz
 rw [show Hp.set o (pmO L j)=(Hp.set o (pmO L i)).set o (pmO L j) by rw [List.set_set]] at hz
 rcases List.mem_or_eq_of_mem_set hz with hz|rfl
 ·exact h z hz
 exact Az
theorem c75 (L:List Tok) (i o:Nat) (Hp:List AObj) (ho:Hp[o]? = some (pmO L i)) (hi:i<L.length) (hl:TokEnd L) (hll:L.length≤500000):CP 75 [.ptr o 0] Hp (Gp L i) (fun m j r H'=>r=E6 m∧H'=Hp.set o (pmO L j)) (W1 L o Hp):=by
 have hol:=(List.getElem?_eq_some_iff.1 ho).1
 have hne:oid Hp.length 2≠o:=by unfold oid;omega
 refine ACallP.body [.cell 2 77] [0] Tryz.func75 Tryz.ntmps75 (fun d=>?_)
 refine Z52 ?_;refine wl ?_;refine Wh ?_;refine Z1 ?_;refine R.call Tryz.call101 (AE2 (A7 L i).text _) ?_;refine R.build (places:=#[(0,1),(1,1),(2,1),(3,1),(4,1)]) jU (fun w=>by simp) jZ ?_;refine Z21 ?_;refine R.fin [0,2,3,4] ?_;refine Z66 ?_;refine R.nilCell 2 1 1 ?_;refine R.nilCell 2 2 2 ?_;refine R.nilCell 2 3 6 ?_;refine R.nilCell 2 4 6 ?_;refine Z73 ?_;refine V0 ?_;refine R.fin [0,2,4,18] ?_
 refine W.cond (fun ht18=>?_) (fun ht18=>?_)
 ·have e:Gp L i=.bad 8 (A7 L i).at_:=if_pos ht18
  refine AW.regionK ?_
  refine ARunK.one (R.go (ARun.nil ?_))
  refine wy ?_
  rintro x U O hU hl' ⟨rfl,hH⟩
  obtain ⟨rfl,rfl⟩:=H8 hU hH
  refine ⟨fun h=>h,fun o h=>(by cases h),?_⟩
  exact rr
 have e0:Gp L i=(Ey L (⟨Dc (A7 L i).text,[],[],[],[]⟩:Mov) (i+1)).bind fun m j=>(Bw L [59] j).bind fun _ j=>.ok m j:=if_neg (by rw [ht18];simp)
 have hi1:i+1<L.length:=hl.step hi (by simp only [Bool.or_eq_false_iff,bne_eq_false_iff_eq] at ht18;rw [ht18.1];decide)
 refine Mb ?_
 refine R.go (h:=Q.loadUp ho) (hr:=?_)
 refine Z29 ?_
 refine R.storeUp jS ho ?_ ?_
 ·simp
 refine R.fin [0,2,4] ?_
 rcases hR:Ey L (⟨Dc (A7 L i).text,[],[],[],[]⟩:Mov) (i+1) with ⟨m1,k⟩|⟨e,a⟩
 rotate_left
 ·refine AW.seqRK ?_
  refine ARunK.one (R.go (ARun.nil ?_))
  refine RK.callBad Tryz.call102 ((ABn L (⟨Dc (A7 L i).text,[],[],[],[]⟩:Mov) (i+1) o (oid Hp.length 2) (Hp.set o (pmO L (i+1))++[.cells 77 [A2 0,.nil,.nil,.nil,.nil],.cells 130 [.v (.int .i64 (A7 L i).kind),.v (sv (A7 L i).text),.v (.int .i64 ((A7 L i).at_:Int))],mvO (⟨Dc (A7 L i).text,[],[],[],[]⟩:Mov)]) hne (by rw [List.getElem?_append_left (by simpa using hol)];exact getset ho) (by unfold oid;rw [List.getElem?_append_right (by simp)];simp) hi1 hl hll ⟨Nat.zero_le _,Nat.zero_le _,Nat.zero_le _,Nat.zero_le _⟩ (by omega)).bad hR) ?_
  rintro x U O hU hl' ⟨rfl,j',m',hH⟩
  rw [show oid Hp.length 2=oid (Hp.set o (pmO L (i+1))).length 2 by simp,qv (by simpa using hol),List.set_set] at hH
  obtain ⟨rfl,rfl⟩:=H8 (by rw [hU];simp) hH
  refine ⟨fun h=>Ye h,fun o h=>(by cases h),?_⟩
  refine K.thP ?_;exact K.finPP ⟨_,_,by rw [e0];rw [hR];rfl,rfl,j',rfl⟩
 have hk:=Vn hl hll (⟨Dc (A7 L i).text,[],[],[],[]⟩:Mov) (i+1) ⟨Nat.zero_le _,Nat.zero_le _,Nat.zero_le _,Nat.zero_le _⟩ (by omega) hi1 _ _ hR
 refine Z2 ?_
 refine R.callX (up':=Hp.set o (pmO L k)) (own':=[.cells 77 [A2 0,.nil,.nil,.nil,.nil],.cells 130 [.v (.int .i64 (A7 L i).kind),.v (sv (A7 L i).text),.v (.int .i64 ((A7 L i).at_:Int))],mvO m1]) Tryz.call102 (((ABn L (⟨Dc (A7 L i).text,[],[],[],[]⟩:Mov) (i+1) o (oid Hp.length 2) (Hp.set o (pmO L (i+1))++[.cells 77 [A2 0,.nil,.nil,.nil,.nil],.cells 130 [.v (.int .i64 (A7 L i).kind),.v (sv (A7 L i).text),.v (.int .i64 ((A7 L i).at_:Int))],mvO (⟨Dc (A7 L i).text,[],[],[],[]⟩:Mov)]) hne (by rw [List.getElem?_append_left (by simpa using hol)];exact getset ho) (by unfold oid;rw [List.getElem?_append_right (by simp)];simp) hi1 hl hll ⟨Nat.zero_le _,Nat.zero_le _,Nat.zero_le _,Nat.zero_le _⟩ (by omega)).ok hR).mono (fun r H' e=>⟨e.1,e.2.trans (by rw [show oid Hp.length 2=oid (Hp.set o (pmO L (i+1))).length 2 by simp];rw [qv (by simpa using hol),List.set_set];rfl)⟩)) (by simp) (fun h=>by simpa using Ye h) ?_
 refine R.fin [0,2,4] ?_
 rcases hW:Bw L [59] k with ⟨u,j2⟩|⟨e,a⟩
 rotate_left
 ·refine AW.seqRK ?_
  refine ARunK.one (R.go (ARun.nil ?_))
  refine RK.callBad Tryz.call103 ((N1 L [59] k o _ (A6 (getset ho)) hk.2.1 hll).bad hW) ?_
  rintro x U O hU hl' ⟨rfl,j',hH⟩
  obtain ⟨rfl,rfl⟩:=B8 hU (List.getElem?_eq_some_iff.1 (getset (B:=pmO L k) ho)).1 hH
  refine ⟨fun h=>B9 h (fun n=>Az),fun o h=>(by cases h),?_⟩
  refine K.thP ?_;exact K.finPP ⟨_,_,by rw [e0];rw [hR];show (Bw L [59] k).bind _=_;rw [hW];rfl,rfl,j',by rw [List.set_set]⟩
 refine Z2 ?_;refine R.callUp (x:=pmO L j2) Tryz.call103 (getset ho) (by simp) Az ((N1 L [59] k o _ (A6 (getset ho)) hk.2.1 hll).ok hW) ?_
 rw [List.set_set]
 refine R.fin [2,4] ?_;refine Z2 ?_;refine Z11 ?_;exact K.finP (V.one (V.cellN jA jS)) (hp:=⟨m1,j2,by rw [e0];rw [hR];show (Bw L [59] k).bind _=_;rw [hW];rfl,rfl,rfl⟩) (hlow:=Xp)

/-- What mig.parser.moves comes to: the moves, or none and the fault. -/
def Kl (L:List Tok):List Mov×Int×Int:=match Ht L with
 | .ok l _=>(l,0,0)
 | .bad e a=>([],e,a)
abbrev Ob (L:List Tok):AV:=.tup [D8 (Kl L).1,.agg [A2 (Kl L).2.1,A2 (Kl L).2.2]]
theorem Yf {up:List AObj} {n:Nat} {x y z:AObj} (hn:up.length=n):(up++[x,y]).set (oid n 0) z=up++[z,y]:=by
 subst hn
 rw [show oid up.length 0=up.length+0 from rfl,Au];rfl
theorem qw {up:List AObj} {n:Nat} {x y z:AObj} (hn:up.length=n):(up++[x,y]).set (oid n 1) z=up++[x,z]:=by
 subst hn
 rw [show oid up.length 1=up.length+1 from rfl,Au];rfl
theorem Yg {up:List AObj} {n:Nat} {x y:AObj} (hn:up.length=n):(up++[x,y])[oid n 0]? = some x:=by
 subst hn
 rw [show oid up.length 0=up.length+0 from rfl,Cr];rfl
theorem qx {up:List AObj} {n:Nat} {x y:AObj} (hn:up.length=n):(up++[x,y])[oid n 1]? = some y:=by
 subst hn
 rw [show oid up.length 1=up.length+1 from rfl,Cr];rfl
theorem ux {fc:Func} {r0 crest:Code} (hf:Tryz.prog.funcs[72]? = some fc) (hb:fc.body=some (.seq r0 crest)) (d a b:Nat) (H:List AObj):AW Tryz.prog (d+1) crest ⟨8,A3 2 (.v .nilIface) (A3 3 (.v .nilIface) (Go.SX.argsF [.ptr a 0,.ptr b 0])),H,[],[],none⟩ (fun e s2=>(e=.normal∨e=.ret)∧s2.defs=[]∧s2.up=H):=by
 have e:=Tryz.func72.symm.trans hf
 injection e with e
 subst e
 injection hb with hb
 injection hb with h1 h2
 subst h2
 refine AW.keep [0,1,2] (by simp only [go_sem,↓reduceIte,Nat.reduceEqDiff,Nat.reduceAdd]<;>rfl) ?_
 refine Z2 ?_;refine R.neqNil0 jU ?_;refine R.fin [0,1,2,5] ?_
 refine W.cond (fun ht5=>?_) (fun ht5=>?_)
 ·cases ht5
 refine AW.skip ?_;exact ⟨.inl rfl,rfl,rfl⟩

theorem ef {fc:Func} {r0 crest:Code} (hf:Tryz.prog.funcs[72]? = some fc) (hb:fc.body=some (.seq r0 crest)) {n:Nat} {up:List AObj} {x0 y1 y2:AV} (e a:Int) (hn:up.length=n) (d:Nat):AW Tryz.prog (d+1) crest ⟨8,A3 2 (.iface 59 (.agg ([Value.int .i64 e,Value.int .i64 a].map .v))) (A3 3 (.iface 59 (.agg ([Value.int .i64 e,Value.int .i64 a].map .v))) (Go.SX.argsF [.ptr (oid n 0) 0,.ptr (oid n 1) 0])),(up++[.cells 35 [x0],.cells 59 [y1,y2]]),[],[],none⟩ (fun e' s2=>(e'=.normal∨e'=.ret)∧s2.defs=[]∧s2.up=up++[.cells 35 [.slice true 5 []],.cells 59 [A2 e,A2 a]]):=by
 have e':=Tryz.func72.symm.trans hf
 injection e' with e'
 subst e'
 injection hb with hb
 injection hb with h1 h2
 subst h2
 refine AW.keep [0,1,2] (by simp only [go_sem,↓reduceIte,Nat.reduceEqDiff,Nat.reduceAdd]<;>rfl) ?_
 refine Z2 ?_;refine R.neqNil jU ?_;refine R.fin [0,1,2,5] ?_
 refine W.cond (fun ht5=>?_) (fun ht5=>?_)
 ·refine W.drawY0 [0,1,0,7] [2] [.q 2 [] [],.s [] (some 0) [] []] (fun B=>if B 0=true then (up++[.cells 35 [.nil],.cells 59 [y1,y2]]) else (up++[.cells 35 [x0],.cells 59 [y1,y2]])) (fun _=>[]) Aa (by kernel_rfl) rfl rfl (fun B=>by split<;>simp) ?_
  apply Y.q
  case h1 =>
   intro B hT hF
   refine D.go ?_;refine D.typeAssert (.of jU) ?_;exact Lp
  case hTF=>decide
  refine Y.storeUp (o:=oid n 0) (t':=35) (ys:=[.nil]) (cs:=[x0]) (cs':=[.nil]) Tryz.sizeOf35 (fun B hB=>⟨by simp only [hB];exact Yg hn,by simp [upd,hB];exact (Yf hn).symm,rfl,by simp⟩) ?_
  refine Y.tail (tn:=[2]) (U:=(up++[.cells 35 [.nil],.cells 59 [y1,y2]])) ?_
  refine R.storeUp jS (qx hn) ?_ ?_
  ·simp
  rw [qw hn]
  refine R.nilUp (oid n 0) 0 5 (Yg hn) (Yf hn) ?_;refine R.fin [] ?_;exact ⟨.inl rfl,rfl,rfl⟩
 cases ht5

/-- Where the loop of moves stands. -/
structure MovAt (L:List Tok) (x:List Mov×Nat):Prop where
 lt:x.2<L.length
 le:x.1.length≤8
 at_:Ht L=E4 L (9-x.1.length) x.1 x.2
theorem eg {L:List Tok} (hl:TokEnd L) (hll:L.length≤500000) {i:Nat} (hi:i<L.length) {m:Mov} {j:Nat} (h:Gp L i=.ok m j):i<j∧j<L.length:=by
 unfold Gp at h
 split at h
 ·cases h
 rename_i h0
 have hi1:i+1<L.length:=hl.step hi (by
  simp only [Bool.or_eq_true,not_or,Bool.not_eq_true,bne_eq_false_iff_eq] at h0
  rw [h0.1];decide)
 obtain ⟨m1,k,h1,h2⟩:=PR.bind_ok h
 obtain ⟨u,j2,h3,h4⟩:=PR.bind_ok h2
 injection h4 with h5 h6
 subst h6
 obtain ⟨a1,a2,_⟩:=Vn hl hll _ (i+1) ⟨Nat.zero_le _,Nat.zero_le _,Nat.zero_le _,Nat.zero_le _⟩ (by omega) hi1 _ _ h1
 obtain ⟨b1,b2⟩:=D6 hl a2 _ _ h3
 exact ⟨by omega,b2⟩
theorem Km {L:List Tok} {l:List Mov} {i:Nat} (hl:l.length≤8):E4 L (9-l.length) l i=if (A7 L i).kind != 0 then (if (l.length:Int)==8 then U5 L i 3 else (Gp L i).bind fun m j=>E4 L (8-l.length) (l++[m]) j) else .ok l i:=by
 rw [show 9-l.length=(8-l.length)+1 by omega,E4]
theorem MovAt.out {L:List Tok} {x:List Mov×Nat} (h:MovAt L x) (hk:((A7 L x.2).kind != 0)=false):Ht L=.ok x.1 x.2:=by
 rw [h.at_,Km h.le,if_neg (by rw [hk];simp)]
theorem MovAt.long {L:List Tok} {x:List Mov×Nat} (h:MovAt L x) (hk:((A7 L x.2).kind != 0)=true) (h8:((x.1.length:Int)==8)=true):Ht L=.bad 3 (A7 L x.2).at_:=by
 rw [h.at_,Km h.le,if_pos hk,if_pos h8];rfl
theorem MovAt.step {L:List Tok} {x:List Mov×Nat} (h:MovAt L x) (hk:((A7 L x.2).kind != 0)=true) (h8:((x.1.length:Int)==8)=false):Ht L=(Gp L x.2).bind fun m j=>E4 L (8-x.1.length) (x.1++[m]) j:=by
 rw [h.at_,Km h.le,if_pos hk,if_neg (by rw [h8];simp)]
theorem MovAt.bad {L:List Tok} {x:List Mov×Nat} (h:MovAt L x) (hk:((A7 L x.2).kind != 0)=true) (h8:((x.1.length:Int)==8)=false) {e a:Int} (hM:Gp L x.2=.bad e a):Ht L=.bad e a:=by
 rw [h.step hk h8,hM];rfl
theorem MovAt.on {L:List Tok} (hl:TokEnd L) (hll:L.length≤500000) {x:List Mov×Nat} (h:MovAt L x) (hk:((A7 L x.2).kind != 0)=true) (h8:((x.1.length:Int)==8)=false) {m:Mov} {j:Nat} (hM:Gp L x.2=.ok m j):MovAt L (x.1++[m],j)∧x.2<j:=by
 obtain ⟨a1,a2⟩:=eg hl hll h.lt hM
 have h1:x.1.length≤7:=by
  have:=h.le
  simp only [beq_eq_false_iff_ne,ne_eq] at h8
  omega
 refine ⟨⟨a2,by show (x.1++[m]).length≤8;simp;omega,?_⟩,a1⟩
 rw [h.step hk h8,hM]
 show E4 L (8-x.1.length) (x.1++[m]) j=E4 L (9-(x.1++[m]).length) (x.1++[m]) j
 rw [show 9-(x.1++[m]).length=8-x.1.length by rw [List.length_append,List.length_singleton];omega]
theorem eh (e a:Int):∀v∈[Value.int .i64 e,Value.int .i64 a],(AV.v v).one=true:=by
 intro v hv
 simp only [List.mem_cons,List.not_mem_nil,or_false] at hv
 rcases hv with rfl|rfl<;>rfl
theorem kw {L:List Tok} {l:List Mov} {i:Nat} (h:Ht L=.ok l i):Ob L=.tup [D8 l,.agg [A2 0,A2 0]]:=by unfold Ob Kl;rw [h]
theorem S3 {L:List Tok} {e a:Int} (h:Ht L=.bad e a):Ob L=.tup [.slice false 5 [],.agg [A2 e,A2 a]]:=by unfold Ob Kl;rw [h];rfl
theorem uz {fn fc:Func} {x0 r1 y r0 crest:Code} (hf:Tryz.prog.funcs[51]? = some fn) (hb:fn.body=some (.seq x0 (.seq r1 y))) (hf2:Tryz.prog.funcs[72]? = some fc) (hb2:fc.body=some (.seq r0 crest)) (L:List Tok) (o:Nat) (Hp:List AObj) (ho:Hp[o]? = some (pmO L 0)) (hl:TokEnd L) (hll:L.length≤500000) (d:Nat):
  AW Tryz.prog (d+1) y ⟨21,A3 0 (.ptr o 0) (A3 2 (.ptr (oid Hp.length 0) 0) (A3 3 (.ptr (oid Hp.length 1) 0) (A3 4 (.fn (.func 72) [] [.ptr (oid Hp.length 0) 0,.ptr (oid Hp.length 1) 0]) fun _=>.any))),Hp,[.cells 35 [.nil],.cells 59 [A2 0,A2 0]],[],none⟩ (KG Tryz.prog crest 8 3 2 [.ptr (oid Hp.length 0) 0,.ptr (oid Hp.length 1) 0] [.cell 2 35,.cell 3 59] Hp.length (fun r H'=>r=Ob L∧∃i,H'=Hp.set o (pmO L i))):=by
 have e:=Tryz.func51.symm.trans hf
 injection e with e
 subst e
 injection hb with hb
 injection hb with h1 h2
 injection h2 with h2 h3
 subst h3
 refine AW.keep [0,2,3] (by simp only [go_sem,↓reduceIte,Nat.reduceEqDiff,Nat.reduceAdd]<;>rfl) ?_
 refine AW.upEq (Ej ho).symm ?_;refine W.seq ?_
 refine AW.loopC (α:=List Mov×Nat) (fun x=>⟨21,A3 0 (.ptr o 0) (A3 2 (.ptr (oid Hp.length 0) 0) (A3 3 (.ptr (oid Hp.length 1) 0) (fun _=>.any))),Hp.set o (pmO L x.2),[.cells 35 [.slice true 5 (x.1.map E6)],.cells 59 [A2 0,A2 0]],[],none⟩) (fun x=>MovAt L x) (fun x=>L.length-x.2) (([],0)) ⟨hl.pos,by decide,rfl⟩ (StLe.nilCell (own:=[.cells 35 [.nil],.cells 59 [A2 0,A2 0]]) (n:=0) (j0:=0) (k:=5) (t:=35) (cs:=[.nil]) rfl rfl) rfl (fun x hx=>?_)
 refine Z36 ?_;refine R.call Tryz.call73 (c73 L x.2 o _ (A6 (getset ho)) hx.lt) ?_;refine Z0 ?_;refine R.fin [0,2,3,8] ?_
 refine W.cond (fun ht8=>?_) (fun ht8=>?_)
 ·have hk:((A7 L x.2).kind != 0)=true:=ht8
  refine Z6 ?_;refine Gx ?_;refine Z30 ?_;refine R.fin [0,2,3,11] ?_
  refine W.cond (fun ht11=>?_) (fun ht11=>?_)
  ·have h8:((x.1.length:Int)==8)=true:=by rw [List.length_map] at ht11;exact ht11
   refine AW.regionK ?_
   refine ARunK.one (R.go (ARun.nil ?_))
   refine RK.callBad Tryz.call74 (c74 L x.2 o 3 _ (A6 (getset ho)) hx.lt) ?_
   rintro z U O hU hl' ⟨rfl,hH⟩
   obtain ⟨rfl,rfl⟩:=H8 hU hH
   refine ⟨fun h=>h,fun o h=>(by cases h),?_⟩
   refine Wk ?_;refine K.lpP ?_;refine K.thP ?_;exact KG.finP (vs:=[.int .i64 3,.int .i64 ((A7 L x.2).at_:Int)]) (eh _ _) (V.two (V.cell Tryz.isAgg35) (V.cellN Tryz.isAgg59 Tryz.sizeOf59)) (fun d=>ef hf2 hb2 3 ((A7 L x.2).at_:Int) (by simp) d) ⟨(S3 (hx.long hk h8)).symm,x.2,rfl⟩
  have h8:((x.1.length:Int)==8)=false:=by rw [List.length_map] at ht11;exact ht11
  refine Z6 ?_
  rcases hM:Gp L x.2 with ⟨m,j⟩|⟨e,a⟩
  rotate_left
  ·refine W.drawYP0 [2,3] [0,0,2,6,15,31] [2] [.q 2 [] [],.s [16] (some 0) [] [],.s [] none [0] [],.s [] none [0] [],.s [] none [0] []] (fun _=>Hp.set o (pmO L x.2)) (fun B=>[.cells 35 [.slice true 5 (x.1.map E6)],.cells 59 [A2 0,A2 0]]++bot (B 0)) Aa (by kernel_rfl) (by kernel_rfl) rfl rfl (fun _=>rfl) ?_
   apply Y.q
   case h1 =>
    intro B hT hF
    exact Z61
   case hTF=>decide
   refine Y.callBad (own0:=[.cells 35 [.slice true 5 (x.1.map E6)],.cells 59 [A2 0,A2 0]]) Tryz.call75 (fun B hB=>⟨rfl,by simp [bot,hB]⟩) ((c75 L x.2 o _ (A6 (getset ho)) hx.lt hl hll).bad hM) ?_ ?_
   ·rintro z U O f hU hl' ⟨rfl,j',hH⟩
    obtain ⟨rfl,rfl⟩:=B8 hU (List.getElem?_eq_some_iff.1 (getset (B:=pmO L x.2) ho)).1 hH
    refine ⟨fun h=>B9 h (fun n=>Az),fun o h=>(by cases h),?_⟩
    intro hts
    have h2:=hts 2 (by simp)
    have h3:=hts 3 (by simp)
    simp only [go_sem,↓reduceIte,Nat.reduceEqDiff,Nat.reduceAdd] at h2 h3
    refine K.blP ?_;refine K.lpP ?_;refine K.thP ?_;exact KG.finP (vs:=[.int .i64 e,.int .i64 a]) (eh _ _) (V.two (V.cell (n:=0) (off:=0) Tryz.isAgg35 (hp:=by rw [h2];simp only [List.length_set];rfl)) (V.cellN (n:=1) (off:=0) Tryz.isAgg59 Tryz.sizeOf59 (hp:=by rw [h3];simp only [List.length_set];rfl))) (fun d=>ef hf2 hb2 e a (by simp) d) ⟨(S3 (hx.bad hk h8 hM)).symm,j',List.set_set ..⟩
   exact s6
  have hon:=hx.on hl hll hk h8 hM
  refine W.drawY0 [0,0,2,6,15,31] [0,2] [.s [14] (some 0) [] [],.q 1 [] [1],.s [16] (some 1) [] [],.q 1 [1] []] (fun B=>Hp.set o (pmO L (if B 1=true then j else x.2))) (fun B=>if B 0=true then [.cells 35 [.slice false 5 (x.1.map E6)],.cells 59 [A2 0,A2 0]] else [.cells 35 [.slice true 5 (x.1.map E6)],.cells 59 [A2 0,A2 0]]) Aa (by kernel_rfl) rfl rfl (fun B=>by simp) ?_
  refine Y.loadOwnT (u:=Hp.length) (n:=0) (t':=35) (cs:=[.slice true 5 (x.1.map E6)]) (cs':=[.slice false 5 (x.1.map E6)]) Tryz.isAgg35 (fun B hB=>⟨by simp,by simp only [hB];rfl,by simp only [hB];rfl,rfl⟩) ?_
  apply Y.q
  case h1 =>
   intro B hT hF
   exact Z68
  case hTF=>decide
  refine Y.callUp (r:=E6 m) (o:=o) (x0:=pmO L x.2) (x:=pmO L j) Tryz.call75 (fun B hB1 hB2 hB=>⟨by simp only [hB];exact getset ho,by simp only [hB];exact (List.set_set ..).symm,rfl,Az,?_⟩) ?_
  ·simp only [hB]
   exact ((c75 L x.2 o _ (A6 (getset ho)) hx.lt hl hll).ok hM)
  apply Y.q
  case h1 =>
   intro B hT hF
   exact Z44
  case hTF=>decide
  refine Y.tail (tn:=[0,2]) (U:=Hp.set o (pmO L j)) (O:=[.cells 35 [.slice false 5 (x.1.map E6)],.cells 59 [A2 0,A2 0]]) ?_
  refine R.append jU Tryz.type77 ?_ ?_ ?_
  ·simp [Tryz.t77];have:=hx.le;omega
  ·simp [Tryz.t77];have:=hx.le;omega
  refine R.storeOwnT jS ?_;refine R.fin [0,2,3] ?_;refine K.blN ?_
  refine K.lpN (x.1++[m],j) hon.1 (by have:=hx.lt;have:=hon.2;show L.length-j<L.length-x.2;omega) (StCut.of_eq (by simp [List.map_append,show Tryz.t77.size=5 from rfl]))
 have hk:((A7 L x.2).kind != 0)=false:=ht8
 have e:=hx.out hk
 refine Z98 ?_;refine Z2 ?_;refine AA2 ?_;refine lz ?_;exact KG.fin .ret (V.two (V.cell Tryz.isAgg35) (V.cellN Tryz.isAgg59 Tryz.sizeOf59)) (fun d=>ux hf2 hb2 d _ _ _) ⟨(kw e).symm,x.2,rfl⟩ (hlow:=by simpa using (Eo (n:=Hp.length) (k:=5) (o:=false) (l:=x.1)))

theorem c51 (L:List Tok) (o:Nat) (Hp:List AObj) (ho:Hp[o]? = some (pmO L 0)) (hl:TokEnd L) (hll:L.length≤500000):ACall Tryz.prog 51 [.ptr o 0] Hp (fun r H'=>r=Ob L∧∃i,H'=Hp.set o (pmO L i)):=by
 refine ACall.guarded (n:=21) (nc:=8) (a:=3) (b:=2) (os:=[oid Hp.length 0,oid Hp.length 1]) (own0:=[.cells 35 [.nil],.cells 59 [A2 0,A2 0]]) (rs:=[.cell 2 35,.cell 3 59])
  (fr0:=A3 0 (.ptr o 0) (A3 2 (.ptr (oid Hp.length 0) 0) (A3 3 (.ptr (oid Hp.length 1) 0) fun _=>.any))) (fr1:=A3 0 (.ptr o 0) (A3 2 (.ptr (oid Hp.length 0) 0) (A3 3 (.ptr (oid Hp.length 1) 0) (A3 4 (.fn (.func 72) [] [.ptr (oid Hp.length 0) 0,.ptr (oid Hp.length 1) 0]) fun _=>.any))))
  Tryz.func51 rfl rfl Tryz.ntmps51 (by simp) Tryz.func72 rfl Tryz.ntmps72 rfl (by simp) (by decide) (by decide) Tryz.call72 (fun d=>?_) (fun d=>?_) rfl (fun d l=>?_)
 ·refine AW.keep [0] (by simp only [go_sem,↓reduceIte,Nat.reduceEqDiff,Nat.reduceAdd]<;>rfl) ?_
  refine AW.region ?_;refine L3 ?_;refine L3 ?_;refine R.fin [0,2,3] ?_;exact ⟨rfl,rfl⟩
 ·refine R.makeFunc ?_;refine R.fin [0,2,3,4] ?_
  rfl
 exact @uz { b:=ErrAt.b,bd:=d+1,bl:=l } _ _ _ _ _ _ _ Tryz.func51 rfl Tryz.func72 rfl L o Hp ho hl hll d
theorem ek {s:Str} (h:((Dg s).2.1 != 0)=true):My s=([],(Dg s).2.1,((Dg s).2.2:Int)):=if_pos h
theorem yr {s:Str} (h:((Dg s).2.1 != 0)=false):My s=Kl (Dg s).1:=by
 unfold My Kl
 rw [if_neg (by rw [h];simp)]
 cases Ht (Dg s).1<;>rfl
theorem c30 (s:Str) (hs:s.length≤1048576) (Hp:List AObj):AFun Tryz.prog 30 [A9 s] Hp (.tup [D8 (My s).1,.agg [A2 (My s).2.1,A2 (My s).2.2]]):=by
 refine ACall.body [.tmp 2,.cell 3 59] [0] Tryz.func30 Tryz.ntmps30 (fun d=>?_)
 refine Z2 ?_;refine L3 ?_;refine Mc ?_;refine Z2 ?_;refine R.call Tryz.call50 (c50 s hs _) ?_;refine Z29 ?_;refine Z92 ?_;refine R.fin [3,4,5] ?_;refine Z30 ?_;refine R.fin [3,4,5,13] ?_
 refine W.cond (fun ht13=>?_) (fun ht13=>?_)
 ·have e:=ek ht13
  refine W.drawQ [0,0,3] 2 Aa (by kernel_rfl) ?_;refine Z72 ?_;refine R.wk 2 (D8 []) (.nil false 5) ?_;refine lz ?_;refine K.thR ?_;exact K.fin (V.two V.tmp (V.cellN jA jS)) ⟨by rw [e]<;>rfl,rfl⟩
 have hz:(Dg s).2.1=0:=by simpa using ht13
 have hle:=cu hz
 have hlen:=de hz
 have e:=yr ht13
 refine Z99 ?_;refine V3 ?_;refine R.box ?_
 refine R.callEx (fun _=>Hp) (fun i=>[.cells 59 [A2 0,A2 0],.cells 59 [A2 (Dg s).2.1,A2 ((Dg s).2.2:Nat)],pmO (Dg s).1 i]) Tryz.call51 ((c51 (Dg s).1 (oid Hp.length 2) _ (by rw [Ar];rfl) hle (by omega)).mono (fun r H' ⟨e,i,h⟩=>⟨e,i,h.trans (by rw [Ee];rfl)⟩)) (fun _=>rfl) (fun _ h=>h) (fun i=>?_)
 refine Z29 ?_;refine lz ?_;exact K.fin (V.two V.tmp (V.cellN jA jS)) ⟨by rw [e],rfl⟩ (hlow:=by simpa using (Eo (n:=Hp.length) (k:=5) (o:=false) (l:=(Kl (Dg s).1).1)))

end Go.SX.Nb
namespace Go.SX
variable [GI:GlobInv]
open Classical Go.RowKit
section
variable {P:Program} {g:FuncId} {Hp:List AObj}
end
end Go.SX
