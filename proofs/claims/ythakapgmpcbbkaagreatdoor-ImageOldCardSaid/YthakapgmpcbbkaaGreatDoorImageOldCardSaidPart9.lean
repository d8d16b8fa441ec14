/- Texts on the way to this: ImageOld answers true for whatever it is handed: of any row over the columns behind that has an old row: that one comes forth as it, and again as itself by every further go (up to 50 columns and values, 12 moves). (part 9) -/
import Derived.Below
import Derived.Test.YthakapgmpcbbkaaGreatDoorImageOldCardSaidPart8
set_option linter.all false
namespace Go.SX.Nb
open Go Go.SX Go.Proofs
variable [ErrAt]
set_option maxRecDepth 4000
abbrev pmO (L:List Tok) (i:Nat):AObj:=.cells 99 [ap L,A2 (i:Int)]
abbrev mvC (m:Mov):List AV:=[A2 m.kind,.slice true 1 (m.take.map A9),.slice true 2 (m.give.map Av),.slice true 6 (m.ahead.map A5),.slice true 6 (m.back.map A5)]
abbrev mvO (m:Mov):AObj:=.cells 77 (mvC m)
abbrev Zv (e a:Int):Value:=.iface 59 (.agg [Value.int .i64 e,Value.int .i64 a].toArray)
abbrev Kt:AV:=.v (.tuple #[])
theorem Au {n:Nat} {L:List Tok} {i:Nat}:ObjLow n (pmO L i):=by
 show ∀y∈[AV.slice false 3 (L.map Gp),A2 (i:Int)],Low n y
 intro y hy
 simp only [List.mem_cons,List.not_mem_nil,or_false] at hy
 rcases hy with rfl|rfl
 ·simp [or_imp,forall_and]
 simp
/-- A contract of the parser: it comes to what the model comes to, or the model's fault is Eo. -/
def CP (g:FuncId) (args:List AV) (H:List AObj) {α:Type} (X:PR α) (Q:α→Nat→AV→List AObj→Prop) (R:List AObj→Prop):Prop:=
 ACallP Tryz.prog g args H (fun r H'=>∃c j,X=.ok c j∧Q c j r H') (fun v H'=>∃e a,X=.bad e a∧v=Zv e a∧R H')
theorem CP.ok {g:FuncId} {args:List AV} {H:List AObj} {α:Type} {X:PR α} {Q:α→Nat→AV→List AObj→Prop} {R:List AObj→Prop} {c:α} {j:Nat} (h:CP g args H X Q R) (hX:X=.ok c j):ACall Tryz.prog g args H (fun r H'=>Q c j r H'):=
 ACall.ofP (h.mono (fun r H' ⟨c',j',e,hq⟩=>by rw [hX] at e;injection e with e1 e2;subst e1;subst e2;exact hq) (fun v H' ⟨e,a,he,_⟩=>by rw [hX] at he;cases he))
theorem CP.bad {g:FuncId} {args:List AV} {H:List AObj} {α:Type} {X:PR α} {Q:α→Nat→AV→List AObj→Prop} {R:List AObj→Prop} {e a:Int} (h:CP g args H X Q R) (hX:X=.bad e a):ACallP Tryz.prog g args H (fun _ _=>False) (fun v H'=>v=Zv e a∧R H'):=
 h.mono (fun r H' ⟨c',j',he,hq⟩=>by rw [hX] at he;cases he) (fun v H' ⟨e',a',he,hv,hR⟩=>by rw [hX] at he;injection he with e1 e2;subst e1;subst e2;exact ⟨hv,hR⟩)
/-- The parser's object alone has turned. -/
def W1 (L:List Tok) (o:Nat) (Hp H':List AObj):Prop:=∃j,H'=Hp.set o (pmO L j)
theorem W1.refl {L:List Tok} {o i:Nat} {Hp:List AObj} (ho:Hp[o]? = some (pmO L i)):W1 L o Hp Hp:=⟨i,(E8 ho).symm⟩
theorem c73 (L:List Tok) (i o:Nat) (Hp:List AObj) (ho:Hp[o]? = some (pmO L i)) (hi:i<L.length):AFun Tryz.prog 73 [.ptr o 0] Hp (Gp (A7 L i)):=by
 refine ACall.body [.cell 2 130] [0] Tryz.func73 Tryz.ntmps73 (fun d=>?_)
 refine xl ?_;refine Z37 ?_
 refine D.go (h:=Q.loadUp ho) (hr:=?_)
 refine Z37 ?_
 refine D.go (h:=Q.loadUp ho) (hr:=?_)
 refine D.tail ?_
 refine R.go (h:=Q.indexAddr (i) (Gp (A7 L i)) (fun _=>Mz hi)) (hr:=?_)
 refine R.go ?_;exact ub

theorem c74 (L:List Tok) (i o:Nat) (e:Int) (Hp:List AObj) (ho:Hp[o]? = some (pmO L i)) (hi:i<L.length):ACallP Tryz.prog 74 [.ptr o 0,A2 e] Hp (fun _ _=>False) (fun v H'=>v=Zv e (A7 L i).at_∧H'=Hp):=by
 refine ACallP.body [] [0,1] Tryz.func74 Tryz.ntmps74 (fun d=>?_)
 refine W.drawY0 [0,0,2,6,14,0,32,96,224,510,1022,2046,4095,8191,16383] [14] [.q 14 [] [],.s [] (some 0) [] []] (fun _=>Hp) (fun B=>[]++bot (B 0)) Aa (by kernel_rfl) rfl rfl (fun _=>rfl) ?_
 apply Y.q
 case h1 =>
  intro B hT hF
  refine Ol ?_
  refine D.go (h:=Q.loadUp ho) (hr:=?_)
  refine Z37 ?_
  refine D.go (h:=Q.loadUp ho) (hr:=?_)
  refine D.go (h:=Q.indexAddr (i) (Gp (A7 L i)) (fun _=>Mz hi)) (hr:=?_)
  refine Z11 ?_;refine D.build (places:=#[(0,1),(1,1)]) jU (fun w=>by simp) jZ ?_;refine D.makeIface (.of jU) ?_;exact L0
 case hTF=>decide
 refine Y.panic (vs:=[.int .i64 e,.int .i64 ((A7 L i).at_:Int)]) (fun B hB f=>?_) ?_
 ·exact K.finPP ⟨rfl,rfl⟩
 exact pu

theorem zq (L:List Tok) (s:Str) (i o:Nat) (Hp:List AObj) (ho:Hp[o]? = some (pmO L i)) (hi:i<L.length):AFun Tryz.prog 144 [.ptr o 0,A9 s] Hp (Ar (isP L s i)):=by
 refine ACall.body [.tmp 4] [0,1] Tryz.func144 Tryz.ntmps144 (fun d=>?_)
 refine Z51 ?_;refine uc ?_;refine Z20 ?_;refine R.fin [1,5] ?_;refine Z30 ?_;refine Z62 ?_;refine Z94 ?_;exact pm

theorem Mh (L:List Tok) (s:Str) (i o:Nat) (Hp:List AObj) (ho:Hp[o]? = some (pmO L i)) (hi:i<L.length) (hll:L.length≤500000):CP 103 [.ptr o 0,A9 s] Hp (Bp L s i) (fun _ j r H'=>r=Kt∧H'=Hp.set o (pmO L j)) (W1 L o Hp):=by
 refine ACallP.body [] [0,1] Tryz.func103 Tryz.ntmps103 (fun d=>?_)
 refine Z22 ?_;refine R.call Tryz.call144 (zq L s i o _ (A6 ho) hi) ?_;refine R.go ?_;refine R.fin [0,7] ?_
 refine W.cond (fun ht7=>?_) (fun ht7=>?_)
 ·have hq:isP L s i=false:=by simpa using ht7
  have e:Bp L s i=.bad 8 (A7 L i).at_:=if_neg (by rw [hq];simp)
  refine AW.regionK ?_
  refine ARunK.one (R.go (ARun.nil ?_))
  refine ul ?_
  rintro x U O hU hl' ⟨rfl,hH⟩
  obtain ⟨rfl,rfl⟩:=Gw hU hH
  refine ⟨fun h=>h,fun o h=>(by cases h),?_⟩
  exact p8
 have hq:isP L s i=true:=by simpa using ht7
 have e:Bp L s i=.ok () (i+1):=if_pos hq
 refine Z6 ?_;refine Z59 ?_
 refine R.go (h:=Q.loadUp ho) (hr:=?_)
 refine Z19 ?_
 refine R.storeUp jS ho ?_ ?_
 ·simp
 refine R.fin [] ?_;exact K.finPN .nores (hp:=⟨(),i+1,e,rfl,rfl⟩)

theorem Om (L:List Tok) (i o:Nat) (Hp:List AObj) (ho:Hp[o]? = some (pmO L i)) (hi:i<L.length) (hll:L.length≤500000):CP 138 [.ptr o 0] Hp (Ed L i) (fun s j r H'=>r=A9 s∧H'=Hp.set o (pmO L j)) (W1 L o Hp):=by
 refine ACallP.body [.tmp 2] [0] Tryz.func138 Tryz.ntmps138 (fun d=>?_)
 refine Z48 ?_;refine uc ?_;refine Z20 ?_;refine Ij ?_;refine Z31 ?_;refine R.fin [0,3,8] ?_
 refine W.cond (fun ht8=>?_) (fun ht8=>?_)
 ·have e:Ed L i=.bad 8 (A7 L i).at_:=if_pos ht8
  refine AW.regionK ?_
  refine ARunK.one (R.go (ARun.nil ?_))
  refine ul ?_
  rintro x U O hU hl' ⟨rfl,hH⟩
  obtain ⟨rfl,rfl⟩:=Gw hU hH
  refine ⟨fun h=>h,fun o h=>(by cases h),?_⟩
  exact p8
 have e:Ed L i=.ok (A7 L i).text (i+1):=if_neg (by rw [ht8];simp)
 refine Lq ?_
 refine R.go (h:=Q.loadUp ho) (hr:=?_)
 refine Z19 ?_
 refine R.storeUp jS ho ?_ ?_
 ·simp
 refine R.fin [3] ?_;refine Z13 ?_;refine Z4 ?_;exact K.finP (V.one V.tmp) (hp:=⟨_,i+1,e,rfl,rfl⟩)

theorem getset {Hp:List AObj} {o:Nat} {A B:AObj} (h:Hp[o]? = some A):(Hp.set o B)[o]? = some B:=by
 have:=(List.getElem?_eq_some_iff.1 h).1
 simp [this]
theorem W1.set {L:List Tok} {o i:Nat} {Hp:List AObj}:W1 L o Hp (Hp.set o (pmO L i)):=⟨i,rfl⟩
theorem B2 {l:List AObj} {i:Nat} {x:AObj} (h:∀y∈l,ObjLow (l.set i x).length y) (hx:∀n,ObjLow n x):∀y∈l.set i x,ObjLow (l.set i x).length y:=Do h (hx _)
theorem c168 (L:List Tok) (i o:Nat) (Hp:List AObj) (ho:Hp[o]? = some (pmO L i)) (hi:i<L.length) (hl:TokEnd L) (hll:L.length≤500000):CP 168 [.ptr o 0] Hp (Fu L i) (fun c j r H'=>r=Av c∧H'=Hp.set o (pmO L j)) (W1 L o Hp):=by
 refine ACallP.body [.cell 2 48] [0] Tryz.func168 Tryz.ntmps168 (fun d=>?_)
 refine Z52 ?_
 rcases hN:Ed L i with ⟨s,j⟩|⟨e,a⟩
 rotate_left
 ·refine AW.seqRK ?_
  refine ARunK.one (R.go (ARun.nil ?_))
  refine RK.callBad Tryz.call138 ((Om L i o _ (A6 ho) hi hll).bad hN) ?_
  rintro x U O hU hl' ⟨rfl,j',hH⟩
  obtain ⟨rfl,rfl⟩:=B1 hU (List.getElem?_eq_some_iff.1 ho).1 hH
  refine ⟨fun h=>B2 h (fun n=>Au),fun o h=>(by cases h),?_⟩
  refine K.thP ?_;exact K.finPP ⟨_,_,by unfold Fu;rw [hN];rfl,rfl,j',rfl⟩
 have hj:j<L.length:=(E5 hl hi _ _ hN).2
 have e0:Fu L i=X8 L s j:=by unfold Fu;rw [hN];rfl
 refine Z2 ?_;refine R.callUp (x:=pmO L j) Tryz.call138 ho (by simp) Au ((Om L i o _ (A6 ho) hi hll).ok hN) ?_;refine U1 ?_;refine Vd ?_;refine Z2 ?_;refine R.call Tryz.call73 (c73 L j o _ (A6 (getset ho)) hj) ?_;refine Z20 ?_;refine R.fin [0,2,3,4] ?_;refine Z22 ?_;refine R.call Tryz.call190 (AAn (A7 L j).text _) ?_;refine R.go ?_;refine Fc ?_;refine R.fin [0,2,3,4] ?_;refine Z30 ?_;refine Z62 ?_;refine R.go ?_;refine R.fin [0,2,3,21] ?_
 refine W.cond (fun ht21=>?_) (fun ht21=>?_)
 ·have e:Fu L i=.bad 8 (A7 L j).at_:=by rw [e0];exact if_pos ht21
  refine AW.regionK ?_
  refine ARunK.one (R.go (ARun.nil ?_))
  refine RK.callBad Tryz.call74 (c74 L j o 8 _ (A6 (getset ho)) hj) ?_
  rintro x U O hU hl' ⟨rfl,hH⟩
  obtain ⟨rfl,rfl⟩:=Gw hU hH
  refine ⟨fun h=>h,fun o h=>(by cases h),?_⟩
  refine K.thP ?_;exact K.finPP ⟨_,_,e,rfl,W1.set⟩
 have e:Fu L i=.ok ⟨s,I4 (A7 L j).text⟩ (j+1):=by rw [e0];exact if_neg (by rw [ht21];simp)
 refine Lq ?_
 refine R.go (h:=Q.loadUp (getset ho)) (hr:=?_)
 refine Z19 ?_
 refine R.storeUp jS (getset ho) ?_ ?_
 ·simp
 refine H7 ?_;refine Z2 ?_;refine Z10 ?_;exact K.finP (V.one (V.cellN jA jS)) (hp:=⟨_,j+1,e,rfl,by rw [List.set_set];rfl⟩)

theorem nr (L:List Tok) (i o:Nat) (Hp:List AObj) (ho:Hp[o]? = some (pmO L i)) (hi:i<L.length) (hl:TokEnd L) (hll:L.length≤500000):CP 169 [.ptr o 0] Hp (Hn L i) (fun c j r H'=>r=A5 c∧H'=Hp.set o (pmO L j)) (W1 L o Hp):=by
 refine ACallP.body [.cell 2 103] [0] Tryz.func169 Tryz.ntmps169 (fun d=>?_)
 refine Z52 ?_;refine W.drawY [0,1,3,7,0,16,48,112,255,511,1023,1023,1023,0,0,26623,61439,131071] [] [.q 13 [] [],.s [3] none [] [],.s [5] none [] [],.s [3] none [] [],.q 1 [] [],.s [5] none [] []] (fun _=>Hp) (fun _=>[.cells 103 [A2 0,A9 [],A2 0,A2 0,A9 [],.nil]]) Aa (by kernel_rfl) rfl rfl (fun _=>rfl) ?_
 apply Y.q
 case h1 =>
  intro B hT hF
  refine Z37 ?_
  refine D.go (h:=Q.loadUp ho) (hr:=?_)
  refine Z37 ?_
  refine D.go (h:=Q.loadUp ho) (hr:=?_)
  refine D.call Tryz.call191 (AB3 L i hi hl hll (fun n Dv h1 h2=>gr hl (by omega) n Dv h1 h2) _) ?_;exact jn
 case hTF=>decide
 refine Y.allocP Tryz.zeroValue103 ?_;refine Y.allocP Tryz.zeroValue59 ?_;refine Y.storeP Tryz.sizeOf103 ?_
 apply Y.q
 case h1 =>
  intro B hT hF
  exact Z66
 case hTF=>decide
 refine Y.storeP Tryz.sizeOf59 ?_;refine Y.tail (tn:=[])  ?_;refine R.fin [0,2,3,4,5] ?_;refine Z31 ?_;refine R.fin [0,2,3,4,5,21] ?_
 refine W.cond (fun ht21=>?_) (fun ht21=>?_)
 ·have e:Hn L i=.bad (atM L i).2.2.1 (atM L i).2.2.2:=if_pos ht21
  refine AW.regionK ?_
  refine ARunK.one (R.go (ARun.nil ?_))
  refine ARunK.one (R.makeIface (.of Tryz.underlying59) (ARun.nil ?_))
  refine RK.panic (vs:=[.int .i64 (atM L i).2.2.1,.int .i64 (atM L i).2.2.2]) ?_;exact p8
 obtain ⟨k,hk,hkl⟩:=r6 hl (by omega) hi (by simpa using ht21)
 have e:Hn L i=.ok (atM L i).1 k:=(if_neg (by rw [ht21];simp)).trans (by rw [hk];rfl)
 rw [hk]
 refine Z6 ?_;refine Z30 ?_
 refine R.storeUp jS ho ?_ ?_
 ·simp
 refine H7 ?_;refine Z2 ?_;refine Z10 ?_;exact K.finP (V.one (V.cellN jA jS)) (hp:=⟨_,k,e,(Ab _).symm,rfl⟩) (hlow:=by have:=Ad Hp.length (atM L i).1;rw [Ab] at this;exact this)

/-- The parser's object and the move's, turned. -/
def U2 (L:List Tok) (Hp:List AObj) (o om i:Nat) (x:AObj):List AObj:=(Hp.set o (pmO L i)).set om x
theorem U2_len {L:List Tok} {Hp:List AObj} {o om i:Nat} {x:AObj}:(U2 L Hp o om i x).length=Hp.length:=by simp [U2]
theorem Ca {L:List Tok} {Hp:List AObj} {o om i:Nat} {x z:AObj} (hm:Hp[om]? = some z):(U2 L Hp o om i x)[om]? = some x:=gB hm
theorem B3 {L:List Tok} {Hp:List AObj} {o om i:Nat} {x z:AObj} (ho:Hp[o]? = some z) (hne:om≠o):(U2 L Hp o om i x)[o]? = some (pmO L i):=gA ho hne
theorem Bn {L:List Tok} {Hp:List AObj} {o om i j:Nat} {x:AObj} (hne:om≠o):(U2 L Hp o om i x).set o (pmO L j)=U2 L Hp o om j x:=nb hne
theorem U2_setm {L:List Tok} {Hp:List AObj} {o om i:Nat} {x y:AObj}:(U2 L Hp o om i x).set om y=U2 L Hp o om i y:=List.set_set ..
theorem Mi {L:List Tok} {Hp:List AObj} {o om i:Nat} {x:AObj} (ho:Hp[o]? = some (pmO L i)) (hm:Hp[om]? = some x):U2 L Hp o om i x=Hp:=by unfold U2;rw [E8 ho,E8 hm]
theorem Zw {L:List Tok} {Hp:List AObj} {o om i:Nat} {x:AObj} (hne:om≠o) (hm:Hp[om]? = some x):Hp.set o (pmO L i)=U2 L Hp o om i x:=(E8 (by rw [List.getElem?_set_ne (Ne.symm hne)];exact hm)).symm
theorem E0 {L:List Tok} {Hp:List AObj} {o om i q:Nat} {x:AObj} (h1:q≠o) (h2:q≠om):(U2 L Hp o om i x)[q]? = Hp[q]? := by unfold U2;rw [List.getElem?_set_ne (Ne.symm h2),List.getElem?_set_ne (Ne.symm h1)]
def W2 (L:List Tok) (o om:Nat) (Hp H':List AObj):Prop:=∃j m,H'=U2 L Hp o om j (mvO m)
theorem Li {n k:Nat} {o:Bool} {l:List Expr} {x:Expr}:Low n (.slice o k (l.map A5++[.agg (Dt x)])):=by
 rw [show AV.agg (Dt x)=A5 x from (Ab x).symm];exact Zl
theorem Bj {n:Nat} {m:Mov}:ObjLow n (mvO m):=by
 show ∀y∈mvC m,Low n y
 intro y hy
 simp only [mvC,List.mem_cons,List.not_mem_nil,or_false] at hy
 rcases hy with rfl|rfl|rfl|rfl|rfl
 all_goals first|exact Da|simp [or_imp,forall_and]
theorem i6 {L:List Tok} {Hp:List AObj} {o om i:Nat} {m:Mov} {c:Col} {x:AObj}:(U2 L Hp o om i x).set om (.cells 77 [A2 m.kind,.slice true 1 (m.take.map A9),.slice true 2 (m.give.map Av++[Av c]),.slice true 6 (m.ahead.map A5),.slice true 6 (m.back.map A5)])=U2 L Hp o om i (mvO (Bu m c)):=by
 rw [U2_setm];simp only [mvO,mvC,Bu,List.map_append,List.map_cons,List.map_nil]
theorem i7 {L:List Tok} {Hp:List AObj} {o om i:Nat} {m:Mov} {e:Expr} {x:AObj}:(U2 L Hp o om i x).set om (.cells 77 [A2 m.kind,.slice true 1 (m.take.map A9),.slice true 2 (m.give.map Av),.slice true 6 (m.ahead.map A5++[.agg (Dt e)]),.slice true 6 (m.back.map A5)])=U2 L Hp o om i (mvO (T8 m e)):=by
 rw [U2_setm,show AV.agg (Dt e)=A5 e from (Ab e).symm];simp only [mvO,mvC,T8,List.map_append,List.map_cons,List.map_nil]
theorem i8 {L:List Tok} {Hp:List AObj} {o om i:Nat} {m:Mov} {e:Expr} {x:AObj}:(U2 L Hp o om i x).set om (.cells 77 [A2 m.kind,.slice true 1 (m.take.map A9),.slice true 2 (m.give.map Av),.slice true 6 (m.ahead.map A5),.slice true 6 (m.back.map A5++[.agg (Dt e)])])=U2 L Hp o om i (mvO (cb m e)):=by
 rw [U2_setm,show AV.agg (Dt e)=A5 e from (Ab e).symm];simp only [mvO,mvC,cb,List.map_append,List.map_cons,List.map_nil]
theorem ib {L:List Tok} {Hp:List AObj} {o om i:Nat} {m:Mov} {s:Str} {x:AObj}:(U2 L Hp o om i x).set om (.cells 77 [A2 m.kind,.slice true 1 (m.take.map A9++[A9 s]),.slice true 2 (m.give.map Av),.slice true 6 (m.ahead.map A5),.slice true 6 (m.back.map A5)])=U2 L Hp o om i (mvO (cd m s)):=by
 rw [U2_setm];simp only [mvO,mvC,cd,List.map_append,List.map_cons,List.map_nil]

theorem Zx (L:List Tok) (m:Mov) (i o om:Nat) (Hp:List AObj) (hne:om≠o) (ho:Hp[o]? = some (pmO L i)) (hm:Hp[om]? = some (mvO m)) (hi:i<L.length) (hl:TokEnd L) (hll:L.length≤500000) (hb:MvLe m (2*i-1)):CP 137 [.ptr o 0,.ptr om 0] Hp (Cy L m i) (fun m' j r H'=>r=Kt∧H'=U2 L Hp o om j (mvO m')) (W2 L o om Hp):=by
 have:=hb.take;have:=hb.give;have:=hb.ahead;have:=hb.back
 refine ACallP.body [] [0,1] Tryz.func137 Tryz.ntmps137 (fun d=>?_)
 rcases hC:Fu L i with ⟨c,j⟩|⟨e,a⟩
 rotate_left
 ·refine W.drawY [0,0,2,6,14,0,32,96,254,511,1023,2047] [6] [.q 6 [] [],.s [10] (some 0) [] [],.s [] none [0] [],.s [] none [0] [],.s [] none [0] [],.s [] none [0] [],.s [] none [0] []] (fun _=>Hp) (fun B=>[]++bot (B 0)) Aa (by kernel_rfl) rfl rfl (fun _=>rfl) ?_
  apply Y.q
  case h1 =>
   intro B hT hF
   refine Ol ?_
   refine D.go (h:=Q.loadUp hm) (hr:=?_)
   exact Z66
  case hTF=>decide
  refine Y.callBad (own0:=[]) Tryz.call168 (fun B hB=>⟨rfl,by simp [bot,hB]⟩) ((c168 L i o _ (A6 ho) hi hl hll).bad hC) ?_ ?_
  ·rintro x U O f hU hl' ⟨rfl,j',hH⟩
   obtain ⟨rfl,rfl⟩:=B1 hU (List.getElem?_eq_some_iff.1 ho).1 hH
   refine ⟨fun h=>B2 h (fun n=>Au),fun o h=>(by cases h),?_⟩
   exact K.finPP ⟨_,_,by unfold Cy;rw [hC];rfl,rfl,j',m,Zw hne hm⟩
  refine Z17 ?_;exact pi
 have hj:=Nn hl hi _ _ hC
 refine W.drawY [0,0,2,6,14,0,32,96,254,511,1023,2047] [4,6] [.q 4 [] [],.s [8] (some 0) [] [],.q 1 [] [1],.s [10] (some 1) [] [],.q 1 [1] [],.s [8,12] none [0,1] []] (fun B=>U2 L Hp o om (if B 1=true then j else i) (if B 0=true then .cells 77 [A2 m.kind,.slice true 1 (m.take.map A9),.slice false 2 (m.give.map Av),.slice true 6 (m.ahead.map A5),.slice true 6 (m.back.map A5)] else .cells 77 [A2 m.kind,.slice true 1 (m.take.map A9),.slice true 2 (m.give.map Av),.slice true 6 (m.ahead.map A5),.slice true 6 (m.back.map A5)])) (fun _=>[]) Aa (by kernel_rfl) (Mi ho hm) rfl (fun B=>U2_len) ?_
 apply Y.q
 case h1 =>
  intro B hT hF
  exact jn
 case hTF=>decide
 refine Y.loadUpT (o:=om) (t':=77) (cs:=[A2 m.kind,.slice true 1 (m.take.map A9),.slice true 2 (m.give.map Av),.slice true 6 (m.ahead.map A5),.slice true 6 (m.back.map A5)]) (cs':=[A2 m.kind,.slice true 1 (m.take.map A9),.slice false 2 (m.give.map Av),.slice true 6 (m.ahead.map A5),.slice true 6 (m.back.map A5)]) Tryz.isAgg22 (fun B hB=>⟨by simp only [hB];exact Ca hm,U2_setm.symm,rfl⟩) ?_
 apply Y.q
 case h1 =>
  intro B hT hF
  exact Z66
 case hTF=>decide
 refine Y.callUp (r:=Av c) (o:=o) (x0:=pmO L i) (x:=pmO L j) Tryz.call168 (fun B hB1 hB2 hB=>⟨by simp only [hB];exact B3 ho hne,(Bn hne).symm,rfl,Au,?_⟩) ?_
 ·simp only [hB]
  exact (c168 L i o _ (A6 (B3 ho hne)) hi hl hll).ok hC
 apply Y.q
 case h1 =>
  intro B hT hF
  exact Z45
 case hTF=>decide
 refine Y.append jU Tryz.type48 ?_ ?_ ?_
 ·simp [Tryz.t48];omega
 ·simp [Tryz.t48];omega
 refine Y.tail (tn:=[4,6]) (U:=U2 L Hp o om j (.cells 77 [A2 m.kind,.slice true 1 (m.take.map A9),.slice false 2 (m.give.map Av),.slice true 6 (m.ahead.map A5),.slice true 6 (m.back.map A5)])) ?_;refine Z0 ?_
 refine R.storeUpT jS (Ca hm) ?_ ?_
 ·simp [or_imp,forall_and]
 refine R.fin [0,1] ?_;refine AW.upEq (i6 (m:=m) (c:=c)) ?_
 rcases hW:Bp L [61] j with ⟨u,j2⟩|⟨e,a⟩
 rotate_left
 ·refine AW.seqRK ?_
  refine ARunK.one (R.go (ARun.nil ?_))
  refine RK.callBad Tryz.call103 ((Mh L [61] j o _ (A6 (B3 ho hne)) hj.2 hll).bad hW) ?_
  rintro x U O hU hl' ⟨rfl,j',hH⟩
  obtain ⟨rfl,rfl⟩:=B1 hU (List.getElem?_eq_some_iff.1 (B3 (L:=L) (i:=j) (x:=mvO (Bu m c)) ho hne)).1 hH
  refine ⟨fun h=>B2 h (fun n=>Au),fun o h=>(by cases h),?_⟩
  refine K.thP ?_;exact K.finPP ⟨_,_,by unfold Cy;rw [hC];show (Bp L [61] j).bind _=_;rw [hW];rfl,rfl,j',Bu m c,Bn hne⟩
 have hj2:=Cw hl hj.2 _ _ hW
 refine Z2 ?_;refine R.callUp (x:=pmO L j2) Tryz.call103 (B3 ho hne) (by simp) Au ((Mh L [61] j o _ (A6 (B3 ho hne)) hj.2 hll).ok hW) ?_
 rw [Bn hne]
 refine R.fin [0,1] ?_
 rcases hT:Hn L j2 with ⟨x,k⟩|⟨e,a⟩
 rotate_left
 ·refine W.drawY0 [0,1,3,7,0,16,15,0,255,511,1023,511,2559,6655] [5] [.q 5 [] [],.s [22] (some 0) [] [],.q 2 [] [],.s [] none [0] [],.s [] none [0] [],.s [] none [0] [],.s [] none [0] [],.s [] none [0] [],.s [] none [0] []] (fun _=>U2 L Hp o om j2 (mvO (Bu m c))) (fun B=>[]++bot (B 0)) Aa (by kernel_rfl) rfl rfl (fun _=>rfl) ?_
  apply Y.q
  case h1 =>
   intro B hT hF
   refine Z37 ?_
   refine D.go (h:=Q.loadUp (Ca hm)) (hr:=?_)
   exact Z66
  case hTF=>decide
  refine Y.callBad (own0:=[]) Tryz.call169 (fun B hB=>⟨rfl,by simp [bot,hB]⟩) ((nr L j2 o _ (A6 (B3 ho hne)) hj2.2 hl hll).bad hT) ?_ ?_
  ·rintro x U O f hU hl' ⟨rfl,j',hH⟩
   obtain ⟨rfl,rfl⟩:=B1 hU (List.getElem?_eq_some_iff.1 (B3 (L:=L) (i:=j2) (x:=mvO (Bu m c)) ho hne)).1 hH
   refine ⟨fun h=>B2 h (fun n=>Au),fun o h=>(by cases h),?_⟩
   exact K.finPP ⟨_,_,by unfold Cy;rw [hC];show (Bp L [61] j).bind _=_;rw [hW];show (Hn L j2).bind _=_;rw [hT];rfl,rfl,j',Bu m c,Bn hne⟩
  apply Y.q
  case h1 =>
   intro B hT hF
   exact dk
  case hTF=>decide
  refine Z17 ?_;exact pg
 have hk:=Iw hl hll hj2.2 hT
 refine W.drawT0 [0,1,3,7,0,16,15,0,255,511,1023,511,2559,6655] [3,5] [.q 3 [] [0],.s [20] (some 0) [] [],.q 1 [] [1],.s [22] (some 1) [] [],.q 2 [] []] (fun B=>U2 L Hp o om (if B 1=true then k else j2) (if B 0=true then .cells 77 [A2 (Bu m c).kind,.slice true 1 ((Bu m c).take.map A9),.slice true 2 ((Bu m c).give.map Av),.slice false 6 ((Bu m c).ahead.map A5),.slice true 6 ((Bu m c).back.map A5)] else .cells 77 [A2 (Bu m c).kind,.slice true 1 ((Bu m c).take.map A9),.slice true 2 ((Bu m c).give.map Av),.slice true 6 ((Bu m c).ahead.map A5),.slice true 6 ((Bu m c).back.map A5)])) (fun _=>[]) Aa (by kernel_rfl) rfl rfl (fun B=>by rw [U2_len];exact U2_len.symm) ?_
 apply Y.q
 case h1 =>
  intro B hT hF
  exact p9
 case hTF=>decide
 refine Y.loadUpT (o:=om) (t':=77) (cs:=[A2 (Bu m c).kind,.slice true 1 ((Bu m c).take.map A9),.slice true 2 ((Bu m c).give.map Av),.slice true 6 ((Bu m c).ahead.map A5),.slice true 6 ((Bu m c).back.map A5)]) (cs':=[A2 (Bu m c).kind,.slice true 1 ((Bu m c).take.map A9),.slice true 2 ((Bu m c).give.map Av),.slice false 6 ((Bu m c).ahead.map A5),.slice true 6 ((Bu m c).back.map A5)]) Tryz.isAgg75 (fun B hB=>⟨by simp only [hB];exact Ca hm,U2_setm.symm,rfl⟩) ?_
 apply Y.q
 case h1 =>
  intro B hT hF
  exact Z66
 case hTF=>decide
 refine Y.callUp (r:=A5 x) (o:=o) (x0:=pmO L j2) (x:=pmO L k) Tryz.call169 (fun B hB1 hB2 hB=>⟨by simp only [hB];exact B3 ho hne,(Bn hne).symm,rfl,Au,?_⟩) ?_
 ·simp only [hB]
  exact (nr L j2 o _ (A6 (B3 ho hne)) hj2.2 hl hll).ok hT
 apply Y.q
 case h1 =>
  intro B hT hF
  exact dk
 case hTF=>decide
 refine Y.appendPut4 (tn:=[3,5]) (U:=U2 L Hp o om k (.cells 77 [A2 (Bu m c).kind,.slice true 1 ((Bu m c).take.map A9),.slice true 2 ((Bu m c).give.map Av),.slice false 6 ((Bu m c).ahead.map A5),.slice true 6 ((Bu m c).back.map A5)])) (O:=[]) (o:=om) (t':=77) (cs:=[A2 (Bu m c).kind,.slice true 1 ((Bu m c).take.map A9),.slice true 2 ((Bu m c).give.map Av),.slice false 6 ((Bu m c).ahead.map A5),.slice true 6 ((Bu m c).back.map A5)]) (by kernel_rfl) jU Tryz.type103 Tryz.sizeOf103 Tryz.sizeOf75 jU (A6 (Ca hm)) ?_ ?_ ?_ (hfsz:=Tryz.sizeOf75)
 ·simp [Tryz.t103,Bu];omega
 ·simp [Tryz.t103,Bu];omega
 refine Z0 ?_
 refine R.storeUpT jS (Ca hm) ?_ ?_
 ·exact Li
 refine R.fin [] ?_;exact K.finPN .nores (hp:=⟨T8 (Bu m c) x,k,by unfold Cy;rw [hC];show (Bp L [61] j).bind _=_;rw [hW];show (Hn L j2).bind _=_;rw [hT];rfl,rfl,by exact i7 (m:=Bu m c)⟩)

/-- What is asked of a part of a move that is a closure. -/
def ce (L:List Tok) (o om g:Nat) (caps:List AV) (Hp:List AObj) (one:Mov→Nat→PR Mov):Prop:=
 ∀m i,MvLe m (2*i-1)→0<i→i<L.length→CP g caps (U2 L Hp o om i (mvO m)) (one m i) (fun m' j r H'=>r=Kt∧H'=U2 L Hp o om j (mvO m')) (W2 L o om Hp)
theorem Gb {L:List Tok} {Hp:List AObj} {o om i j:Nat} {x y:AObj} (hne:om≠o):U2 L (U2 L Hp o om i x) o om j y=U2 L Hp o om j y:=by
 unfold U2
 rw [nb hne,List.set_set]
theorem nt {L:List Tok} {Hp H':List AObj} {o om i:Nat} {x:AObj} (hne:om≠o) (h:W2 L o om (U2 L Hp o om i x) H'):W2 L o om Hp H':=by
 obtain ⟨j,m,e⟩:=h
 exact ⟨j,m,by rw [e,Gb hne]⟩
theorem AC6 (L:List Tok) (m:Mov) (i o om bp bm:Nat) (Hp:List AObj) (hne:om≠o) (ho:Hp[o]? = some (pmO L i)) (hm:Hp[om]? = some (mvO m)) (hbp:Hp[bp]? = some (.cells 97 [.ptr o 0])) (hbm:Hp[bm]? = some (.cells 159 [.ptr om 0])) (hi:i<L.length) (hl:TokEnd L) (hll:L.length≤500000) (hb:MvLe m (2*i-1)):CP 170 [.ptr bm 0,.ptr bp 0] Hp (Md L m i) (fun m' j r H'=>r=Kt∧H'=U2 L Hp o om j (mvO m')) (W2 L o om Hp):=by
 have n1:bp≠o:=fun e=>by rw [e,ho] at hbp;simp at hbp
 have n2:bp≠om:=fun e=>by rw [e,hm] at hbp;simp at hbp
 have n3:bm≠o:=fun e=>by rw [e,ho] at hbm;simp at hbm
 have n4:bm≠om:=fun e=>by rw [e,hm] at hbm;simp at hbm
 have:=hb.take;have:=hb.give;have:=hb.ahead;have:=hb.back
 refine ACallP.body [] [0,1] Tryz.func170 Tryz.ntmps170 (fun d=>?_)
 refine W.flip Aa (by kernel_rfl) Tryz.zeroValue4 Tryz.sizeOf4 Tryz.isAgg4 (fun fb=>?_)
 refine AW.keep [0,1,3] (by simp only [go_sem,↓reduceIte,Nat.reduceEqDiff,Nat.reduceAdd]<;>rfl) ?_
 refine W.cond (fun ht3=>?_) (fun ht3=>?_)
 ·rcases hT:Hn L i with ⟨x,k⟩|⟨e,a⟩
  rotate_left
  ·refine W.drawY [0,1,3,7,0,16,15,0,255,511,1023,2047] [5] [.q 5 [] [],.s [9] (some 0) [] [],.q 2 [] [],.s [] none [0] [],.s [] none [0] [],.s [] none [0] [],.s [] none [0] []] (fun _=>Hp) (fun B=>[.cells 4 [.v (.bool fb)]]++bot (B 0)) Aa (by kernel_rfl) rfl rfl (fun _=>rfl) ?_
   apply Y.q
   case h1 =>
    intro B hT hF
    refine D.go (h:=Q.loadUp hbm) (hr:=?_)
    refine Z11 ?_
    refine D.go (h:=Q.loadUp hm) (hr:=?_)
    refine D.go (h:=Q.loadUp hbp) (hr:=?_)
    exact L0
   case hTF=>decide
   refine Y.callBad (own0:=[.cells 4 [.v (.bool fb)]]) Tryz.call169 (fun B hB=>⟨rfl,by simp [bot,hB]⟩) ((nr L i o _ (A6 ho) hi hl hll).bad hT) ?_ ?_
   ·rintro x U O f hU hl' ⟨rfl,j',hH⟩
    obtain ⟨rfl,rfl⟩:=B1 hU (List.getElem?_eq_some_iff.1 ho).1 hH
    refine ⟨fun h=>B2 h (fun n=>Au),fun o h=>(by cases h),?_⟩
    exact yj
   apply Y.q
   case h1 =>
    intro B hT hF
    exact dk
   case hTF=>decide
   exact pg
  have hk:=Iw hl hll hi hT
  refine W.drawZ0 [0,1,3,7,0,16,15,0,255,511,1023,2047] [3,5] [.q 3 [] [0],.s [7] (some 0) [] [],.q 1 [] [1],.s [9] (some 1) [] [],.q 2 [] []] (fun B=>U2 L Hp o om (if B 1=true then k else i) (if B 0=true then .cells 77 [A2 m.kind,.slice true 1 (m.take.map A9),.slice true 2 (m.give.map Av),.slice true 6 (m.ahead.map A5),.slice false 6 (m.back.map A5)] else .cells 77 [A2 m.kind,.slice true 1 (m.take.map A9),.slice true 2 (m.give.map Av),.slice true 6 (m.ahead.map A5),.slice true 6 (m.back.map A5)])) (fun _=>[.cells 4 [.v (.bool fb)]]) Aa (by kernel_rfl) (Mi ho hm) rfl (fun B=>U2_len) ?_
  apply Y.q
  case h1 =>
   intro B hT hF
   refine D.go (h:=Q.loadUp ((E0 n3 n4).trans hbm)) (hr:=?_)
   exact Z60
  case hTF=>decide
  refine Y.loadUpT (o:=om) (t':=77) (cs:=[A2 m.kind,.slice true 1 (m.take.map A9),.slice true 2 (m.give.map Av),.slice true 6 (m.ahead.map A5),.slice true 6 (m.back.map A5)]) (cs':=[A2 m.kind,.slice true 1 (m.take.map A9),.slice true 2 (m.give.map Av),.slice true 6 (m.ahead.map A5),.slice false 6 (m.back.map A5)]) Tryz.isAgg75 (fun B hB=>⟨by simp only [hB];exact Ca hm,U2_setm.symm,rfl⟩) ?_
  apply Y.q
  case h1 =>
   intro B hT hF
   refine D.go (h:=Q.loadUp ((E0 n1 n2).trans hbp)) (hr:=?_)
   exact L0
  case hTF=>decide
  refine Y.callUp (r:=A5 x) (o:=o) (x0:=pmO L i) (x:=pmO L k) Tryz.call169 (fun B hB1 hB2 hB=>⟨by simp only [hB];exact B3 ho hne,(Bn hne).symm,rfl,Au,?_⟩) ?_
  ·simp only [hB]
   exact yk
  apply Y.q
  case h1 =>
   intro B hT hF
   exact dk
  case hTF=>decide
  refine Y.put2 (tn:=[3,5]) (U:=U2 L Hp o om k (.cells 77 [A2 m.kind,.slice true 1 (m.take.map A9),.slice true 2 (m.give.map Av),.slice true 6 (m.ahead.map A5),.slice false 6 (m.back.map A5)])) (O:=[.cells 4 [.v (.bool fb)]]) (o:=om) (t':=77) (cs:=[A2 m.kind,.slice true 1 (m.take.map A9),.slice true 2 (m.give.map Av),.slice true 6 (m.ahead.map A5),.slice false 6 (m.back.map A5)]) jU Tryz.type103 Tryz.sizeOf103 Tryz.sizeOf75 jU (A6 (Ca hm)) ?_ ?_ ?_ (hfsz:=Tryz.sizeOf75)
  ·simp [Tryz.t103];omega
  ·simp [Tryz.t103];omega
  refine Z0 ?_
  refine R.storeUpT jS (Ca hm) ?_ ?_
  ·exact Li
  exact wv
 rcases hT:Hn L i with ⟨x,k⟩|⟨e,a⟩
 rotate_left
 ·refine W.drawY0 [0,0,2,6,14,0,32,96,254,511,1023,2047] [6] [.q 6 [] [],.s [22] (some 0) [] [],.s [] none [0] [],.s [] none [0] [],.s [] none [0] [],.s [] none [0] [],.s [] none [0] []] (fun _=>Hp) (fun B=>[.cells 4 [.v (.bool fb)]]++bot (B 0)) Aa (by kernel_rfl) rfl rfl (fun _=>rfl) ?_
  apply Y.q
  case h1 =>
   intro B hT hF
   refine D.go (h:=Q.loadUp hbm) (hr:=?_)
   refine D.go (h:=Q.loadUp hbm) (hr:=?_)
   refine Z11 ?_
   refine D.go (h:=Q.loadUp hm) (hr:=?_)
   refine D.go (h:=Q.loadUp hbp) (hr:=?_)
   exact L0
  case hTF=>decide
  refine Y.callBad (own0:=[.cells 4 [.v (.bool fb)]]) Tryz.call169 (fun B hB=>⟨rfl,by simp [bot,hB]⟩) ((nr L i o _ (A6 ho) hi hl hll).bad hT) ?_ ?_
  ·rintro x U O f hU hl' ⟨rfl,j',hH⟩
   obtain ⟨rfl,rfl⟩:=B1 hU (List.getElem?_eq_some_iff.1 ho).1 hH
   refine ⟨fun h=>B2 h (fun n=>Au),fun o h=>(by cases h),?_⟩
   exact yj
  refine Z17 ?_;exact pi
 have hk:=Iw hl hll hi hT
 refine W.drawY0 [0,0,2,6,14,0,32,96,254,511,1023,2047] [4,6] [.q 4 [] [],.s [20] (some 0) [] [],.q 1 [] [1],.s [22] (some 1) [] [],.q 1 [1] [],.s [20,24] none [0,1] []] (fun B=>U2 L Hp o om (if B 1=true then k else i) (if B 0=true then .cells 77 [A2 m.kind,.slice true 1 (m.take.map A9),.slice true 2 (m.give.map Av),.slice true 6 (m.ahead.map A5),.slice false 6 (m.back.map A5)] else .cells 77 [A2 m.kind,.slice true 1 (m.take.map A9),.slice true 2 (m.give.map Av),.slice true 6 (m.ahead.map A5),.slice true 6 (m.back.map A5)])) (fun _=>[.cells 4 [.v (.bool fb)]]) Aa (by kernel_rfl) (Mi ho hm) rfl (fun B=>U2_len) ?_
 apply Y.q
 case h1 =>
  intro B hT hF
  refine D.go (h:=Q.loadUp ((E0 n3 n4).trans hbm)) (hr:=?_)
  refine D.go (h:=Q.loadUp ((E0 n3 n4).trans hbm)) (hr:=?_)
  exact Z60
 case hTF=>decide
 refine Y.loadUpT (o:=om) (t':=77) (cs:=[A2 m.kind,.slice true 1 (m.take.map A9),.slice true 2 (m.give.map Av),.slice true 6 (m.ahead.map A5),.slice true 6 (m.back.map A5)]) (cs':=[A2 m.kind,.slice true 1 (m.take.map A9),.slice true 2 (m.give.map Av),.slice true 6 (m.ahead.map A5),.slice false 6 (m.back.map A5)]) Tryz.isAgg75 (fun B hB=>⟨by simp only [hB];exact Ca hm,U2_setm.symm,rfl⟩) ?_
 apply Y.q
 case h1 =>
  intro B hT hF
  refine D.go (h:=Q.loadUp ((E0 n1 n2).trans hbp)) (hr:=?_)
  exact L0
 case hTF=>decide
 refine Y.callUp (r:=A5 x) (o:=o) (x0:=pmO L i) (x:=pmO L k) Tryz.call169 (fun B hB1 hB2 hB=>⟨by simp only [hB];exact B3 ho hne,(Bn hne).symm,rfl,Au,?_⟩) ?_
 ·simp only [hB]
  exact yk
 apply Y.q
 case h1 =>
  intro B hT hF
  exact Z45
 case hTF=>decide
 refine Y.append jU Tryz.type103 ?_ ?_ ?_
 ·simp [Tryz.t103];omega
 ·simp [Tryz.t103];omega
 refine Y.tail (tn:=[4,6]) (U:=U2 L Hp o om k (.cells 77 [A2 m.kind,.slice true 1 (m.take.map A9),.slice true 2 (m.give.map Av),.slice true 6 (m.ahead.map A5),.slice false 6 (m.back.map A5)])) ?_;refine Z0 ?_
 refine R.storeUpT jS (Ca hm) ?_ ?_
 ·exact Li
 exact wv

theorem Cb {L:List Tok} {Hp:List AObj} {o om i j n:Nat} {x y:AObj} (hne:om≠o) (hy:ObjLow n y) (h:∀z∈U2 L Hp o om i x,ObjLow n z):∀z∈U2 L Hp o om j y,ObjLow n z:=by
 intro z hz
 rw [show U2 L Hp o om j y=((U2 L Hp o om i x).set o (pmO L j)).set om y by rw [Bn hne,U2_setm]] at hz
 rcases List.mem_or_eq_of_mem_set hz with hz|rfl
 ·rcases List.mem_or_eq_of_mem_set hz with hz|rfl
  ·exact h z hz
  exact Au
 exact hy
theorem D3 {L:List Tok} {Hp own:List AObj} {o om i:Nat} {x:AObj} (h1:o<Hp.length) (h2:om<Hp.length):U2 L (Hp++own) o om i x=U2 L Hp o om i x++own:=by
 unfold U2
 rw [List.set_append_left _ _ h1,List.set_append_left _ _ (by simpa using h2)]
theorem Dw {L:List Tok} {Hp own U O:List AObj} {o om i:Nat} {x:AObj} (hne:om≠o) (h1:o<Hp.length) (h2:om<Hp.length) (hU:U.length=(U2 L Hp o om i x).length) (h:W2 L o om (U2 L Hp o om i x++own) (U++O)):W2 L o om Hp U∧own=O:=by
 obtain ⟨j,m,e⟩:=h
 rw [D3 (by rw [U2_len];exact h1) (by rw [U2_len];exact h2),Gb hne] at e
 obtain ⟨rfl,rfl⟩:=Gw (by rw [hU,U2_len,U2_len]) e
 exact ⟨⟨j,m,rfl⟩,rfl⟩
/-- Where the loop of things with commas between stands. -/
structure ListAt (L:List Tok) (n:Int) (one:Mov→Nat→PR Mov) (X:PR Mov) (x:Nat×Mov×Nat):Prop where
 lt:x.2.2<L.length
 pos:0<x.2.2
 le:MvLe x.2.1 (2*x.2.2)
 k:x.1≤x.2.2
 fuel:∃f,X=K3 L n one f x.1 x.2.1 x.2.2∧L.length-x.2.2<f
theorem ListAt.step {L:List Tok} {n:Int} {one:Mov→Nat→PR Mov} {X:PR Mov} {x:Nat×Mov×Nat} (h:ListAt L n one X x) (hq:Kr L n x.1 x.2.2=true):∃f,X=((Bp L [44] x.2.2).bind fun _ j=>(one x.2.1 j).bind fun m j=>K3 L n one f (x.1+1) m j)∧L.length-x.2.2<f+1:=by
 obtain ⟨f,e,hf⟩:=h.fuel
 obtain ⟨f,rfl⟩:∃g,f=g+1:=⟨f-1,by omega⟩
 refine ⟨f,?_,hf⟩
 rw [e,K3,if_pos hq]
theorem ListAt.on {L:List Tok} (hl:TokEnd L) {n:Int} {one:Mov→Nat→PR Mov} (hP:Rq L one) {X:PR Mov} {x:Nat×Mov×Nat} (h:ListAt L n one X x) (hq:Kr L n x.1 x.2.2=true) {u:Unit} {j:Nat} (hW:Bp L [44] x.2.2=.ok u j) {m2:Mov} {j2:Nat} (hO:one x.2.1 j=.ok m2 j2):ListAt L n one X (x.1+1,m2,j2)∧x.2.2<j2:=by
 obtain ⟨f,e,hf⟩:=h.step hq
 have h1:=Cw hl h.lt _ _ hW
 have hj:j=x.2.2+1:=by
  unfold Bp at hW
  split at hW
  ·injection hW with _ h;exact h.symm
  cases hW
 obtain ⟨a1,a2,a3⟩:=hP x.2.1 j (h.le.mono (by omega)) (by omega) h1.2 _ _ hO
 have:=h.k
 refine ⟨⟨a2,by show 0<j2;omega,a3,by show x.1+1≤j2;omega,f,?_,by show L.length-j2<f;omega⟩,by omega⟩
 rw [e,hW]
 show (one x.2.1 j).bind _=_
 rw [hO];rfl
theorem ListAt.bad1 {L:List Tok} {n:Int} {one:Mov→Nat→PR Mov} {X:PR Mov} {x:Nat×Mov×Nat} (h:ListAt L n one X x) (hq:Kr L n x.1 x.2.2=true) {e a:Int} (hW:Bp L [44] x.2.2=.bad e a):X=.bad e a:=by
 obtain ⟨f,e,_⟩:=h.step hq
 rw [e,hW];rfl
theorem ListAt.bad2 {L:List Tok} {n:Int} {one:Mov→Nat→PR Mov} {X:PR Mov} {x:Nat×Mov×Nat} (h:ListAt L n one X x) (hq:Kr L n x.1 x.2.2=true) {u:Unit} {j:Nat} (hW:Bp L [44] x.2.2=.ok u j) {e a:Int} (hO:one x.2.1 j=.bad e a):X=.bad e a:=by
 obtain ⟨f,e,_⟩:=h.step hq
 rw [e,hW]
 show (one x.2.1 j).bind _=_
 rw [hO];rfl
theorem ListAt.out {L:List Tok} {n:Int} {one:Mov→Nat→PR Mov} {X:PR Mov} {x:Nat×Mov×Nat} (h:ListAt L n one X x) (hq:Kr L n x.1 x.2.2=false):X=.ok x.2.1 x.2.2:=by
 obtain ⟨f,e,hf⟩:=h.fuel
 obtain ⟨f,rfl⟩:∃g,f=g+1:=⟨f-1,by omega⟩
 rw [e,K3,if_neg (by rw [hq];simp)]
theorem c143 (L:List Tok) (m:Mov) (i o om bp bm:Nat) (Hp:List AObj) (hne:om≠o) (ho:Hp[o]? = some (pmO L i)) (hm:Hp[om]? = some (mvO m)) (hbp:Hp[bp]? = some (.cells 97 [.ptr o 0])) (hbm:Hp[bm]? = some (.cells 159 [.ptr om 0])) (hi:i<L.length) (hl:TokEnd L) (hll:L.length≤500000) (hb:MvLe m (2*i-1)):CP 143 [.ptr bm 0,.ptr bp 0] Hp (Ks L m i) (fun m' j r H'=>r=Kt∧H'=U2 L Hp o om j (mvO m')) (W2 L o om Hp):=by
 have n1:bp≠o:=fun e=>by rw [e,ho] at hbp;simp at hbp
 have n2:bp≠om:=fun e=>by rw [e,hm] at hbp;simp at hbp
 have n3:bm≠o:=fun e=>by rw [e,ho] at hbm;simp at hbm
 have n4:bm≠om:=fun e=>by rw [e,hm] at hbm;simp at hbm
 have:=hb.take;have:=hb.give;have:=hb.ahead;have:=hb.back
 refine ACallP.body [] [0,1] Tryz.func143 Tryz.ntmps143 (fun d=>?_)
 rcases hT:Ed L i with ⟨s,k⟩|⟨e,a⟩
 rotate_left
 ·refine W.drawY0 [0,0,2,6,14,0,32,96,254,511,1023,2047] [6] [.q 6 [] [],.s [8] (some 0) [] [],.s [] none [0] [],.s [] none [0] [],.s [] none [0] [],.s [] none [0] [],.s [] none [0] []] (fun _=>Hp) (fun B=>[]++bot (B 0)) Aa (by kernel_rfl) rfl rfl (fun _=>rfl) ?_
  apply Y.q
  case h1 =>
   intro B hT hF
   refine D.go (h:=Q.loadUp hbm) (hr:=?_)
   refine D.go (h:=Q.loadUp hbm) (hr:=?_)
   refine Z11 ?_
   refine D.go (h:=Q.loadUp hm) (hr:=?_)
   refine D.go (h:=Q.loadUp hbp) (hr:=?_)
   exact L0
  case hTF=>decide
  refine Y.callBad (own0:=[]) Tryz.call138 (fun B hB=>⟨rfl,by simp [bot,hB]⟩) ((Om L i o _ (A6 ho) hi hll).bad hT) ?_ ?_
  ·rintro x U O f hU hl' ⟨rfl,j',hH⟩
   obtain ⟨rfl,rfl⟩:=B1 hU (List.getElem?_eq_some_iff.1 ho).1 hH
   refine ⟨fun h=>B2 h (fun n=>Au),fun o h=>(by cases h),?_⟩
   exact K.finPP ⟨_,_,by unfold Ks;rw [hT];rfl,rfl,j',m,Zw hne hm⟩
  refine Z17 ?_;exact pi
 have hk:=E5 hl hi _ _ hT
 refine W.drawY0 [0,0,2,6,14,0,32,96,254,511,1023,2047] [4,6] [.q 4 [] [],.s [6] (some 0) [] [],.q 1 [] [1],.s [8] (some 1) [] [],.q 1 [1] [],.s [6,10] none [0,1] []] (fun B=>U2 L Hp o om (if B 1=true then k else i) (if B 0=true then .cells 77 [A2 m.kind,.slice false 1 (m.take.map A9),.slice true 2 (m.give.map Av),.slice true 6 (m.ahead.map A5),.slice true 6 (m.back.map A5)] else .cells 77 [A2 m.kind,.slice true 1 (m.take.map A9),.slice true 2 (m.give.map Av),.slice true 6 (m.ahead.map A5),.slice true 6 (m.back.map A5)])) (fun _=>[]) Aa (by kernel_rfl) (Mi ho hm) rfl (fun B=>U2_len) ?_
 apply Y.q
 case h1 =>
  intro B hT hF
  refine D.go (h:=Q.loadUp ((E0 n3 n4).trans hbm)) (hr:=?_)
  refine D.go (h:=Q.loadUp ((E0 n3 n4).trans hbm)) (hr:=?_)
  exact Z60
 case hTF=>decide
 refine Y.loadUpT (o:=om) (t':=77) (cs:=[A2 m.kind,.slice true 1 (m.take.map A9),.slice true 2 (m.give.map Av),.slice true 6 (m.ahead.map A5),.slice true 6 (m.back.map A5)]) (cs':=[A2 m.kind,.slice false 1 (m.take.map A9),.slice true 2 (m.give.map Av),.slice true 6 (m.ahead.map A5),.slice true 6 (m.back.map A5)]) Tryz.isAgg74 (fun B hB=>⟨by simp only [hB];exact Ca hm,U2_setm.symm,rfl⟩) ?_
 apply Y.q
 case h1 =>
  intro B hT hF
  refine D.go (h:=Q.loadUp ((E0 n1 n2).trans hbp)) (hr:=?_)
  exact L0
 case hTF=>decide
 refine Y.callUp (r:=A9 s) (o:=o) (x0:=pmO L i) (x:=pmO L k) Tryz.call138 (fun B hB1 hB2 hB=>⟨by simp only [hB];exact B3 ho hne,(Bn hne).symm,rfl,Au,?_⟩) ?_
 ·simp only [hB]
  exact (Om L i o _ (A6 (B3 ho hne)) hi hll).ok hT
 apply Y.q
 case h1 =>
  intro B hT hF
  exact Z45
 case hTF=>decide
 refine Y.append jU Tryz.type9 ?_ ?_ ?_
 ·simp [Tryz.t9];omega
 ·simp [Tryz.t9];omega
 refine Y.tail (tn:=[4,6]) (U:=U2 L Hp o om k (.cells 77 [A2 m.kind,.slice false 1 (m.take.map A9),.slice true 2 (m.give.map Av),.slice true 6 (m.ahead.map A5),.slice true 6 (m.back.map A5)])) ?_;refine Z0 ?_
 refine R.storeUpT jS (Ca hm) ?_ ?_
 ·simp [or_imp,forall_and]
 refine R.fin [] ?_;exact K.finPN .nores (hp:=⟨cd m s,k,by unfold Ks;rw [hT];rfl,rfl,by exact ib⟩)

theorem AC7 (L:List Tok) (m:Mov) (i o om bp bm:Nat) (Hp:List AObj) (hne:om≠o) (ho:Hp[o]? = some (pmO L i)) (hm:Hp[om]? = some (mvO m)) (hbp:Hp[bp]? = some (.cells 97 [.ptr o 0])) (hbm:Hp[bm]? = some (.cells 159 [.ptr om 0])) (hi:i<L.length) (hl:TokEnd L) (hll:L.length≤500000) (hb:MvLe m (2*i-1)):CP 142 [.ptr bp 0,.ptr bm 0] Hp (Cy L m i) (fun m' j r H'=>r=Kt∧H'=U2 L Hp o om j (mvO m')) (W2 L o om Hp):=by
 have hol:=(List.getElem?_eq_some_iff.1 ho).1
 have hml:=(List.getElem?_eq_some_iff.1 hm).1
 have n1:bp≠o:=fun e=>by rw [e,ho] at hbp;simp at hbp
 have n2:bp≠om:=fun e=>by rw [e,hm] at hbp;simp at hbp
 have n3:bm≠o:=fun e=>by rw [e,ho] at hbm;simp at hbm
 have n4:bm≠om:=fun e=>by rw [e,hm] at hbm;simp at hbm
 have:=hb.take;have:=hb.give;have:=hb.ahead;have:=hb.back
 refine ACallP.body [] [0,1] Tryz.func142 Tryz.ntmps142 (fun d=>?_)
 refine k9 ?_
 rcases hT:Cy L m i with ⟨m2,k⟩|⟨e,a⟩
 rotate_left
 ·refine AW.regionK ?_
  refine ARunK.one (R.go (h:=Q.loadUp ((E0 n1 n2).trans hbp)) (hr:=ARun.nil ?_))
  refine ARunK.one (R.go (h:=Q.loadUp ((E0 n3 n4).trans hbm)) (hr:=ARun.nil ?_))
  refine RK.callBad Tryz.call137 ((Zx L m i o om _ hne (A6 (B3 ho hne)) (A6 (Ca hm)) hi hl hll hb).bad hT) ?_
  rintro x U O hU hl' ⟨rfl,hW2⟩
  obtain ⟨⟨j',m',rfl⟩,rfl⟩:=Dw hne hol hml hU hW2
  refine ⟨fun h=>Cb hne Bj h,fun o h=>(by cases h),?_⟩
  exact K.finPP ⟨_,_,rfl,rfl,j',m',rfl⟩
 refine AW.region ?_
 refine R.go (h:=Q.loadUp ((E0 n1 n2).trans hbp)) (hr:=?_)
 refine R.go (h:=Q.loadUp ((E0 n3 n4).trans hbm)) (hr:=?_)
 refine R.callX (up':=U2 L Hp o om k (mvO m2)) (own':=[]) Tryz.call137 (((Zx L m i o om _ hne (A6 (B3 ho hne)) (A6 (Ca hm)) hi hl hll hb).ok hT).mono (fun r H' e=>⟨e.1,e.2.trans (by rw [List.append_nil,List.append_nil,Gb hne])⟩)) (by rw [U2_len,U2_len]) (fun h=>Cb hne Bj h) ?_;refine R.fin [] ?_;exact K.finPN .nores (hp:=⟨m2,k,rfl,rfl,rfl⟩)

theorem ic (L:List Tok) (n:Int) (m:Mov) (i o om g:Nat) (caps:List AV) (one:Mov→Nat→PR Mov) (Hp:List AObj) (hne:om≠o) (ho:Hp[o]? = some (pmO L i)) (hm:Hp[om]? = some (mvO m)) (h0:0<i) (hi:i<L.length) (hl:TokEnd L) (hll:L.length≤500000) (hb:MvLe m (2*i-1)) (hcall:∀args w,(callFunc g args).run Tryz.prog w=.ok (.enter g args) w) (hC:ce L o om g caps Hp one) (hP:Rq L one):CP 141 [.ptr o 0,A2 n,.fn (.func g) [] caps] Hp (Ex L n one m i) (fun m' j r H'=>r=Kt∧H'=U2 L Hp o om j (mvO m')) (W2 L o om Hp):=by
 have hol:=(List.getElem?_eq_some_iff.1 ho).1
 have hml:=(List.getElem?_eq_some_iff.1 hm).1
 refine ACallP.body [] [0,1,2] Tryz.func141 Tryz.ntmps141 (fun d=>?_)
 refine k9 ?_
 rcases h1:one m i with ⟨m1,j1⟩|⟨e,a⟩
 rotate_left
 ·refine AW.seqRK ?_
  refine ARunK.one (R.go (ARun.nil ?_))
  refine RK.callBad hcall (by rw [List.append_nil];exact (hC m i hb h0 hi).bad h1) ?_
  rintro z U O hU hl' ⟨rfl,j',m',hH⟩
  obtain ⟨rfl,rfl⟩:=Gw (A:=U2 L Hp o om j' (mvO m')) (B:=[]) (by rw [hU,U2_len,U2_len]) (hH.trans (List.append_nil _).symm)
  refine ⟨fun h=>Cb hne Bj h,fun o h=>(by cases h),?_⟩
  refine K.thP ?_;exact K.finPP ⟨_,_,by unfold Ex;rw [h1];rfl,rfl,j',m',rfl⟩
 have g1:=hP m i hb h0 hi _ _ h1
 have e0:Ex L n one m i=K3 L n one (L.length+1) 1 m1 j1:=by unfold Ex;rw [h1];rfl
 refine Z2 ?_
 refine R.callVX (up':=U2 L Hp o om j1 (mvO m1)) (own':=[]) hcall (by rw [List.append_nil,List.append_nil];exact (hC m i hb h0 hi).ok h1) (by rw [U2_len,U2_len]) (fun h=>Cb hne Bj h) ?_
 refine U3 ?_;refine Z2 ?_;refine R.fin [0,1,2,6] ?_
 refine AW.loopC (α:=Nat×Mov×Nat) (fun x=>⟨30,A3 0 (.ptr o 0) (A3 1 (A2 n) (A3 2 (.fn (.func g) [] caps) (A3 6 (A2 (x.1:Int)) (fun _=>.any)))),U2 L Hp o om x.2.2 (mvO x.2.1),[],[],none⟩) (fun x=>ListAt L n one (Ex L n one m i) x) (fun x=>L.length-x.2.2) ((1,m1,j1)) ⟨g1.2.1,by show 0<j1;omega,g1.2.2,by show 1≤j1;omega,_,e0,by show L.length-j1<_;omega⟩ (StLe.refl _) rfl (fun x hx=>?_)
 refine Z22 ?_;refine Z94 ?_;refine Z62 ?_;refine G.call Tryz.call144 (fun hB=>zq L [44] x.2.2 o _ (A6 (B3 ho hne)) hx.lt) ?_;refine Vi ?_;refine R.fin [0,1,2,6,23] ?_
 refine W.cond (fun ht23=>?_) (fun ht23=>?_)
 ·have hq:Kr L n x.1 x.2.2=true:=ht23
  refine Z86 ?_
  rcases hW:Bp L [44] x.2.2 with ⟨u,j⟩|⟨e,a⟩
  rotate_left
  ·refine AW.seqRK ?_
   refine ARunK.one (R.go (ARun.nil ?_))
   refine RK.callBad Tryz.call103 ((Mh L [44] x.2.2 o _ (A6 (B3 ho hne)) hx.lt hll).bad hW) ?_
   rintro z U O hU hl' ⟨rfl,j',hH⟩
   obtain ⟨rfl,rfl⟩:=B1 hU (List.getElem?_eq_some_iff.1 (B3 (L:=L) (i:=x.2.2) (x:=mvO x.2.1) ho hne)).1 hH
   refine ⟨fun h=>B2 h (fun n=>Au),fun o h=>(by cases h),?_⟩
   refine Vf ?_;refine K.thP ?_;refine K.lpP ?_;exact K.finPP ⟨_,_,hx.bad1 hq hW,rfl,j',x.2.1,Bn hne⟩
  have hj:=Cw hl hx.lt _ _ hW
  have hpos:=hx.pos
  refine Z2 ?_;refine R.callUp (x:=pmO L j) Tryz.call103 (B3 ho hne) (by simp) Au ((Mh L [44] x.2.2 o _ (A6 (B3 ho hne)) hx.lt hll).ok hW) ?_
  rw [Bn hne]
  refine R.fin [0,1,2,6] ?_
  rcases hO:one x.2.1 j with ⟨m2,j2⟩|⟨e,a⟩
  rotate_left
  ·refine AW.regionK ?_
   refine ARunK.one (R.go (ARun.nil ?_))
   refine RK.callBad hcall (by rw [List.append_nil];exact (hC x.2.1 j (hx.le.mono (by omega)) (by omega) hj.2).bad hO) ?_
   rintro z U O hU hl' ⟨rfl,j',m',hH⟩
   obtain ⟨rfl,rfl⟩:=Gw (A:=U2 L Hp o om j' (mvO m')) (B:=[]) (by rw [hU,U2_len,U2_len]) (hH.trans (List.append_nil _).symm)
   refine ⟨fun h=>Cb hne Bj h,fun o h=>(by cases h),?_⟩
   refine K.blP ?_;refine K.thP ?_;refine K.lpP ?_;exact K.finPP ⟨_,_,hx.bad2 hq hW hO,rfl,j',m',rfl⟩
  have hon:=hx.on hl hP hq hW hO
  refine Z82 ?_
  refine R.callVX (up':=U2 L Hp o om j2 (mvO m2)) (own':=[]) hcall (by rw [List.append_nil,List.append_nil];exact (hC x.2.1 j (hx.le.mono (by omega)) (by omega) hj.2).ok hO) (by rw [U2_len,U2_len]) (fun h=>Cb hne Bj h) ?_
  refine R.fin [0,1,2,6] ?_;refine Z14 ?_;refine Z82 ?_
  refine R.go (h:=Q.add64 (h2:=fun _=>by have:=hx.k;have:=hx.lt;omega)) (hr:=?_)
  refine R.go ?_;refine R.fin [0,1,2,6] ?_
  refine K.lpN (x.1+1,m2,j2) hon.1 (by have:=hx.lt;have:=hon.2;show L.length-j2<L.length-x.2.2;omega) (StCut.of_eq rfl)
 have hq:Kr L n x.1 x.2.2=false:=ht23
 have e:=hx.out hq
 refine Z58 ?_;refine K.lpE ?_;exact K.finPN .nores (hp:=⟨_,_,e,rfl,rfl⟩)

theorem CP.mono {g:FuncId} {args:List AV} {H:List AObj} {α:Type} {X:PR α} {Q Q':α→Nat→AV→List AObj→Prop} {R R':List AObj→Prop} (h:CP g args H X Q R) (hQ:∀c j r H',Q c j r H'→Q' c j r H') (hR:∀H',R H'→R' H'):CP g args H X Q' R':=
 ACallP.mono h (fun r H' ⟨c,j,e,hq⟩=>⟨c,j,e,hQ _ _ _ _ hq⟩) (fun v H' ⟨e,a,e1,e2,h⟩=>⟨e,a,e1,e2,hR _ h⟩)
section
variable {L:List Tok} {o om bp bm:Nat} {X:List AObj} {z z':AObj}
theorem T9 (hne:om≠o) (ho:X[o]? = some z) (hm:X[om]? = some z') (hbp:X[bp]? = some (.cells 97 [.ptr o 0])) (hbm:X[bm]? = some (.cells 159 [.ptr om 0])) (n1:bp≠o) (n2:bp≠om) (n3:bm≠o) (n4:bm≠om) (hl:TokEnd L) (hll:L.length≤500000):ce L o om 170 [.ptr bm 0,.ptr bp 0] X (Md L):=
 fun m i hb _ hi=>(AC6 L m i o om bp bm (U2 L X o om i (mvO m)) hne (B3 ho hne) (Ca hm) ((E0 n1 n2).trans hbp) ((E0 n3 n4).trans hbm) hi hl hll hb).mono (fun c j r H' e=>⟨e.1,e.2.trans (Gb hne)⟩) (fun H' h=>nt hne h)
theorem Ta (hne:om≠o) (ho:X[o]? = some z) (hm:X[om]? = some z') (hbp:X[bp]? = some (.cells 97 [.ptr o 0])) (hbm:X[bm]? = some (.cells 159 [.ptr om 0])) (n1:bp≠o) (n2:bp≠om) (n3:bm≠o) (n4:bm≠om) (hl:TokEnd L) (hll:L.length≤500000):ce L o om 143 [.ptr bm 0,.ptr bp 0] X (Ks L):=
 fun m i hb _ hi=>(c143 L m i o om bp bm (U2 L X o om i (mvO m)) hne (B3 ho hne) (Ca hm) ((E0 n1 n2).trans hbp) ((E0 n3 n4).trans hbm) hi hl hll hb).mono (fun c j r H' e=>⟨e.1,e.2.trans (Gb hne)⟩) (fun H' h=>nt hne h)
theorem Tb (hne:om≠o) (ho:X[o]? = some z) (hm:X[om]? = some z') (hbp:X[bp]? = some (.cells 97 [.ptr o 0])) (hbm:X[bm]? = some (.cells 159 [.ptr om 0])) (n1:bp≠o) (n2:bp≠om) (n3:bm≠o) (n4:bm≠om) (hl:TokEnd L) (hll:L.length≤500000):ce L o om 142 [.ptr bp 0,.ptr bm 0] X (Cy L):=
 fun m i hb _ hi=>(AC7 L m i o om bp bm (U2 L X o om i (mvO m)) hne (B3 ho hne) (Ca hm) ((E0 n1 n2).trans hbp) ((E0 n3 n4).trans hbm) hi hl hll hb).mono (fun c j r H' e=>⟨e.1,e.2.trans (Gb hne)⟩) (fun H' h=>nt hne h)
end
attribute [go_sem] U2_len
theorem On {L:List Tok} {Hp own:List AObj} {o om i n:Nat} {x z:AObj} (h:own[n]? = some z):(U2 L Hp o om i x++own)[oid Hp.length n]? = some z:=by
 unfold oid
 rw [List.getElem?_append_right (by rw [U2_len];omega),U2_len,Nat.add_sub_cancel_left]
 exact h
theorem Cx {n k o:Nat} (h:o<n):oid n k≠o:=by unfold oid;omega
theorem Xa (L:List Tok) (m:Mov) (i o om:Nat) (Hp:List AObj) (hne:om≠o) (ho:Hp[o]? = some (pmO L i)) (hm:Hp[om]? = some (mvO m)) (hi:i<L.length) (hl:TokEnd L) (hll:L.length≤500000) (hb:MvLe m (2*i)):CP 139 [.ptr o 0,.ptr om 0] Hp (Dl L m i) (fun m' j r H'=>r=Kt∧H'=U2 L Hp o om j (mvO m')) (W2 L o om Hp):=by
 have hol:=(List.getElem?_eq_some_iff.1 ho).1
 have hml:=(List.getElem?_eq_some_iff.1 hm).1
 refine ACallP.body [] [0,1] Tryz.func139 Tryz.ntmps139 (fun d=>?_)
 refine Cu ?_;refine R.box ?_;refine R.box ?_;refine H7 ?_;refine k9 ?_
 rcases hW:Bp L ca i with ⟨u,j⟩|⟨e,a⟩
 rotate_left
 ·refine AW.seqRK ?_
  refine ARunK.one (R.go (ARun.nil ?_))
  refine RK.callBad Tryz.call103 (Mh L ca i o _ (A6 (B3 ho hne)) hi hll |>.bad hW) ?_
  rintro x U O hU hl' ⟨rfl,j',hH⟩
  obtain ⟨rfl,rfl⟩:=B1 hU (List.getElem?_eq_some_iff.1 (B3 (L:=L) (i:=i) (x:=mvO m) ho hne)).1 hH
  refine ⟨fun h=>B2 h (fun n=>Au),fun o h=>(by cases h),?_⟩
  refine K.thP ?_;exact K.finPP ⟨_,_,by unfold Dl;rw [hW];rfl,rfl,j',m,Bn hne⟩
 have hj:=Cw hl hi _ _ hW
 refine Z2 ?_;refine R.callUp (x:=pmO L j) Tryz.call103 (B3 ho hne) (by simp) Au ((Mh L ca i o _ (A6 (B3 ho hne)) hi hll).ok hW) ?_
 rw [Bn hne]
 refine H7 ?_
 rcases hP:Ex L ((m.take.map A9).length:Int) (Md L) m j with ⟨m2,k⟩|⟨e,a⟩
 rotate_left
 ·refine W.drawY0 [0,0,2,6,14,30,0,127] [7] [.q 7 [] [],.s [13] (some 0) [] []] (fun _=>U2 L Hp o om j (mvO m)) (fun B=>[.cells 97 [.ptr o 0],.cells 159 [.ptr om 0]]++bot (B 0)) Aa (by kernel_rfl) rfl rfl (fun _=>rfl) ?_
  apply Y.q
  case h1 =>
   intro B hT hF
   refine Ol ?_
   refine D.go (h:=Q.loadUp (Ca hm)) (hr:=?_)
   refine D.go ?_;refine D.makeFunc ?_;exact L0
  case hTF=>decide
  refine Y.callBad (own0:=[.cells 97 [.ptr o 0],.cells 159 [.ptr om 0]]) Tryz.call141 (fun B hB=>⟨rfl,by simp [bot,hB]⟩) ((ic L (((m.take.map A9).length:Int)) m j o om 170 [.ptr (oid Hp.length 1) 0,.ptr (oid Hp.length 0) 0] (Md L) (U2 L Hp o om j (mvO m)++[.cells 97 [.ptr o 0],.cells 159 [.ptr om 0]]) hne (A6 (B3 ho hne)) (A6 (Ca hm)) (by omega) hj.2 hl hll (hb.mono (by omega)) Tryz.call170 (T9 (z:=pmO L j) (z':=mvO m) hne (A6 (B3 ho hne)) (A6 (Ca hm)) (On rfl) (On rfl) (Cx hol) (Cx hml) (Cx hol) (Cx hml) hl hll) (R1 hl hll)).bad hP) ?_ ?_
  ·rintro x U O f hU hl' ⟨rfl,hW2⟩
   obtain ⟨⟨j',m',rfl⟩,rfl⟩:=Dw hne hol hml hU hW2
   refine ⟨fun h=>Cb hne Bj h,fun o h=>(by cases h),?_⟩
   exact K.finPP ⟨_,_,by unfold Dl;rw [hW];show Ex L _ _ m j=_;rw [←hP,List.length_map],rfl,j',m',rfl⟩
  exact pu
 refine W.drawQ0 [0,0,2,6,14,30,0,127] 7 Aa (by kernel_rfl) ?_;refine Ol ?_
 refine D.go (h:=Q.loadUp (Ca hm)) (hr:=?_)
 refine D.go ?_;refine D.makeFunc ?_;refine D.tail ?_
 refine R.callX (up':=U2 L Hp o om k (mvO m2)) (own':=[.cells 97 [.ptr o 0],.cells 159 [.ptr om 0]]) Tryz.call141 (((ic L (((m.take.map A9).length:Int)) m j o om 170 [.ptr (oid Hp.length 1) 0,.ptr (oid Hp.length 0) 0] (Md L) (U2 L Hp o om j (mvO m)++[.cells 97 [.ptr o 0],.cells 159 [.ptr om 0]]) hne (A6 (B3 ho hne)) (A6 (Ca hm)) (by omega) hj.2 hl hll (hb.mono (by omega)) Tryz.call170 (T9 (z:=pmO L j) (z':=mvO m) hne (A6 (B3 ho hne)) (A6 (Ca hm)) (On rfl) (On rfl) (Cx hol) (Cx hml) (Cx hol) (Cx hml) hl hll) (R1 hl hll)).ok hP).mono (fun r H' e=>⟨e.1,e.2.trans (by first|rw [D3 (by rw [U2_len];exact hol) (by rw [U2_len];exact hml),Gb hne]|rw [D3 hol hml])⟩)) (by first|rfl|rw [U2_len,U2_len]|rw [U2_len]) (fun h=>Cb hne Bj h) ?_
 refine R.fin [] ?_;exact K.finPN .nores (hp:=⟨m2,k,by unfold Dl;rw [hW];show Ex L _ _ m j=_;rw [←hP,List.length_map],rfl,rfl⟩)

theorem Tc {L:List Tok} {Hp:List AObj} {o om i:Nat} {m:Mov} {s:Str} {x:AObj}:(U2 L Hp o om i x).set om (.cells 77 [A2 m.kind,.slice true 1 [A9 s],.slice true 2 (m.give.map Av),.slice true 6 (m.ahead.map A5),.slice true 6 (m.back.map A5)])=U2 L Hp o om i (mvO (takeS m s)):=U2_setm
theorem cf {n:Nat} {x:Expr}:Low n (.slice true 6 [.agg (Dt x)]):=by
 have:=Da (n:=n) (k:=6) (o:=true) (l:=[x])
 simp only [List.map_cons,List.map_nil] at this
 rw [Ab] at this
 exact this
theorem Xb {n:Nat} {x:Expr}:Low n (.slice true 6 [A5 x]):=Da (l:=[x])
theorem nu {L:List Tok} {m m1:Mov} {i k:Nat} (h:Cy L m i=.ok m1 k):(m1.give.map Av)[0]? = some (Av (m1.give.getD 0 ⟨[],0⟩)):=by
 obtain ⟨c,j,h1,h2⟩:=PR.bind_ok h
 obtain ⟨u,j2,h3,h4⟩:=PR.bind_ok h2
 obtain ⟨x,j3,h5,h6⟩:=PR.bind_ok h4
 injection h6 with h6 h7
 subst h6
 show ((m.give++[c]).map Av)[0]? = some (Av ((m.give++[c]).getD 0 ⟨[],0⟩))
 cases m.give<;>rfl
section
variable {L:List Tok} {m:Mov} {i:Nat}
theorem nv (h1:(m.kind==1)=true):Em L m i=Cy L m i:=if_pos h1
theorem Zy (h1:(m.kind==1)=false) (h2:(m.kind==2)=true):Em L m i=(Ed L i).bind fun s j=>Dl L (takeS m s) j:=by
 unfold Em;rw [if_neg (by rw [h1];simp),if_pos h2]
theorem nw (h1:(m.kind==1)=false) (h2:(m.kind==2)=false) (h3:(m.kind==3)=true):Em L m i=Gu L m i:=by
 unfold Em;rw [if_neg (by rw [h1];simp),if_neg (by rw [h2];simp),if_pos h3]
theorem R2 (h1:(m.kind==1)=false) (h2:(m.kind==2)=false) (h3:(m.kind==3)=false) (h4:(m.kind==4)=true):Em L m i=(Ed L i).bind fun s j=>(Bp L F9 j).bind fun _ j=>(Ex L 0 (Cy L) (takeS m s) j).bind fun m j=>Dl L m j:=by
 unfold Em;rw [if_neg (by rw [h1];simp),if_neg (by rw [h2];simp),if_neg (by rw [h3];simp),if_pos h4]
theorem R3 (h1:(m.kind==1)=false) (h2:(m.kind==2)=false) (h3:(m.kind==3)=false) (h4:(m.kind==4)=false) (h5:(m.kind==5)=true):Em L m i=(Ex L 0 (Ks L) m i).bind fun m j=>(Bp L F9 j).bind fun _ j=>(Cy L m j).bind fun m j=>Dl L m j:=by
 unfold Em;rw [if_neg (by rw [h1];simp),if_neg (by rw [h2];simp),if_neg (by rw [h3];simp),if_neg (by rw [h4];simp),if_pos h5]
theorem Zz (h1:(m.kind==1)=false) (h2:(m.kind==2)=false) (h3:(m.kind==3)=false) (h4:(m.kind==4)=false) (h5:(m.kind==5)=false) (h6:(m.kind==6)=true):Em L m i=(Cy L m i).bind fun m j=>Dl L (takeS m (m.give.getD 0 ⟨[],0⟩).name) j:=by
 unfold Em;rw [if_neg (by rw [h1];simp),if_neg (by rw [h2];simp),if_neg (by rw [h3];simp),if_neg (by rw [h4];simp),if_neg (by rw [h5];simp),if_pos h6]
theorem wh (h1:(m.kind==1)=false) (h2:(m.kind==2)=false) (h3:(m.kind==3)=false) (h4:(m.kind==4)=false) (h5:(m.kind==5)=false) (h6:(m.kind==6)=false):Em L m i=.ok m i:=by
 unfold Em;rw [if_neg (by rw [h1];simp),if_neg (by rw [h2];simp),if_neg (by rw [h3];simp),if_neg (by rw [h4];simp),if_neg (by rw [h5];simp),if_neg (by rw [h6];simp)]
end
theorem zr (L:List Tok) (m:Mov) (i o om:Nat) (Hp:List AObj) (hne:om≠o) (ho:Hp[o]? = some (pmO L i)) (hm:Hp[om]? = some (mvO m)) (hi:i<L.length) (hl:TokEnd L) (hll:L.length≤500000) (hb:MvLe m (2*i-1)):CP 140 [.ptr o 0,.ptr om 0] Hp (Gu L m i) (fun m' j r H'=>r=Kt∧H'=U2 L Hp o om j (mvO m')) (W2 L o om Hp):=by
 refine ACallP.body [] [0,1] Tryz.func140 Tryz.ntmps140 (fun d=>?_)
 refine k9 ?_
 rcases h1:Ed L i with ⟨s,j⟩|⟨e,a⟩
 rotate_left
 ·refine AW.seqRK ?_
  refine ARunK.one (R.go (ARun.nil ?_))
  refine ARunK.one (R.go (ARun.nil ?_))
  refine RK.callBad Tryz.call138 ((Om L i o _ (A6 (B3 ho hne)) hi hll).bad h1) ?_
  rintro x U O hU hl' ⟨rfl,j',hH⟩
  obtain ⟨rfl,rfl⟩:=B1 hU (List.getElem?_eq_some_iff.1 (B3 (L:=L) (i:=i) (x:=mvO m) ho hne)).1 hH
  refine ⟨fun h=>B2 h (fun n=>Au),fun o h=>(by cases h),?_⟩
  refine K.thP ?_;exact K.finPP ⟨_,_,by unfold Gu;rw [h1];rfl,rfl,j',m,Bn hne⟩
 have hj:=E5 hl hi _ _ h1
 refine Z1 ?_;refine R.callUp (x:=pmO L j) Tryz.call138 (B3 ho hne) (by simp) Au ((Om L i o _ (A6 (B3 ho hne)) hi hll).ok h1) ?_
 rw [Bn hne]
 refine Kz ?_;refine Z0 ?_
 refine R.storeUpT jS (Ca hm) ?_ ?_
 ·simp [or_imp,forall_and]
 refine R.fin [0,1] ?_;refine AW.upEq (U2_setm (y:=.cells 77 [A2 m.kind,.slice true 1 ([A9 s]),.slice true 2 (m.give.map Av),.slice true 6 (m.ahead.map A5),.slice true 6 (m.back.map A5)])) ?_
 rcases h2:Bp L toW j with ⟨u,j2⟩|⟨e,a⟩
 rotate_left
 ·refine AW.seqRK ?_
  refine ARunK.one (R.go (ARun.nil ?_))
  refine RK.callBad Tryz.call103 ((Mh L toW j o _ (A6 (B3 ho hne)) hj.2 hll).bad h2) ?_
  rintro x U O hU hl' ⟨rfl,j',hH⟩
  obtain ⟨rfl,rfl⟩:=B1 hU (List.getElem?_eq_some_iff.1 (B3 (L:=L) (i:=j) (x:=.cells 77 [A2 m.kind,.slice true 1 ([A9 s]),.slice true 2 (m.give.map Av),.slice true 6 (m.ahead.map A5),.slice true 6 (m.back.map A5)]) ho hne)).1 hH
  refine ⟨fun h=>B2 h (fun n=>Au),fun o h=>(by cases h),?_⟩
  refine K.thP ?_;exact K.finPP ⟨_,_,by unfold Gu;rw [h1];show (Bp L toW j).bind _=_;rw [h2];rfl,rfl,j',(⟨m.kind,[s],m.give,m.ahead,m.back⟩:Mov),Bn hne⟩
 have hj2:=Cw hl hj.2 _ _ h2
 refine Z2 ?_;refine R.callUp (x:=pmO L j2) Tryz.call103 (B3 ho hne) (by simp) Au ((Mh L toW j o _ (A6 (B3 ho hne)) hj.2 hll).ok h2) ?_
 rw [Bn hne]
 refine R.fin [0,1] ?_
 rcases h3:Ed L j2 with ⟨t,k⟩|⟨e,a⟩
 rotate_left
 ·refine AW.seqRK ?_
  refine ARunK.one (R.go (ARun.nil ?_))
  refine RK.callBad Tryz.call138 ((Om L j2 o _ (A6 (B3 ho hne)) hj2.2 hll).bad h3) ?_
  rintro x U O hU hl' ⟨rfl,j',hH⟩
  obtain ⟨rfl,rfl⟩:=B1 hU (List.getElem?_eq_some_iff.1 (B3 (L:=L) (i:=j2) (x:=.cells 77 [A2 m.kind,.slice true 1 ([A9 s]),.slice true 2 (m.give.map Av),.slice true 6 (m.ahead.map A5),.slice true 6 (m.back.map A5)]) ho hne)).1 hH
  refine ⟨fun h=>B2 h (fun n=>Au),fun o h=>(by cases h),?_⟩
  refine K.thP ?_;exact K.finPP ⟨_,_,by unfold Gu;rw [h1];show (Bp L toW j).bind _=_;rw [h2];show (Ed L j2).bind _=_;rw [h3];rfl,rfl,j',(⟨m.kind,[s],m.give,m.ahead,m.back⟩:Mov),Bn hne⟩
 refine Z2 ?_;refine R.callUp (x:=pmO L k) Tryz.call138 (B3 ho hne) (by simp) Au ((Om L j2 o _ (A6 (B3 ho hne)) hj2.2 hll).ok h3) ?_
 rw [Bn hne]
 refine R.go ?_;refine R.fin [1,4] ?_;refine Z1 ?_;refine U1 ?_;refine Kz ?_;refine Z0 ?_
 refine R.storeUpT jS (Ca hm) ?_ ?_
 ·simp [or_imp,forall_and]
 refine R.fin [1,4] ?_;refine AW.upEq (U2_setm (y:=.cells 77 [A2 m.kind,.slice true 1 ([A9 s]),.slice true 2 ([Av ⟨t,0⟩]),.slice true 6 (m.ahead.map A5),.slice true 6 (m.back.map A5)])) ?_;refine Z29 ?_;refine Z19 ?_
 refine R.go (h:=Q.loadUp (Ca hm)) (hr:=?_)
 refine R.go (h:=Q.indexAddr (0) (A9 s) (fun _=>rfl)) (hr:=?_)
 refine R.go ?_;refine R.call Tryz.call112 (rj s _) ?_;refine Kz ?_;refine R.go ?_;refine R.call Tryz.call112 (rj t _) ?_;refine Kz ?_;refine Z0 ?_
 refine R.storeUpT jS (Ca hm) ?_ ?_
 ·first|exact cf|exact Xb
 rw [U2_setm]
 refine Z0 ?_
 refine R.storeUpT jS (Ca hm) ?_ ?_
 ·first|exact cf|exact Xb
 rw [U2_setm]
 refine R.fin [] ?_;exact K.finPN .nores (hp:=⟨⟨m.kind,[s],[⟨t,0⟩],[C3 s],[C3 t]⟩,k,by unfold Gu;rw [h1];show (Bp L toW j).bind _=_;rw [h2];show (Ed L j2).bind _=_;rw [h3];rfl,rfl,by simp only [mvO,mvC,List.map_cons,List.map_nil,Ab]⟩)

theorem ie {L:List Tok} {Hp:List AObj} {o om i:Nat} {m:Mov} {c:Col} {x:AObj}:(U2 L Hp o om i x).set om (.cells 77 [A2 m.kind,.slice true 1 [A9 c.name],.slice true 2 (m.give.map Av),.slice true 6 (m.ahead.map A5),.slice true 6 (m.back.map A5)])=U2 L Hp o om i (mvO (takeS m c.name)):=U2_setm
theorem zt (L:List Tok) (m:Mov) (i o om:Nat) (Hp:List AObj) (hne:om≠o) (ho:Hp[o]? = some (pmO L i)) (hm:Hp[om]? = some (mvO m)) (hi:i<L.length) (hl:TokEnd L) (hll:L.length≤500000) (hb:MvLe m (2*i-1)) (h0:0<i):CP 102 [.ptr o 0,.ptr om 0] Hp (Em L m i) (fun m' j r H'=>r=Kt∧H'=U2 L Hp o om j (mvO m')) (W2 L o om Hp):=by
 have hol:=(List.getElem?_eq_some_iff.1 ho).1
 have hml:=(List.getElem?_eq_some_iff.1 hm).1
 refine ACallP.body [] [0,1] Tryz.func102 Tryz.ntmps102 (fun d=>?_)
 refine Cu ?_;refine R.box ?_;refine R.box ?_;refine H7 ?_;refine k9 ?_;refine Z13 ?_
 refine R.go (h:=Q.loadUp (Ca hm)) (hr:=?_)
 refine R.fin [2,3,7] ?_;refine Z92 ?_;refine R.fin [2,3,7,8] ?_
 refine W.cond (fun ht8=>?_) (fun ht8=>?_)
 ·rcases h1:Cy L m i with ⟨m1,k⟩|⟨e,a⟩
  rotate_left
  ·refine AW.regionK ?_
   refine ARunK.one (R.go (ARun.nil ?_))
   refine ARunK.one (R.go (ARun.nil ?_))
   refine yl ?_
   rintro x U O hU hl' ⟨rfl,hW2⟩
   obtain ⟨⟨j',m',rfl⟩,rfl⟩:=Dw hne hol hml hU hW2
   refine ⟨fun h=>Cb hne Bj h,fun o h=>(by cases h),?_⟩
   refine K.blP ?_;exact K.finPP ⟨_,_,by rw [nv ht8];rw [h1],rfl,j',m',rfl⟩
  refine Z29 ?_
  refine R.callX (up':=U2 L Hp o om k (mvO m1)) (own':=[.cells 97 [.ptr o 0],.cells 159 [.ptr om 0]]) Tryz.call137 (((Zx L m i o om (U2 L Hp o om i (mvO m)++[.cells 97 [.ptr o 0],.cells 159 [.ptr om 0]]) hne (A6 (B3 ho hne)) (A6 (Ca hm)) hi hl hll hb).ok h1).mono (fun r H' e=>⟨e.1,e.2.trans (by first|rw [D3 (by rw [U2_len];exact hol) (by rw [U2_len];exact hml),Gb hne]|rw [D3 hol hml])⟩)) (by first|rfl|rw [U2_len,U2_len]|rw [U2_len]) (fun h=>Cb hne Bj h) ?_
  refine Z85 ?_;exact K.finPN .nores (hp:=⟨m1,k,by rw [nv ht8];rw [h1],rfl,rfl⟩)
 refine Z1 ?_;refine R.fin [2,3,7,13] ?_
 refine W.cond (fun ht13=>?_) (fun ht13=>?_)
 ·rcases h1:Ed L i with ⟨s,j⟩|⟨e,a⟩
  rotate_left
  ·refine W.drawY [0,0,2,6,15,31,63] [2] [.q 2 [] [],.s [17] (some 0) [] [],.s [] none [0] [],.s [] none [0] [],.s [] none [0] [],.s [] none [0] []] (fun _=>U2 L Hp o om i (mvO m)) (fun B=>[.cells 97 [.ptr o 0],.cells 159 [.ptr om 0]]++bot (B 0)) Aa (by kernel_rfl) rfl rfl (fun _=>rfl) ?_
   apply Y.q
   case h1 =>
    intro B hT hF
    exact Z60
   case hTF=>decide
   refine Y.callBad (own0:=[.cells 97 [.ptr o 0],.cells 159 [.ptr om 0]]) Tryz.call138 (fun B hB=>⟨rfl,by simp [bot,hB]⟩) ((Om L i o _ (A6 (B3 ho hne)) hi hll).bad h1) ?_ ?_
   ·rintro x U O f hU hl' ⟨rfl,j',hH⟩
    obtain ⟨rfl,rfl⟩:=B1 hU (List.getElem?_eq_some_iff.1 (B3 (L:=L) (i:=i) (x:=mvO m) ho hne)).1 hH
    refine ⟨fun h=>B2 h (fun n=>Au),fun o h=>(by cases h),?_⟩
    refine K.blP ?_;exact K.finPP ⟨_,_,by rw [Zy ht8 ht13];rw [h1];rfl,rfl,j',m,Bn hne⟩
   exact pg
  have hj:=E5 hl hi _ _ h1
  refine W.drawY [0,0,2,6,15,31,63] [2] [.q 2 [] [],.s [17] (some 0) [] [],.s [18] none [0] []] (fun B=>U2 L Hp o om (if B 0=true then j else i) (mvO m)) (fun _=>[.cells 97 [.ptr o 0],.cells 159 [.ptr om 0]]) Aa (by kernel_rfl) rfl rfl (fun B=>by rw [U2_len];exact U2_len.symm) ?_
  apply Y.q
  case h1 =>
   intro B hT hF
   exact Z60
  case hTF=>decide
  refine Y.callUp (r:=A9 s) (o:=o) (x0:=pmO L i) (x:=pmO L j) Tryz.call138 (fun B hB1 hB2 hB=>⟨by simp only [hB];exact B3 ho hne,(Bn hne).symm,rfl,Au,?_⟩) ?_
  ·simp only [hB]
   exact (Om L i o _ (A6 (B3 ho hne)) hi hll).ok h1
  refine xa ?_;refine Z0 ?_
  refine R.storeUpT jS (Ca hm) ?_ ?_
  ·simp [or_imp,forall_and]
  refine H7 ?_;refine AW.upEq (Tc (m:=m) (s:=s)) ?_
  rcases h2:Dl L (takeS m s) j with ⟨m2,k⟩|⟨e,a⟩
  rotate_left
  ·refine AW.regionK ?_
   refine ARunK.one (R.go (ARun.nil ?_))
   refine ARunK.one (R.go (ARun.nil ?_))
   refine RK.callBad Tryz.call139 ((Xa L (takeS m s) j o om (U2 L Hp o om j (mvO (takeS m s))++[.cells 97 [.ptr o 0],.cells 159 [.ptr om 0]]) hne (A6 (B3 ho hne)) (A6 (Ca hm)) hj.2 hl hll ((hb.mono (by omega:2*i-1≤2*j)).takeS (by omega))).bad h2) ?_
   rintro x U O hU hl' ⟨rfl,hW2⟩
   obtain ⟨⟨j',m',rfl⟩,rfl⟩:=Dw hne hol hml hU hW2
   refine ⟨fun h=>Cb hne Bj h,fun o h=>(by cases h),?_⟩
   refine K.blP ?_;exact K.finPP ⟨_,_,by rw [Zy ht8 ht13];rw [h1];show Dl L (takeS m s) j=_;rw [h2],rfl,j',m',rfl⟩
  refine Z29 ?_
  refine R.callX (up':=U2 L Hp o om k (mvO m2)) (own':=[.cells 97 [.ptr o 0],.cells 159 [.ptr om 0]]) Tryz.call139 (((Xa L (takeS m s) j o om (U2 L Hp o om j (mvO (takeS m s))++[.cells 97 [.ptr o 0],.cells 159 [.ptr om 0]]) hne (A6 (B3 ho hne)) (A6 (Ca hm)) hj.2 hl hll ((hb.mono (by omega:2*i-1≤2*j)).takeS (by omega))).ok h2).mono (fun r H' e=>⟨e.1,e.2.trans (by first|rw [D3 (by rw [U2_len];exact hol) (by rw [U2_len];exact hml),Gb hne]|rw [D3 hol hml])⟩)) (by first|rfl|rw [U2_len,U2_len]|rw [U2_len]) (fun h=>Cb hne Bj h) ?_
  refine Z85 ?_;exact K.finPN .nores (hp:=⟨m2,k,by rw [Zy ht8 ht13];rw [h1];show Dl L (takeS m s) j=_;rw [h2],rfl,rfl⟩)
 refine Z1 ?_;refine R.fin [2,3,7,24] ?_
 refine W.cond (fun ht24=>?_) (fun ht24=>?_)
 ·rcases h1:Gu L m i with ⟨m1,k⟩|⟨e,a⟩
  rotate_left
  ·refine AW.regionK ?_
   refine ARunK.one (R.go (ARun.nil ?_))
   refine ARunK.one (R.go (ARun.nil ?_))
   refine RK.callBad Tryz.call140 ((zr L m i o om (U2 L Hp o om i (mvO m)++[.cells 97 [.ptr o 0],.cells 159 [.ptr om 0]]) hne (A6 (B3 ho hne)) (A6 (Ca hm)) hi hl hll hb).bad h1) ?_
   rintro x U O hU hl' ⟨rfl,hW2⟩
   obtain ⟨⟨j',m',rfl⟩,rfl⟩:=Dw hne hol hml hU hW2
   refine ⟨fun h=>Cb hne Bj h,fun o h=>(by cases h),?_⟩
   refine K.blP ?_;exact K.finPP ⟨_,_,by rw [nw ht8 ht13 ht24];rw [h1],rfl,j',m',rfl⟩
  refine Z29 ?_
  refine R.callX (up':=U2 L Hp o om k (mvO m1)) (own':=[.cells 97 [.ptr o 0],.cells 159 [.ptr om 0]]) Tryz.call140 (((zr L m i o om (U2 L Hp o om i (mvO m)++[.cells 97 [.ptr o 0],.cells 159 [.ptr om 0]]) hne (A6 (B3 ho hne)) (A6 (Ca hm)) hi hl hll hb).ok h1).mono (fun r H' e=>⟨e.1,e.2.trans (by first|rw [D3 (by rw [U2_len];exact hol) (by rw [U2_len];exact hml),Gb hne]|rw [D3 hol hml])⟩)) (by first|rfl|rw [U2_len,U2_len]|rw [U2_len]) (fun h=>Cb hne Bj h) ?_
  refine Z85 ?_;exact K.finPN .nores (hp:=⟨m1,k,by rw [nw ht8 ht13 ht24];rw [h1],rfl,rfl⟩)
 refine Z1 ?_;refine R.fin [2,3,7,29] ?_
 refine W.cond (fun ht29=>?_) (fun ht29=>?_)
 ·rcases h1:Ed L i with ⟨s,j⟩|⟨e,a⟩
  rotate_left
  ·refine W.drawY [0,0,2,6,15,31,63] [2] [.q 2 [] [],.s [33] (some 0) [] [],.s [] none [0] [],.s [] none [0] [],.s [] none [0] [],.s [] none [0] []] (fun _=>U2 L Hp o om i (mvO m)) (fun B=>[.cells 97 [.ptr o 0],.cells 159 [.ptr om 0]]++bot (B 0)) Aa (by kernel_rfl) rfl rfl (fun _=>rfl) ?_
   apply Y.q
   case h1 =>
    intro B hT hF
    exact Z60
   case hTF=>decide
   refine Y.callBad (own0:=[.cells 97 [.ptr o 0],.cells 159 [.ptr om 0]]) Tryz.call138 (fun B hB=>⟨rfl,by simp [bot,hB]⟩) ((Om L i o _ (A6 (B3 ho hne)) hi hll).bad h1) ?_ ?_
   ·rintro x U O f hU hl' ⟨rfl,j',hH⟩
    obtain ⟨rfl,rfl⟩:=B1 hU (List.getElem?_eq_some_iff.1 (B3 (L:=L) (i:=i) (x:=mvO m) ho hne)).1 hH
    refine ⟨fun h=>B2 h (fun n=>Au),fun o h=>(by cases h),?_⟩
    refine K.blP ?_;exact K.finPP ⟨_,_,by rw [R2 ht8 ht13 ht24 ht29];rw [h1];rfl,rfl,j',m,Bn hne⟩
   exact pg
  have hj:=E5 hl hi _ _ h1
  refine W.drawY [0,0,2,6,15,31,63] [2] [.q 2 [] [],.s [33] (some 0) [] [],.s [34] none [0] []] (fun B=>U2 L Hp o om (if B 0=true then j else i) (mvO m)) (fun _=>[.cells 97 [.ptr o 0],.cells 159 [.ptr om 0]]) Aa (by kernel_rfl) rfl rfl (fun B=>by rw [U2_len];exact U2_len.symm) ?_
  apply Y.q
  case h1 =>
   intro B hT hF
   exact Z60
  case hTF=>decide
  refine Y.callUp (r:=A9 s) (o:=o) (x0:=pmO L i) (x:=pmO L j) Tryz.call138 (fun B hB1 hB2 hB=>⟨by simp only [hB];exact B3 ho hne,(Bn hne).symm,rfl,Au,?_⟩) ?_
  ·simp only [hB]
   exact (Om L i o _ (A6 (B3 ho hne)) hi hll).ok h1
  refine xa ?_;refine Z0 ?_
  refine R.storeUpT jS (Ca hm) ?_ ?_
  ·simp [or_imp,forall_and]
  refine H7 ?_;refine AW.upEq (Tc (m:=m) (s:=s)) ?_
  rcases h2:Bp L F9 j with ⟨u,j2⟩|⟨e,a⟩
  rotate_left
  ·refine AW.seqRK ?_
   refine ARunK.one (R.go (ARun.nil ?_))
   refine RK.callBad Tryz.call103 ((Mh L F9 j o _ (A6 (B3 ho hne)) hj.2 hll).bad h2) ?_
   rintro x U O hU hl' ⟨rfl,j',hH⟩
   obtain ⟨rfl,rfl⟩:=B1 hU (List.getElem?_eq_some_iff.1 (B3 (L:=L) (i:=j) (x:=mvO (takeS m s)) ho hne)).1 hH
   refine ⟨fun h=>B2 h (fun n=>Au),fun o h=>(by cases h),?_⟩
   refine Vf ?_;exact K.finPP ⟨_,_,by rw [R2 ht8 ht13 ht24 ht29];rw [h1];show (Bp L F9 j).bind _=_;rw [h2];rfl,rfl,j',(takeS m s),Bn hne⟩
  have hj2:=Cw hl hj.2 _ _ h2
  refine Z2 ?_;refine R.callUp (x:=pmO L j2) Tryz.call103 (B3 ho hne) (by simp) Au ((Mh L F9 j o _ (A6 (B3 ho hne)) hj.2 hll).ok h2) ?_
  rw [Bn hne]
  refine H7 ?_
  rcases h3:Ex L 0 (Cy L) (takeS m s) j2 with ⟨m1,j3⟩|⟨e,a⟩
  rotate_left
  ·refine AW.seqRK ?_
   refine ARunK.one (R.go (ARun.nil ?_))
   refine ARunK.one (R.makeFunc (ARun.nil ?_))
   refine RK.callBad Tryz.call141 ((ic L (0) (takeS m s) j2 o om 142 [.ptr (oid Hp.length 0) 0,.ptr (oid Hp.length 1) 0] (Cy L) (U2 L Hp o om j2 (mvO (takeS m s))++[.cells 97 [.ptr o 0],.cells 159 [.ptr om 0]]) hne (A6 (B3 ho hne)) (A6 (Ca hm)) (by omega) hj2.2 hl hll ((hb.mono (by omega:2*i-1≤2*j2-1)).takeS (by omega)) Tryz.call142 (Tb (z:=pmO L j2) (z':=mvO (takeS m s)) hne (A6 (B3 ho hne)) (A6 (Ca hm)) (On rfl) (On rfl) (Cx hol) (Cx hml) (Cx hol) (Cx hml) hl hll) (Gv hl hll)).bad h3) ?_
   rintro x U O hU hl' ⟨rfl,hW2⟩
   obtain ⟨⟨j',m',rfl⟩,rfl⟩:=Dw hne hol hml hU hW2
   refine ⟨fun h=>Cb hne Bj h,fun o h=>(by cases h),?_⟩
   refine Vf ?_;exact K.finPP ⟨_,_,by rw [R2 ht8 ht13 ht24 ht29];rw [h1];show (Bp L F9 j).bind _=_;rw [h2];show (Ex L 0 (Cy L) (takeS m s) j2).bind _=_;rw [h3];rfl,rfl,j',m',rfl⟩
  have hj3:=Mg hl (Gv hl hll) (takeS m s) j2 ((hb.mono (by omega:2*i-1≤2*j2-1)).takeS (by omega)) (by omega) hj2.2 _ _ h3
  refine Z2 ?_;refine R.makeFunc ?_
  refine R.callX (up':=U2 L Hp o om j3 (mvO m1)) (own':=[.cells 97 [.ptr o 0],.cells 159 [.ptr om 0]]) Tryz.call141 (((ic L (0) (takeS m s) j2 o om 142 [.ptr (oid Hp.length 0) 0,.ptr (oid Hp.length 1) 0] (Cy L) (U2 L Hp o om j2 (mvO (takeS m s))++[.cells 97 [.ptr o 0],.cells 159 [.ptr om 0]]) hne (A6 (B3 ho hne)) (A6 (Ca hm)) (by omega) hj2.2 hl hll ((hb.mono (by omega:2*i-1≤2*j2-1)).takeS (by omega)) Tryz.call142 (Tb (z:=pmO L j2) (z':=mvO (takeS m s)) hne (A6 (B3 ho hne)) (A6 (Ca hm)) (On rfl) (On rfl) (Cx hol) (Cx hml) (Cx hol) (Cx hml) hl hll) (Gv hl hll)).ok h3).mono (fun r H' e=>⟨e.1,e.2.trans (by first|rw [D3 (by rw [U2_len];exact hol) (by rw [U2_len];exact hml),Gb hne]|rw [D3 hol hml])⟩)) (by first|rfl|rw [U2_len,U2_len]|rw [U2_len]) (fun h=>Cb hne Bj h) ?_
  refine H7 ?_
  rcases h4:Dl L m1 j3 with ⟨m2,k⟩|⟨e,a⟩
  rotate_left
  ·refine AW.regionK ?_
   refine ARunK.one (R.go (ARun.nil ?_))
   refine ARunK.one (R.go (ARun.nil ?_))
   refine RK.callBad Tryz.call139 ((Xa L m1 j3 o om (U2 L Hp o om j3 (mvO m1)++[.cells 97 [.ptr o 0],.cells 159 [.ptr om 0]]) hne (A6 (B3 ho hne)) (A6 (Ca hm)) hj3.2.1 hl hll hj3.2.2).bad h4) ?_
   rintro x U O hU hl' ⟨rfl,hW2⟩
   obtain ⟨⟨j',m',rfl⟩,rfl⟩:=Dw hne hol hml hU hW2
   refine ⟨fun h=>Cb hne Bj h,fun o h=>(by cases h),?_⟩
   refine K.blP ?_;exact K.finPP ⟨_,_,by rw [R2 ht8 ht13 ht24 ht29];rw [h1];show (Bp L F9 j).bind _=_;rw [h2];show (Ex L 0 (Cy L) (takeS m s) j2).bind _=_;rw [h3];show Dl L m1 j3=_;rw [h4],rfl,j',m',rfl⟩
  refine Z29 ?_
  refine R.callX (up':=U2 L Hp o om k (mvO m2)) (own':=[.cells 97 [.ptr o 0],.cells 159 [.ptr om 0]]) Tryz.call139 (((Xa L m1 j3 o om (U2 L Hp o om j3 (mvO m1)++[.cells 97 [.ptr o 0],.cells 159 [.ptr om 0]]) hne (A6 (B3 ho hne)) (A6 (Ca hm)) hj3.2.1 hl hll hj3.2.2).ok h4).mono (fun r H' e=>⟨e.1,e.2.trans (by first|rw [D3 (by rw [U2_len];exact hol) (by rw [U2_len];exact hml),Gb hne]|rw [D3 hol hml])⟩)) (by first|rfl|rw [U2_len,U2_len]|rw [U2_len]) (fun h=>Cb hne Bj h) ?_
  refine Z85 ?_;exact K.finPN .nores (hp:=⟨m2,k,by rw [R2 ht8 ht13 ht24 ht29];rw [h1];show (Bp L F9 j).bind _=_;rw [h2];show (Ex L 0 (Cy L) (takeS m s) j2).bind _=_;rw [h3];show Dl L m1 j3=_;rw [h4],rfl,rfl⟩)
 refine Z1 ?_;refine R.fin [2,3,7,45] ?_
 refine W.cond (fun ht45=>?_) (fun ht45=>?_)
 ·rcases h1:Ex L 0 (Ks L) m i with ⟨m1,j⟩|⟨e,a⟩
  rotate_left
  ·refine AW.seqRK ?_
   refine ARunK.one (R.go (ARun.nil ?_))
   refine ARunK.one (R.makeFunc (ARun.nil ?_))
   refine RK.callBad Tryz.call141 ((ic L (0) m i o om 143 [.ptr (oid Hp.length 1) 0,.ptr (oid Hp.length 0) 0] (Ks L) (U2 L Hp o om i (mvO m)++[.cells 97 [.ptr o 0],.cells 159 [.ptr om 0]]) hne (A6 (B3 ho hne)) (A6 (Ca hm)) h0 hi hl hll hb Tryz.call143 (Ta (z:=pmO L i) (z':=mvO m) hne (A6 (B3 ho hne)) (A6 (Ca hm)) (On rfl) (On rfl) (Cx hol) (Cx hml) (Cx hol) (Cx hml) hl hll) (Mf hl)).bad h1) ?_
   rintro x U O hU hl' ⟨rfl,hW2⟩
   obtain ⟨⟨j',m',rfl⟩,rfl⟩:=Dw hne hol hml hU hW2
   refine ⟨fun h=>Cb hne Bj h,fun o h=>(by cases h),?_⟩
   refine Vf ?_;exact K.finPP ⟨_,_,by rw [R3 ht8 ht13 ht24 ht29 ht45];rw [h1];rfl,rfl,j',m',rfl⟩
  have hj:=Mg hl (Mf hl) m i hb h0 hi _ _ h1
  refine Z2 ?_;refine R.makeFunc ?_
  refine R.callX (up':=U2 L Hp o om j (mvO m1)) (own':=[.cells 97 [.ptr o 0],.cells 159 [.ptr om 0]]) Tryz.call141 (((ic L (0) m i o om 143 [.ptr (oid Hp.length 1) 0,.ptr (oid Hp.length 0) 0] (Ks L) (U2 L Hp o om i (mvO m)++[.cells 97 [.ptr o 0],.cells 159 [.ptr om 0]]) hne (A6 (B3 ho hne)) (A6 (Ca hm)) h0 hi hl hll hb Tryz.call143 (Ta (z:=pmO L i) (z':=mvO m) hne (A6 (B3 ho hne)) (A6 (Ca hm)) (On rfl) (On rfl) (Cx hol) (Cx hml) (Cx hol) (Cx hml) hl hll) (Mf hl)).ok h1).mono (fun r H' e=>⟨e.1,e.2.trans (by first|rw [D3 (by rw [U2_len];exact hol) (by rw [U2_len];exact hml),Gb hne]|rw [D3 hol hml])⟩)) (by first|rfl|rw [U2_len,U2_len]|rw [U2_len]) (fun h=>Cb hne Bj h) ?_
  refine H7 ?_
  rcases h2:Bp L F9 j with ⟨u,j2⟩|⟨e,a⟩
  rotate_left
  ·refine AW.seqRK ?_
   refine ARunK.one (R.go (ARun.nil ?_))
   refine RK.callBad Tryz.call103 ((Mh L F9 j o _ (A6 (B3 ho hne)) hj.2.1 hll).bad h2) ?_
   rintro x U O hU hl' ⟨rfl,j',hH⟩
   obtain ⟨rfl,rfl⟩:=B1 hU (List.getElem?_eq_some_iff.1 (B3 (L:=L) (i:=j) (x:=mvO m1) ho hne)).1 hH
   refine ⟨fun h=>B2 h (fun n=>Au),fun o h=>(by cases h),?_⟩
   refine Vf ?_;exact K.finPP ⟨_,_,by rw [R3 ht8 ht13 ht24 ht29 ht45];rw [h1];show (Bp L F9 j).bind _=_;rw [h2];rfl,rfl,j',m1,Bn hne⟩
  have hj2:=Cw hl hj.2.1 _ _ h2
  have hj2e:=Hf h2
  refine Z2 ?_;refine R.callUp (x:=pmO L j2) Tryz.call103 (B3 ho hne) (by simp) Au ((Mh L F9 j o _ (A6 (B3 ho hne)) hj.2.1 hll).ok h2) ?_
  rw [Bn hne]
  refine H7 ?_
  rcases h3:Cy L m1 j2 with ⟨m2,j3⟩|⟨e,a⟩
  rotate_left
  ·refine AW.seqRK ?_
   refine ARunK.one (R.go (ARun.nil ?_))
   refine ARunK.one (R.go (ARun.nil ?_))
   refine RK.callBad Tryz.call137 ((Zx L m1 j2 o om (U2 L Hp o om j2 (mvO m1)++[.cells 97 [.ptr o 0],.cells 159 [.ptr om 0]]) hne (A6 (B3 ho hne)) (A6 (Ca hm)) hj2.2 hl hll (hj.2.2.mono (by omega))).bad h3) ?_
   rintro x U O hU hl' ⟨rfl,hW2⟩
   obtain ⟨⟨j',m',rfl⟩,rfl⟩:=Dw hne hol hml hU hW2
   refine ⟨fun h=>Cb hne Bj h,fun o h=>(by cases h),?_⟩
   refine Vf ?_;exact K.finPP ⟨_,_,by rw [R3 ht8 ht13 ht24 ht29 ht45];rw [h1];show (Bp L F9 j).bind _=_;rw [h2];show (Cy L m1 j2).bind _=_;rw [h3];rfl,rfl,j',m',rfl⟩
  have hj3:=Gv hl hll m1 j2 (hj.2.2.mono (by omega)) (by omega) hj2.2 _ _ h3
  refine Z1 ?_
  refine R.callX (up':=U2 L Hp o om j3 (mvO m2)) (own':=[.cells 97 [.ptr o 0],.cells 159 [.ptr om 0]]) Tryz.call137 (((Zx L m1 j2 o om (U2 L Hp o om j2 (mvO m1)++[.cells 97 [.ptr o 0],.cells 159 [.ptr om 0]]) hne (A6 (B3 ho hne)) (A6 (Ca hm)) hj2.2 hl hll (hj.2.2.mono (by omega))).ok h3).mono (fun r H' e=>⟨e.1,e.2.trans (by first|rw [D3 (by rw [U2_len];exact hol) (by rw [U2_len];exact hml),Gb hne]|rw [D3 hol hml])⟩)) (by first|rfl|rw [U2_len,U2_len]|rw [U2_len]) (fun h=>Cb hne Bj h) ?_
  refine H7 ?_
  rcases h4:Dl L m2 j3 with ⟨m3,k⟩|⟨e,a⟩
  rotate_left
  ·refine AW.regionK ?_
   refine ARunK.one (R.go (ARun.nil ?_))
   refine ARunK.one (R.go (ARun.nil ?_))
   refine RK.callBad Tryz.call139 ((Xa L m2 j3 o om (U2 L Hp o om j3 (mvO m2)++[.cells 97 [.ptr o 0],.cells 159 [.ptr om 0]]) hne (A6 (B3 ho hne)) (A6 (Ca hm)) hj3.2.1 hl hll hj3.2.2).bad h4) ?_
   rintro x U O hU hl' ⟨rfl,hW2⟩
   obtain ⟨⟨j',m',rfl⟩,rfl⟩:=Dw hne hol hml hU hW2
   refine ⟨fun h=>Cb hne Bj h,fun o h=>(by cases h),?_⟩
   refine K.blP ?_;exact K.finPP ⟨_,_,by rw [R3 ht8 ht13 ht24 ht29 ht45];rw [h1];show (Bp L F9 j).bind _=_;rw [h2];show (Cy L m1 j2).bind _=_;rw [h3];show Dl L m2 j3=_;rw [h4],rfl,j',m',rfl⟩
  refine Z29 ?_
  refine R.callX (up':=U2 L Hp o om k (mvO m3)) (own':=[.cells 97 [.ptr o 0],.cells 159 [.ptr om 0]]) Tryz.call139 (((Xa L m2 j3 o om (U2 L Hp o om j3 (mvO m2)++[.cells 97 [.ptr o 0],.cells 159 [.ptr om 0]]) hne (A6 (B3 ho hne)) (A6 (Ca hm)) hj3.2.1 hl hll hj3.2.2).ok h4).mono (fun r H' e=>⟨e.1,e.2.trans (by first|rw [D3 (by rw [U2_len];exact hol) (by rw [U2_len];exact hml),Gb hne]|rw [D3 hol hml])⟩)) (by first|rfl|rw [U2_len,U2_len]|rw [U2_len]) (fun h=>Cb hne Bj h) ?_
  refine Z85 ?_;exact K.finPN .nores (hp:=⟨m3,k,by rw [R3 ht8 ht13 ht24 ht29 ht45];rw [h1];show (Bp L F9 j).bind _=_;rw [h2];show (Cy L m1 j2).bind _=_;rw [h3];show Dl L m2 j3=_;rw [h4],rfl,rfl⟩)
 refine Z1 ?_;refine R.fin [2,3,58] ?_
 refine W.cond (fun ht58=>?_) (fun ht58=>?_)
 ·rcases h1:Cy L m i with ⟨m1,j⟩|⟨e,a⟩
  rotate_left
  ·refine AW.seqRK ?_
   refine ARunK.one (R.go (ARun.nil ?_))
   refine ARunK.one (R.go (ARun.nil ?_))
   refine yl ?_
   rintro x U O hU hl' ⟨rfl,hW2⟩
   obtain ⟨⟨j',m',rfl⟩,rfl⟩:=Dw hne hol hml hU hW2
   refine ⟨fun h=>Cb hne Bj h,fun o h=>(by cases h),?_⟩
   refine Vf ?_;exact K.finPP ⟨_,_,by rw [Zz ht8 ht13 ht24 ht29 ht45 ht58];rw [h1];rfl,rfl,j',m',rfl⟩
  have hj:=Gv hl hll m i hb h0 hi _ _ h1
  refine Z1 ?_
  refine R.callX (up':=U2 L Hp o om j (mvO m1)) (own':=[.cells 97 [.ptr o 0],.cells 159 [.ptr om 0]]) Tryz.call137 (((Zx L m i o om (U2 L Hp o om i (mvO m)++[.cells 97 [.ptr o 0],.cells 159 [.ptr om 0]]) hne (A6 (B3 ho hne)) (A6 (Ca hm)) hi hl hll hb).ok h1).mono (fun r H' e=>⟨e.1,e.2.trans (by first|rw [D3 (by rw [U2_len];exact hol) (by rw [U2_len];exact hml),Gb hne]|rw [D3 hol hml])⟩)) (by first|rfl|rw [U2_len,U2_len]|rw [U2_len]) (fun h=>Cb hne Bj h) ?_
  refine H7 ?_;refine W.drawY [0,0,2,6,14,30,62,126,254,511,1023,2047] [] [.q 8 [] [],.s [71] none [] []] (fun _=>U2 L Hp o om j (mvO m1)) (fun _=>[.cells 97 [.ptr o 0],.cells 159 [.ptr om 0]]) Aa (by kernel_rfl) rfl rfl (fun B=>rfl) ?_
  apply Y.q
  case h1 =>
   intro B hT hF
   refine Ol ?_
   refine D.go (h:=Q.loadUp (Ca hm)) (hr:=?_)
   refine D.go (h:=Q.indexAddr (0) (Av (m1.give.getD 0 ⟨[],0⟩)) (fun _=>nu h1)) (hr:=?_)
   exact Z60
  case hTF=>decide
  refine Y.buildSlice jU Tryz.sizeOf9 Tryz.zeroValue9 ?_;refine Y.tail (tn:=[]) (U:=U2 L Hp o om j (mvO m1)) ?_;refine Z0 ?_
  refine R.storeUpT jS (Ca hm) ?_ ?_
  ·simp [or_imp,forall_and]
  refine H7 ?_;refine AW.upEq (ie (m:=m1) (c:=m1.give.getD 0 ⟨[],0⟩)) ?_
  rcases h2:Dl L (takeS m1 (m1.give.getD 0 ⟨[],0⟩).name) j with ⟨m2,k⟩|⟨e,a⟩
  rotate_left
  ·refine AW.regionK ?_
   refine ARunK.one (R.go (ARun.nil ?_))
   refine ARunK.one (R.go (ARun.nil ?_))
   refine RK.callBad Tryz.call139 ((Xa L (takeS m1 (m1.give.getD 0 ⟨[],0⟩).name) j o om (U2 L Hp o om j (mvO (takeS m1 (m1.give.getD 0 ⟨[],0⟩).name))++[.cells 97 [.ptr o 0],.cells 159 [.ptr om 0]]) hne (A6 (B3 ho hne)) (A6 (Ca hm)) hj.2.1 hl hll (hj.2.2.takeS (by omega))).bad h2) ?_
   rintro x U O hU hl' ⟨rfl,hW2⟩
   obtain ⟨⟨j',m',rfl⟩,rfl⟩:=Dw hne hol hml hU hW2
   refine ⟨fun h=>Cb hne Bj h,fun o h=>(by cases h),?_⟩
   refine K.blP ?_;exact K.finPP ⟨_,_,by rw [Zz ht8 ht13 ht24 ht29 ht45 ht58];rw [h1];show Dl L (takeS m1 (m1.give.getD 0 ⟨[],0⟩).name) j=_;rw [h2],rfl,j',m',rfl⟩
  refine Z29 ?_
  refine R.callX (up':=U2 L Hp o om k (mvO m2)) (own':=[.cells 97 [.ptr o 0],.cells 159 [.ptr om 0]]) Tryz.call139 (((Xa L (takeS m1 (m1.give.getD 0 ⟨[],0⟩).name) j o om (U2 L Hp o om j (mvO (takeS m1 (m1.give.getD 0 ⟨[],0⟩).name))++[.cells 97 [.ptr o 0],.cells 159 [.ptr om 0]]) hne (A6 (B3 ho hne)) (A6 (Ca hm)) hj.2.1 hl hll (hj.2.2.takeS (by omega))).ok h2).mono (fun r H' e=>⟨e.1,e.2.trans (by first|rw [D3 (by rw [U2_len];exact hol) (by rw [U2_len];exact hml),Gb hne]|rw [D3 hol hml])⟩)) (by first|rfl|rw [U2_len,U2_len]|rw [U2_len]) (fun h=>Cb hne Bj h) ?_
  refine Z85 ?_;exact K.finPN .nores (hp:=⟨m2,k,by rw [Zz ht8 ht13 ht24 ht29 ht45 ht58];rw [h1];show Dl L (takeS m1 (m1.give.getD 0 ⟨[],0⟩).name) j=_;rw [h2],rfl,rfl⟩)
 refine AW.skip ?_;refine K.blN ?_;exact K.finPN .nores (hp:=⟨m,i,wh ht8 ht13 ht24 ht29 ht45 ht58,rfl,rfl⟩)

def zu:Str:=[32,97,100,100,32,100,114,111,112,32,114,101,110,97,109,101,32,115,112,108,105,116,32,109,101,114,103,101,32,114,101,116,121,112,101]
theorem ig:Ji zu [32]=migWords:=by kernel_rfl
theorem c96 (k:Int) (Hp:List AObj):AFun Tryz.prog 96 [A2 k] Hp (A9 (Cv k)):=by
 refine ACall.body [.tmp 2] [0] Tryz.func96 Tryz.ntmps96 (fun d=>?_)
 refine Vk ?_;refine Vi ?_;refine R.fin [0,8] ?_
 refine W.cond (fun ht8=>?_) (fun ht8=>?_)
 ·have hm:Cv k=[]:=if_pos ht8
  refine Z49 ?_;exact Z87
 have hm:Cv k=migWords.getD k.toNat []:=if_neg (by rw [ht8];simp)
 refine Y3 ?_;refine R.call Tryz.call44 (c44 zu [32] (by decide) (by decide) _) ?_
 rw [ig]
 refine R.go ?_
 have hk:1≤k∧k≤6:=by simp at ht8;omega
 have hget:(migWords.map A9)[k.toNat]? = some (A9 (migWords.getD k.toNat [])):=by
  have hlt:k.toNat<migWords.length:=by show k.toNat<7;omega
  rw [List.getElem?_map,List.getElem?_eq_getElem hlt,List.getD_eq_getElem?_getD,List.getElem?_eq_getElem hlt]
  rfl
 refine R.go (h:=Q.indexAddr (k.toNat) (A9 (migWords.getD k.toNat [])) (fun _=>hget)) (hr:=?_)
 refine Z63 ?_;exact dz

theorem ii {s:Str} {x:Nat} (h:∀j:Nat,j<x→(Cv ((j:Int)+1)==s)=false) (hx:x<6) (he:(Cv ((x:Int)+1)==s)=true):D5 s=(x:Int)+1:=by
 have a:∀j:Nat,j<x→∀k:Int,k=(j:Int)+1→(Cv k==s)=false:=fun j hj k e=>by rw [e];exact h j hj
 have b:∀k:Int,k=(x:Int)+1→(Cv k==s)=true:=fun k e=>by rw [e];exact he
 have h6:x=0∨x=1∨x=2∨x=3∨x=4∨x=5:=by omega
 unfold D5
 rcases h6 with rfl|rfl|rfl|rfl|rfl|rfl
 ·rw [if_pos (b 1 rfl)];rfl
 ·rw [if_neg (by rw [a 0 (by omega) 1 rfl];simp),if_pos (b 2 rfl)];rfl
 ·rw [if_neg (by rw [a 0 (by omega) 1 rfl];simp),if_neg (by rw [a 1 (by omega) 2 rfl];simp),if_pos (b 3 rfl)];rfl
 ·rw [if_neg (by rw [a 0 (by omega) 1 rfl];simp),if_neg (by rw [a 1 (by omega) 2 rfl];simp),if_neg (by rw [a 2 (by omega) 3 rfl];simp),if_pos (b 4 rfl)];rfl
 ·rw [if_neg (by rw [a 0 (by omega) 1 rfl];simp),if_neg (by rw [a 1 (by omega) 2 rfl];simp),if_neg (by rw [a 2 (by omega) 3 rfl];simp),if_neg (by rw [a 3 (by omega) 4 rfl];simp),if_pos (b 5 rfl)];rfl
 rw [if_neg (by rw [a 0 (by omega) 1 rfl];simp),if_neg (by rw [a 1 (by omega) 2 rfl];simp),if_neg (by rw [a 2 (by omega) 3 rfl];simp),if_neg (by rw [a 3 (by omega) 4 rfl];simp),if_neg (by rw [a 4 (by omega) 5 rfl];simp),if_pos (b 6 rfl)];rfl
theorem Xc {s:Str} {x:Nat} (h:∀j:Nat,j<x→(Cv ((j:Int)+1)==s)=false) (he:(Cv ((x:Int)+1)==s)=false):∀j:Nat,j<x+1→(Cv ((j:Int)+1)==s)=false:=fun j hj=>by
 rcases Nat.lt_or_ge j x with h1|h1
 ·exact h j h1
 rw [show j=x by omega];exact he
theorem ij {s:Str} {x:Nat} (h:∀j:Nat,j<x→(Cv ((j:Int)+1)==s)=false) (hx:6≤x):D5 s=0:=by
 have a:∀j:Nat,j<6→∀k:Int,k=(j:Int)+1→(Cv k==s)=false:=fun j hj k e=>by rw [e];exact h j (by omega)
 unfold D5
 rw [if_neg (by rw [a 0 (by omega) 1 rfl];simp),if_neg (by rw [a 1 (by omega) 2 rfl];simp),if_neg (by rw [a 2 (by omega) 3 rfl];simp),if_neg (by rw [a 3 (by omega) 4 rfl];simp),if_neg (by rw [a 4 (by omega) 5 rfl];simp),if_neg (by rw [a 5 (by omega) 6 rfl];simp)]
theorem AC8 (s:Str) (Hp:List AObj):AFun Tryz.prog 101 [A9 s] Hp (A2 (D5 s)):=by
 refine ACall.body [.tmp 2] [0] Tryz.func101 Tryz.ntmps101 (fun d=>?_)
 refine Z48 ?_;refine Z36 ?_;refine Ij ?_
 refine AW.loopC (α:=Nat) (fun x=>⟨13,A3 0 (A9 s) (A3 3 (A2 ((x:Nat)+1)) (fun _=>.any)),Hp,[],[],none⟩) (fun x=>∀j:Nat,j<x→(Cv ((j:Int)+1)==s)=false) (fun x=>6-x) (0) (fun j h=>by omega) (StLe.refl _) rfl (fun x hx=>?_)
 refine Z22 ?_;refine R.fin [0,3,5] ?_
 refine W.cond (fun ht5=>?_) (fun ht5=>?_)
 ·have hx6:x<6:=by simp at ht5;omega
  refine Z86 ?_;refine Z2 ?_;refine R.call Tryz.call96 (c96 _ _) ?_;refine Z0 ?_;refine R.fin [0,3,11] ?_
  refine W.cond (fun ht11=>?_) (fun ht11=>?_)
  ·refine Z1 ?_;refine Z4 ?_;refine Z54 ?_;exact K.fin (V.one V.tmp) ⟨by rw [ii hx hx6 ht11],rfl⟩
  refine Vg ?_;refine Ij ?_
  refine K.lpN (x+1) (Xc hx ht11) (by omega) (StCut.of_eq rfl)
 have hx6:6≤x:=by simp at ht5;omega
 refine Z98 ?_;refine Z49 ?_;exact K.fin (V.one V.tmp) ⟨by rw [ij hx hx6],rfl⟩

theorem nx {L:List Tok} {Hp own:List AObj} {o i n:Nat} {x:AObj} (h1:o<Hp.length):U2 L (Hp++own) o (oid Hp.length n) i x=Hp.set o (pmO L i)++own.set n x:=by
 unfold U2 oid
 rw [List.set_append_left _ _ h1,List.set_append,if_neg (by simp),List.length_set,Nat.add_sub_cancel_left]
theorem Xd {L:List Tok} {Hp:List AObj} {o i j n:Nat} (h:∀z∈Hp.set o (pmO L i),ObjLow n z):∀z∈Hp.set o (pmO L j),ObjLow n z:=by
 intro z hz
 rw [show Hp.set o (pmO L j)=(Hp.set o (pmO L i)).set o (pmO L j) by rw [List.set_set]] at hz
 rcases List.mem_or_eq_of_mem_set hz with hz|rfl
 ·exact h z hz
 exact Au
theorem c75 (L:List Tok) (i o:Nat) (Hp:List AObj) (ho:Hp[o]? = some (pmO L i)) (hi:i<L.length) (hl:TokEnd L) (hll:L.length≤500000):CP 75 [.ptr o 0] Hp (Ga L i) (fun m j r H'=>r=Eg m∧H'=Hp.set o (pmO L j)) (W1 L o Hp):=by
 have hol:=(List.getElem?_eq_some_iff.1 ho).1
 have hne:oid Hp.length 2≠o:=by unfold oid;omega
 refine ACallP.body [.cell 2 77] [0] Tryz.func75 Tryz.ntmps75 (fun d=>?_)
 refine Z52 ?_;refine uc ?_;refine Vd ?_;refine Z1 ?_;refine R.call Tryz.call101 (AC8 (A7 L i).text _) ?_;refine R.build (places:=#[(0,1),(1,1),(2,1),(3,1),(4,1)]) jU (fun w=>by simp) jZ ?_;refine Z20 ?_;refine R.fin [0,2,3,4] ?_;refine Z67 ?_;refine R.nilCell 2 1 1 ?_;refine R.nilCell 2 2 2 ?_;refine R.nilCell 2 3 6 ?_;refine R.nilCell 2 4 6 ?_;refine Z0 ?_;refine Z40 ?_;refine Z88 ?_;refine R.fin [0,2,4,18] ?_
 refine W.cond (fun ht18=>?_) (fun ht18=>?_)
 ·have e:Ga L i=.bad 8 (A7 L i).at_:=if_pos ht18
  refine AW.regionK ?_
  refine ARunK.one (R.go (ARun.nil ?_))
  refine ul ?_
  rintro x U O hU hl' ⟨rfl,hH⟩
  obtain ⟨rfl,rfl⟩:=Gw hU hH
  refine ⟨fun h=>h,fun o h=>(by cases h),?_⟩
  exact p8
 have e0:Ga L i=(Em L (⟨D5 (A7 L i).text,[],[],[],[]⟩:Mov) (i+1)).bind fun m j=>(Bp L [59] j).bind fun _ j=>.ok m j:=if_neg (by rw [ht18];simp)
 have hi1:i+1<L.length:=hl.step hi (by simp only [Bool.or_eq_false_iff,bne_eq_false_iff_eq] at ht18;rw [ht18.1];decide)
 refine Lq ?_
 refine R.go (h:=Q.loadUp ho) (hr:=?_)
 refine Z19 ?_
 refine R.storeUp jS ho ?_ ?_
 ·simp
 refine R.fin [0,2,4] ?_
 rcases hR:Em L (⟨D5 (A7 L i).text,[],[],[],[]⟩:Mov) (i+1) with ⟨m1,k⟩|⟨e,a⟩
 rotate_left
 ·refine AW.seqRK ?_
  refine ARunK.one (R.go (ARun.nil ?_))
  refine RK.callBad Tryz.call102 ((zt L (⟨D5 (A7 L i).text,[],[],[],[]⟩:Mov) (i+1) o (oid Hp.length 2) (Hp.set o (pmO L (i+1))++[.cells 77 [A2 0,.nil,.nil,.nil,.nil],.cells 130 [.v (.int .i64 (A7 L i).kind),.v (sv (A7 L i).text),.v (.int .i64 ((A7 L i).at_:Int))],mvO (⟨D5 (A7 L i).text,[],[],[],[]⟩:Mov)]) hne (by rw [List.getElem?_append_left (by simpa using hol)];exact getset ho) (by unfold oid;rw [List.getElem?_append_right (by simp)];simp) hi1 hl hll ⟨Nat.zero_le _,Nat.zero_le _,Nat.zero_le _,Nat.zero_le _⟩ (by omega)).bad hR) ?_
  rintro x U O hU hl' ⟨rfl,j',m',hH⟩
  rw [show oid Hp.length 2=oid (Hp.set o (pmO L (i+1))).length 2 by simp,nx (by simpa using hol),List.set_set] at hH
  obtain ⟨rfl,rfl⟩:=Gw (by rw [hU];simp) hH
  refine ⟨fun h=>Xd h,fun o h=>(by cases h),?_⟩
  refine K.thP ?_;exact K.finPP ⟨_,_,by rw [e0];rw [hR];rfl,rfl,j',rfl⟩
 have hk:=Up hl hll (⟨D5 (A7 L i).text,[],[],[],[]⟩:Mov) (i+1) ⟨Nat.zero_le _,Nat.zero_le _,Nat.zero_le _,Nat.zero_le _⟩ (by omega) hi1 _ _ hR
 refine Z2 ?_
 refine R.callX (up':=Hp.set o (pmO L k)) (own':=[.cells 77 [A2 0,.nil,.nil,.nil,.nil],.cells 130 [.v (.int .i64 (A7 L i).kind),.v (sv (A7 L i).text),.v (.int .i64 ((A7 L i).at_:Int))],mvO m1]) Tryz.call102 (((zt L (⟨D5 (A7 L i).text,[],[],[],[]⟩:Mov) (i+1) o (oid Hp.length 2) (Hp.set o (pmO L (i+1))++[.cells 77 [A2 0,.nil,.nil,.nil,.nil],.cells 130 [.v (.int .i64 (A7 L i).kind),.v (sv (A7 L i).text),.v (.int .i64 ((A7 L i).at_:Int))],mvO (⟨D5 (A7 L i).text,[],[],[],[]⟩:Mov)]) hne (by rw [List.getElem?_append_left (by simpa using hol)];exact getset ho) (by unfold oid;rw [List.getElem?_append_right (by simp)];simp) hi1 hl hll ⟨Nat.zero_le _,Nat.zero_le _,Nat.zero_le _,Nat.zero_le _⟩ (by omega)).ok hR).mono (fun r H' e=>⟨e.1,e.2.trans (by rw [show oid Hp.length 2=oid (Hp.set o (pmO L (i+1))).length 2 by simp];rw [nx (by simpa using hol),List.set_set];rfl)⟩)) (by simp) (fun h=>by simpa using Xd h) ?_
 refine R.fin [0,2,4] ?_
 rcases hW:Bp L [59] k with ⟨u,j2⟩|⟨e,a⟩
 rotate_left
 ·refine AW.seqRK ?_
  refine ARunK.one (R.go (ARun.nil ?_))
  refine RK.callBad Tryz.call103 ((Mh L [59] k o _ (A6 (getset ho)) hk.2.1 hll).bad hW) ?_
  rintro x U O hU hl' ⟨rfl,j',hH⟩
  obtain ⟨rfl,rfl⟩:=B1 hU (List.getElem?_eq_some_iff.1 (getset (B:=pmO L k) ho)).1 hH
  refine ⟨fun h=>B2 h (fun n=>Au),fun o h=>(by cases h),?_⟩
  refine K.thP ?_;exact K.finPP ⟨_,_,by rw [e0];rw [hR];show (Bp L [59] k).bind _=_;rw [hW];rfl,rfl,j',by rw [List.set_set]⟩
 refine Z2 ?_;refine R.callUp (x:=pmO L j2) Tryz.call103 (getset ho) (by simp) Au ((Mh L [59] k o _ (A6 (getset ho)) hk.2.1 hll).ok hW) ?_
 rw [List.set_set]
 refine R.fin [2,4] ?_;refine Z2 ?_;refine Z10 ?_;exact K.finP (V.one (V.cellN jA jS)) (hp:=⟨m1,j2,by rw [e0];rw [hR];show (Bp L [59] k).bind _=_;rw [hW];rfl,rfl,rfl⟩) (hlow:=Wo)

/-- What mig.parser.moves comes to: the moves, or none and the fault. -/
def K4 (L:List Tok):List Mov×Int×Int:=match He L with
 | .ok l _=>(l,0,0)
 | .bad e a=>([],e,a)
abbrev No (L:List Tok):AV:=.tup [Cq (K4 L).1,.agg [A2 (K4 L).2.1,A2 (K4 L).2.2]]
theorem Xe {up:List AObj} {n:Nat} {x y z:AObj} (hn:up.length=n):(up++[x,y]).set (oid n 0) z=up++[z,y]:=by
 subst hn
 rw [show oid up.length 0=up.length+0 from rfl,As];rfl
theorem ny {up:List AObj} {n:Nat} {x y z:AObj} (hn:up.length=n):(up++[x,y]).set (oid n 1) z=up++[x,z]:=by
 subst hn
 rw [show oid up.length 1=up.length+1 from rfl,As];rfl
theorem Xf {up:List AObj} {n:Nat} {x y:AObj} (hn:up.length=n):(up++[x,y])[oid n 0]? = some x:=by
 subst hn
 rw [show oid up.length 0=up.length+0 from rfl,Cl];rfl
theorem nz {up:List AObj} {n:Nat} {x y:AObj} (hn:up.length=n):(up++[x,y])[oid n 1]? = some y:=by
 subst hn
 rw [show oid up.length 1=up.length+1 from rfl,Cl];rfl
theorem sd {fc:Func} {r0 crest:Code} (hf:Tryz.prog.funcs[72]? = some fc) (hb:fc.body=some (.seq r0 crest)) (d a b:Nat) (H:List AObj):AW Tryz.prog (d+1) crest ⟨8,A3 2 (.v .nilIface) (A3 3 (.v .nilIface) (Go.SX.argsF [.ptr a 0,.ptr b 0])),H,[],[],none⟩ (fun e s2=>(e=.normal∨e=.ret)∧s2.defs=[]∧s2.up=H):=by
 have e:=Tryz.func72.symm.trans hf
 injection e with e
 subst e
 injection hb with hb
 injection hb with h1 h2
 subst h2
 refine AW.keep [0,1,2] (by simp only [go_sem,↓reduceIte,Nat.reduceEqDiff,Nat.reduceAdd]<;>rfl) ?_
 refine Z2 ?_;refine R.neqNil0 jU ?_;refine R.fin [0,1,2,5] ?_
 refine W.cond (fun ht5=>?_) (fun ht5=>?_)
 ·cases ht5
 refine AW.skip ?_;exact ⟨.inl rfl,rfl,rfl⟩

theorem cg {fc:Func} {r0 crest:Code} (hf:Tryz.prog.funcs[72]? = some fc) (hb:fc.body=some (.seq r0 crest)) {n:Nat} {up:List AObj} {x0 y1 y2:AV} (e a:Int) (hn:up.length=n) (d:Nat):AW Tryz.prog (d+1) crest ⟨8,A3 2 (.iface 59 (.agg ([Value.int .i64 e,Value.int .i64 a].map .v))) (A3 3 (.iface 59 (.agg ([Value.int .i64 e,Value.int .i64 a].map .v))) (Go.SX.argsF [.ptr (oid n 0) 0,.ptr (oid n 1) 0])),(up++[.cells 35 [x0],.cells 59 [y1,y2]]),[],[],none⟩ (fun e' s2=>(e'=.normal∨e'=.ret)∧s2.defs=[]∧s2.up=up++[.cells 35 [.slice true 5 []],.cells 59 [A2 e,A2 a]]):=by
 have e':=Tryz.func72.symm.trans hf
 injection e' with e'
 subst e'
 injection hb with hb
 injection hb with h1 h2
 subst h2
 refine AW.keep [0,1,2] (by simp only [go_sem,↓reduceIte,Nat.reduceEqDiff,Nat.reduceAdd]<;>rfl) ?_
 refine Z2 ?_;refine R.neqNil jU ?_;refine R.fin [0,1,2,5] ?_
 refine W.cond (fun ht5=>?_) (fun ht5=>?_)
 ·refine W.drawY0 [0,1,0,7] [2] [.q 2 [] [],.s [] (some 0) [] []] (fun B=>if B 0=true then (up++[.cells 35 [.nil],.cells 59 [y1,y2]]) else (up++[.cells 35 [x0],.cells 59 [y1,y2]])) (fun _=>[]) Aa (by kernel_rfl) rfl rfl (fun B=>by split<;>simp) ?_
  apply Y.q
  case h1 =>
   intro B hT hF
   refine D.go ?_;refine D.typeAssert (.of jU) ?_;exact L0
  case hTF=>decide
  refine Y.storeUp (o:=oid n 0) (t':=35) (ys:=[.nil]) (cs:=[x0]) (cs':=[.nil]) Tryz.sizeOf35 (fun B hB=>⟨by simp only [hB];exact Xf hn,by simp [upd,hB];exact (Xe hn).symm,rfl,by simp⟩) ?_
  refine Y.tail (tn:=[2]) (U:=(up++[.cells 35 [.nil],.cells 59 [y1,y2]])) ?_
  refine R.storeUp jS (nz hn) ?_ ?_
  ·simp
  rw [ny hn]
  refine R.nilUp (oid n 0) 0 5 (Xf hn) (Xe hn) ?_;refine R.fin [] ?_;exact ⟨.inl rfl,rfl,rfl⟩
 cases ht5

/-- Where the loop of moves stands. -/
structure MovAt (L:List Tok) (x:List Mov×Nat):Prop where
 lt:x.2<L.length
 le:x.1.length≤8
 at_:He L=Ds L (9-x.1.length) x.1 x.2
theorem cj {L:List Tok} (hl:TokEnd L) (hll:L.length≤500000) {i:Nat} (hi:i<L.length) {m:Mov} {j:Nat} (h:Ga L i=.ok m j):i<j∧j<L.length:=by
 unfold Ga at h
 split at h
 ·cases h
 rename_i h0
 have hi1:i+1<L.length:=hl.step hi (by
  simp only [Bool.or_eq_true,not_or,Bool.not_eq_true,bne_eq_false_iff_eq] at h0
  rw [h0.1];decide)
 obtain ⟨m1,k,h1,h2⟩:=PR.bind_ok h
 obtain ⟨u,j2,h3,h4⟩:=PR.bind_ok h2
 injection h4 with h5 h6
 subst h6
 obtain ⟨a1,a2,_⟩:=Up hl hll _ (i+1) ⟨Nat.zero_le _,Nat.zero_le _,Nat.zero_le _,Nat.zero_le _⟩ (by omega) hi1 _ _ h1
 obtain ⟨b1,b2⟩:=Cw hl a2 _ _ h3
 exact ⟨by omega,b2⟩
theorem K5 {L:List Tok} {l:List Mov} {i:Nat} (hl:l.length≤8):Ds L (9-l.length) l i=if (A7 L i).kind != 0 then (if (l.length:Int)==8 then T7 L i 3 else (Ga L i).bind fun m j=>Ds L (8-l.length) (l++[m]) j) else .ok l i:=by
 rw [show 9-l.length=(8-l.length)+1 by omega,Ds]
theorem MovAt.out {L:List Tok} {x:List Mov×Nat} (h:MovAt L x) (hk:((A7 L x.2).kind != 0)=false):He L=.ok x.1 x.2:=by
 rw [h.at_,K5 h.le,if_neg (by rw [hk];simp)]
theorem MovAt.long {L:List Tok} {x:List Mov×Nat} (h:MovAt L x) (hk:((A7 L x.2).kind != 0)=true) (h8:((x.1.length:Int)==8)=true):He L=.bad 3 (A7 L x.2).at_:=by
 rw [h.at_,K5 h.le,if_pos hk,if_pos h8];rfl
theorem MovAt.step {L:List Tok} {x:List Mov×Nat} (h:MovAt L x) (hk:((A7 L x.2).kind != 0)=true) (h8:((x.1.length:Int)==8)=false):He L=(Ga L x.2).bind fun m j=>Ds L (8-x.1.length) (x.1++[m]) j:=by
 rw [h.at_,K5 h.le,if_pos hk,if_neg (by rw [h8];simp)]
theorem MovAt.bad {L:List Tok} {x:List Mov×Nat} (h:MovAt L x) (hk:((A7 L x.2).kind != 0)=true) (h8:((x.1.length:Int)==8)=false) {e a:Int} (hM:Ga L x.2=.bad e a):He L=.bad e a:=by
 rw [h.step hk h8,hM];rfl
theorem MovAt.on {L:List Tok} (hl:TokEnd L) (hll:L.length≤500000) {x:List Mov×Nat} (h:MovAt L x) (hk:((A7 L x.2).kind != 0)=true) (h8:((x.1.length:Int)==8)=false) {m:Mov} {j:Nat} (hM:Ga L x.2=.ok m j):MovAt L (x.1++[m],j)∧x.2<j:=by
 obtain ⟨a1,a2⟩:=cj hl hll h.lt hM
 have h1:x.1.length≤7:=by
  have:=h.le
  simp only [beq_eq_false_iff_ne,ne_eq] at h8
  omega
 refine ⟨⟨a2,by show (x.1++[m]).length≤8;simp;omega,?_⟩,a1⟩
 rw [h.step hk h8,hM]
 show Ds L (8-x.1.length) (x.1++[m]) j=Ds L (9-(x.1++[m]).length) (x.1++[m]) j
 rw [show 9-(x.1++[m]).length=8-x.1.length by rw [List.length_append,List.length_singleton];omega]
theorem ck (e a:Int):∀v∈[Value.int .i64 e,Value.int .i64 a],(AV.v v).one=true:=by
 intro v hv
 simp only [List.mem_cons,List.not_mem_nil,or_false] at hv
 rcases hv with rfl|rfl<;>rfl
theorem ik {L:List Tok} {l:List Mov} {i:Nat} (h:He L=.ok l i):No L=.tup [Cq l,.agg [A2 0,A2 0]]:=by unfold No K4;rw [h]
theorem R4 {L:List Tok} {e a:Int} (h:He L=.bad e a):No L=.tup [.slice false 5 [],.agg [A2 e,A2 a]]:=by unfold No K4;rw [h];rfl
theorem se {fn fc:Func} {x0 r1 y r0 crest:Code} (hf:Tryz.prog.funcs[51]? = some fn) (hb:fn.body=some (.seq x0 (.seq r1 y))) (hf2:Tryz.prog.funcs[72]? = some fc) (hb2:fc.body=some (.seq r0 crest)) (L:List Tok) (o:Nat) (Hp:List AObj) (ho:Hp[o]? = some (pmO L 0)) (hl:TokEnd L) (hll:L.length≤500000) (d:Nat):
  AW Tryz.prog (d+1) y ⟨21,A3 0 (.ptr o 0) (A3 2 (.ptr (oid Hp.length 0) 0) (A3 3 (.ptr (oid Hp.length 1) 0) (A3 4 (.fn (.func 72) [] [.ptr (oid Hp.length 0) 0,.ptr (oid Hp.length 1) 0]) fun _=>.any))),Hp,[.cells 35 [.nil],.cells 59 [A2 0,A2 0]],[],none⟩ (KG Tryz.prog crest 8 3 2 [.ptr (oid Hp.length 0) 0,.ptr (oid Hp.length 1) 0] [.cell 2 35,.cell 3 59] Hp.length (fun r H'=>r=No L∧∃i,H'=Hp.set o (pmO L i))):=by
 have e:=Tryz.func51.symm.trans hf
 injection e with e
 subst e
 injection hb with hb
 injection hb with h1 h2
 injection h2 with h2 h3
 subst h3
 refine AW.keep [0,2,3] (by simp only [go_sem,↓reduceIte,Nat.reduceEqDiff,Nat.reduceAdd]<;>rfl) ?_
 refine AW.upEq (E8 ho).symm ?_;refine W.seq ?_
 refine AW.loopC (α:=List Mov×Nat) (fun x=>⟨21,A3 0 (.ptr o 0) (A3 2 (.ptr (oid Hp.length 0) 0) (A3 3 (.ptr (oid Hp.length 1) 0) (fun _=>.any))),Hp.set o (pmO L x.2),[.cells 35 [.slice true 5 (x.1.map Eg)],.cells 59 [A2 0,A2 0]],[],none⟩) (fun x=>MovAt L x) (fun x=>L.length-x.2) (([],0)) ⟨hl.pos,by decide,rfl⟩ (StLe.nilCell (own:=[.cells 35 [.nil],.cells 59 [A2 0,A2 0]]) (n:=0) (j0:=0) (k:=5) (t:=35) (cs:=[.nil]) rfl rfl) rfl (fun x hx=>?_)
 refine Z36 ?_;refine R.call Tryz.call73 (c73 L x.2 o _ (A6 (getset ho)) hx.lt) ?_;refine Z0 ?_;refine R.fin [0,2,3,8] ?_
 refine W.cond (fun ht8=>?_) (fun ht8=>?_)
 ·have hk:((A7 L x.2).kind != 0)=true:=ht8
  refine Z6 ?_;refine Gl ?_;refine Z31 ?_;refine R.fin [0,2,3,11] ?_
  refine W.cond (fun ht11=>?_) (fun ht11=>?_)
  ·have h8:((x.1.length:Int)==8)=true:=by rw [List.length_map] at ht11;exact ht11
   refine AW.regionK ?_
   refine ARunK.one (R.go (ARun.nil ?_))
   refine RK.callBad Tryz.call74 (c74 L x.2 o 3 _ (A6 (getset ho)) hx.lt) ?_
   rintro z U O hU hl' ⟨rfl,hH⟩
   obtain ⟨rfl,rfl⟩:=Gw hU hH
   refine ⟨fun h=>h,fun o h=>(by cases h),?_⟩
   refine Vf ?_;refine K.lpP ?_;refine K.thP ?_;exact KG.finP (vs:=[.int .i64 3,.int .i64 ((A7 L x.2).at_:Int)]) (ck _ _) (V.two (V.cell Tryz.isAgg35) (V.cellN Tryz.isAgg59 Tryz.sizeOf59)) (fun d=>cg hf2 hb2 3 ((A7 L x.2).at_:Int) (by simp) d) ⟨(R4 (hx.long hk h8)).symm,x.2,rfl⟩
  have h8:((x.1.length:Int)==8)=false:=by rw [List.length_map] at ht11;exact ht11
  refine Z6 ?_
  rcases hM:Ga L x.2 with ⟨m,j⟩|⟨e,a⟩
  rotate_left
  ·refine W.drawYP0 [2,3] [0,0,2,6,15,31] [2] [.q 2 [] [],.s [16] (some 0) [] [],.s [] none [0] [],.s [] none [0] [],.s [] none [0] []] (fun _=>Hp.set o (pmO L x.2)) (fun B=>[.cells 35 [.slice true 5 (x.1.map Eg)],.cells 59 [A2 0,A2 0]]++bot (B 0)) Aa (by kernel_rfl) (by kernel_rfl) rfl rfl (fun _=>rfl) ?_
   apply Y.q
   case h1 =>
    intro B hT hF
    exact Z60
   case hTF=>decide
   refine Y.callBad (own0:=[.cells 35 [.slice true 5 (x.1.map Eg)],.cells 59 [A2 0,A2 0]]) Tryz.call75 (fun B hB=>⟨rfl,by simp [bot,hB]⟩) ((c75 L x.2 o _ (A6 (getset ho)) hx.lt hl hll).bad hM) ?_ ?_
   ·rintro z U O f hU hl' ⟨rfl,j',hH⟩
    obtain ⟨rfl,rfl⟩:=B1 hU (List.getElem?_eq_some_iff.1 (getset (B:=pmO L x.2) ho)).1 hH
    refine ⟨fun h=>B2 h (fun n=>Au),fun o h=>(by cases h),?_⟩
    intro hts
    have h2:=hts 2 (by simp)
    have h3:=hts 3 (by simp)
    simp only [go_sem,↓reduceIte,Nat.reduceEqDiff,Nat.reduceAdd] at h2 h3
    refine K.blP ?_;refine K.lpP ?_;refine K.thP ?_;exact KG.finP (vs:=[.int .i64 e,.int .i64 a]) (ck _ _) (V.two (V.cell (n:=0) (off:=0) Tryz.isAgg35 (hp:=by rw [h2];simp only [List.length_set];rfl)) (V.cellN (n:=1) (off:=0) Tryz.isAgg59 Tryz.sizeOf59 (hp:=by rw [h3];simp only [List.length_set];rfl))) (fun d=>cg hf2 hb2 e a (by simp) d) ⟨(R4 (hx.bad hk h8 hM)).symm,j',List.set_set ..⟩
   exact pi
  have hon:=hx.on hl hll hk h8 hM
  refine W.drawY0 [0,0,2,6,15,31] [0,2] [.s [14] (some 0) [] [],.q 1 [] [1],.s [16] (some 1) [] [],.q 1 [1] []] (fun B=>Hp.set o (pmO L (if B 1=true then j else x.2))) (fun B=>if B 0=true then [.cells 35 [.slice false 5 (x.1.map Eg)],.cells 59 [A2 0,A2 0]] else [.cells 35 [.slice true 5 (x.1.map Eg)],.cells 59 [A2 0,A2 0]]) Aa (by kernel_rfl) rfl rfl (fun B=>by simp) ?_
  refine Y.loadOwnT (u:=Hp.length) (n:=0) (t':=35) (cs:=[.slice true 5 (x.1.map Eg)]) (cs':=[.slice false 5 (x.1.map Eg)]) Tryz.isAgg35 (fun B hB=>⟨by simp,by simp only [hB];rfl,by simp only [hB];rfl,rfl⟩) ?_
  apply Y.q
  case h1 =>
   intro B hT hF
   exact Z66
  case hTF=>decide
  refine Y.callUp (r:=Eg m) (o:=o) (x0:=pmO L x.2) (x:=pmO L j) Tryz.call75 (fun B hB1 hB2 hB=>⟨by simp only [hB];exact getset ho,by simp only [hB];exact (List.set_set ..).symm,rfl,Au,?_⟩) ?_
  ·simp only [hB]
   exact ((c75 L x.2 o _ (A6 (getset ho)) hx.lt hl hll).ok hM)
  apply Y.q
  case h1 =>
   intro B hT hF
   exact Z45
  case hTF=>decide
  refine Y.tail (tn:=[0,2]) (U:=Hp.set o (pmO L j)) (O:=[.cells 35 [.slice false 5 (x.1.map Eg)],.cells 59 [A2 0,A2 0]]) ?_
  refine R.append jU Tryz.type77 ?_ ?_ ?_
  ·simp [Tryz.t77];have:=hx.le;omega
  ·simp [Tryz.t77];have:=hx.le;omega
  refine R.storeOwnT jS ?_;refine R.fin [0,2,3] ?_;refine K.blN ?_
  refine K.lpN (x.1++[m],j) hon.1 (by have:=hx.lt;have:=hon.2;show L.length-j<L.length-x.2;omega) (StCut.of_eq (by simp [List.map_append,show Tryz.t77.size=5 from rfl]))
 have hk:((A7 L x.2).kind != 0)=false:=ht8
 have e:=hx.out hk
 refine Z98 ?_;refine Z2 ?_;refine xp ?_;refine jm ?_;exact KG.fin .ret (V.two (V.cell Tryz.isAgg35) (V.cellN Tryz.isAgg59 Tryz.sizeOf59)) (fun d=>sd hf2 hb2 d _ _ _) ⟨(ik e).symm,x.2,rfl⟩ (hlow:=by simpa using (Ec (n:=Hp.length) (k:=5) (o:=false) (l:=x.1)))

theorem c51 (L:List Tok) (o:Nat) (Hp:List AObj) (ho:Hp[o]? = some (pmO L 0)) (hl:TokEnd L) (hll:L.length≤500000):ACall Tryz.prog 51 [.ptr o 0] Hp (fun r H'=>r=No L∧∃i,H'=Hp.set o (pmO L i)):=by
 refine ACall.guarded (n:=21) (nc:=8) (a:=3) (b:=2) (os:=[oid Hp.length 0,oid Hp.length 1]) (own0:=[.cells 35 [.nil],.cells 59 [A2 0,A2 0]]) (rs:=[.cell 2 35,.cell 3 59])
  (fr0:=A3 0 (.ptr o 0) (A3 2 (.ptr (oid Hp.length 0) 0) (A3 3 (.ptr (oid Hp.length 1) 0) fun _=>.any))) (fr1:=A3 0 (.ptr o 0) (A3 2 (.ptr (oid Hp.length 0) 0) (A3 3 (.ptr (oid Hp.length 1) 0) (A3 4 (.fn (.func 72) [] [.ptr (oid Hp.length 0) 0,.ptr (oid Hp.length 1) 0]) fun _=>.any))))
  Tryz.func51 rfl rfl Tryz.ntmps51 (by simp) Tryz.func72 rfl Tryz.ntmps72 rfl (by simp) (by decide) (by decide) Tryz.call72 (fun d=>?_) (fun d=>?_) rfl (fun d l=>?_)
 ·refine AW.keep [0] (by simp only [go_sem,↓reduceIte,Nat.reduceEqDiff,Nat.reduceAdd]<;>rfl) ?_
  refine AW.region ?_;refine Ki ?_;refine Ki ?_;refine R.fin [0,2,3] ?_;exact ⟨rfl,rfl⟩
 ·refine R.makeFunc ?_;refine R.fin [0,2,3,4] ?_
  rfl
 exact @se { b:=ErrAt.b,bd:=d+1,bl:=l } _ _ _ _ _ _ _ Tryz.func51 rfl Tryz.func72 rfl L o Hp ho hl hll d
theorem cl {s:Str} (h:((D8 s).2.1 != 0)=true):Me s=([],(D8 s).2.1,((D8 s).2.2:Int)):=if_pos h
theorem wi {s:Str} (h:((D8 s).2.1 != 0)=false):Me s=K4 (D8 s).1:=by
 unfold Me K4
 rw [if_neg (by rw [h];simp)]
 cases He (D8 s).1<;>rfl
theorem c30 (s:Str) (hs:s.length≤1048576) (Hp:List AObj):AFun Tryz.prog 30 [A9 s] Hp (.tup [Cq (Me s).1,.agg [A2 (Me s).2.1,A2 (Me s).2.2]]):=by
 refine ACall.body [.tmp 2,.cell 3 59] [0] Tryz.func30 Tryz.ntmps30 (fun d=>?_)
 refine Z2 ?_;refine Ki ?_;refine Ij ?_;refine Z2 ?_;refine R.call Tryz.call50 (c50 s hs _) ?_;refine Z19 ?_;refine Z95 ?_;refine R.fin [3,4,5] ?_;refine Z31 ?_;refine R.fin [3,4,5,13] ?_
 refine W.cond (fun ht13=>?_) (fun ht13=>?_)
 ·have e:=cl ht13
  refine W.drawQ [0,0,3] 2 Aa (by kernel_rfl) ?_;refine Z76 ?_;refine R.wk 2 (Cq []) (.nil false 5) ?_;refine jm ?_;refine K.thR ?_;exact K.fin (V.two V.tmp (V.cellN jA jS)) ⟨by rw [e]<;>rfl,rfl⟩
 have hz:(D8 s).2.1=0:=by simpa using ht13
 have hle:=b6 hz
 have hlen:=bn hz
 have e:=wi ht13
 refine Z99 ?_;refine U1 ?_;refine R.box ?_
 refine R.callEx (fun _=>Hp) (fun i=>[.cells 59 [A2 0,A2 0],.cells 59 [A2 (D8 s).2.1,A2 ((D8 s).2.2:Nat)],pmO (D8 s).1 i]) Tryz.call51 ((c51 (D8 s).1 (oid Hp.length 2) _ (by rw [Aq];rfl) hle (by omega)).mono (fun r H' ⟨e,i,h⟩=>⟨e,i,h.trans (by rw [E1];rfl)⟩)) (fun _=>rfl) (fun _ h=>h) (fun i=>?_)
 refine Z19 ?_;refine jm ?_;exact K.fin (V.two V.tmp (V.cellN jA jS)) ⟨by rw [e],rfl⟩ (hlow:=by simpa using (Ec (n:=Hp.length) (k:=5) (o:=false) (l:=(K4 (D8 s).1).1)))

end Go.SX.Nb
namespace Go.SX
variable [GI:GlobInv]
open Classical Go.RowKit
section
variable {P:Program} {g:FuncId} {Hp:List AObj}
end
end Go.SX
