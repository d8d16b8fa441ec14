/- Texts on the way to this: MigJoins answers true for whatever it is handed: two sources of up to 1500 bytes that are migrations, one behind the other, are both, if there are not too many moves; its chapter's example is parsed and printed. (part 9) -/
import Derived.Below
import Derived.Test.YtlafnblklafbkaaGreatDoorMigJoinsCardSaidPart8
set_option linter.all false
namespace Go.SX.Nb
open Go Go.SX Go.Proofs
variable [ErrAt]
set_option maxRecDepth 4000
abbrev pmO (L:List Tok) (i:Nat):AObj:=.cells 53 [X6 L,A5 (i:Int)]
abbrev mvC (m:Mov):List AV:=[A5 m.kind,.slice true 1 (m.take.map A8),.slice true 2 (m.give.map Bt),.slice true 6 (m.ahead.map A6),.slice true 6 (m.back.map A6)]
abbrev mvO (m:Mov):AObj:=.cells 47 (mvC m)
abbrev Wl (e a:Int):Value:=.iface 26 (.agg [Value.int .i64 e,Value.int .i64 a].toArray)
abbrev Je:AV:=.v (.tuple #[])
theorem Ap {n:Nat} {L:List Tok} {i:Nat}:ObjLow n (pmO L i):=by
 show ∀y∈[AV.slice false 3 (L.map Fg),A5 (i:Int)],Low n y
 intro y hy
 simp only [List.mem_cons,List.not_mem_nil,or_false] at hy
 rcases hy with rfl|rfl
 ·simp [or_imp,forall_and]
 simp
/-- A contract of the parser: it comes to what the model comes to, or the model's fault is E3. -/
def CP (g:FuncId) (args:List AV) (H:List AObj) {α:Type} (X:PR α) (Q:α→Nat→AV→List AObj→Prop) (R:List AObj→Prop):Prop:=
 ACallP Tryz.prog g args H (fun r H'=>∃c j,X=.ok c j∧Q c j r H') (fun v H'=>∃e a,X=.bad e a∧v=Wl e a∧R H')
theorem CP.ok {g:FuncId} {args:List AV} {H:List AObj} {α:Type} {X:PR α} {Q:α→Nat→AV→List AObj→Prop} {R:List AObj→Prop} {c:α} {j:Nat} (h:CP g args H X Q R) (hX:X=.ok c j):ACall Tryz.prog g args H (fun r H'=>Q c j r H'):=
 ACall.ofP (h.mono (fun r H' ⟨c',j',e,hq⟩=>by rw [hX] at e;injection e with e1 e2;subst e1;subst e2;exact hq) (fun v H' ⟨e,a,he,_⟩=>by rw [hX] at he;cases he))
theorem CP.bad {g:FuncId} {args:List AV} {H:List AObj} {α:Type} {X:PR α} {Q:α→Nat→AV→List AObj→Prop} {R:List AObj→Prop} {e a:Int} (h:CP g args H X Q R) (hX:X=.bad e a):ACallP Tryz.prog g args H (fun _ _=>False) (fun v H'=>v=Wl e a∧R H'):=
 h.mono (fun r H' ⟨c',j',he,hq⟩=>by rw [hX] at he;cases he) (fun v H' ⟨e',a',he,hv,hR⟩=>by rw [hX] at he;injection he with e1 e2;subst e1;subst e2;exact ⟨hv,hR⟩)
/-- The parser's object alone has turned. -/
def W1 (L:List Tok) (o:Nat) (Hp H':List AObj):Prop:=∃j,H'=Hp.set o (pmO L j)
theorem W1.refl {L:List Tok} {o i:Nat} {Hp:List AObj} (ho:Hp[o]? = some (pmO L i)):W1 L o Hp Hp:=⟨i,(Dm ho).symm⟩
theorem c48 (L:List Tok) (i o:Nat) (Hp:List AObj) (ho:Hp[o]? = some (pmO L i)) (hi:i<L.length):AFun Tryz.prog 48 [.ptr o 0] Hp (Fg (A2 L i)):=by
 refine ACall.body [.cell 2 59] [0] Tryz.func48 Tryz.ntmps48 (fun d=>?_)
 refine oh ?_;refine Z30 ?_
 refine D.go (h:=Q.loadUp ho) (hr:=?_)
 refine Z30 ?_
 refine D.go (h:=Q.loadUp ho) (hr:=?_)
 refine D.tail ?_
 refine R.go (h:=Q.indexAddr (i) (Fg (A2 L i)) (fun _=>L8 hi)) (hr:=?_)
 refine R.go ?_;exact Z77

theorem c49 (L:List Tok) (i o:Nat) (e:Int) (Hp:List AObj) (ho:Hp[o]? = some (pmO L i)) (hi:i<L.length):ACallP Tryz.prog 49 [.ptr o 0,A5 e] Hp (fun _ _=>False) (fun v H'=>v=Wl e (A2 L i).at_∧H'=Hp):=by
 refine ACallP.body [] [0,1] Tryz.func49 Tryz.ntmps49 (fun d=>?_)
 refine W.drawY0 [0,0,2,6,14,0,32,96,224,510,1022,2046,4095,8191,16383] [14] [.q 14 [] [],.s [] (some 0) [] []] (fun _=>Hp) (fun B=>[]++bot (B 0)) Aa (by kernel_rfl) rfl rfl (fun _=>rfl) ?_
 apply Y.q
 case h1 =>
  intro B hT hF
  refine Z90 ?_
  refine D.go (h:=Q.loadUp ho) (hr:=?_)
  refine Z30 ?_
  refine D.go (h:=Q.loadUp ho) (hr:=?_)
  refine D.go (h:=Q.indexAddr (i) (Fg (A2 L i)) (fun _=>L8 hi)) (hr:=?_)
  refine Z5 ?_;refine D.build (places:=#[(0,1),(1,1)]) jU (fun w=>by simp) jZ ?_;refine D.makeIface (.of jU) ?_;exact K3
 case hTF=>decide
 refine Y.panic (vs:=[.int .i64 e,.int .i64 ((A2 L i).at_:Int)]) (fun B hB f=>?_) ?_
 ·exact K.finPP ⟨rfl,rfl⟩
 exact j8

theorem qo (L:List Tok) (s:Str) (i o:Nat) (Hp:List AObj) (ho:Hp[o]? = some (pmO L i)) (hi:i<L.length):AFun Tryz.prog 130 [.ptr o 0,A8 s] Hp (B2 (isP L s i)):=by
 refine ACall.body [.tmp 4] [0,1] Tryz.func130 Tryz.ntmps130 (fun d=>?_)
 refine Z47 ?_;refine Z96 ?_;refine Z10 ?_;refine R.fin [1,5] ?_;refine Z1 ?_;refine Z19 ?_;refine Z69 ?_;refine Z0 ?_;exact Z91

theorem c92 (L:List Tok) (s:Str) (i o:Nat) (Hp:List AObj) (ho:Hp[o]? = some (pmO L i)) (hi:i<L.length) (hll:L.length≤500000):CP 92 [.ptr o 0,A8 s] Hp (Ay L s i) (fun _ j r H'=>r=Je∧H'=Hp.set o (pmO L j)) (W1 L o Hp):=by
 refine ACallP.body [] [0,1] Tryz.func92 Tryz.ntmps92 (fun d=>?_)
 refine Z11 ?_;refine R.call Tryz.call130 (qo L s i o _ (A4 ho) hi) ?_;refine R.go ?_;refine R.fin [0,7] ?_
 refine W.cond (fun ht7=>?_) (fun ht7=>?_)
 ·have hq:isP L s i=false:=by simpa using ht7
  have e:Ay L s i=.bad 8 (A2 L i).at_:=if_neg (by rw [hq];simp)
  refine AW.regionK ?_
  refine ARunK.one (R.go (ARun.nil ?_))
  refine mf ?_
  rintro x U O hU hl' ⟨rfl,hH⟩
  obtain ⟨rfl,rfl⟩:=Fk hU hH
  refine ⟨fun h=>h,fun o h=>(by cases h),?_⟩
  exact Z67
 have hq:isP L s i=true:=by simpa using ht7
 have e:Ay L s i=.ok () (i+1):=if_pos hq
 refine Z6 ?_;refine Z28 ?_
 refine R.go (h:=Q.loadUp ho) (hr:=?_)
 refine Z9 ?_
 refine R.storeUp jS ho ?_ ?_
 ·simp
 refine R.fin [] ?_;exact K.finPN .nores (hp:=⟨(),i+1,e,rfl,rfl⟩)

theorem Mj (L:List Tok) (i o:Nat) (Hp:List AObj) (ho:Hp[o]? = some (pmO L i)) (hi:i<L.length) (hll:L.length≤500000):CP 124 [.ptr o 0] Hp (Cz L i) (fun s j r H'=>r=A8 s∧H'=Hp.set o (pmO L j)) (W1 L o Hp):=by
 refine ACallP.body [.tmp 2] [0] Tryz.func124 Tryz.ntmps124 (fun d=>?_)
 refine Z56 ?_;refine Z96 ?_;refine Z10 ?_;refine L1 ?_;refine Z48 ?_;refine R.fin [0,3,8] ?_
 refine W.cond (fun ht8=>?_) (fun ht8=>?_)
 ·have e:Cz L i=.bad 8 (A2 L i).at_:=if_pos ht8
  refine AW.regionK ?_
  refine ARunK.one (R.go (ARun.nil ?_))
  refine mf ?_
  rintro x U O hU hl' ⟨rfl,hH⟩
  obtain ⟨rfl,rfl⟩:=Fk hU hH
  refine ⟨fun h=>h,fun o h=>(by cases h),?_⟩
  exact Z67
 have e:Cz L i=.ok (A2 L i).text (i+1):=if_neg (by rw [ht8];simp)
 refine Sv ?_
 refine R.go (h:=Q.loadUp ho) (hr:=?_)
 refine Z9 ?_
 refine R.storeUp jS ho ?_ ?_
 ·simp
 refine R.fin [3] ?_;refine Z18 ?_;refine Z3 ?_;exact K.finP (V.one V.tmp) (hp:=⟨_,i+1,e,rfl,rfl⟩)

theorem getset {Hp:List AObj} {o:Nat} {A B:AObj} (h:Hp[o]? = some A):(Hp.set o B)[o]? = some B:=by
 have:=(List.getElem?_eq_some_iff.1 h).1
 simp [this]
theorem W1.set {L:List Tok} {o i:Nat} {Hp:List AObj}:W1 L o Hp (Hp.set o (pmO L i)):=⟨i,rfl⟩
theorem At {l:List AObj} {i:Nat} {x:AObj} (h:∀y∈l,ObjLow (l.set i x).length y) (hx:∀n,ObjLow n x):∀y∈l.set i x,ObjLow (l.set i x).length y:=D5 h (hx _)
theorem qq (L:List Tok) (i o:Nat) (Hp:List AObj) (ho:Hp[o]? = some (pmO L i)) (hi:i<L.length) (hl:TokEnd L) (hll:L.length≤500000):CP 159 [.ptr o 0] Hp (E1 L i) (fun c j r H'=>r=Bt c∧H'=Hp.set o (pmO L j)) (W1 L o Hp):=by
 refine ACallP.body [.cell 2 64] [0] Tryz.func159 Tryz.ntmps159 (fun d=>?_)
 refine Z32 ?_
 rcases hN:Cz L i with ⟨s,j⟩|⟨e,a⟩
 rotate_left
 ·refine AW.seqRK ?_
  refine ARunK.one (R.go (ARun.nil ?_))
  refine RK.callBad Tryz.call124 ((Mj L i o _ (A4 ho) hi hll).bad hN) ?_
  rintro x U O hU hl' ⟨rfl,j',hH⟩
  obtain ⟨rfl,rfl⟩:=As hU (List.getElem?_eq_some_iff.1 ho).1 hH
  refine ⟨fun h=>At h (fun n=>Ap),fun o h=>(by cases h),?_⟩
  refine K.thP ?_;exact K.finPP ⟨_,_,by unfold E1;rw [hN];rfl,rfl,j',rfl⟩
 have hj:j<L.length:=(D8 hl hi _ _ hN).2
 have e0:E1 L i=M7 L s j:=by unfold E1;rw [hN];rfl
 refine Z2 ?_;refine R.callUp (x:=pmO L j) Tryz.call124 ho (by simp) Ap ((Mj L i o _ (A4 ho) hi hll).ok hN) ?_;refine Zb ?_;refine Z66 ?_;refine Z2 ?_;refine R.call Tryz.call48 (c48 L j o _ (A4 (getset ho)) hj) ?_;refine Z10 ?_;refine R.fin [0,2,3,4] ?_;refine Z11 ?_;refine R.call Tryz.call191 (sa (A2 L j).text _) ?_;refine Z57 ?_;refine R.fin [0,2,3,4] ?_;refine Z1 ?_;refine Z19 ?_;refine Z59 ?_;refine R.fin [0,2,3,21] ?_
 refine W.cond (fun ht21=>?_) (fun ht21=>?_)
 ·have e:E1 L i=.bad 8 (A2 L j).at_:=by rw [e0];exact if_pos ht21
  refine AW.regionK ?_
  refine ARunK.one (R.go (ARun.nil ?_))
  refine RK.callBad Tryz.call49 (c49 L j o 8 _ (A4 (getset ho)) hj) ?_
  rintro x U O hU hl' ⟨rfl,hH⟩
  obtain ⟨rfl,rfl⟩:=Fk hU hH
  refine ⟨fun h=>h,fun o h=>(by cases h),?_⟩
  refine K.thP ?_;exact K.finPP ⟨_,_,e,rfl,W1.set⟩
 have e:E1 L i=.ok ⟨s,Gy (A2 L j).text⟩ (j+1):=by rw [e0];exact if_neg (by rw [ht21];simp)
 refine Sv ?_
 refine R.go (h:=Q.loadUp (getset ho)) (hr:=?_)
 refine Z9 ?_
 refine R.storeUp jS (getset ho) ?_ ?_
 ·simp
 refine Hc ?_;refine Z2 ?_;refine Z16 ?_;exact K.finP (V.one (V.cellN jA jS)) (hp:=⟨_,j+1,e,rfl,by rw [List.set_set];rfl⟩)

theorem gh (L:List Tok) (i o:Nat) (Hp:List AObj) (ho:Hp[o]? = some (pmO L i)) (hi:i<L.length) (hl:TokEnd L) (hll:L.length≤500000):CP 160 [.ptr o 0] Hp (E9 L i) (fun c j r H'=>r=A6 c∧H'=Hp.set o (pmO L j)) (W1 L o Hp):=by
 refine ACallP.body [.cell 2 69] [0] Tryz.func160 Tryz.ntmps160 (fun d=>?_)
 refine Z32 ?_;refine W.drawY [0,1,3,7,0,16,48,112,255,511,1023,1023,1023,0,0,26623,61439,131071] [] [.q 13 [] [],.s [3] none [] [],.s [5] none [] [],.s [3] none [] [],.q 1 [] [],.s [5] none [] []] (fun _=>Hp) (fun _=>[.cells 69 [A5 0,A8 [],A5 0,A5 0,A8 [],.nil]]) Aa (by kernel_rfl) rfl rfl (fun _=>rfl) ?_
 apply Y.q
 case h1 =>
  intro B hT hF
  refine Z30 ?_
  refine D.go (h:=Q.loadUp ho) (hr:=?_)
  refine Z30 ?_
  refine D.go (h:=Q.loadUp ho) (hr:=?_)
  refine D.call Tryz.call192 (sq L i hi hl hll (fun n Dv h1 h2=>az hl (by omega) n Dv h1 h2) _) ?_;exact d8
 case hTF=>decide
 refine Y.allocP Tryz.zeroValue69 ?_;refine Y.allocP Tryz.zeroValue26 ?_;refine Y.storeP Tryz.sizeOf69 ?_
 apply Y.q
 case h1 =>
  intro B hT hF
  exact Z38
 case hTF=>decide
 refine Y.storeP Tryz.sizeOf26 ?_;refine Y.tail (tn:=[])  ?_;refine R.fin [0,2,3,4,5] ?_;refine Z48 ?_;refine R.fin [0,2,3,4,5,21] ?_
 refine W.cond (fun ht21=>?_) (fun ht21=>?_)
 ·have e:E9 L i=.bad (atM L i).2.2.1 (atM L i).2.2.2:=if_pos ht21
  refine AW.regionK ?_
  refine ARunK.one (R.go (ARun.nil ?_))
  refine ARunK.one (R.makeIface (.of Tryz.underlying26) (ARun.nil ?_))
  refine RK.panic (vs:=[.int .i64 (atM L i).2.2.1,.int .i64 (atM L i).2.2.2]) ?_;exact Z67
 obtain ⟨k,hk,hkl⟩:=kj hl (by omega) hi (by simpa using ht21)
 have e:E9 L i=.ok (atM L i).1 k:=(if_neg (by rw [ht21];simp)).trans (by rw [hk];rfl)
 rw [hk]
 refine Z6 ?_;refine Z27 ?_
 refine R.storeUp jS ho ?_ ?_
 ·simp
 refine Hc ?_;refine Z2 ?_;refine Z16 ?_;exact K.finP (V.one (V.cellN jA jS)) (hp:=⟨_,k,e,(A9 _).symm,rfl⟩) (hlow:=by have:=Ad Hp.length (atM L i).1;rw [A9] at this;exact this)

/-- The parser's object and the move's, turned. -/
def U2 (L:List Tok) (Hp:List AObj) (o om i:Nat) (x:AObj):List AObj:=(Hp.set o (pmO L i)).set om x
theorem U2_len {L:List Tok} {Hp:List AObj} {o om i:Nat} {x:AObj}:(U2 L Hp o om i x).length=Hp.length:=by simp [U2]
theorem Bw {L:List Tok} {Hp:List AObj} {o om i:Nat} {x z:AObj} (hm:Hp[om]? = some z):(U2 L Hp o om i x)[om]? = some x:=gB hm
theorem Av {L:List Tok} {Hp:List AObj} {o om i:Nat} {x z:AObj} (ho:Hp[o]? = some z) (hne:om≠o):(U2 L Hp o om i x)[o]? = some (pmO L i):=gA ho hne
theorem Bb {L:List Tok} {Hp:List AObj} {o om i j:Nat} {x:AObj} (hne:om≠o):(U2 L Hp o om i x).set o (pmO L j)=U2 L Hp o om j x:=gb hne
theorem U2_setm {L:List Tok} {Hp:List AObj} {o om i:Nat} {x y:AObj}:(U2 L Hp o om i x).set om y=U2 L Hp o om i y:=List.set_set ..
theorem Kt {L:List Tok} {Hp:List AObj} {o om i:Nat} {x:AObj} (ho:Hp[o]? = some (pmO L i)) (hm:Hp[om]? = some x):U2 L Hp o om i x=Hp:=by unfold U2;rw [Dm ho,Dm hm]
theorem Wm {L:List Tok} {Hp:List AObj} {o om i:Nat} {x:AObj} (hne:om≠o) (hm:Hp[om]? = some x):Hp.set o (pmO L i)=U2 L Hp o om i x:=(Dm (by rw [List.getElem?_set_ne (Ne.symm hne)];exact hm)).symm
theorem Dh {L:List Tok} {Hp:List AObj} {o om i q:Nat} {x:AObj} (h1:q≠o) (h2:q≠om):(U2 L Hp o om i x)[q]? = Hp[q]? := by unfold U2;rw [List.getElem?_set_ne (Ne.symm h2),List.getElem?_set_ne (Ne.symm h1)]
def W2 (L:List Tok) (o om:Nat) (Hp H':List AObj):Prop:=∃j m,H'=U2 L Hp o om j (mvO m)
theorem Jv {n k:Nat} {o:Bool} {l:List Expr} {x:Expr}:Low n (.slice o k (l.map A6++[.agg (Db x)])):=by
 rw [show AV.agg (Db x)=A6 x from (A9 x).symm];exact Wh
theorem B6 {n:Nat} {m:Mov}:ObjLow n (mvO m):=by
 show ∀y∈mvC m,Low n y
 intro y hy
 simp only [mvC,List.mem_cons,List.not_mem_nil,or_false] at hy
 rcases hy with rfl|rfl|rfl|rfl|rfl
 all_goals first|exact Cy|simp [or_imp,forall_and]
theorem b7 {L:List Tok} {Hp:List AObj} {o om i:Nat} {m:Mov} {c:Col} {x:AObj}:(U2 L Hp o om i x).set om (.cells 47 [A5 m.kind,.slice true 1 (m.take.map A8),.slice true 2 (m.give.map Bt++[Bt c]),.slice true 6 (m.ahead.map A6),.slice true 6 (m.back.map A6)])=U2 L Hp o om i (mvO (Bd m c)):=by
 rw [U2_setm];simp only [mvO,mvC,Bd,List.map_append,List.map_cons,List.map_nil]
theorem b8 {L:List Tok} {Hp:List AObj} {o om i:Nat} {m:Mov} {e:Expr} {x:AObj}:(U2 L Hp o om i x).set om (.cells 47 [A5 m.kind,.slice true 1 (m.take.map A8),.slice true 2 (m.give.map Bt),.slice true 6 (m.ahead.map A6++[.agg (Db e)]),.slice true 6 (m.back.map A6)])=U2 L Hp o om i (mvO (Q8 m e)):=by
 rw [U2_setm,show AV.agg (Db e)=A6 e from (A9 e).symm];simp only [mvO,mvC,Q8,List.map_append,List.map_cons,List.map_nil]
theorem b9 {L:List Tok} {Hp:List AObj} {o om i:Nat} {m:Mov} {e:Expr} {x:AObj}:(U2 L Hp o om i x).set om (.cells 47 [A5 m.kind,.slice true 1 (m.take.map A8),.slice true 2 (m.give.map Bt),.slice true 6 (m.ahead.map A6),.slice true 6 (m.back.map A6++[.agg (Db e)])])=U2 L Hp o om i (mvO (Xp m e)):=by
 rw [U2_setm,show AV.agg (Db e)=A6 e from (A9 e).symm];simp only [mvO,mvC,Xp,List.map_append,List.map_cons,List.map_nil]
theorem ba {L:List Tok} {Hp:List AObj} {o om i:Nat} {m:Mov} {s:Str} {x:AObj}:(U2 L Hp o om i x).set om (.cells 47 [A5 m.kind,.slice true 1 (m.take.map A8++[A8 s]),.slice true 2 (m.give.map Bt),.slice true 6 (m.ahead.map A6),.slice true 6 (m.back.map A6)])=U2 L Hp o om i (mvO (Xq m s)):=by
 rw [U2_setm];simp only [mvO,mvC,Xq,List.map_append,List.map_cons,List.map_nil]

theorem Wn (L:List Tok) (m:Mov) (i o om:Nat) (Hp:List AObj) (hne:om≠o) (ho:Hp[o]? = some (pmO L i)) (hm:Hp[om]? = some (mvO m)) (hi:i<L.length) (hl:TokEnd L) (hll:L.length≤500000) (hb:MvLe m (2*i-1)):CP 123 [.ptr o 0,.ptr om 0] Hp (C1 L m i) (fun m' j r H'=>r=Je∧H'=U2 L Hp o om j (mvO m')) (W2 L o om Hp):=by
 have:=hb.take;have:=hb.give;have:=hb.ahead;have:=hb.back
 refine ACallP.body [] [0,1] Tryz.func123 Tryz.ntmps123 (fun d=>?_)
 rcases hC:E1 L i with ⟨c,j⟩|⟨e,a⟩
 rotate_left
 ·refine W.drawY [0,0,2,6,14,0,32,96,254,511,1023,2047] [6] [.q 6 [] [],.s [10] (some 0) [] [],.s [] none [0] [],.s [] none [0] [],.s [] none [0] [],.s [] none [0] [],.s [] none [0] []] (fun _=>Hp) (fun B=>[]++bot (B 0)) Aa (by kernel_rfl) rfl rfl (fun _=>rfl) ?_
  apply Y.q
  case h1 =>
   intro B hT hF
   refine Z90 ?_
   refine D.go (h:=Q.loadUp hm) (hr:=?_)
   exact Z38
  case hTF=>decide
  refine Y.callBad (own0:=[]) Tryz.call159 (fun B hB=>⟨rfl,by simp [bot,hB]⟩) ((qq L i o _ (A4 ho) hi hl hll).bad hC) ?_ ?_
  ·rintro x U O f hU hl' ⟨rfl,j',hH⟩
   obtain ⟨rfl,rfl⟩:=As hU (List.getElem?_eq_some_iff.1 ho).1 hH
   refine ⟨fun h=>At h (fun n=>Ap),fun o h=>(by cases h),?_⟩
   exact K.finPP ⟨_,_,by unfold C1;rw [hC];rfl,rfl,j',m,Wm hne hm⟩
  refine Z7 ?_;exact j5
 have hj:=Lg hl hi _ _ hC
 refine W.drawY [0,0,2,6,14,0,32,96,254,511,1023,2047] [4,6] [.q 4 [] [],.s [8] (some 0) [] [],.q 1 [] [1],.s [10] (some 1) [] [],.q 1 [1] [],.s [8,12] none [0,1] []] (fun B=>U2 L Hp o om (if B 1=true then j else i) (if B 0=true then .cells 47 [A5 m.kind,.slice true 1 (m.take.map A8),.slice false 2 (m.give.map Bt),.slice true 6 (m.ahead.map A6),.slice true 6 (m.back.map A6)] else .cells 47 [A5 m.kind,.slice true 1 (m.take.map A8),.slice true 2 (m.give.map Bt),.slice true 6 (m.ahead.map A6),.slice true 6 (m.back.map A6)])) (fun _=>[]) Aa (by kernel_rfl) (Kt ho hm) rfl (fun B=>U2_len) ?_
 apply Y.q
 case h1 =>
  intro B hT hF
  exact d8
 case hTF=>decide
 refine Y.loadUpT (o:=om) (t':=47) (cs:=[A5 m.kind,.slice true 1 (m.take.map A8),.slice true 2 (m.give.map Bt),.slice true 6 (m.ahead.map A6),.slice true 6 (m.back.map A6)]) (cs':=[A5 m.kind,.slice true 1 (m.take.map A8),.slice false 2 (m.give.map Bt),.slice true 6 (m.ahead.map A6),.slice true 6 (m.back.map A6)]) Tryz.isAgg40 (fun B hB=>⟨by simp only [hB];exact Bw hm,U2_setm.symm,rfl⟩) ?_
 apply Y.q
 case h1 =>
  intro B hT hF
  exact Z38
 case hTF=>decide
 refine Y.callUp (r:=Bt c) (o:=o) (x0:=pmO L i) (x:=pmO L j) Tryz.call159 (fun B hB1 hB2 hB=>⟨by simp only [hB];exact Av ho hne,(Bb hne).symm,rfl,Ap,?_⟩) ?_
 ·simp only [hB]
  exact (qq L i o _ (A4 (Av ho hne)) hi hl hll).ok hC
 apply Y.q
 case h1 =>
  intro B hT hF
  exact Z21
 case hTF=>decide
 refine Y.append jU Tryz.type64 ?_ ?_ ?_
 ·simp [Tryz.t64];omega
 ·simp [Tryz.t64];omega
 refine Y.tail (tn:=[4,6]) (U:=U2 L Hp o om j (.cells 47 [A5 m.kind,.slice true 1 (m.take.map A8),.slice false 2 (m.give.map Bt),.slice true 6 (m.ahead.map A6),.slice true 6 (m.back.map A6)])) ?_;refine Z0 ?_
 refine R.storeUpT jS (Bw hm) ?_ ?_
 ·simp [or_imp,forall_and]
 refine R.fin [0,1] ?_;refine AW.upEq (b7 (m:=m) (c:=c)) ?_
 rcases hW:Ay L [61] j with ⟨u,j2⟩|⟨e,a⟩
 rotate_left
 ·refine AW.seqRK ?_
  refine ARunK.one (R.go (ARun.nil ?_))
  refine RK.callBad Tryz.call92 ((c92 L [61] j o _ (A4 (Av ho hne)) hj.2 hll).bad hW) ?_
  rintro x U O hU hl' ⟨rfl,j',hH⟩
  obtain ⟨rfl,rfl⟩:=As hU (List.getElem?_eq_some_iff.1 (Av (L:=L) (i:=j) (x:=mvO (Bd m c)) ho hne)).1 hH
  refine ⟨fun h=>At h (fun n=>Ap),fun o h=>(by cases h),?_⟩
  refine K.thP ?_;exact K.finPP ⟨_,_,by unfold C1;rw [hC];show (Ay L [61] j).bind _=_;rw [hW];rfl,rfl,j',Bd m c,Bb hne⟩
 have hj2:=C2 hl hj.2 _ _ hW
 refine Z2 ?_;refine R.callUp (x:=pmO L j2) Tryz.call92 (Av ho hne) (by simp) Ap ((c92 L [61] j o _ (A4 (Av ho hne)) hj.2 hll).ok hW) ?_
 rw [Bb hne]
 refine R.fin [0,1] ?_
 rcases hT:E9 L j2 with ⟨x,k⟩|⟨e,a⟩
 rotate_left
 ·refine W.drawY0 [0,1,3,7,0,16,15,0,255,511,1023,511,2559,6655] [5] [.q 5 [] [],.s [22] (some 0) [] [],.q 2 [] [],.s [] none [0] [],.s [] none [0] [],.s [] none [0] [],.s [] none [0] [],.s [] none [0] [],.s [] none [0] []] (fun _=>U2 L Hp o om j2 (mvO (Bd m c))) (fun B=>[]++bot (B 0)) Aa (by kernel_rfl) rfl rfl (fun _=>rfl) ?_
  apply Y.q
  case h1 =>
   intro B hT hF
   refine Z30 ?_
   refine D.go (h:=Q.loadUp (Bw hm)) (hr:=?_)
   exact Z38
  case hTF=>decide
  refine Y.callBad (own0:=[]) Tryz.call160 (fun B hB=>⟨rfl,by simp [bot,hB]⟩) ((gh L j2 o _ (A4 (Av ho hne)) hj2.2 hl hll).bad hT) ?_ ?_
  ·rintro x U O f hU hl' ⟨rfl,j',hH⟩
   obtain ⟨rfl,rfl⟩:=As hU (List.getElem?_eq_some_iff.1 (Av (L:=L) (i:=j2) (x:=mvO (Bd m c)) ho hne)).1 hH
   refine ⟨fun h=>At h (fun n=>Ap),fun o h=>(by cases h),?_⟩
   exact K.finPP ⟨_,_,by unfold C1;rw [hC];show (Ay L [61] j).bind _=_;rw [hW];show (E9 L j2).bind _=_;rw [hT];rfl,rfl,j',Bd m c,Bb hne⟩
  apply Y.q
  case h1 =>
   intro B hT hF
   exact Z92
  case hTF=>decide
  refine Z7 ?_;exact j4
 have hk:=Gb hl hll hj2.2 hT
 refine W.drawT0 [0,1,3,7,0,16,15,0,255,511,1023,511,2559,6655] [3,5] [.q 3 [] [0],.s [20] (some 0) [] [],.q 1 [] [1],.s [22] (some 1) [] [],.q 2 [] []] (fun B=>U2 L Hp o om (if B 1=true then k else j2) (if B 0=true then .cells 47 [A5 (Bd m c).kind,.slice true 1 ((Bd m c).take.map A8),.slice true 2 ((Bd m c).give.map Bt),.slice false 6 ((Bd m c).ahead.map A6),.slice true 6 ((Bd m c).back.map A6)] else .cells 47 [A5 (Bd m c).kind,.slice true 1 ((Bd m c).take.map A8),.slice true 2 ((Bd m c).give.map Bt),.slice true 6 ((Bd m c).ahead.map A6),.slice true 6 ((Bd m c).back.map A6)])) (fun _=>[]) Aa (by kernel_rfl) rfl rfl (fun B=>by rw [U2_len];exact U2_len.symm) ?_
 apply Y.q
 case h1 =>
  intro B hT hF
  refine Z30 ?_;exact K3
 case hTF=>decide
 refine Y.loadUpT (o:=om) (t':=47) (cs:=[A5 (Bd m c).kind,.slice true 1 ((Bd m c).take.map A8),.slice true 2 ((Bd m c).give.map Bt),.slice true 6 ((Bd m c).ahead.map A6),.slice true 6 ((Bd m c).back.map A6)]) (cs':=[A5 (Bd m c).kind,.slice true 1 ((Bd m c).take.map A8),.slice true 2 ((Bd m c).give.map Bt),.slice false 6 ((Bd m c).ahead.map A6),.slice true 6 ((Bd m c).back.map A6)]) Tryz.isAgg45 (fun B hB=>⟨by simp only [hB];exact Bw hm,U2_setm.symm,rfl⟩) ?_
 apply Y.q
 case h1 =>
  intro B hT hF
  exact Z38
 case hTF=>decide
 refine Y.callUp (r:=A6 x) (o:=o) (x0:=pmO L j2) (x:=pmO L k) Tryz.call160 (fun B hB1 hB2 hB=>⟨by simp only [hB];exact Av ho hne,(Bb hne).symm,rfl,Ap,?_⟩) ?_
 ·simp only [hB]
  exact (gh L j2 o _ (A4 (Av ho hne)) hj2.2 hl hll).ok hT
 apply Y.q
 case h1 =>
  intro B hT hF
  exact Z92
 case hTF=>decide
 refine Y.appendPut4 (tn:=[3,5]) (U:=U2 L Hp o om k (.cells 47 [A5 (Bd m c).kind,.slice true 1 ((Bd m c).take.map A8),.slice true 2 ((Bd m c).give.map Bt),.slice false 6 ((Bd m c).ahead.map A6),.slice true 6 ((Bd m c).back.map A6)])) (O:=[]) (o:=om) (t':=47) (cs:=[A5 (Bd m c).kind,.slice true 1 ((Bd m c).take.map A8),.slice true 2 ((Bd m c).give.map Bt),.slice false 6 ((Bd m c).ahead.map A6),.slice true 6 ((Bd m c).back.map A6)]) (by kernel_rfl) jU Tryz.type69 Tryz.sizeOf69 Tryz.sizeOf45 jU (A4 (Bw hm)) ?_ ?_ ?_ (hfsz:=Tryz.sizeOf45)
 ·simp [Tryz.t69,Bd];omega
 ·simp [Tryz.t69,Bd];omega
 refine Z0 ?_
 refine R.storeUpT jS (Bw hm) ?_ ?_
 ·exact Jv
 refine R.fin [] ?_;exact K.finPN .nores (hp:=⟨Q8 (Bd m c) x,k,by unfold C1;rw [hC];show (Ay L [61] j).bind _=_;rw [hW];show (E9 L j2).bind _=_;rw [hT];rfl,rfl,by exact b8 (m:=Bd m c)⟩)

/-- What is asked of a part of a move that is a closure. -/
def Xy (L:List Tok) (o om g:Nat) (caps:List AV) (Hp:List AObj) (one:Mov→Nat→PR Mov):Prop:=
 ∀m i,MvLe m (2*i-1)→0<i→i<L.length→CP g caps (U2 L Hp o om i (mvO m)) (one m i) (fun m' j r H'=>r=Je∧H'=U2 L Hp o om j (mvO m')) (W2 L o om Hp)
theorem F6 {L:List Tok} {Hp:List AObj} {o om i j:Nat} {x y:AObj} (hne:om≠o):U2 L (U2 L Hp o om i x) o om j y=U2 L Hp o om j y:=by
 unfold U2
 rw [gb hne,List.set_set]
theorem gi {L:List Tok} {Hp H':List AObj} {o om i:Nat} {x:AObj} (hne:om≠o) (h:W2 L o om (U2 L Hp o om i x) H'):W2 L o om Hp H':=by
 obtain ⟨j,m,e⟩:=h
 exact ⟨j,m,by rw [e,F6 hne]⟩
theorem tg (L:List Tok) (m:Mov) (i o om bp bm:Nat) (Hp:List AObj) (hne:om≠o) (ho:Hp[o]? = some (pmO L i)) (hm:Hp[om]? = some (mvO m)) (hbp:Hp[bp]? = some (.cells 51 [.ptr o 0])) (hbm:Hp[bm]? = some (.cells 102 [.ptr om 0])) (hi:i<L.length) (hl:TokEnd L) (hll:L.length≤500000) (hb:MvLe m (2*i-1)):CP 161 [.ptr bm 0,.ptr bp 0] Hp (Ii L m i) (fun m' j r H'=>r=Je∧H'=U2 L Hp o om j (mvO m')) (W2 L o om Hp):=by
 have n1:bp≠o:=fun e=>by rw [e,ho] at hbp;simp at hbp
 have n2:bp≠om:=fun e=>by rw [e,hm] at hbp;simp at hbp
 have n3:bm≠o:=fun e=>by rw [e,ho] at hbm;simp at hbm
 have n4:bm≠om:=fun e=>by rw [e,hm] at hbm;simp at hbm
 have:=hb.take;have:=hb.give;have:=hb.ahead;have:=hb.back
 refine ACallP.body [] [0,1] Tryz.func161 Tryz.ntmps161 (fun d=>?_)
 refine W.flip Aa (by kernel_rfl) Tryz.zeroValue4 Tryz.sizeOf4 Tryz.isAgg4 (fun fb=>?_)
 refine AW.keep [0,1,3] (by simp only [go_sem,↓reduceIte,Nat.reduceEqDiff,Nat.reduceAdd]<;>rfl) ?_
 refine W.cond (fun ht3=>?_) (fun ht3=>?_)
 ·rcases hT:E9 L i with ⟨x,k⟩|⟨e,a⟩
  rotate_left
  ·refine W.drawY [0,1,3,7,0,16,15,0,255,511,1023,2047] [5] [.q 5 [] [],.s [9] (some 0) [] [],.q 2 [] [],.s [] none [0] [],.s [] none [0] [],.s [] none [0] [],.s [] none [0] []] (fun _=>Hp) (fun B=>[.cells 4 [.v (.bool fb)]]++bot (B 0)) Aa (by kernel_rfl) rfl rfl (fun _=>rfl) ?_
   apply Y.q
   case h1 =>
    intro B hT hF
    refine D.go (h:=Q.loadUp hbm) (hr:=?_)
    refine Z5 ?_
    refine D.go (h:=Q.loadUp hm) (hr:=?_)
    refine D.go (h:=Q.loadUp hbp) (hr:=?_)
    exact K3
   case hTF=>decide
   refine Y.callBad (own0:=[.cells 4 [.v (.bool fb)]]) Tryz.call160 (fun B hB=>⟨rfl,by simp [bot,hB]⟩) ((gh L i o _ (A4 ho) hi hl hll).bad hT) ?_ ?_
   ·rintro x U O f hU hl' ⟨rfl,j',hH⟩
    obtain ⟨rfl,rfl⟩:=As hU (List.getElem?_eq_some_iff.1 ho).1 hH
    refine ⟨fun h=>At h (fun n=>Ap),fun o h=>(by cases h),?_⟩
    exact pq
   apply Y.q
   case h1 =>
    intro B hT hF
    exact Z92
   case hTF=>decide
   exact j4
  have hk:=Gb hl hll hi hT
  refine W.drawZ0 [0,1,3,7,0,16,15,0,255,511,1023,2047] [3,5] [.q 3 [] [0],.s [7] (some 0) [] [],.q 1 [] [1],.s [9] (some 1) [] [],.q 2 [] []] (fun B=>U2 L Hp o om (if B 1=true then k else i) (if B 0=true then .cells 47 [A5 m.kind,.slice true 1 (m.take.map A8),.slice true 2 (m.give.map Bt),.slice true 6 (m.ahead.map A6),.slice false 6 (m.back.map A6)] else .cells 47 [A5 m.kind,.slice true 1 (m.take.map A8),.slice true 2 (m.give.map Bt),.slice true 6 (m.ahead.map A6),.slice true 6 (m.back.map A6)])) (fun _=>[.cells 4 [.v (.bool fb)]]) Aa (by kernel_rfl) (Kt ho hm) rfl (fun B=>U2_len) ?_
  apply Y.q
  case h1 =>
   intro B hT hF
   refine D.go (h:=Q.loadUp ((Dh n3 n4).trans hbm)) (hr:=?_)
   exact Z36
  case hTF=>decide
  refine Y.loadUpT (o:=om) (t':=47) (cs:=[A5 m.kind,.slice true 1 (m.take.map A8),.slice true 2 (m.give.map Bt),.slice true 6 (m.ahead.map A6),.slice true 6 (m.back.map A6)]) (cs':=[A5 m.kind,.slice true 1 (m.take.map A8),.slice true 2 (m.give.map Bt),.slice true 6 (m.ahead.map A6),.slice false 6 (m.back.map A6)]) Tryz.isAgg45 (fun B hB=>⟨by simp only [hB];exact Bw hm,U2_setm.symm,rfl⟩) ?_
  apply Y.q
  case h1 =>
   intro B hT hF
   refine D.go (h:=Q.loadUp ((Dh n1 n2).trans hbp)) (hr:=?_)
   exact K3
  case hTF=>decide
  refine Y.callUp (r:=A6 x) (o:=o) (x0:=pmO L i) (x:=pmO L k) Tryz.call160 (fun B hB1 hB2 hB=>⟨by simp only [hB];exact Av ho hne,(Bb hne).symm,rfl,Ap,?_⟩) ?_
  ·simp only [hB]
   exact pt
  apply Y.q
  case h1 =>
   intro B hT hF
   exact Z92
  case hTF=>decide
  refine Y.put2 (tn:=[3,5]) (U:=U2 L Hp o om k (.cells 47 [A5 m.kind,.slice true 1 (m.take.map A8),.slice true 2 (m.give.map Bt),.slice true 6 (m.ahead.map A6),.slice false 6 (m.back.map A6)])) (O:=[.cells 4 [.v (.bool fb)]]) (o:=om) (t':=47) (cs:=[A5 m.kind,.slice true 1 (m.take.map A8),.slice true 2 (m.give.map Bt),.slice true 6 (m.ahead.map A6),.slice false 6 (m.back.map A6)]) jU Tryz.type69 Tryz.sizeOf69 Tryz.sizeOf45 jU (A4 (Bw hm)) ?_ ?_ ?_ (hfsz:=Tryz.sizeOf45)
  ·simp [Tryz.t69];omega
  ·simp [Tryz.t69];omega
  refine Z0 ?_
  refine R.storeUpT jS (Bw hm) ?_ ?_
  ·exact Jv
  exact Z81
 rcases hT:E9 L i with ⟨x,k⟩|⟨e,a⟩
 rotate_left
 ·refine W.drawY0 [0,0,2,6,14,0,32,96,254,511,1023,2047] [6] [.q 6 [] [],.s [22] (some 0) [] [],.s [] none [0] [],.s [] none [0] [],.s [] none [0] [],.s [] none [0] [],.s [] none [0] []] (fun _=>Hp) (fun B=>[.cells 4 [.v (.bool fb)]]++bot (B 0)) Aa (by kernel_rfl) rfl rfl (fun _=>rfl) ?_
  apply Y.q
  case h1 =>
   intro B hT hF
   refine D.go (h:=Q.loadUp hbm) (hr:=?_)
   refine D.go (h:=Q.loadUp hbm) (hr:=?_)
   refine Z5 ?_
   refine D.go (h:=Q.loadUp hm) (hr:=?_)
   refine D.go (h:=Q.loadUp hbp) (hr:=?_)
   exact K3
  case hTF=>decide
  refine Y.callBad (own0:=[.cells 4 [.v (.bool fb)]]) Tryz.call160 (fun B hB=>⟨rfl,by simp [bot,hB]⟩) ((gh L i o _ (A4 ho) hi hl hll).bad hT) ?_ ?_
  ·rintro x U O f hU hl' ⟨rfl,j',hH⟩
   obtain ⟨rfl,rfl⟩:=As hU (List.getElem?_eq_some_iff.1 ho).1 hH
   refine ⟨fun h=>At h (fun n=>Ap),fun o h=>(by cases h),?_⟩
   exact pq
  refine Z7 ?_;exact j5
 have hk:=Gb hl hll hi hT
 refine W.drawY0 [0,0,2,6,14,0,32,96,254,511,1023,2047] [4,6] [.q 4 [] [],.s [20] (some 0) [] [],.q 1 [] [1],.s [22] (some 1) [] [],.q 1 [1] [],.s [20,24] none [0,1] []] (fun B=>U2 L Hp o om (if B 1=true then k else i) (if B 0=true then .cells 47 [A5 m.kind,.slice true 1 (m.take.map A8),.slice true 2 (m.give.map Bt),.slice true 6 (m.ahead.map A6),.slice false 6 (m.back.map A6)] else .cells 47 [A5 m.kind,.slice true 1 (m.take.map A8),.slice true 2 (m.give.map Bt),.slice true 6 (m.ahead.map A6),.slice true 6 (m.back.map A6)])) (fun _=>[.cells 4 [.v (.bool fb)]]) Aa (by kernel_rfl) (Kt ho hm) rfl (fun B=>U2_len) ?_
 apply Y.q
 case h1 =>
  intro B hT hF
  refine D.go (h:=Q.loadUp ((Dh n3 n4).trans hbm)) (hr:=?_)
  refine D.go (h:=Q.loadUp ((Dh n3 n4).trans hbm)) (hr:=?_)
  exact Z36
 case hTF=>decide
 refine Y.loadUpT (o:=om) (t':=47) (cs:=[A5 m.kind,.slice true 1 (m.take.map A8),.slice true 2 (m.give.map Bt),.slice true 6 (m.ahead.map A6),.slice true 6 (m.back.map A6)]) (cs':=[A5 m.kind,.slice true 1 (m.take.map A8),.slice true 2 (m.give.map Bt),.slice true 6 (m.ahead.map A6),.slice false 6 (m.back.map A6)]) Tryz.isAgg45 (fun B hB=>⟨by simp only [hB];exact Bw hm,U2_setm.symm,rfl⟩) ?_
 apply Y.q
 case h1 =>
  intro B hT hF
  refine D.go (h:=Q.loadUp ((Dh n1 n2).trans hbp)) (hr:=?_)
  exact K3
 case hTF=>decide
 refine Y.callUp (r:=A6 x) (o:=o) (x0:=pmO L i) (x:=pmO L k) Tryz.call160 (fun B hB1 hB2 hB=>⟨by simp only [hB];exact Av ho hne,(Bb hne).symm,rfl,Ap,?_⟩) ?_
 ·simp only [hB]
  exact pt
 apply Y.q
 case h1 =>
  intro B hT hF
  exact Z21
 case hTF=>decide
 refine Y.append jU Tryz.type69 ?_ ?_ ?_
 ·simp [Tryz.t69];omega
 ·simp [Tryz.t69];omega
 refine Y.tail (tn:=[4,6]) (U:=U2 L Hp o om k (.cells 47 [A5 m.kind,.slice true 1 (m.take.map A8),.slice true 2 (m.give.map Bt),.slice true 6 (m.ahead.map A6),.slice false 6 (m.back.map A6)])) ?_;refine Z0 ?_
 refine R.storeUpT jS (Bw hm) ?_ ?_
 ·exact Jv
 exact Z81

theorem Bx {L:List Tok} {Hp:List AObj} {o om i j n:Nat} {x y:AObj} (hne:om≠o) (hy:ObjLow n y) (h:∀z∈U2 L Hp o om i x,ObjLow n z):∀z∈U2 L Hp o om j y,ObjLow n z:=by
 intro z hz
 rw [show U2 L Hp o om j y=((U2 L Hp o om i x).set o (pmO L j)).set om y by rw [Bb hne,U2_setm]] at hz
 rcases List.mem_or_eq_of_mem_set hz with hz|rfl
 ·rcases List.mem_or_eq_of_mem_set hz with hz|rfl
  ·exact h z hz
  exact Ap
 exact hy
theorem Cf {L:List Tok} {Hp own:List AObj} {o om i:Nat} {x:AObj} (h1:o<Hp.length) (h2:om<Hp.length):U2 L (Hp++own) o om i x=U2 L Hp o om i x++own:=by
 unfold U2
 rw [List.set_append_left _ _ h1,List.set_append_left _ _ (by simpa using h2)]
theorem Dc {L:List Tok} {Hp own U O:List AObj} {o om i:Nat} {x:AObj} (hne:om≠o) (h1:o<Hp.length) (h2:om<Hp.length) (hU:U.length=(U2 L Hp o om i x).length) (h:W2 L o om (U2 L Hp o om i x++own) (U++O)):W2 L o om Hp U∧own=O:=by
 obtain ⟨j,m,e⟩:=h
 rw [Cf (by rw [U2_len];exact h1) (by rw [U2_len];exact h2),F6 hne] at e
 obtain ⟨rfl,rfl⟩:=Fk (by rw [hU,U2_len,U2_len]) e
 exact ⟨⟨j,m,rfl⟩,rfl⟩
/-- Where the loop of things with commas between stands. -/
structure ListAt (L:List Tok) (n:Int) (one:Mov→Nat→PR Mov) (X:PR Mov) (x:Nat×Mov×Nat):Prop where
 lt:x.2.2<L.length
 pos:0<x.2.2
 le:MvLe x.2.1 (2*x.2.2)
 k:x.1≤x.2.2
 fuel:∃f,X=Ei L n one f x.1 x.2.1 x.2.2∧L.length-x.2.2<f
theorem ListAt.step {L:List Tok} {n:Int} {one:Mov→Nat→PR Mov} {X:PR Mov} {x:Nat×Mov×Nat} (h:ListAt L n one X x) (hq:Ga L n x.1 x.2.2=true):∃f,X=((Ay L [44] x.2.2).bind fun _ j=>(one x.2.1 j).bind fun m j=>Ei L n one f (x.1+1) m j)∧L.length-x.2.2<f+1:=by
 obtain ⟨f,e,hf⟩:=h.fuel
 obtain ⟨f,rfl⟩:∃g,f=g+1:=⟨f-1,by omega⟩
 refine ⟨f,?_,hf⟩
 rw [e,Ei,if_pos hq]
theorem ListAt.on {L:List Tok} (hl:TokEnd L) {n:Int} {one:Mov→Nat→PR Mov} (hP:Pd L one) {X:PR Mov} {x:Nat×Mov×Nat} (h:ListAt L n one X x) (hq:Ga L n x.1 x.2.2=true) {u:Unit} {j:Nat} (hW:Ay L [44] x.2.2=.ok u j) {m2:Mov} {j2:Nat} (hO:one x.2.1 j=.ok m2 j2):ListAt L n one X (x.1+1,m2,j2)∧x.2.2<j2:=by
 obtain ⟨f,e,hf⟩:=h.step hq
 have h1:=C2 hl h.lt _ _ hW
 have hj:j=x.2.2+1:=by
  unfold Ay at hW
  split at hW
  ·injection hW with _ h;exact h.symm
  cases hW
 obtain ⟨a1,a2,a3⟩:=hP x.2.1 j (h.le.mono (by omega)) (by omega) h1.2 _ _ hO
 have:=h.k
 refine ⟨⟨a2,by show 0<j2;omega,a3,by show x.1+1≤j2;omega,f,?_,by show L.length-j2<f;omega⟩,by omega⟩
 rw [e,hW]
 show (one x.2.1 j).bind _=_
 rw [hO];rfl
theorem ListAt.bad1 {L:List Tok} {n:Int} {one:Mov→Nat→PR Mov} {X:PR Mov} {x:Nat×Mov×Nat} (h:ListAt L n one X x) (hq:Ga L n x.1 x.2.2=true) {e a:Int} (hW:Ay L [44] x.2.2=.bad e a):X=.bad e a:=by
 obtain ⟨f,e,_⟩:=h.step hq
 rw [e,hW];rfl
theorem ListAt.bad2 {L:List Tok} {n:Int} {one:Mov→Nat→PR Mov} {X:PR Mov} {x:Nat×Mov×Nat} (h:ListAt L n one X x) (hq:Ga L n x.1 x.2.2=true) {u:Unit} {j:Nat} (hW:Ay L [44] x.2.2=.ok u j) {e a:Int} (hO:one x.2.1 j=.bad e a):X=.bad e a:=by
 obtain ⟨f,e,_⟩:=h.step hq
 rw [e,hW]
 show (one x.2.1 j).bind _=_
 rw [hO];rfl
theorem ListAt.out {L:List Tok} {n:Int} {one:Mov→Nat→PR Mov} {X:PR Mov} {x:Nat×Mov×Nat} (h:ListAt L n one X x) (hq:Ga L n x.1 x.2.2=false):X=.ok x.2.1 x.2.2:=by
 obtain ⟨f,e,hf⟩:=h.fuel
 obtain ⟨f,rfl⟩:∃g,f=g+1:=⟨f-1,by omega⟩
 rw [e,Ei,if_neg (by rw [hq];simp)]
theorem th (L:List Tok) (m:Mov) (i o om bp bm:Nat) (Hp:List AObj) (hne:om≠o) (ho:Hp[o]? = some (pmO L i)) (hm:Hp[om]? = some (mvO m)) (hbp:Hp[bp]? = some (.cells 51 [.ptr o 0])) (hbm:Hp[bm]? = some (.cells 102 [.ptr om 0])) (hi:i<L.length) (hl:TokEnd L) (hll:L.length≤500000) (hb:MvLe m (2*i-1)):CP 129 [.ptr bm 0,.ptr bp 0] Hp (Hr L m i) (fun m' j r H'=>r=Je∧H'=U2 L Hp o om j (mvO m')) (W2 L o om Hp):=by
 have n1:bp≠o:=fun e=>by rw [e,ho] at hbp;simp at hbp
 have n2:bp≠om:=fun e=>by rw [e,hm] at hbp;simp at hbp
 have n3:bm≠o:=fun e=>by rw [e,ho] at hbm;simp at hbm
 have n4:bm≠om:=fun e=>by rw [e,hm] at hbm;simp at hbm
 have:=hb.take;have:=hb.give;have:=hb.ahead;have:=hb.back
 refine ACallP.body [] [0,1] Tryz.func129 Tryz.ntmps129 (fun d=>?_)
 rcases hT:Cz L i with ⟨s,k⟩|⟨e,a⟩
 rotate_left
 ·refine W.drawY0 [0,0,2,6,14,0,32,96,254,511,1023,2047] [6] [.q 6 [] [],.s [8] (some 0) [] [],.s [] none [0] [],.s [] none [0] [],.s [] none [0] [],.s [] none [0] [],.s [] none [0] []] (fun _=>Hp) (fun B=>[]++bot (B 0)) Aa (by kernel_rfl) rfl rfl (fun _=>rfl) ?_
  apply Y.q
  case h1 =>
   intro B hT hF
   refine D.go (h:=Q.loadUp hbm) (hr:=?_)
   refine D.go (h:=Q.loadUp hbm) (hr:=?_)
   refine Z5 ?_
   refine D.go (h:=Q.loadUp hm) (hr:=?_)
   refine D.go (h:=Q.loadUp hbp) (hr:=?_)
   exact K3
  case hTF=>decide
  refine Y.callBad (own0:=[]) Tryz.call124 (fun B hB=>⟨rfl,by simp [bot,hB]⟩) ((Mj L i o _ (A4 ho) hi hll).bad hT) ?_ ?_
  ·rintro x U O f hU hl' ⟨rfl,j',hH⟩
   obtain ⟨rfl,rfl⟩:=As hU (List.getElem?_eq_some_iff.1 ho).1 hH
   refine ⟨fun h=>At h (fun n=>Ap),fun o h=>(by cases h),?_⟩
   exact K.finPP ⟨_,_,by unfold Hr;rw [hT];rfl,rfl,j',m,Wm hne hm⟩
  refine Z7 ?_;exact j5
 have hk:=D8 hl hi _ _ hT
 refine W.drawY0 [0,0,2,6,14,0,32,96,254,511,1023,2047] [4,6] [.q 4 [] [],.s [6] (some 0) [] [],.q 1 [] [1],.s [8] (some 1) [] [],.q 1 [1] [],.s [6,10] none [0,1] []] (fun B=>U2 L Hp o om (if B 1=true then k else i) (if B 0=true then .cells 47 [A5 m.kind,.slice false 1 (m.take.map A8),.slice true 2 (m.give.map Bt),.slice true 6 (m.ahead.map A6),.slice true 6 (m.back.map A6)] else .cells 47 [A5 m.kind,.slice true 1 (m.take.map A8),.slice true 2 (m.give.map Bt),.slice true 6 (m.ahead.map A6),.slice true 6 (m.back.map A6)])) (fun _=>[]) Aa (by kernel_rfl) (Kt ho hm) rfl (fun B=>U2_len) ?_
 apply Y.q
 case h1 =>
  intro B hT hF
  refine D.go (h:=Q.loadUp ((Dh n3 n4).trans hbm)) (hr:=?_)
  refine D.go (h:=Q.loadUp ((Dh n3 n4).trans hbm)) (hr:=?_)
  exact Z36
 case hTF=>decide
 refine Y.loadUpT (o:=om) (t':=47) (cs:=[A5 m.kind,.slice true 1 (m.take.map A8),.slice true 2 (m.give.map Bt),.slice true 6 (m.ahead.map A6),.slice true 6 (m.back.map A6)]) (cs':=[A5 m.kind,.slice false 1 (m.take.map A8),.slice true 2 (m.give.map Bt),.slice true 6 (m.ahead.map A6),.slice true 6 (m.back.map A6)]) Tryz.isAgg29 (fun B hB=>⟨by simp only [hB];exact Bw hm,U2_setm.symm,rfl⟩) ?_
 apply Y.q
 case h1 =>
  intro B hT hF
  refine D.go (h:=Q.loadUp ((Dh n1 n2).trans hbp)) (hr:=?_)
  exact K3
 case hTF=>decide
 refine Y.callUp (r:=A8 s) (o:=o) (x0:=pmO L i) (x:=pmO L k) Tryz.call124 (fun B hB1 hB2 hB=>⟨by simp only [hB];exact Av ho hne,(Bb hne).symm,rfl,Ap,?_⟩) ?_
 ·simp only [hB]
  exact (Mj L i o _ (A4 (Av ho hne)) hi hll).ok hT
 apply Y.q
 case h1 =>
  intro B hT hF
  exact Z21
 case hTF=>decide
 refine Y.append jU Tryz.type9 ?_ ?_ ?_
 ·simp [Tryz.t9];omega
 ·simp [Tryz.t9];omega
 refine Y.tail (tn:=[4,6]) (U:=U2 L Hp o om k (.cells 47 [A5 m.kind,.slice false 1 (m.take.map A8),.slice true 2 (m.give.map Bt),.slice true 6 (m.ahead.map A6),.slice true 6 (m.back.map A6)])) ?_;refine Z0 ?_
 refine R.storeUpT jS (Bw hm) ?_ ?_
 ·simp [or_imp,forall_and]
 refine R.fin [] ?_;exact K.finPN .nores (hp:=⟨Xq m s,k,by unfold Hr;rw [hT];rfl,rfl,by exact ba⟩)

theorem tj (L:List Tok) (m:Mov) (i o om bp bm:Nat) (Hp:List AObj) (hne:om≠o) (ho:Hp[o]? = some (pmO L i)) (hm:Hp[om]? = some (mvO m)) (hbp:Hp[bp]? = some (.cells 51 [.ptr o 0])) (hbm:Hp[bm]? = some (.cells 102 [.ptr om 0])) (hi:i<L.length) (hl:TokEnd L) (hll:L.length≤500000) (hb:MvLe m (2*i-1)):CP 128 [.ptr bp 0,.ptr bm 0] Hp (C1 L m i) (fun m' j r H'=>r=Je∧H'=U2 L Hp o om j (mvO m')) (W2 L o om Hp):=by
 have hol:=(List.getElem?_eq_some_iff.1 ho).1
 have hml:=(List.getElem?_eq_some_iff.1 hm).1
 have n1:bp≠o:=fun e=>by rw [e,ho] at hbp;simp at hbp
 have n2:bp≠om:=fun e=>by rw [e,hm] at hbp;simp at hbp
 have n3:bm≠o:=fun e=>by rw [e,ho] at hbm;simp at hbm
 have n4:bm≠om:=fun e=>by rw [e,hm] at hbm;simp at hbm
 have:=hb.take;have:=hb.give;have:=hb.ahead;have:=hb.back
 refine ACallP.body [] [0,1] Tryz.func128 Tryz.ntmps128 (fun d=>?_)
 refine dh ?_
 rcases hT:C1 L m i with ⟨m2,k⟩|⟨e,a⟩
 rotate_left
 ·refine AW.regionK ?_
  refine ARunK.one (R.go (h:=Q.loadUp ((Dh n1 n2).trans hbp)) (hr:=ARun.nil ?_))
  refine ARunK.one (R.go (h:=Q.loadUp ((Dh n3 n4).trans hbm)) (hr:=ARun.nil ?_))
  refine RK.callBad Tryz.call123 ((Wn L m i o om _ hne (A4 (Av ho hne)) (A4 (Bw hm)) hi hl hll hb).bad hT) ?_
  rintro x U O hU hl' ⟨rfl,hW2⟩
  obtain ⟨⟨j',m',rfl⟩,rfl⟩:=Dc hne hol hml hU hW2
  refine ⟨fun h=>Bx hne B6 h,fun o h=>(by cases h),?_⟩
  exact K.finPP ⟨_,_,rfl,rfl,j',m',rfl⟩
 refine AW.region ?_
 refine R.go (h:=Q.loadUp ((Dh n1 n2).trans hbp)) (hr:=?_)
 refine R.go (h:=Q.loadUp ((Dh n3 n4).trans hbm)) (hr:=?_)
 refine R.callX (up':=U2 L Hp o om k (mvO m2)) (own':=[]) Tryz.call123 (((Wn L m i o om _ hne (A4 (Av ho hne)) (A4 (Bw hm)) hi hl hll hb).ok hT).mono (fun r H' e=>⟨e.1,e.2.trans (by rw [List.append_nil,List.append_nil,F6 hne])⟩)) (by rw [U2_len,U2_len]) (fun h=>Bx hne B6 h) ?_;refine R.fin [] ?_;exact K.finPN .nores (hp:=⟨m2,k,rfl,rfl,rfl⟩)

theorem c127 (L:List Tok) (n:Int) (m:Mov) (i o om g:Nat) (caps:List AV) (one:Mov→Nat→PR Mov) (Hp:List AObj) (hne:om≠o) (ho:Hp[o]? = some (pmO L i)) (hm:Hp[om]? = some (mvO m)) (h0:0<i) (hi:i<L.length) (hl:TokEnd L) (hll:L.length≤500000) (hb:MvLe m (2*i-1)) (hcall:∀args w,(callFunc g args).run Tryz.prog w=.ok (.enter g args) w) (hC:Xy L o om g caps Hp one) (hP:Pd L one):CP 127 [.ptr o 0,A5 n,.fn (.func g) [] caps] Hp (Ds L n one m i) (fun m' j r H'=>r=Je∧H'=U2 L Hp o om j (mvO m')) (W2 L o om Hp):=by
 have hol:=(List.getElem?_eq_some_iff.1 ho).1
 have hml:=(List.getElem?_eq_some_iff.1 hm).1
 refine ACallP.body [] [0,1,2] Tryz.func127 Tryz.ntmps127 (fun d=>?_)
 refine dh ?_
 rcases h1:one m i with ⟨m1,j1⟩|⟨e,a⟩
 rotate_left
 ·refine AW.seqRK ?_
  refine ARunK.one (R.go (ARun.nil ?_))
  refine RK.callBad hcall (by rw [List.append_nil];exact (hC m i hb h0 hi).bad h1) ?_
  rintro z U O hU hl' ⟨rfl,j',m',hH⟩
  obtain ⟨rfl,rfl⟩:=Fk (A:=U2 L Hp o om j' (mvO m')) (B:=[]) (by rw [hU,U2_len,U2_len]) (hH.trans (List.append_nil _).symm)
  refine ⟨fun h=>Bx hne B6 h,fun o h=>(by cases h),?_⟩
  refine K.thP ?_;exact K.finPP ⟨_,_,by unfold Ds;rw [h1];rfl,rfl,j',m',rfl⟩
 have g1:=hP m i hb h0 hi _ _ h1
 have e0:Ds L n one m i=Ei L n one (L.length+1) 1 m1 j1:=by unfold Ds;rw [h1];rfl
 refine Z2 ?_
 refine R.callVX (up':=U2 L Hp o om j1 (mvO m1)) (own':=[]) hcall (by rw [List.append_nil,List.append_nil];exact (hC m i hb h0 hi).ok h1) (by rw [U2_len,U2_len]) (fun h=>Bx hne B6 h) ?_
 refine R.fin [0,1,2] ?_;refine Z2 ?_;refine Vd ?_
 refine AW.loopC (α:=Nat×Mov×Nat) (fun x=>⟨30,A7 0 (.ptr o 0) (A7 1 (A5 n) (A7 2 (.fn (.func g) [] caps) (A7 6 (A5 (x.1:Int)) (fun _=>.any)))),U2 L Hp o om x.2.2 (mvO x.2.1),[],[],none⟩) (fun x=>ListAt L n one (Ds L n one m i) x) (fun x=>L.length-x.2.2) ((1,m1,j1)) ⟨g1.2.1,by show 0<j1;omega,g1.2.2,by show 1≤j1;omega,_,e0,by show L.length-j1<_;omega⟩ (StLe.refl _) rfl (fun x hx=>?_)
 refine Z11 ?_;refine Z34 ?_;refine Z4 ?_;refine G.go ?_;refine G.call Tryz.call130 (fun hB=>qo L [44] x.2.2 o _ (A4 (Av ho hne)) hx.lt) ?_;refine Z4 ?_;refine R.go ?_;refine R.fin [0,1,2,6,23] ?_
 refine W.cond (fun ht23=>?_) (fun ht23=>?_)
 ·have hq:Ga L n x.1 x.2.2=true:=ht23
  refine Z79 ?_
  rcases hW:Ay L [44] x.2.2 with ⟨u,j⟩|⟨e,a⟩
  rotate_left
  ·refine AW.seqRK ?_
   refine ARunK.one (R.go (ARun.nil ?_))
   refine RK.callBad Tryz.call92 ((c92 L [44] x.2.2 o _ (A4 (Av ho hne)) hx.lt hll).bad hW) ?_
   rintro z U O hU hl' ⟨rfl,j',hH⟩
   obtain ⟨rfl,rfl⟩:=As hU (List.getElem?_eq_some_iff.1 (Av (L:=L) (i:=x.2.2) (x:=mvO x.2.1) ho hne)).1 hH
   refine ⟨fun h=>At h (fun n=>Ap),fun o h=>(by cases h),?_⟩
   refine Z82 ?_;refine K.thP ?_;refine K.lpP ?_;exact K.finPP ⟨_,_,hx.bad1 hq hW,rfl,j',x.2.1,Bb hne⟩
  have hj:=C2 hl hx.lt _ _ hW
  have hpos:=hx.pos
  refine Z2 ?_;refine R.callUp (x:=pmO L j) Tryz.call92 (Av ho hne) (by simp) Ap ((c92 L [44] x.2.2 o _ (A4 (Av ho hne)) hx.lt hll).ok hW) ?_
  rw [Bb hne]
  refine Vd ?_
  rcases hO:one x.2.1 j with ⟨m2,j2⟩|⟨e,a⟩
  rotate_left
  ·refine AW.regionK ?_
   refine ARunK.one (R.go (ARun.nil ?_))
   refine RK.callBad hcall (by rw [List.append_nil];exact (hC x.2.1 j (hx.le.mono (by omega)) (by omega) hj.2).bad hO) ?_
   rintro z U O hU hl' ⟨rfl,j',m',hH⟩
   obtain ⟨rfl,rfl⟩:=Fk (A:=U2 L Hp o om j' (mvO m')) (B:=[]) (by rw [hU,U2_len,U2_len]) (hH.trans (List.append_nil _).symm)
   refine ⟨fun h=>Bx hne B6 h,fun o h=>(by cases h),?_⟩
   refine K.blP ?_;refine K.thP ?_;refine K.lpP ?_;exact K.finPP ⟨_,_,hx.bad2 hq hW hO,rfl,j',m',rfl⟩
  have hon:=hx.on hl hP hq hW hO
  refine Z97 ?_
  refine R.callVX (up':=U2 L Hp o om j2 (mvO m2)) (own':=[]) hcall (by rw [List.append_nil,List.append_nil];exact (hC x.2.1 j (hx.le.mono (by omega)) (by omega) hj.2).ok hO) (by rw [U2_len,U2_len]) (fun h=>Bx hne B6 h) ?_
  refine Vd ?_;refine Z13 ?_;refine Z97 ?_
  refine R.go (h:=Q.add64 (h2:=fun _=>by have:=hx.k;have:=hx.lt;omega)) (hr:=?_)
  refine R.go ?_;refine Vd ?_
  refine K.lpN (x.1+1,m2,j2) hon.1 (by have:=hx.lt;have:=hon.2;show L.length-j2<L.length-x.2.2;omega) (StCut.of_eq rfl)
 have hq:Ga L n x.1 x.2.2=false:=ht23
 have e:=hx.out hq
 refine Z46 ?_;refine K.lpE ?_;exact K.finPN .nores (hp:=⟨_,_,e,rfl,rfl⟩)

theorem CP.mono {g:FuncId} {args:List AV} {H:List AObj} {α:Type} {X:PR α} {Q Q':α→Nat→AV→List AObj→Prop} {R R':List AObj→Prop} (h:CP g args H X Q R) (hQ:∀c j r H',Q c j r H'→Q' c j r H') (hR:∀H',R H'→R' H'):CP g args H X Q' R':=
 ACallP.mono h (fun r H' ⟨c,j,e,hq⟩=>⟨c,j,e,hQ _ _ _ _ hq⟩) (fun v H' ⟨e,a,e1,e2,h⟩=>⟨e,a,e1,e2,hR _ h⟩)
section
variable {L:List Tok} {o om bp bm:Nat} {X:List AObj} {z z':AObj}
theorem Qh (hne:om≠o) (ho:X[o]? = some z) (hm:X[om]? = some z') (hbp:X[bp]? = some (.cells 51 [.ptr o 0])) (hbm:X[bm]? = some (.cells 102 [.ptr om 0])) (n1:bp≠o) (n2:bp≠om) (n3:bm≠o) (n4:bm≠om) (hl:TokEnd L) (hll:L.length≤500000):Xy L o om 161 [.ptr bm 0,.ptr bp 0] X (Ii L):=
 fun m i hb _ hi=>(tg L m i o om bp bm (U2 L X o om i (mvO m)) hne (Av ho hne) (Bw hm) ((Dh n1 n2).trans hbp) ((Dh n3 n4).trans hbm) hi hl hll hb).mono (fun c j r H' e=>⟨e.1,e.2.trans (F6 hne)⟩) (fun H' h=>gi hne h)
theorem Qi (hne:om≠o) (ho:X[o]? = some z) (hm:X[om]? = some z') (hbp:X[bp]? = some (.cells 51 [.ptr o 0])) (hbm:X[bm]? = some (.cells 102 [.ptr om 0])) (n1:bp≠o) (n2:bp≠om) (n3:bm≠o) (n4:bm≠om) (hl:TokEnd L) (hll:L.length≤500000):Xy L o om 129 [.ptr bm 0,.ptr bp 0] X (Hr L):=
 fun m i hb _ hi=>(th L m i o om bp bm (U2 L X o om i (mvO m)) hne (Av ho hne) (Bw hm) ((Dh n1 n2).trans hbp) ((Dh n3 n4).trans hbm) hi hl hll hb).mono (fun c j r H' e=>⟨e.1,e.2.trans (F6 hne)⟩) (fun H' h=>gi hne h)
theorem Qj (hne:om≠o) (ho:X[o]? = some z) (hm:X[om]? = some z') (hbp:X[bp]? = some (.cells 51 [.ptr o 0])) (hbm:X[bm]? = some (.cells 102 [.ptr om 0])) (n1:bp≠o) (n2:bp≠om) (n3:bm≠o) (n4:bm≠om) (hl:TokEnd L) (hll:L.length≤500000):Xy L o om 128 [.ptr bp 0,.ptr bm 0] X (C1 L):=
 fun m i hb _ hi=>(tj L m i o om bp bm (U2 L X o om i (mvO m)) hne (Av ho hne) (Bw hm) ((Dh n1 n2).trans hbp) ((Dh n3 n4).trans hbm) hi hl hll hb).mono (fun c j r H' e=>⟨e.1,e.2.trans (F6 hne)⟩) (fun H' h=>gi hne h)
end
attribute [go_sem] U2_len
theorem Mk {L:List Tok} {Hp own:List AObj} {o om i n:Nat} {x z:AObj} (h:own[n]? = some z):(U2 L Hp o om i x++own)[oid Hp.length n]? = some z:=by
 unfold oid
 rw [List.getElem?_append_right (by rw [U2_len];omega),U2_len,Nat.add_sub_cancel_left]
 exact h
theorem C9 {n k o:Nat} (h:o<n):oid n k≠o:=by unfold oid;omega
theorem Ub (L:List Tok) (m:Mov) (i o om:Nat) (Hp:List AObj) (hne:om≠o) (ho:Hp[o]? = some (pmO L i)) (hm:Hp[om]? = some (mvO m)) (hi:i<L.length) (hl:TokEnd L) (hll:L.length≤500000) (hb:MvLe m (2*i)):CP 125 [.ptr o 0,.ptr om 0] Hp (Ct L m i) (fun m' j r H'=>r=Je∧H'=U2 L Hp o om j (mvO m')) (W2 L o om Hp):=by
 have hol:=(List.getElem?_eq_some_iff.1 ho).1
 have hml:=(List.getElem?_eq_some_iff.1 hm).1
 refine ACallP.body [] [0,1] Tryz.func125 Tryz.ntmps125 (fun d=>?_)
 refine Dn ?_;refine R.box ?_;refine R.box ?_;refine Hc ?_;refine dh ?_
 rcases hW:Ay L backW i with ⟨u,j⟩|⟨e,a⟩
 rotate_left
 ·refine AW.seqRK ?_
  refine ARunK.one (R.go (ARun.nil ?_))
  refine RK.callBad Tryz.call92 (c92 L backW i o _ (A4 (Av ho hne)) hi hll |>.bad hW) ?_
  rintro x U O hU hl' ⟨rfl,j',hH⟩
  obtain ⟨rfl,rfl⟩:=As hU (List.getElem?_eq_some_iff.1 (Av (L:=L) (i:=i) (x:=mvO m) ho hne)).1 hH
  refine ⟨fun h=>At h (fun n=>Ap),fun o h=>(by cases h),?_⟩
  refine K.thP ?_;exact K.finPP ⟨_,_,by unfold Ct;rw [hW];rfl,rfl,j',m,Bb hne⟩
 have hj:=C2 hl hi _ _ hW
 refine Z2 ?_;refine R.callUp (x:=pmO L j) Tryz.call92 (Av ho hne) (by simp) Ap ((c92 L backW i o _ (A4 (Av ho hne)) hi hll).ok hW) ?_
 rw [Bb hne]
 refine Hc ?_
 rcases hP:Ds L ((m.take.map A8).length:Int) (Ii L) m j with ⟨m2,k⟩|⟨e,a⟩
 rotate_left
 ·refine W.drawY0 [0,0,2,6,14,30,0,127] [7] [.q 7 [] [],.s [13] (some 0) [] []] (fun _=>U2 L Hp o om j (mvO m)) (fun B=>[.cells 51 [.ptr o 0],.cells 102 [.ptr om 0]]++bot (B 0)) Aa (by kernel_rfl) rfl rfl (fun _=>rfl) ?_
  apply Y.q
  case h1 =>
   intro B hT hF
   refine Z90 ?_
   refine D.go (h:=Q.loadUp (Bw hm)) (hr:=?_)
   refine D.go ?_;refine D.makeFunc ?_;exact K3
  case hTF=>decide
  refine Y.callBad (own0:=[.cells 51 [.ptr o 0],.cells 102 [.ptr om 0]]) Tryz.call127 (fun B hB=>⟨rfl,by simp [bot,hB]⟩) ((c127 L (((m.take.map A8).length:Int)) m j o om 161 [.ptr (oid Hp.length 1) 0,.ptr (oid Hp.length 0) 0] (Ii L) (U2 L Hp o om j (mvO m)++[.cells 51 [.ptr o 0],.cells 102 [.ptr om 0]]) hne (A4 (Av ho hne)) (A4 (Bw hm)) (by omega) hj.2 hl hll (hb.mono (by omega)) Tryz.call161 (Qh (z:=pmO L j) (z':=mvO m) hne (A4 (Av ho hne)) (A4 (Bw hm)) (Mk rfl) (Mk rfl) (C9 hol) (C9 hml) (C9 hol) (C9 hml) hl hll) (Of hl hll)).bad hP) ?_ ?_
  ·rintro x U O f hU hl' ⟨rfl,hW2⟩
   obtain ⟨⟨j',m',rfl⟩,rfl⟩:=Dc hne hol hml hU hW2
   refine ⟨fun h=>Bx hne B6 h,fun o h=>(by cases h),?_⟩
   exact K.finPP ⟨_,_,by unfold Ct;rw [hW];show Ds L _ _ m j=_;rw [←hP,List.length_map],rfl,j',m',rfl⟩
  exact j8
 refine W.drawQ0 [0,0,2,6,14,30,0,127] 7 Aa (by kernel_rfl) ?_;refine Z90 ?_
 refine D.go (h:=Q.loadUp (Bw hm)) (hr:=?_)
 refine D.go ?_;refine D.makeFunc ?_;refine D.tail ?_
 refine R.callX (up':=U2 L Hp o om k (mvO m2)) (own':=[.cells 51 [.ptr o 0],.cells 102 [.ptr om 0]]) Tryz.call127 (((c127 L (((m.take.map A8).length:Int)) m j o om 161 [.ptr (oid Hp.length 1) 0,.ptr (oid Hp.length 0) 0] (Ii L) (U2 L Hp o om j (mvO m)++[.cells 51 [.ptr o 0],.cells 102 [.ptr om 0]]) hne (A4 (Av ho hne)) (A4 (Bw hm)) (by omega) hj.2 hl hll (hb.mono (by omega)) Tryz.call161 (Qh (z:=pmO L j) (z':=mvO m) hne (A4 (Av ho hne)) (A4 (Bw hm)) (Mk rfl) (Mk rfl) (C9 hol) (C9 hml) (C9 hol) (C9 hml) hl hll) (Of hl hll)).ok hP).mono (fun r H' e=>⟨e.1,e.2.trans (by first|rw [Cf (by rw [U2_len];exact hol) (by rw [U2_len];exact hml),F6 hne]|rw [Cf hol hml])⟩)) (by first|rfl|rw [U2_len,U2_len]|rw [U2_len]) (fun h=>Bx hne B6 h) ?_
 refine R.fin [] ?_;exact K.finPN .nores (hp:=⟨m2,k,by unfold Ct;rw [hW];show Ds L _ _ m j=_;rw [←hP,List.length_map],rfl,rfl⟩)

theorem Qk {L:List Tok} {Hp:List AObj} {o om i:Nat} {m:Mov} {s:Str} {x:AObj}:(U2 L Hp o om i x).set om (.cells 47 [A5 m.kind,.slice true 1 [A8 s],.slice true 2 (m.give.map Bt),.slice true 6 (m.ahead.map A6),.slice true 6 (m.back.map A6)])=U2 L Hp o om i (mvO (takeS m s)):=U2_setm
theorem Xz {n:Nat} {x:Expr}:Low n (.slice true 6 [.agg (Db x)]):=by
 have:=Cy (n:=n) (k:=6) (o:=true) (l:=[x])
 simp only [List.map_cons,List.map_nil] at this
 rw [A9] at this
 exact this
theorem Uc {n:Nat} {x:Expr}:Low n (.slice true 6 [A6 x]):=Cy (l:=[x])
theorem gj {L:List Tok} {m m1:Mov} {i k:Nat} (h:C1 L m i=.ok m1 k):(m1.give.map Bt)[0]? = some (Bt (m1.give.getD 0 ⟨[],0⟩)):=by
 obtain ⟨c,j,h1,h2⟩:=PR.bind_ok h
 obtain ⟨u,j2,h3,h4⟩:=PR.bind_ok h2
 obtain ⟨x,j3,h5,h6⟩:=PR.bind_ok h4
 injection h6 with h6 h7
 subst h6
 show ((m.give++[c]).map Bt)[0]? = some (Bt ((m.give++[c]).getD 0 ⟨[],0⟩))
 cases m.give<;>rfl
section
variable {L:List Tok} {m:Mov} {i:Nat}
theorem gk (h1:(m.kind==1)=true):Di L m i=C1 L m i:=if_pos h1
theorem Wo (h1:(m.kind==1)=false) (h2:(m.kind==2)=true):Di L m i=(Cz L i).bind fun s j=>Ct L (takeS m s) j:=by
 unfold Di;rw [if_neg (by rw [h1];simp),if_pos h2]
theorem gm (h1:(m.kind==1)=false) (h2:(m.kind==2)=false) (h3:(m.kind==3)=true):Di L m i=Eh L m i:=by
 unfold Di;rw [if_neg (by rw [h1];simp),if_neg (by rw [h2];simp),if_pos h3]
theorem Oq (h1:(m.kind==1)=false) (h2:(m.kind==2)=false) (h3:(m.kind==3)=false) (h4:(m.kind==4)=true):Di L m i=(Cz L i).bind fun s j=>(Ay L intoW j).bind fun _ j=>(Ds L 0 (C1 L) (takeS m s) j).bind fun m j=>Ct L m j:=by
 unfold Di;rw [if_neg (by rw [h1];simp),if_neg (by rw [h2];simp),if_neg (by rw [h3];simp),if_pos h4]
theorem Ot (h1:(m.kind==1)=false) (h2:(m.kind==2)=false) (h3:(m.kind==3)=false) (h4:(m.kind==4)=false) (h5:(m.kind==5)=true):Di L m i=(Ds L 0 (Hr L) m i).bind fun m j=>(Ay L intoW j).bind fun _ j=>(C1 L m j).bind fun m j=>Ct L m j:=by
 unfold Di;rw [if_neg (by rw [h1];simp),if_neg (by rw [h2];simp),if_neg (by rw [h3];simp),if_neg (by rw [h4];simp),if_pos h5]
theorem Wp (h1:(m.kind==1)=false) (h2:(m.kind==2)=false) (h3:(m.kind==3)=false) (h4:(m.kind==4)=false) (h5:(m.kind==5)=false) (h6:(m.kind==6)=true):Di L m i=(C1 L m i).bind fun m j=>Ct L (takeS m (m.give.getD 0 ⟨[],0⟩).name) j:=by
 unfold Di;rw [if_neg (by rw [h1];simp),if_neg (by rw [h2];simp),if_neg (by rw [h3];simp),if_neg (by rw [h4];simp),if_neg (by rw [h5];simp),if_pos h6]
theorem np (h1:(m.kind==1)=false) (h2:(m.kind==2)=false) (h3:(m.kind==3)=false) (h4:(m.kind==4)=false) (h5:(m.kind==5)=false) (h6:(m.kind==6)=false):Di L m i=.ok m i:=by
 unfold Di;rw [if_neg (by rw [h1];simp),if_neg (by rw [h2];simp),if_neg (by rw [h3];simp),if_neg (by rw [h4];simp),if_neg (by rw [h5];simp),if_neg (by rw [h6];simp)]
end
theorem qr (L:List Tok) (m:Mov) (i o om:Nat) (Hp:List AObj) (hne:om≠o) (ho:Hp[o]? = some (pmO L i)) (hm:Hp[om]? = some (mvO m)) (hi:i<L.length) (hl:TokEnd L) (hll:L.length≤500000) (hb:MvLe m (2*i-1)):CP 126 [.ptr o 0,.ptr om 0] Hp (Eh L m i) (fun m' j r H'=>r=Je∧H'=U2 L Hp o om j (mvO m')) (W2 L o om Hp):=by
 refine ACallP.body [] [0,1] Tryz.func126 Tryz.ntmps126 (fun d=>?_)
 refine dh ?_
 rcases h1:Cz L i with ⟨s,j⟩|⟨e,a⟩
 rotate_left
 ·refine AW.seqRK ?_
  refine ARunK.one (R.go (ARun.nil ?_))
  refine ARunK.one (R.go (ARun.nil ?_))
  refine RK.callBad Tryz.call124 ((Mj L i o _ (A4 (Av ho hne)) hi hll).bad h1) ?_
  rintro x U O hU hl' ⟨rfl,j',hH⟩
  obtain ⟨rfl,rfl⟩:=As hU (List.getElem?_eq_some_iff.1 (Av (L:=L) (i:=i) (x:=mvO m) ho hne)).1 hH
  refine ⟨fun h=>At h (fun n=>Ap),fun o h=>(by cases h),?_⟩
  refine K.thP ?_;exact K.finPP ⟨_,_,by unfold Eh;rw [h1];rfl,rfl,j',m,Bb hne⟩
 have hj:=D8 hl hi _ _ h1
 refine Z1 ?_;refine R.callUp (x:=pmO L j) Tryz.call124 (Av ho hne) (by simp) Ap ((Mj L i o _ (A4 (Av ho hne)) hi hll).ok h1) ?_
 rw [Bb hne]
 refine Re ?_;refine Z0 ?_
 refine R.storeUpT jS (Bw hm) ?_ ?_
 ·simp [or_imp,forall_and]
 refine R.fin [0,1] ?_;refine AW.upEq (U2_setm (y:=.cells 47 [A5 m.kind,.slice true 1 ([A8 s]),.slice true 2 (m.give.map Bt),.slice true 6 (m.ahead.map A6),.slice true 6 (m.back.map A6)])) ?_
 rcases h2:Ay L toW j with ⟨u,j2⟩|⟨e,a⟩
 rotate_left
 ·refine AW.seqRK ?_
  refine ARunK.one (R.go (ARun.nil ?_))
  refine RK.callBad Tryz.call92 ((c92 L toW j o _ (A4 (Av ho hne)) hj.2 hll).bad h2) ?_
  rintro x U O hU hl' ⟨rfl,j',hH⟩
  obtain ⟨rfl,rfl⟩:=As hU (List.getElem?_eq_some_iff.1 (Av (L:=L) (i:=j) (x:=.cells 47 [A5 m.kind,.slice true 1 ([A8 s]),.slice true 2 (m.give.map Bt),.slice true 6 (m.ahead.map A6),.slice true 6 (m.back.map A6)]) ho hne)).1 hH
  refine ⟨fun h=>At h (fun n=>Ap),fun o h=>(by cases h),?_⟩
  refine K.thP ?_;exact K.finPP ⟨_,_,by unfold Eh;rw [h1];show (Ay L toW j).bind _=_;rw [h2];rfl,rfl,j',(⟨m.kind,[s],m.give,m.ahead,m.back⟩:Mov),Bb hne⟩
 have hj2:=C2 hl hj.2 _ _ h2
 refine Z2 ?_;refine R.callUp (x:=pmO L j2) Tryz.call92 (Av ho hne) (by simp) Ap ((c92 L toW j o _ (A4 (Av ho hne)) hj.2 hll).ok h2) ?_
 rw [Bb hne]
 refine R.fin [0,1] ?_
 rcases h3:Cz L j2 with ⟨t,k⟩|⟨e,a⟩
 rotate_left
 ·refine AW.seqRK ?_
  refine ARunK.one (R.go (ARun.nil ?_))
  refine RK.callBad Tryz.call124 ((Mj L j2 o _ (A4 (Av ho hne)) hj2.2 hll).bad h3) ?_
  rintro x U O hU hl' ⟨rfl,j',hH⟩
  obtain ⟨rfl,rfl⟩:=As hU (List.getElem?_eq_some_iff.1 (Av (L:=L) (i:=j2) (x:=.cells 47 [A5 m.kind,.slice true 1 ([A8 s]),.slice true 2 (m.give.map Bt),.slice true 6 (m.ahead.map A6),.slice true 6 (m.back.map A6)]) ho hne)).1 hH
  refine ⟨fun h=>At h (fun n=>Ap),fun o h=>(by cases h),?_⟩
  refine K.thP ?_;exact K.finPP ⟨_,_,by unfold Eh;rw [h1];show (Ay L toW j).bind _=_;rw [h2];show (Cz L j2).bind _=_;rw [h3];rfl,rfl,j',(⟨m.kind,[s],m.give,m.ahead,m.back⟩:Mov),Bb hne⟩
 refine Z2 ?_;refine R.callUp (x:=pmO L k) Tryz.call124 (Av ho hne) (by simp) Ap ((Mj L j2 o _ (A4 (Av ho hne)) hj2.2 hll).ok h3) ?_
 rw [Bb hne]
 refine R.go ?_;refine R.fin [1,4] ?_;refine Z1 ?_;refine Zb ?_;refine Re ?_;refine Z0 ?_
 refine R.storeUpT jS (Bw hm) ?_ ?_
 ·simp [or_imp,forall_and]
 refine R.fin [1,4] ?_;refine AW.upEq (U2_setm (y:=.cells 47 [A5 m.kind,.slice true 1 ([A8 s]),.slice true 2 ([Bt ⟨t,0⟩]),.slice true 6 (m.ahead.map A6),.slice true 6 (m.back.map A6)])) ?_;refine Z17 ?_;refine Z9 ?_
 refine R.go (h:=Q.loadUp (Bw hm)) (hr:=?_)
 refine R.go (h:=Q.indexAddr (0) (A8 s) (fun _=>rfl)) (hr:=?_)
 refine R.go ?_;refine R.call Tryz.call75 (c75 s _) ?_;refine Re ?_;refine R.go ?_;refine R.call Tryz.call75 (c75 t _) ?_;refine Re ?_;refine Z0 ?_
 refine R.storeUpT jS (Bw hm) ?_ ?_
 ·first|exact Xz|exact Uc
 rw [U2_setm]
 refine Z0 ?_
 refine R.storeUpT jS (Bw hm) ?_ ?_
 ·first|exact Xz|exact Uc
 rw [U2_setm]
 refine R.fin [] ?_;exact K.finPN .nores (hp:=⟨⟨m.kind,[s],[⟨t,0⟩],[Bk s],[Bk t]⟩,k,by unfold Eh;rw [h1];show (Ay L toW j).bind _=_;rw [h2];show (Cz L j2).bind _=_;rw [h3];rfl,rfl,by simp only [mvO,mvC,List.map_cons,List.map_nil,A9]⟩)

theorem bb {L:List Tok} {Hp:List AObj} {o om i:Nat} {m:Mov} {c:Col} {x:AObj}:(U2 L Hp o om i x).set om (.cells 47 [A5 m.kind,.slice true 1 [A8 c.name],.slice true 2 (m.give.map Bt),.slice true 6 (m.ahead.map A6),.slice true 6 (m.back.map A6)])=U2 L Hp o om i (mvO (takeS m c.name)):=U2_setm
theorem c91 (L:List Tok) (m:Mov) (i o om:Nat) (Hp:List AObj) (hne:om≠o) (ho:Hp[o]? = some (pmO L i)) (hm:Hp[om]? = some (mvO m)) (hi:i<L.length) (hl:TokEnd L) (hll:L.length≤500000) (hb:MvLe m (2*i-1)) (h0:0<i):CP 91 [.ptr o 0,.ptr om 0] Hp (Di L m i) (fun m' j r H'=>r=Je∧H'=U2 L Hp o om j (mvO m')) (W2 L o om Hp):=by
 have hol:=(List.getElem?_eq_some_iff.1 ho).1
 have hml:=(List.getElem?_eq_some_iff.1 hm).1
 refine ACallP.body [] [0,1] Tryz.func91 Tryz.ntmps91 (fun d=>?_)
 refine Dn ?_;refine R.box ?_;refine R.box ?_;refine Hc ?_;refine dh ?_;refine Z18 ?_
 refine R.go (h:=Q.loadUp (Bw hm)) (hr:=?_)
 refine R.fin [2,3,7] ?_;refine Z64 ?_;refine R.fin [2,3,7,8] ?_
 refine W.cond (fun ht8=>?_) (fun ht8=>?_)
 ·rcases h1:C1 L m i with ⟨m1,k⟩|⟨e,a⟩
  rotate_left
  ·refine AW.regionK ?_
   refine ARunK.one (R.go (ARun.nil ?_))
   refine ARunK.one (R.go (ARun.nil ?_))
   refine pu ?_
   rintro x U O hU hl' ⟨rfl,hW2⟩
   obtain ⟨⟨j',m',rfl⟩,rfl⟩:=Dc hne hol hml hU hW2
   refine ⟨fun h=>Bx hne B6 h,fun o h=>(by cases h),?_⟩
   refine K.blP ?_;exact K.finPP ⟨_,_,by rw [gk ht8];rw [h1],rfl,j',m',rfl⟩
  refine Z17 ?_
  refine R.callX (up':=U2 L Hp o om k (mvO m1)) (own':=[.cells 51 [.ptr o 0],.cells 102 [.ptr om 0]]) Tryz.call123 (((Wn L m i o om (U2 L Hp o om i (mvO m)++[.cells 51 [.ptr o 0],.cells 102 [.ptr om 0]]) hne (A4 (Av ho hne)) (A4 (Bw hm)) hi hl hll hb).ok h1).mono (fun r H' e=>⟨e.1,e.2.trans (by first|rw [Cf (by rw [U2_len];exact hol) (by rw [U2_len];exact hml),F6 hne]|rw [Cf hol hml])⟩)) (by first|rfl|rw [U2_len,U2_len]|rw [U2_len]) (fun h=>Bx hne B6 h) ?_
  refine Z60 ?_;exact K.finPN .nores (hp:=⟨m1,k,by rw [gk ht8];rw [h1],rfl,rfl⟩)
 refine Z1 ?_;refine R.fin [2,3,7,13] ?_
 refine W.cond (fun ht13=>?_) (fun ht13=>?_)
 ·rcases h1:Cz L i with ⟨s,j⟩|⟨e,a⟩
  rotate_left
  ·refine W.drawY [0,0,2,6,15,31,63] [2] [.q 2 [] [],.s [17] (some 0) [] [],.s [] none [0] [],.s [] none [0] [],.s [] none [0] [],.s [] none [0] []] (fun _=>U2 L Hp o om i (mvO m)) (fun B=>[.cells 51 [.ptr o 0],.cells 102 [.ptr om 0]]++bot (B 0)) Aa (by kernel_rfl) rfl rfl (fun _=>rfl) ?_
   apply Y.q
   case h1 =>
    intro B hT hF
    exact Z36
   case hTF=>decide
   refine Y.callBad (own0:=[.cells 51 [.ptr o 0],.cells 102 [.ptr om 0]]) Tryz.call124 (fun B hB=>⟨rfl,by simp [bot,hB]⟩) ((Mj L i o _ (A4 (Av ho hne)) hi hll).bad h1) ?_ ?_
   ·rintro x U O f hU hl' ⟨rfl,j',hH⟩
    obtain ⟨rfl,rfl⟩:=As hU (List.getElem?_eq_some_iff.1 (Av (L:=L) (i:=i) (x:=mvO m) ho hne)).1 hH
    refine ⟨fun h=>At h (fun n=>Ap),fun o h=>(by cases h),?_⟩
    refine K.blP ?_;exact K.finPP ⟨_,_,by rw [Wo ht8 ht13];rw [h1];rfl,rfl,j',m,Bb hne⟩
   exact j4
  have hj:=D8 hl hi _ _ h1
  refine W.drawY [0,0,2,6,15,31,63] [2] [.q 2 [] [],.s [17] (some 0) [] [],.s [18] none [0] []] (fun B=>U2 L Hp o om (if B 0=true then j else i) (mvO m)) (fun _=>[.cells 51 [.ptr o 0],.cells 102 [.ptr om 0]]) Aa (by kernel_rfl) rfl rfl (fun B=>by rw [U2_len];exact U2_len.symm) ?_
  apply Y.q
  case h1 =>
   intro B hT hF
   exact Z36
  case hTF=>decide
  refine Y.callUp (r:=A8 s) (o:=o) (x0:=pmO L i) (x:=pmO L j) Tryz.call124 (fun B hB1 hB2 hB=>⟨by simp only [hB];exact Av ho hne,(Bb hne).symm,rfl,Ap,?_⟩) ?_
  ·simp only [hB]
   exact (Mj L i o _ (A4 (Av ho hne)) hi hll).ok h1
  refine o8 ?_;refine Z0 ?_
  refine R.storeUpT jS (Bw hm) ?_ ?_
  ·simp [or_imp,forall_and]
  refine Hc ?_;refine AW.upEq (Qk (m:=m) (s:=s)) ?_
  rcases h2:Ct L (takeS m s) j with ⟨m2,k⟩|⟨e,a⟩
  rotate_left
  ·refine AW.regionK ?_
   refine ARunK.one (R.go (ARun.nil ?_))
   refine ARunK.one (R.go (ARun.nil ?_))
   refine RK.callBad Tryz.call125 ((Ub L (takeS m s) j o om (U2 L Hp o om j (mvO (takeS m s))++[.cells 51 [.ptr o 0],.cells 102 [.ptr om 0]]) hne (A4 (Av ho hne)) (A4 (Bw hm)) hj.2 hl hll ((hb.mono (by omega:2*i-1≤2*j)).takeS (by omega))).bad h2) ?_
   rintro x U O hU hl' ⟨rfl,hW2⟩
   obtain ⟨⟨j',m',rfl⟩,rfl⟩:=Dc hne hol hml hU hW2
   refine ⟨fun h=>Bx hne B6 h,fun o h=>(by cases h),?_⟩
   refine K.blP ?_;exact K.finPP ⟨_,_,by rw [Wo ht8 ht13];rw [h1];show Ct L (takeS m s) j=_;rw [h2],rfl,j',m',rfl⟩
  refine Z17 ?_
  refine R.callX (up':=U2 L Hp o om k (mvO m2)) (own':=[.cells 51 [.ptr o 0],.cells 102 [.ptr om 0]]) Tryz.call125 (((Ub L (takeS m s) j o om (U2 L Hp o om j (mvO (takeS m s))++[.cells 51 [.ptr o 0],.cells 102 [.ptr om 0]]) hne (A4 (Av ho hne)) (A4 (Bw hm)) hj.2 hl hll ((hb.mono (by omega:2*i-1≤2*j)).takeS (by omega))).ok h2).mono (fun r H' e=>⟨e.1,e.2.trans (by first|rw [Cf (by rw [U2_len];exact hol) (by rw [U2_len];exact hml),F6 hne]|rw [Cf hol hml])⟩)) (by first|rfl|rw [U2_len,U2_len]|rw [U2_len]) (fun h=>Bx hne B6 h) ?_
  refine Z60 ?_;exact K.finPN .nores (hp:=⟨m2,k,by rw [Wo ht8 ht13];rw [h1];show Ct L (takeS m s) j=_;rw [h2],rfl,rfl⟩)
 refine Z1 ?_;refine R.fin [2,3,7,24] ?_
 refine W.cond (fun ht24=>?_) (fun ht24=>?_)
 ·rcases h1:Eh L m i with ⟨m1,k⟩|⟨e,a⟩
  rotate_left
  ·refine AW.regionK ?_
   refine ARunK.one (R.go (ARun.nil ?_))
   refine ARunK.one (R.go (ARun.nil ?_))
   refine RK.callBad Tryz.call126 ((qr L m i o om (U2 L Hp o om i (mvO m)++[.cells 51 [.ptr o 0],.cells 102 [.ptr om 0]]) hne (A4 (Av ho hne)) (A4 (Bw hm)) hi hl hll hb).bad h1) ?_
   rintro x U O hU hl' ⟨rfl,hW2⟩
   obtain ⟨⟨j',m',rfl⟩,rfl⟩:=Dc hne hol hml hU hW2
   refine ⟨fun h=>Bx hne B6 h,fun o h=>(by cases h),?_⟩
   refine K.blP ?_;exact K.finPP ⟨_,_,by rw [gm ht8 ht13 ht24];rw [h1],rfl,j',m',rfl⟩
  refine Z17 ?_
  refine R.callX (up':=U2 L Hp o om k (mvO m1)) (own':=[.cells 51 [.ptr o 0],.cells 102 [.ptr om 0]]) Tryz.call126 (((qr L m i o om (U2 L Hp o om i (mvO m)++[.cells 51 [.ptr o 0],.cells 102 [.ptr om 0]]) hne (A4 (Av ho hne)) (A4 (Bw hm)) hi hl hll hb).ok h1).mono (fun r H' e=>⟨e.1,e.2.trans (by first|rw [Cf (by rw [U2_len];exact hol) (by rw [U2_len];exact hml),F6 hne]|rw [Cf hol hml])⟩)) (by first|rfl|rw [U2_len,U2_len]|rw [U2_len]) (fun h=>Bx hne B6 h) ?_
  refine Z60 ?_;exact K.finPN .nores (hp:=⟨m1,k,by rw [gm ht8 ht13 ht24];rw [h1],rfl,rfl⟩)
 refine Z1 ?_;refine R.fin [2,3,7,29] ?_
 refine W.cond (fun ht29=>?_) (fun ht29=>?_)
 ·rcases h1:Cz L i with ⟨s,j⟩|⟨e,a⟩
  rotate_left
  ·refine W.drawY [0,0,2,6,15,31,63] [2] [.q 2 [] [],.s [33] (some 0) [] [],.s [] none [0] [],.s [] none [0] [],.s [] none [0] [],.s [] none [0] []] (fun _=>U2 L Hp o om i (mvO m)) (fun B=>[.cells 51 [.ptr o 0],.cells 102 [.ptr om 0]]++bot (B 0)) Aa (by kernel_rfl) rfl rfl (fun _=>rfl) ?_
   apply Y.q
   case h1 =>
    intro B hT hF
    exact Z36
   case hTF=>decide
   refine Y.callBad (own0:=[.cells 51 [.ptr o 0],.cells 102 [.ptr om 0]]) Tryz.call124 (fun B hB=>⟨rfl,by simp [bot,hB]⟩) ((Mj L i o _ (A4 (Av ho hne)) hi hll).bad h1) ?_ ?_
   ·rintro x U O f hU hl' ⟨rfl,j',hH⟩
    obtain ⟨rfl,rfl⟩:=As hU (List.getElem?_eq_some_iff.1 (Av (L:=L) (i:=i) (x:=mvO m) ho hne)).1 hH
    refine ⟨fun h=>At h (fun n=>Ap),fun o h=>(by cases h),?_⟩
    refine K.blP ?_;exact K.finPP ⟨_,_,by rw [Oq ht8 ht13 ht24 ht29];rw [h1];rfl,rfl,j',m,Bb hne⟩
   exact j4
  have hj:=D8 hl hi _ _ h1
  refine W.drawY [0,0,2,6,15,31,63] [2] [.q 2 [] [],.s [33] (some 0) [] [],.s [34] none [0] []] (fun B=>U2 L Hp o om (if B 0=true then j else i) (mvO m)) (fun _=>[.cells 51 [.ptr o 0],.cells 102 [.ptr om 0]]) Aa (by kernel_rfl) rfl rfl (fun B=>by rw [U2_len];exact U2_len.symm) ?_
  apply Y.q
  case h1 =>
   intro B hT hF
   exact Z36
  case hTF=>decide
  refine Y.callUp (r:=A8 s) (o:=o) (x0:=pmO L i) (x:=pmO L j) Tryz.call124 (fun B hB1 hB2 hB=>⟨by simp only [hB];exact Av ho hne,(Bb hne).symm,rfl,Ap,?_⟩) ?_
  ·simp only [hB]
   exact (Mj L i o _ (A4 (Av ho hne)) hi hll).ok h1
  refine o8 ?_;refine Z0 ?_
  refine R.storeUpT jS (Bw hm) ?_ ?_
  ·simp [or_imp,forall_and]
  refine Hc ?_;refine AW.upEq (Qk (m:=m) (s:=s)) ?_
  rcases h2:Ay L intoW j with ⟨u,j2⟩|⟨e,a⟩
  rotate_left
  ·refine AW.seqRK ?_
   refine ARunK.one (R.go (ARun.nil ?_))
   refine RK.callBad Tryz.call92 ((c92 L intoW j o _ (A4 (Av ho hne)) hj.2 hll).bad h2) ?_
   rintro x U O hU hl' ⟨rfl,j',hH⟩
   obtain ⟨rfl,rfl⟩:=As hU (List.getElem?_eq_some_iff.1 (Av (L:=L) (i:=j) (x:=mvO (takeS m s)) ho hne)).1 hH
   refine ⟨fun h=>At h (fun n=>Ap),fun o h=>(by cases h),?_⟩
   refine Z82 ?_;exact K.finPP ⟨_,_,by rw [Oq ht8 ht13 ht24 ht29];rw [h1];show (Ay L intoW j).bind _=_;rw [h2];rfl,rfl,j',(takeS m s),Bb hne⟩
  have hj2:=C2 hl hj.2 _ _ h2
  refine Z2 ?_;refine R.callUp (x:=pmO L j2) Tryz.call92 (Av ho hne) (by simp) Ap ((c92 L intoW j o _ (A4 (Av ho hne)) hj.2 hll).ok h2) ?_
  rw [Bb hne]
  refine Hc ?_
  rcases h3:Ds L 0 (C1 L) (takeS m s) j2 with ⟨m1,j3⟩|⟨e,a⟩
  rotate_left
  ·refine AW.seqRK ?_
   refine ARunK.one (R.go (ARun.nil ?_))
   refine ARunK.one (R.makeFunc (ARun.nil ?_))
   refine RK.callBad Tryz.call127 ((c127 L (0) (takeS m s) j2 o om 128 [.ptr (oid Hp.length 0) 0,.ptr (oid Hp.length 1) 0] (C1 L) (U2 L Hp o om j2 (mvO (takeS m s))++[.cells 51 [.ptr o 0],.cells 102 [.ptr om 0]]) hne (A4 (Av ho hne)) (A4 (Bw hm)) (by omega) hj2.2 hl hll ((hb.mono (by omega:2*i-1≤2*j2-1)).takeS (by omega)) Tryz.call128 (Qj (z:=pmO L j2) (z':=mvO (takeS m s)) hne (A4 (Av ho hne)) (A4 (Bw hm)) (Mk rfl) (Mk rfl) (C9 hol) (C9 hml) (C9 hol) (C9 hml) hl hll) (Fj hl hll)).bad h3) ?_
   rintro x U O hU hl' ⟨rfl,hW2⟩
   obtain ⟨⟨j',m',rfl⟩,rfl⟩:=Dc hne hol hml hU hW2
   refine ⟨fun h=>Bx hne B6 h,fun o h=>(by cases h),?_⟩
   refine Z82 ?_;exact K.finPP ⟨_,_,by rw [Oq ht8 ht13 ht24 ht29];rw [h1];show (Ay L intoW j).bind _=_;rw [h2];show (Ds L 0 (C1 L) (takeS m s) j2).bind _=_;rw [h3];rfl,rfl,j',m',rfl⟩
  have hj3:=Km hl (Fj hl hll) (takeS m s) j2 ((hb.mono (by omega:2*i-1≤2*j2-1)).takeS (by omega)) (by omega) hj2.2 _ _ h3
  refine Z2 ?_;refine R.makeFunc ?_
  refine R.callX (up':=U2 L Hp o om j3 (mvO m1)) (own':=[.cells 51 [.ptr o 0],.cells 102 [.ptr om 0]]) Tryz.call127 (((c127 L (0) (takeS m s) j2 o om 128 [.ptr (oid Hp.length 0) 0,.ptr (oid Hp.length 1) 0] (C1 L) (U2 L Hp o om j2 (mvO (takeS m s))++[.cells 51 [.ptr o 0],.cells 102 [.ptr om 0]]) hne (A4 (Av ho hne)) (A4 (Bw hm)) (by omega) hj2.2 hl hll ((hb.mono (by omega:2*i-1≤2*j2-1)).takeS (by omega)) Tryz.call128 (Qj (z:=pmO L j2) (z':=mvO (takeS m s)) hne (A4 (Av ho hne)) (A4 (Bw hm)) (Mk rfl) (Mk rfl) (C9 hol) (C9 hml) (C9 hol) (C9 hml) hl hll) (Fj hl hll)).ok h3).mono (fun r H' e=>⟨e.1,e.2.trans (by first|rw [Cf (by rw [U2_len];exact hol) (by rw [U2_len];exact hml),F6 hne]|rw [Cf hol hml])⟩)) (by first|rfl|rw [U2_len,U2_len]|rw [U2_len]) (fun h=>Bx hne B6 h) ?_
  refine Hc ?_
  rcases h4:Ct L m1 j3 with ⟨m2,k⟩|⟨e,a⟩
  rotate_left
  ·refine AW.regionK ?_
   refine ARunK.one (R.go (ARun.nil ?_))
   refine ARunK.one (R.go (ARun.nil ?_))
   refine RK.callBad Tryz.call125 ((Ub L m1 j3 o om (U2 L Hp o om j3 (mvO m1)++[.cells 51 [.ptr o 0],.cells 102 [.ptr om 0]]) hne (A4 (Av ho hne)) (A4 (Bw hm)) hj3.2.1 hl hll hj3.2.2).bad h4) ?_
   rintro x U O hU hl' ⟨rfl,hW2⟩
   obtain ⟨⟨j',m',rfl⟩,rfl⟩:=Dc hne hol hml hU hW2
   refine ⟨fun h=>Bx hne B6 h,fun o h=>(by cases h),?_⟩
   refine K.blP ?_;exact K.finPP ⟨_,_,by rw [Oq ht8 ht13 ht24 ht29];rw [h1];show (Ay L intoW j).bind _=_;rw [h2];show (Ds L 0 (C1 L) (takeS m s) j2).bind _=_;rw [h3];show Ct L m1 j3=_;rw [h4],rfl,j',m',rfl⟩
  refine Z17 ?_
  refine R.callX (up':=U2 L Hp o om k (mvO m2)) (own':=[.cells 51 [.ptr o 0],.cells 102 [.ptr om 0]]) Tryz.call125 (((Ub L m1 j3 o om (U2 L Hp o om j3 (mvO m1)++[.cells 51 [.ptr o 0],.cells 102 [.ptr om 0]]) hne (A4 (Av ho hne)) (A4 (Bw hm)) hj3.2.1 hl hll hj3.2.2).ok h4).mono (fun r H' e=>⟨e.1,e.2.trans (by first|rw [Cf (by rw [U2_len];exact hol) (by rw [U2_len];exact hml),F6 hne]|rw [Cf hol hml])⟩)) (by first|rfl|rw [U2_len,U2_len]|rw [U2_len]) (fun h=>Bx hne B6 h) ?_
  refine Z60 ?_;exact K.finPN .nores (hp:=⟨m2,k,by rw [Oq ht8 ht13 ht24 ht29];rw [h1];show (Ay L intoW j).bind _=_;rw [h2];show (Ds L 0 (C1 L) (takeS m s) j2).bind _=_;rw [h3];show Ct L m1 j3=_;rw [h4],rfl,rfl⟩)
 refine Z1 ?_;refine R.fin [2,3,7,45] ?_
 refine W.cond (fun ht45=>?_) (fun ht45=>?_)
 ·rcases h1:Ds L 0 (Hr L) m i with ⟨m1,j⟩|⟨e,a⟩
  rotate_left
  ·refine AW.seqRK ?_
   refine ARunK.one (R.go (ARun.nil ?_))
   refine ARunK.one (R.makeFunc (ARun.nil ?_))
   refine RK.callBad Tryz.call127 ((c127 L (0) m i o om 129 [.ptr (oid Hp.length 1) 0,.ptr (oid Hp.length 0) 0] (Hr L) (U2 L Hp o om i (mvO m)++[.cells 51 [.ptr o 0],.cells 102 [.ptr om 0]]) hne (A4 (Av ho hne)) (A4 (Bw hm)) h0 hi hl hll hb Tryz.call129 (Qi (z:=pmO L i) (z':=mvO m) hne (A4 (Av ho hne)) (A4 (Bw hm)) (Mk rfl) (Mk rfl) (C9 hol) (C9 hml) (C9 hol) (C9 hml) hl hll) (Kl hl)).bad h1) ?_
   rintro x U O hU hl' ⟨rfl,hW2⟩
   obtain ⟨⟨j',m',rfl⟩,rfl⟩:=Dc hne hol hml hU hW2
   refine ⟨fun h=>Bx hne B6 h,fun o h=>(by cases h),?_⟩
   refine Z82 ?_;exact K.finPP ⟨_,_,by rw [Ot ht8 ht13 ht24 ht29 ht45];rw [h1];rfl,rfl,j',m',rfl⟩
  have hj:=Km hl (Kl hl) m i hb h0 hi _ _ h1
  refine Z2 ?_;refine R.makeFunc ?_
  refine R.callX (up':=U2 L Hp o om j (mvO m1)) (own':=[.cells 51 [.ptr o 0],.cells 102 [.ptr om 0]]) Tryz.call127 (((c127 L (0) m i o om 129 [.ptr (oid Hp.length 1) 0,.ptr (oid Hp.length 0) 0] (Hr L) (U2 L Hp o om i (mvO m)++[.cells 51 [.ptr o 0],.cells 102 [.ptr om 0]]) hne (A4 (Av ho hne)) (A4 (Bw hm)) h0 hi hl hll hb Tryz.call129 (Qi (z:=pmO L i) (z':=mvO m) hne (A4 (Av ho hne)) (A4 (Bw hm)) (Mk rfl) (Mk rfl) (C9 hol) (C9 hml) (C9 hol) (C9 hml) hl hll) (Kl hl)).ok h1).mono (fun r H' e=>⟨e.1,e.2.trans (by first|rw [Cf (by rw [U2_len];exact hol) (by rw [U2_len];exact hml),F6 hne]|rw [Cf hol hml])⟩)) (by first|rfl|rw [U2_len,U2_len]|rw [U2_len]) (fun h=>Bx hne B6 h) ?_
  refine Hc ?_
  rcases h2:Ay L intoW j with ⟨u,j2⟩|⟨e,a⟩
  rotate_left
  ·refine AW.seqRK ?_
   refine ARunK.one (R.go (ARun.nil ?_))
   refine RK.callBad Tryz.call92 ((c92 L intoW j o _ (A4 (Av ho hne)) hj.2.1 hll).bad h2) ?_
   rintro x U O hU hl' ⟨rfl,j',hH⟩
   obtain ⟨rfl,rfl⟩:=As hU (List.getElem?_eq_some_iff.1 (Av (L:=L) (i:=j) (x:=mvO m1) ho hne)).1 hH
   refine ⟨fun h=>At h (fun n=>Ap),fun o h=>(by cases h),?_⟩
   refine Z82 ?_;exact K.finPP ⟨_,_,by rw [Ot ht8 ht13 ht24 ht29 ht45];rw [h1];show (Ay L intoW j).bind _=_;rw [h2];rfl,rfl,j',m1,Bb hne⟩
  have hj2:=C2 hl hj.2.1 _ _ h2
  have hj2e:=Fy h2
  refine Z2 ?_;refine R.callUp (x:=pmO L j2) Tryz.call92 (Av ho hne) (by simp) Ap ((c92 L intoW j o _ (A4 (Av ho hne)) hj.2.1 hll).ok h2) ?_
  rw [Bb hne]
  refine Hc ?_
  rcases h3:C1 L m1 j2 with ⟨m2,j3⟩|⟨e,a⟩
  rotate_left
  ·refine AW.seqRK ?_
   refine ARunK.one (R.go (ARun.nil ?_))
   refine ARunK.one (R.go (ARun.nil ?_))
   refine RK.callBad Tryz.call123 ((Wn L m1 j2 o om (U2 L Hp o om j2 (mvO m1)++[.cells 51 [.ptr o 0],.cells 102 [.ptr om 0]]) hne (A4 (Av ho hne)) (A4 (Bw hm)) hj2.2 hl hll (hj.2.2.mono (by omega))).bad h3) ?_
   rintro x U O hU hl' ⟨rfl,hW2⟩
   obtain ⟨⟨j',m',rfl⟩,rfl⟩:=Dc hne hol hml hU hW2
   refine ⟨fun h=>Bx hne B6 h,fun o h=>(by cases h),?_⟩
   refine Z82 ?_;exact K.finPP ⟨_,_,by rw [Ot ht8 ht13 ht24 ht29 ht45];rw [h1];show (Ay L intoW j).bind _=_;rw [h2];show (C1 L m1 j2).bind _=_;rw [h3];rfl,rfl,j',m',rfl⟩
  have hj3:=Fj hl hll m1 j2 (hj.2.2.mono (by omega)) (by omega) hj2.2 _ _ h3
  refine Z1 ?_
  refine R.callX (up':=U2 L Hp o om j3 (mvO m2)) (own':=[.cells 51 [.ptr o 0],.cells 102 [.ptr om 0]]) Tryz.call123 (((Wn L m1 j2 o om (U2 L Hp o om j2 (mvO m1)++[.cells 51 [.ptr o 0],.cells 102 [.ptr om 0]]) hne (A4 (Av ho hne)) (A4 (Bw hm)) hj2.2 hl hll (hj.2.2.mono (by omega))).ok h3).mono (fun r H' e=>⟨e.1,e.2.trans (by first|rw [Cf (by rw [U2_len];exact hol) (by rw [U2_len];exact hml),F6 hne]|rw [Cf hol hml])⟩)) (by first|rfl|rw [U2_len,U2_len]|rw [U2_len]) (fun h=>Bx hne B6 h) ?_
  refine Hc ?_
  rcases h4:Ct L m2 j3 with ⟨m3,k⟩|⟨e,a⟩
  rotate_left
  ·refine AW.regionK ?_
   refine ARunK.one (R.go (ARun.nil ?_))
   refine ARunK.one (R.go (ARun.nil ?_))
   refine RK.callBad Tryz.call125 ((Ub L m2 j3 o om (U2 L Hp o om j3 (mvO m2)++[.cells 51 [.ptr o 0],.cells 102 [.ptr om 0]]) hne (A4 (Av ho hne)) (A4 (Bw hm)) hj3.2.1 hl hll hj3.2.2).bad h4) ?_
   rintro x U O hU hl' ⟨rfl,hW2⟩
   obtain ⟨⟨j',m',rfl⟩,rfl⟩:=Dc hne hol hml hU hW2
   refine ⟨fun h=>Bx hne B6 h,fun o h=>(by cases h),?_⟩
   refine K.blP ?_;exact K.finPP ⟨_,_,by rw [Ot ht8 ht13 ht24 ht29 ht45];rw [h1];show (Ay L intoW j).bind _=_;rw [h2];show (C1 L m1 j2).bind _=_;rw [h3];show Ct L m2 j3=_;rw [h4],rfl,j',m',rfl⟩
  refine Z17 ?_
  refine R.callX (up':=U2 L Hp o om k (mvO m3)) (own':=[.cells 51 [.ptr o 0],.cells 102 [.ptr om 0]]) Tryz.call125 (((Ub L m2 j3 o om (U2 L Hp o om j3 (mvO m2)++[.cells 51 [.ptr o 0],.cells 102 [.ptr om 0]]) hne (A4 (Av ho hne)) (A4 (Bw hm)) hj3.2.1 hl hll hj3.2.2).ok h4).mono (fun r H' e=>⟨e.1,e.2.trans (by first|rw [Cf (by rw [U2_len];exact hol) (by rw [U2_len];exact hml),F6 hne]|rw [Cf hol hml])⟩)) (by first|rfl|rw [U2_len,U2_len]|rw [U2_len]) (fun h=>Bx hne B6 h) ?_
  refine Z60 ?_;exact K.finPN .nores (hp:=⟨m3,k,by rw [Ot ht8 ht13 ht24 ht29 ht45];rw [h1];show (Ay L intoW j).bind _=_;rw [h2];show (C1 L m1 j2).bind _=_;rw [h3];show Ct L m2 j3=_;rw [h4],rfl,rfl⟩)
 refine Z1 ?_;refine R.fin [2,3,58] ?_
 refine W.cond (fun ht58=>?_) (fun ht58=>?_)
 ·rcases h1:C1 L m i with ⟨m1,j⟩|⟨e,a⟩
  rotate_left
  ·refine AW.seqRK ?_
   refine ARunK.one (R.go (ARun.nil ?_))
   refine ARunK.one (R.go (ARun.nil ?_))
   refine pu ?_
   rintro x U O hU hl' ⟨rfl,hW2⟩
   obtain ⟨⟨j',m',rfl⟩,rfl⟩:=Dc hne hol hml hU hW2
   refine ⟨fun h=>Bx hne B6 h,fun o h=>(by cases h),?_⟩
   refine Z82 ?_;exact K.finPP ⟨_,_,by rw [Wp ht8 ht13 ht24 ht29 ht45 ht58];rw [h1];rfl,rfl,j',m',rfl⟩
  have hj:=Fj hl hll m i hb h0 hi _ _ h1
  refine Z1 ?_
  refine R.callX (up':=U2 L Hp o om j (mvO m1)) (own':=[.cells 51 [.ptr o 0],.cells 102 [.ptr om 0]]) Tryz.call123 (((Wn L m i o om (U2 L Hp o om i (mvO m)++[.cells 51 [.ptr o 0],.cells 102 [.ptr om 0]]) hne (A4 (Av ho hne)) (A4 (Bw hm)) hi hl hll hb).ok h1).mono (fun r H' e=>⟨e.1,e.2.trans (by first|rw [Cf (by rw [U2_len];exact hol) (by rw [U2_len];exact hml),F6 hne]|rw [Cf hol hml])⟩)) (by first|rfl|rw [U2_len,U2_len]|rw [U2_len]) (fun h=>Bx hne B6 h) ?_
  refine Hc ?_;refine W.drawY [0,0,2,6,14,30,62,126,254,511,1023,2047] [] [.q 8 [] [],.s [71] none [] []] (fun _=>U2 L Hp o om j (mvO m1)) (fun _=>[.cells 51 [.ptr o 0],.cells 102 [.ptr om 0]]) Aa (by kernel_rfl) rfl rfl (fun B=>rfl) ?_
  apply Y.q
  case h1 =>
   intro B hT hF
   refine Z90 ?_
   refine D.go (h:=Q.loadUp (Bw hm)) (hr:=?_)
   refine D.go (h:=Q.indexAddr (0) (Bt (m1.give.getD 0 ⟨[],0⟩)) (fun _=>gj h1)) (hr:=?_)
   exact Z36
  case hTF=>decide
  refine Y.buildSlice jU Tryz.sizeOf9 Tryz.zeroValue9 ?_;refine Y.tail (tn:=[]) (U:=U2 L Hp o om j (mvO m1)) ?_;refine Z0 ?_
  refine R.storeUpT jS (Bw hm) ?_ ?_
  ·simp [or_imp,forall_and]
  refine Hc ?_;refine AW.upEq (bb (m:=m1) (c:=m1.give.getD 0 ⟨[],0⟩)) ?_
  rcases h2:Ct L (takeS m1 (m1.give.getD 0 ⟨[],0⟩).name) j with ⟨m2,k⟩|⟨e,a⟩
  rotate_left
  ·refine AW.regionK ?_
   refine ARunK.one (R.go (ARun.nil ?_))
   refine ARunK.one (R.go (ARun.nil ?_))
   refine RK.callBad Tryz.call125 ((Ub L (takeS m1 (m1.give.getD 0 ⟨[],0⟩).name) j o om (U2 L Hp o om j (mvO (takeS m1 (m1.give.getD 0 ⟨[],0⟩).name))++[.cells 51 [.ptr o 0],.cells 102 [.ptr om 0]]) hne (A4 (Av ho hne)) (A4 (Bw hm)) hj.2.1 hl hll (hj.2.2.takeS (by omega))).bad h2) ?_
   rintro x U O hU hl' ⟨rfl,hW2⟩
   obtain ⟨⟨j',m',rfl⟩,rfl⟩:=Dc hne hol hml hU hW2
   refine ⟨fun h=>Bx hne B6 h,fun o h=>(by cases h),?_⟩
   refine K.blP ?_;exact K.finPP ⟨_,_,by rw [Wp ht8 ht13 ht24 ht29 ht45 ht58];rw [h1];show Ct L (takeS m1 (m1.give.getD 0 ⟨[],0⟩).name) j=_;rw [h2],rfl,j',m',rfl⟩
  refine Z17 ?_
  refine R.callX (up':=U2 L Hp o om k (mvO m2)) (own':=[.cells 51 [.ptr o 0],.cells 102 [.ptr om 0]]) Tryz.call125 (((Ub L (takeS m1 (m1.give.getD 0 ⟨[],0⟩).name) j o om (U2 L Hp o om j (mvO (takeS m1 (m1.give.getD 0 ⟨[],0⟩).name))++[.cells 51 [.ptr o 0],.cells 102 [.ptr om 0]]) hne (A4 (Av ho hne)) (A4 (Bw hm)) hj.2.1 hl hll (hj.2.2.takeS (by omega))).ok h2).mono (fun r H' e=>⟨e.1,e.2.trans (by first|rw [Cf (by rw [U2_len];exact hol) (by rw [U2_len];exact hml),F6 hne]|rw [Cf hol hml])⟩)) (by first|rfl|rw [U2_len,U2_len]|rw [U2_len]) (fun h=>Bx hne B6 h) ?_
  refine Z60 ?_;exact K.finPN .nores (hp:=⟨m2,k,by rw [Wp ht8 ht13 ht24 ht29 ht45 ht58];rw [h1];show Ct L (takeS m1 (m1.give.getD 0 ⟨[],0⟩).name) j=_;rw [h2],rfl,rfl⟩)
 refine AW.skip ?_;refine K.blN ?_;exact K.finPN .nores (hp:=⟨m,i,np ht8 ht13 ht24 ht29 ht45 ht58,rfl,rfl⟩)

def qt:Str:=[32,97,100,100,32,100,114,111,112,32,114,101,110,97,109,101,32,115,112,108,105,116,32,109,101,114,103,101,32,114,101,116,121,112,101]
theorem bc:I8 qt [32]=migWords:=by kernel_rfl
theorem c12 (k:Int) (Hp:List AObj):AFun Tryz.prog 12 [A5 k] Hp (A8 (Ba k)):=by
 refine ACall.body [.tmp 2] [0] Tryz.func12 Tryz.ntmps12 (fun d=>?_)
 refine Z56 ?_;refine Z48 ?_;refine Z4 ?_;refine R.go ?_;refine R.fin [0,8] ?_
 refine W.cond (fun ht8=>?_) (fun ht8=>?_)
 ·have hm:Ba k=[]:=if_pos ht8
  refine Z40 ?_;exact Z22
 have hm:Ba k=migWords.getD k.toNat []:=if_neg (by rw [ht8];simp)
 refine Z6 ?_;refine Dn ?_;refine R.call Tryz.call29 (c29 qt [32] (by decide) (by decide) _) ?_
 rw [bc]
 refine R.go ?_
 have hk:1≤k∧k≤6:=by simp at ht8;omega
 have hget:(migWords.map A8)[k.toNat]? = some (A8 (migWords.getD k.toNat [])):=by
  have hlt:k.toNat<migWords.length:=by show k.toNat<7;omega
  rw [List.getElem?_map,List.getElem?_eq_getElem hlt,List.getD_eq_getElem?_getD,List.getElem?_eq_getElem hlt]
  rfl
 refine R.go (h:=Q.indexAddr (k.toNat) (A8 (migWords.getD k.toNat [])) (fun _=>hget)) (hr:=?_)
 refine Z35 ?_;exact dg

theorem be {s:Str} {x:Nat} (h:∀j:Nat,j<x→(Ba ((j:Int)+1)==s)=false) (hx:x<6) (he:(Ba ((x:Int)+1)==s)=true):C8 s=(x:Int)+1:=by
 have a:∀j:Nat,j<x→∀k:Int,k=(j:Int)+1→(Ba k==s)=false:=fun j hj k e=>by rw [e];exact h j hj
 have b:∀k:Int,k=(x:Int)+1→(Ba k==s)=true:=fun k e=>by rw [e];exact he
 have h6:x=0∨x=1∨x=2∨x=3∨x=4∨x=5:=by omega
 unfold C8
 rcases h6 with rfl|rfl|rfl|rfl|rfl|rfl
 ·rw [if_pos (b 1 rfl)];rfl
 ·rw [if_neg (by rw [a 0 (by omega) 1 rfl];simp),if_pos (b 2 rfl)];rfl
 ·rw [if_neg (by rw [a 0 (by omega) 1 rfl];simp),if_neg (by rw [a 1 (by omega) 2 rfl];simp),if_pos (b 3 rfl)];rfl
 ·rw [if_neg (by rw [a 0 (by omega) 1 rfl];simp),if_neg (by rw [a 1 (by omega) 2 rfl];simp),if_neg (by rw [a 2 (by omega) 3 rfl];simp),if_pos (b 4 rfl)];rfl
 ·rw [if_neg (by rw [a 0 (by omega) 1 rfl];simp),if_neg (by rw [a 1 (by omega) 2 rfl];simp),if_neg (by rw [a 2 (by omega) 3 rfl];simp),if_neg (by rw [a 3 (by omega) 4 rfl];simp),if_pos (b 5 rfl)];rfl
 rw [if_neg (by rw [a 0 (by omega) 1 rfl];simp),if_neg (by rw [a 1 (by omega) 2 rfl];simp),if_neg (by rw [a 2 (by omega) 3 rfl];simp),if_neg (by rw [a 3 (by omega) 4 rfl];simp),if_neg (by rw [a 4 (by omega) 5 rfl];simp),if_pos (b 6 rfl)];rfl
theorem Ud {s:Str} {x:Nat} (h:∀j:Nat,j<x→(Ba ((j:Int)+1)==s)=false) (he:(Ba ((x:Int)+1)==s)=false):∀j:Nat,j<x+1→(Ba ((j:Int)+1)==s)=false:=fun j hj=>by
 rcases Nat.lt_or_ge j x with h1|h1
 ·exact h j h1
 rw [show j=x by omega];exact he
theorem bf {s:Str} {x:Nat} (h:∀j:Nat,j<x→(Ba ((j:Int)+1)==s)=false) (hx:6≤x):C8 s=0:=by
 have a:∀j:Nat,j<6→∀k:Int,k=(j:Int)+1→(Ba k==s)=false:=fun j hj k e=>by rw [e];exact h j (by omega)
 unfold C8
 rw [if_neg (by rw [a 0 (by omega) 1 rfl];simp),if_neg (by rw [a 1 (by omega) 2 rfl];simp),if_neg (by rw [a 2 (by omega) 3 rfl];simp),if_neg (by rw [a 3 (by omega) 4 rfl];simp),if_neg (by rw [a 4 (by omega) 5 rfl];simp),if_neg (by rw [a 5 (by omega) 6 rfl];simp)]
theorem c90 (s:Str) (Hp:List AObj):AFun Tryz.prog 90 [A8 s] Hp (A5 (C8 s)):=by
 refine ACall.body [.tmp 2] [0] Tryz.func90 Tryz.ntmps90 (fun d=>?_)
 refine Z56 ?_;refine Z42 ?_;refine L1 ?_
 refine AW.loopC (α:=Nat) (fun x=>⟨13,A7 0 (A8 s) (A7 3 (A5 ((x:Nat)+1)) (fun _=>.any)),Hp,[],[],none⟩) (fun x=>∀j:Nat,j<x→(Ba ((j:Int)+1)==s)=false) (fun x=>6-x) (0) (fun j h=>by omega) (StLe.refl _) rfl (fun x hx=>?_)
 refine Z11 ?_;refine R.fin [0,3,5] ?_
 refine W.cond (fun ht5=>?_) (fun ht5=>?_)
 ·have hx6:x<6:=by simp at ht5;omega
  refine Z79 ?_;refine Z2 ?_;refine R.call Tryz.call12 (c12 _ _) ?_;refine Z0 ?_;refine R.fin [0,3,11] ?_
  refine W.cond (fun ht11=>?_) (fun ht11=>?_)
  ·refine Z1 ?_;refine Z3 ?_;refine Z51 ?_;exact K.fin (V.one V.tmp) ⟨by rw [be hx hx6 ht11],rfl⟩
  refine Va ?_;refine L1 ?_
  refine K.lpN (x+1) (Ud hx ht11) (by omega) (StCut.of_eq rfl)
 have hx6:6≤x:=by simp at ht5;omega
 refine Z87 ?_;refine Z40 ?_;exact K.fin (V.one V.tmp) ⟨by rw [bf hx hx6],rfl⟩

theorem gq {L:List Tok} {Hp own:List AObj} {o i n:Nat} {x:AObj} (h1:o<Hp.length):U2 L (Hp++own) o (oid Hp.length n) i x=Hp.set o (pmO L i)++own.set n x:=by
 unfold U2 oid
 rw [List.set_append_left _ _ h1,List.set_append,if_neg (by simp),List.length_set,Nat.add_sub_cancel_left]
theorem Ue {L:List Tok} {Hp:List AObj} {o i j n:Nat} (h:∀z∈Hp.set o (pmO L i),ObjLow n z):∀z∈Hp.set o (pmO L j),ObjLow n z:=by
 intro z hz
 rw [show Hp.set o (pmO L j)=(Hp.set o (pmO L i)).set o (pmO L j) by rw [List.set_set]] at hz
 rcases List.mem_or_eq_of_mem_set hz with hz|rfl
 ·exact h z hz
 exact Ap
theorem c50 (L:List Tok) (i o:Nat) (Hp:List AObj) (ho:Hp[o]? = some (pmO L i)) (hi:i<L.length) (hl:TokEnd L) (hll:L.length≤500000):CP 50 [.ptr o 0] Hp (Dy L i) (fun m j r H'=>r=Eg m∧H'=Hp.set o (pmO L j)) (W1 L o Hp):=by
 have hol:=(List.getElem?_eq_some_iff.1 ho).1
 have hne:oid Hp.length 2≠o:=by unfold oid;omega
 refine ACallP.body [.cell 2 47] [0] Tryz.func50 Tryz.ntmps50 (fun d=>?_)
 refine Z32 ?_;refine Z96 ?_;refine Z66 ?_;refine Z1 ?_;refine R.call Tryz.call90 (c90 (A2 L i).text _) ?_;refine R.build (places:=#[(0,1),(1,1),(2,1),(3,1),(4,1)]) jU (fun w=>by simp) jZ ?_;refine Z10 ?_;refine R.fin [0,2,3,4] ?_;refine Z50 ?_;refine R.nilCell 2 1 1 ?_;refine R.nilCell 2 2 2 ?_;refine R.nilCell 2 3 6 ?_;refine R.nilCell 2 4 6 ?_;refine Z0 ?_;refine Z19 ?_;refine Z59 ?_;refine R.fin [0,2,4,18] ?_
 refine W.cond (fun ht18=>?_) (fun ht18=>?_)
 ·have e:Dy L i=.bad 8 (A2 L i).at_:=if_pos ht18
  refine AW.regionK ?_
  refine ARunK.one (R.go (ARun.nil ?_))
  refine mf ?_
  rintro x U O hU hl' ⟨rfl,hH⟩
  obtain ⟨rfl,rfl⟩:=Fk hU hH
  refine ⟨fun h=>h,fun o h=>(by cases h),?_⟩
  exact Z67
 have e0:Dy L i=(Di L (⟨C8 (A2 L i).text,[],[],[],[]⟩:Mov) (i+1)).bind fun m j=>(Ay L [59] j).bind fun _ j=>.ok m j:=if_neg (by rw [ht18];simp)
 have hi1:i+1<L.length:=hl.step hi (by simp only [Bool.or_eq_false_iff,bne_eq_false_iff_eq] at ht18;rw [ht18.1];decide)
 refine Sv ?_
 refine R.go (h:=Q.loadUp ho) (hr:=?_)
 refine Z9 ?_
 refine R.storeUp jS ho ?_ ?_
 ·simp
 refine R.fin [0,2,4] ?_
 rcases hR:Di L (⟨C8 (A2 L i).text,[],[],[],[]⟩:Mov) (i+1) with ⟨m1,k⟩|⟨e,a⟩
 rotate_left
 ·refine AW.seqRK ?_
  refine ARunK.one (R.go (ARun.nil ?_))
  refine RK.callBad Tryz.call91 ((c91 L (⟨C8 (A2 L i).text,[],[],[],[]⟩:Mov) (i+1) o (oid Hp.length 2) (Hp.set o (pmO L (i+1))++[.cells 47 [A5 0,.nil,.nil,.nil,.nil],.cells 59 [.v (.int .i64 (A2 L i).kind),.v (sv (A2 L i).text),.v (.int .i64 ((A2 L i).at_:Int))],mvO (⟨C8 (A2 L i).text,[],[],[],[]⟩:Mov)]) hne (by rw [List.getElem?_append_left (by simpa using hol)];exact getset ho) (by unfold oid;rw [List.getElem?_append_right (by simp)];simp) hi1 hl hll ⟨Nat.zero_le _,Nat.zero_le _,Nat.zero_le _,Nat.zero_le _⟩ (by omega)).bad hR) ?_
  rintro x U O hU hl' ⟨rfl,j',m',hH⟩
  rw [show oid Hp.length 2=oid (Hp.set o (pmO L (i+1))).length 2 by simp,gq (by simpa using hol),List.set_set] at hH
  obtain ⟨rfl,rfl⟩:=Fk (by rw [hU];simp) hH
  refine ⟨fun h=>Ue h,fun o h=>(by cases h),?_⟩
  refine K.thP ?_;exact K.finPP ⟨_,_,by rw [e0];rw [hR];rfl,rfl,j',rfl⟩
 have hk:=Rt hl hll (⟨C8 (A2 L i).text,[],[],[],[]⟩:Mov) (i+1) ⟨Nat.zero_le _,Nat.zero_le _,Nat.zero_le _,Nat.zero_le _⟩ (by omega) hi1 _ _ hR
 refine Z2 ?_
 refine R.callX (up':=Hp.set o (pmO L k)) (own':=[.cells 47 [A5 0,.nil,.nil,.nil,.nil],.cells 59 [.v (.int .i64 (A2 L i).kind),.v (sv (A2 L i).text),.v (.int .i64 ((A2 L i).at_:Int))],mvO m1]) Tryz.call91 (((c91 L (⟨C8 (A2 L i).text,[],[],[],[]⟩:Mov) (i+1) o (oid Hp.length 2) (Hp.set o (pmO L (i+1))++[.cells 47 [A5 0,.nil,.nil,.nil,.nil],.cells 59 [.v (.int .i64 (A2 L i).kind),.v (sv (A2 L i).text),.v (.int .i64 ((A2 L i).at_:Int))],mvO (⟨C8 (A2 L i).text,[],[],[],[]⟩:Mov)]) hne (by rw [List.getElem?_append_left (by simpa using hol)];exact getset ho) (by unfold oid;rw [List.getElem?_append_right (by simp)];simp) hi1 hl hll ⟨Nat.zero_le _,Nat.zero_le _,Nat.zero_le _,Nat.zero_le _⟩ (by omega)).ok hR).mono (fun r H' e=>⟨e.1,e.2.trans (by rw [show oid Hp.length 2=oid (Hp.set o (pmO L (i+1))).length 2 by simp];rw [gq (by simpa using hol),List.set_set];rfl)⟩)) (by simp) (fun h=>by simpa using Ue h) ?_
 refine R.fin [0,2,4] ?_
 rcases hW:Ay L [59] k with ⟨u,j2⟩|⟨e,a⟩
 rotate_left
 ·refine AW.seqRK ?_
  refine ARunK.one (R.go (ARun.nil ?_))
  refine RK.callBad Tryz.call92 ((c92 L [59] k o _ (A4 (getset ho)) hk.2.1 hll).bad hW) ?_
  rintro x U O hU hl' ⟨rfl,j',hH⟩
  obtain ⟨rfl,rfl⟩:=As hU (List.getElem?_eq_some_iff.1 (getset (B:=pmO L k) ho)).1 hH
  refine ⟨fun h=>At h (fun n=>Ap),fun o h=>(by cases h),?_⟩
  refine K.thP ?_;exact K.finPP ⟨_,_,by rw [e0];rw [hR];show (Ay L [59] k).bind _=_;rw [hW];rfl,rfl,j',by rw [List.set_set]⟩
 refine Z2 ?_;refine R.callUp (x:=pmO L j2) Tryz.call92 (getset ho) (by simp) Ap ((c92 L [59] k o _ (A4 (getset ho)) hk.2.1 hll).ok hW) ?_
 rw [List.set_set]
 refine R.fin [2,4] ?_;refine Z2 ?_;refine Z16 ?_;exact K.finP (V.one (V.cellN jA jS)) (hp:=⟨m1,j2,by rw [e0];rw [hR];show (Ay L [59] k).bind _=_;rw [hW];rfl,rfl,rfl⟩) (hlow:=U5)

/-- What mig.parser.moves comes to: the moves, or none and the fault. -/
def Im (L:List Tok):List Mov×Int×Int:=match Dg L with
 | .ok l _=>(l,0,0)
 | .bad e a=>([],e,a)
abbrev Ll (L:List Tok):AV:=.tup [E8 (Im L).1,.agg [A5 (Im L).2.1,A5 (Im L).2.2]]
theorem Uf {up:List AObj} {n:Nat} {x y z:AObj} (hn:up.length=n):(up++[x,y]).set (oid n 0) z=up++[z,y]:=by
 subst hn
 rw [show oid up.length 0=up.length+0 from rfl,Am];rfl
theorem gr {up:List AObj} {n:Nat} {x y z:AObj} (hn:up.length=n):(up++[x,y]).set (oid n 1) z=up++[x,z]:=by
 subst hn
 rw [show oid up.length 1=up.length+1 from rfl,Am];rfl
theorem Uh {up:List AObj} {n:Nat} {x y:AObj} (hn:up.length=n):(up++[x,y])[oid n 0]? = some x:=by
 subst hn
 rw [show oid up.length 0=up.length+0 from rfl,By];rfl
theorem gt {up:List AObj} {n:Nat} {x y:AObj} (hn:up.length=n):(up++[x,y])[oid n 1]? = some y:=by
 subst hn
 rw [show oid up.length 1=up.length+1 from rfl,By];rfl
theorem l8 {fc:Func} {r0 crest:Code} (hf:Tryz.prog.funcs[47]? = some fc) (hb:fc.body=some (.seq r0 crest)) (d a b:Nat) (H:List AObj):AW Tryz.prog (d+1) crest ⟨8,A7 2 (.v .nilIface) (A7 3 (.v .nilIface) (Go.SX.argsF [.ptr a 0,.ptr b 0])),H,[],[],none⟩ (fun e s2=>(e=.normal∨e=.ret)∧s2.defs=[]∧s2.up=H):=by
 have e:=Tryz.func47.symm.trans hf
 injection e with e
 subst e
 injection hb with hb
 injection hb with h1 h2
 subst h2
 refine AW.keep [0,1,2] (by simp only [go_sem,↓reduceIte,Nat.reduceEqDiff,Nat.reduceAdd]<;>rfl) ?_
 refine Z2 ?_;refine R.neqNil0 jU ?_;refine R.fin [0,1,2,5] ?_
 refine W.cond (fun ht5=>?_) (fun ht5=>?_)
 ·cases ht5
 refine AW.skip ?_;exact ⟨.inl rfl,rfl,rfl⟩

theorem Y0 {fc:Func} {r0 crest:Code} (hf:Tryz.prog.funcs[47]? = some fc) (hb:fc.body=some (.seq r0 crest)) {n:Nat} {up:List AObj} {x0 y1 y2:AV} (e a:Int) (hn:up.length=n) (d:Nat):AW Tryz.prog (d+1) crest ⟨8,A7 2 (.iface 26 (.agg ([Value.int .i64 e,Value.int .i64 a].map .v))) (A7 3 (.iface 26 (.agg ([Value.int .i64 e,Value.int .i64 a].map .v))) (Go.SX.argsF [.ptr (oid n 0) 0,.ptr (oid n 1) 0])),(up++[.cells 23 [x0],.cells 26 [y1,y2]]),[],[],none⟩ (fun e' s2=>(e'=.normal∨e'=.ret)∧s2.defs=[]∧s2.up=up++[.cells 23 [.slice true 5 []],.cells 26 [A5 e,A5 a]]):=by
 have e':=Tryz.func47.symm.trans hf
 injection e' with e'
 subst e'
 injection hb with hb
 injection hb with h1 h2
 subst h2
 refine AW.keep [0,1,2] (by simp only [go_sem,↓reduceIte,Nat.reduceEqDiff,Nat.reduceAdd]<;>rfl) ?_
 refine Z2 ?_;refine R.neqNil jU ?_;refine R.fin [0,1,2,5] ?_
 refine W.cond (fun ht5=>?_) (fun ht5=>?_)
 ·refine W.drawY0 [0,1,0,7] [2] [.q 2 [] [],.s [] (some 0) [] []] (fun B=>if B 0=true then (up++[.cells 23 [.nil],.cells 26 [y1,y2]]) else (up++[.cells 23 [x0],.cells 26 [y1,y2]])) (fun _=>[]) Aa (by kernel_rfl) rfl rfl (fun B=>by split<;>simp) ?_
  apply Y.q
  case h1 =>
   intro B hT hF
   refine D.go ?_;refine D.typeAssert (.of jU) ?_;exact K3
  case hTF=>decide
  refine Y.storeUp (o:=oid n 0) (t':=23) (ys:=[.nil]) (cs:=[x0]) (cs':=[.nil]) Tryz.sizeOf23 (fun B hB=>⟨by simp only [hB];exact Uh hn,by simp [upd,hB];exact (Uf hn).symm,rfl,by simp⟩) ?_
  refine Y.tail (tn:=[2]) (U:=(up++[.cells 23 [.nil],.cells 26 [y1,y2]])) ?_
  refine R.storeUp jS (gt hn) ?_ ?_
  ·simp
  rw [gr hn]
  refine R.nilUp (oid n 0) 0 5 (Uh hn) (Uf hn) ?_;refine R.fin [] ?_;exact ⟨.inl rfl,rfl,rfl⟩
 cases ht5

/-- Where the loop of moves stands. -/
structure MovAt (L:List Tok) (x:List Mov×Nat):Prop where
 lt:x.2<L.length
 le:x.1.length≤8
 at_:Dg L=B9 L (9-x.1.length) x.1 x.2
theorem Y1 {L:List Tok} (hl:TokEnd L) (hll:L.length≤500000) {i:Nat} (hi:i<L.length) {m:Mov} {j:Nat} (h:Dy L i=.ok m j):i<j∧j<L.length:=by
 unfold Dy at h
 split at h
 ·cases h
 rename_i h0
 have hi1:i+1<L.length:=hl.step hi (by
  simp only [Bool.or_eq_true,not_or,Bool.not_eq_true,bne_eq_false_iff_eq] at h0
  rw [h0.1];decide)
 obtain ⟨m1,k,h1,h2⟩:=PR.bind_ok h
 obtain ⟨u,j2,h3,h4⟩:=PR.bind_ok h2
 injection h4 with h5 h6
 subst h6
 obtain ⟨a1,a2,_⟩:=Rt hl hll _ (i+1) ⟨Nat.zero_le _,Nat.zero_le _,Nat.zero_le _,Nat.zero_le _⟩ (by omega) hi1 _ _ h1
 obtain ⟨b1,b2⟩:=C2 hl a2 _ _ h3
 exact ⟨by omega,b2⟩
theorem Io {L:List Tok} {l:List Mov} {i:Nat} (hl:l.length≤8):B9 L (9-l.length) l i=if (A2 L i).kind != 0 then (if (l.length:Int)==8 then Oe L i 3 else (Dy L i).bind fun m j=>B9 L (8-l.length) (l++[m]) j) else .ok l i:=by
 rw [show 9-l.length=(8-l.length)+1 by omega,B9]
theorem MovAt.out {L:List Tok} {x:List Mov×Nat} (h:MovAt L x) (hk:((A2 L x.2).kind != 0)=false):Dg L=.ok x.1 x.2:=by
 rw [h.at_,Io h.le,if_neg (by rw [hk];simp)]
theorem MovAt.long {L:List Tok} {x:List Mov×Nat} (h:MovAt L x) (hk:((A2 L x.2).kind != 0)=true) (h8:((x.1.length:Int)==8)=true):Dg L=.bad 3 (A2 L x.2).at_:=by
 rw [h.at_,Io h.le,if_pos hk,if_pos h8];rfl
theorem MovAt.step {L:List Tok} {x:List Mov×Nat} (h:MovAt L x) (hk:((A2 L x.2).kind != 0)=true) (h8:((x.1.length:Int)==8)=false):Dg L=(Dy L x.2).bind fun m j=>B9 L (8-x.1.length) (x.1++[m]) j:=by
 rw [h.at_,Io h.le,if_pos hk,if_neg (by rw [h8];simp)]
theorem MovAt.bad {L:List Tok} {x:List Mov×Nat} (h:MovAt L x) (hk:((A2 L x.2).kind != 0)=true) (h8:((x.1.length:Int)==8)=false) {e a:Int} (hM:Dy L x.2=.bad e a):Dg L=.bad e a:=by
 rw [h.step hk h8,hM];rfl
theorem MovAt.on {L:List Tok} (hl:TokEnd L) (hll:L.length≤500000) {x:List Mov×Nat} (h:MovAt L x) (hk:((A2 L x.2).kind != 0)=true) (h8:((x.1.length:Int)==8)=false) {m:Mov} {j:Nat} (hM:Dy L x.2=.ok m j):MovAt L (x.1++[m],j)∧x.2<j:=by
 obtain ⟨a1,a2⟩:=Y1 hl hll h.lt hM
 have h1:x.1.length≤7:=by
  have:=h.le
  simp only [beq_eq_false_iff_ne,ne_eq] at h8
  omega
 refine ⟨⟨a2,by show (x.1++[m]).length≤8;simp;omega,?_⟩,a1⟩
 rw [h.step hk h8,hM]
 show B9 L (8-x.1.length) (x.1++[m]) j=B9 L (9-(x.1++[m]).length) (x.1++[m]) j
 rw [show 9-(x.1++[m]).length=8-x.1.length by rw [List.length_append,List.length_singleton];omega]
theorem Y2 (e a:Int):∀v∈[Value.int .i64 e,Value.int .i64 a],(AV.v v).one=true:=by
 intro v hv
 simp only [List.mem_cons,List.not_mem_nil,or_false] at hv
 rcases hv with rfl|rfl<;>rfl
theorem bg {L:List Tok} {l:List Mov} {i:Nat} (h:Dg L=.ok l i):Ll L=.tup [E8 l,.agg [A5 0,A5 0]]:=by unfold Ll Im;rw [h]
theorem Ou {L:List Tok} {e a:Int} (h:Dg L=.bad e a):Ll L=.tup [.slice false 5 [],.agg [A5 e,A5 a]]:=by unfold Ll Im;rw [h];rfl
theorem l9 {fn fc:Func} {x0 r1 y r0 crest:Code} (hf:Tryz.prog.funcs[23]? = some fn) (hb:fn.body=some (.seq x0 (.seq r1 y))) (hf2:Tryz.prog.funcs[47]? = some fc) (hb2:fc.body=some (.seq r0 crest)) (L:List Tok) (o:Nat) (Hp:List AObj) (ho:Hp[o]? = some (pmO L 0)) (hl:TokEnd L) (hll:L.length≤500000) (d:Nat):
  AW Tryz.prog (d+1) y ⟨21,A7 0 (.ptr o 0) (A7 2 (.ptr (oid Hp.length 0) 0) (A7 3 (.ptr (oid Hp.length 1) 0) (A7 4 (.fn (.func 47) [] [.ptr (oid Hp.length 0) 0,.ptr (oid Hp.length 1) 0]) fun _=>.any))),Hp,[.cells 23 [.nil],.cells 26 [A5 0,A5 0]],[],none⟩ (KG Tryz.prog crest 8 3 2 [.ptr (oid Hp.length 0) 0,.ptr (oid Hp.length 1) 0] [.cell 2 23,.cell 3 26] Hp.length (fun r H'=>r=Ll L∧∃i,H'=Hp.set o (pmO L i))):=by
 have e:=Tryz.func23.symm.trans hf
 injection e with e
 subst e
 injection hb with hb
 injection hb with h1 h2
 injection h2 with h2 h3
 subst h3
 refine AW.keep [0,2,3] (by simp only [go_sem,↓reduceIte,Nat.reduceEqDiff,Nat.reduceAdd]<;>rfl) ?_
 refine AW.upEq (Dm ho).symm ?_;refine W.seq ?_
 refine AW.loopC (α:=List Mov×Nat) (fun x=>⟨21,A7 0 (.ptr o 0) (A7 2 (.ptr (oid Hp.length 0) 0) (A7 3 (.ptr (oid Hp.length 1) 0) (fun _=>.any))),Hp.set o (pmO L x.2),[.cells 23 [.slice true 5 (x.1.map Eg)],.cells 26 [A5 0,A5 0]],[],none⟩) (fun x=>MovAt L x) (fun x=>L.length-x.2) (([],0)) ⟨hl.pos,by decide,rfl⟩ (StLe.nilCell (own:=[.cells 23 [.nil],.cells 26 [A5 0,A5 0]]) (n:=0) (j0:=0) (k:=5) (t:=23) (cs:=[.nil]) rfl rfl) rfl (fun x hx=>?_)
 refine Z42 ?_;refine R.call Tryz.call48 (c48 L x.2 o _ (A4 (getset ho)) hx.lt) ?_;refine Z0 ?_;refine R.fin [0,2,3,8] ?_
 refine W.cond (fun ht8=>?_) (fun ht8=>?_)
 ·have hk:((A2 L x.2).kind != 0)=true:=ht8
  refine Z6 ?_;refine AW.block ?_;refine Z48 ?_;refine R.fin [0,2,3,11] ?_
  refine W.cond (fun ht11=>?_) (fun ht11=>?_)
  ·have h8:((x.1.length:Int)==8)=true:=by rw [List.length_map] at ht11;exact ht11
   refine AW.regionK ?_
   refine ARunK.one (R.go (ARun.nil ?_))
   refine RK.callBad Tryz.call49 (c49 L x.2 o 3 _ (A4 (getset ho)) hx.lt) ?_
   rintro z U O hU hl' ⟨rfl,hH⟩
   obtain ⟨rfl,rfl⟩:=Fk hU hH
   refine ⟨fun h=>h,fun o h=>(by cases h),?_⟩
   refine Z82 ?_;refine K.lpP ?_;refine K.thP ?_;exact KG.finP (vs:=[.int .i64 3,.int .i64 ((A2 L x.2).at_:Int)]) (Y2 _ _) (V.two (V.cell Tryz.isAgg23) (V.cellN Tryz.isAgg26 Tryz.sizeOf26)) (fun d=>Y0 hf2 hb2 3 ((A2 L x.2).at_:Int) (by simp) d) ⟨(Ou (hx.long hk h8)).symm,x.2,rfl⟩
  have h8:((x.1.length:Int)==8)=false:=by rw [List.length_map] at ht11;exact ht11
  refine Z6 ?_
  rcases hM:Dy L x.2 with ⟨m,j⟩|⟨e,a⟩
  rotate_left
  ·refine W.drawYP0 [2,3] [0,0,2,6,15,31] [2] [.q 2 [] [],.s [16] (some 0) [] [],.s [] none [0] [],.s [] none [0] [],.s [] none [0] []] (fun _=>Hp.set o (pmO L x.2)) (fun B=>[.cells 23 [.slice true 5 (x.1.map Eg)],.cells 26 [A5 0,A5 0]]++bot (B 0)) Aa (by kernel_rfl) (by kernel_rfl) rfl rfl (fun _=>rfl) ?_
   apply Y.q
   case h1 =>
    intro B hT hF
    exact Z36
   case hTF=>decide
   refine Y.callBad (own0:=[.cells 23 [.slice true 5 (x.1.map Eg)],.cells 26 [A5 0,A5 0]]) Tryz.call50 (fun B hB=>⟨rfl,by simp [bot,hB]⟩) ((c50 L x.2 o _ (A4 (getset ho)) hx.lt hl hll).bad hM) ?_ ?_
   ·rintro z U O f hU hl' ⟨rfl,j',hH⟩
    obtain ⟨rfl,rfl⟩:=As hU (List.getElem?_eq_some_iff.1 (getset (B:=pmO L x.2) ho)).1 hH
    refine ⟨fun h=>At h (fun n=>Ap),fun o h=>(by cases h),?_⟩
    intro hts
    have h2:=hts 2 (by simp)
    have h3:=hts 3 (by simp)
    simp only [go_sem,↓reduceIte,Nat.reduceEqDiff,Nat.reduceAdd] at h2 h3
    refine K.blP ?_;refine K.lpP ?_;refine K.thP ?_;exact KG.finP (vs:=[.int .i64 e,.int .i64 a]) (Y2 _ _) (V.two (V.cell (n:=0) (off:=0) Tryz.isAgg23 (hp:=by rw [h2];simp only [List.length_set];rfl)) (V.cellN (n:=1) (off:=0) Tryz.isAgg26 Tryz.sizeOf26 (hp:=by rw [h3];simp only [List.length_set];rfl))) (fun d=>Y0 hf2 hb2 e a (by simp) d) ⟨(Ou (hx.bad hk h8 hM)).symm,j',List.set_set ..⟩
   exact j5
  have hon:=hx.on hl hll hk h8 hM
  refine W.drawY0 [0,0,2,6,15,31] [0,2] [.s [14] (some 0) [] [],.q 1 [] [1],.s [16] (some 1) [] [],.q 1 [1] []] (fun B=>Hp.set o (pmO L (if B 1=true then j else x.2))) (fun B=>if B 0=true then [.cells 23 [.slice false 5 (x.1.map Eg)],.cells 26 [A5 0,A5 0]] else [.cells 23 [.slice true 5 (x.1.map Eg)],.cells 26 [A5 0,A5 0]]) Aa (by kernel_rfl) rfl rfl (fun B=>by simp) ?_
  refine Y.loadOwnT (u:=Hp.length) (n:=0) (t':=23) (cs:=[.slice true 5 (x.1.map Eg)]) (cs':=[.slice false 5 (x.1.map Eg)]) Tryz.isAgg23 (fun B hB=>⟨by simp,by simp only [hB];rfl,by simp only [hB];rfl,rfl⟩) ?_
  apply Y.q
  case h1 =>
   intro B hT hF
   exact Z38
  case hTF=>decide
  refine Y.callUp (r:=Eg m) (o:=o) (x0:=pmO L x.2) (x:=pmO L j) Tryz.call50 (fun B hB1 hB2 hB=>⟨by simp only [hB];exact getset ho,by simp only [hB];exact (List.set_set ..).symm,rfl,Ap,?_⟩) ?_
  ·simp only [hB]
   exact ((c50 L x.2 o _ (A4 (getset ho)) hx.lt hl hll).ok hM)
  apply Y.q
  case h1 =>
   intro B hT hF
   exact Z21
  case hTF=>decide
  refine Y.tail (tn:=[0,2]) (U:=Hp.set o (pmO L j)) (O:=[.cells 23 [.slice false 5 (x.1.map Eg)],.cells 26 [A5 0,A5 0]]) ?_
  refine R.append jU Tryz.type47 ?_ ?_ ?_
  ·simp [Tryz.t47];have:=hx.le;omega
  ·simp [Tryz.t47];have:=hx.le;omega
  refine R.storeOwnT jS ?_;refine R.fin [0,2,3] ?_;refine K.blN ?_
  refine K.lpN (x.1++[m],j) hon.1 (by have:=hx.lt;have:=hon.2;show L.length-j<L.length-x.2;omega) (StCut.of_eq (by simp [List.map_append,show Tryz.t47.size=5 from rfl]))
 have hk:((A2 L x.2).kind != 0)=false:=ht8
 have e:=hx.out hk
 refine Z87 ?_;refine Z2 ?_;refine ou ?_;refine Hs ?_;refine Z12 ?_;exact KG.fin .ret (V.two (V.cell Tryz.isAgg23) (V.cellN Tryz.isAgg26 Tryz.sizeOf26)) (fun d=>l8 hf2 hb2 d _ _ _) ⟨(bg e).symm,x.2,rfl⟩ (hlow:=by simpa using (Ol (n:=Hp.length) (k:=5) (o:=false) (l:=x.1)))

theorem c23 (L:List Tok) (o:Nat) (Hp:List AObj) (ho:Hp[o]? = some (pmO L 0)) (hl:TokEnd L) (hll:L.length≤500000):ACall Tryz.prog 23 [.ptr o 0] Hp (fun r H'=>r=Ll L∧∃i,H'=Hp.set o (pmO L i)):=by
 refine ACall.guarded (n:=21) (nc:=8) (a:=3) (b:=2) (os:=[oid Hp.length 0,oid Hp.length 1]) (own0:=[.cells 23 [.nil],.cells 26 [A5 0,A5 0]]) (rs:=[.cell 2 23,.cell 3 26])
  (fr0:=A7 0 (.ptr o 0) (A7 2 (.ptr (oid Hp.length 0) 0) (A7 3 (.ptr (oid Hp.length 1) 0) fun _=>.any))) (fr1:=A7 0 (.ptr o 0) (A7 2 (.ptr (oid Hp.length 0) 0) (A7 3 (.ptr (oid Hp.length 1) 0) (A7 4 (.fn (.func 47) [] [.ptr (oid Hp.length 0) 0,.ptr (oid Hp.length 1) 0]) fun _=>.any))))
  Tryz.func23 rfl rfl Tryz.ntmps23 (by simp) Tryz.func47 rfl Tryz.ntmps47 rfl (by simp) (by decide) (by decide) Tryz.call47 (fun d=>?_) (fun d=>?_) rfl (fun d l=>?_)
 ·refine AW.keep [0] (by simp only [go_sem,↓reduceIte,Nat.reduceEqDiff,Nat.reduceAdd]<;>rfl) ?_
  refine AW.region ?_;refine R.alloc jZ ?_;refine R.alloc jZ ?_;refine R.fin [0,2,3] ?_;exact ⟨rfl,rfl⟩
 ·refine R.makeFunc ?_;refine R.fin [0,2,3,4] ?_
  rfl
 exact @l9 { b:=ErrAt.b,bd:=d+1,bl:=l } _ _ _ _ _ _ _ Tryz.func23 rfl Tryz.func47 rfl L o Hp ho hl hll d
theorem Y3 {s:Str} (h:((Bv s).2.1 != 0)=true):Cl s=([],(Bv s).2.1,((Bv s).2.2:Int)):=if_pos h
theorem nq {s:Str} (h:((Bv s).2.1 != 0)=false):Cl s=Im (Bv s).1:=by
 unfold Cl Im
 rw [if_neg (by rw [h];simp)]
 cases Dg (Bv s).1<;>rfl
theorem c8 (s:Str) (hs:s.length≤1048576) (Hp:List AObj):AFun Tryz.prog 8 [A8 s] Hp (.tup [E8 (Cl s).1,.agg [A5 (Cl s).2.1,A5 (Cl s).2.2]]):=by
 refine ACall.body [.tmp 2,.cell 3 26] [0] Tryz.func8 Tryz.ntmps8 (fun d=>?_)
 refine Z2 ?_;refine R.alloc jZ ?_;refine L1 ?_;refine Z2 ?_;refine R.call Tryz.call22 (c22 s hs _) ?_;refine Z9 ?_;refine Z89 ?_;refine R.fin [3,4,5] ?_;refine Z48 ?_;refine R.fin [3,4,5,13] ?_
 refine W.cond (fun ht13=>?_) (fun ht13=>?_)
 ·have e:=Y3 ht13
  refine W.drawQ [0,0,3] 2 Aa (by kernel_rfl) ?_;refine Z5 ?_;refine D.tail ?_;refine R.wk 2 (E8 []) (.nil false 5) ?_;refine Hs ?_;refine Z62 ?_;exact K.fin (V.two V.tmp (V.cellN jA jS)) ⟨by rw [e]<;>rfl,rfl⟩
 have hz:(Bv s).2.1=0:=by simpa using ht13
 have hle:=Mr hz
 have hlen:=Xm hz
 have e:=nq ht13
 refine Rd ?_;refine Zb ?_;refine R.box ?_
 refine R.callEx (fun _=>Hp) (fun i=>[.cells 26 [A5 0,A5 0],.cells 26 [A5 (Bv s).2.1,A5 ((Bv s).2.2:Nat)],pmO (Bv s).1 i]) Tryz.call23 ((c23 (Bv s).1 (oid Hp.length 2) _ (by rw [B5];rfl) hle (by omega)).mono (fun r H' ⟨e,i,h⟩=>⟨e,i,h.trans (by rw [G7];rfl)⟩)) (fun _=>rfl) (fun _ h=>h) (fun i=>?_)
 refine Z9 ?_;refine Hs ?_;refine Z12 ?_;exact K.fin (V.two V.tmp (V.cellN jA jS)) ⟨by rw [e],rfl⟩ (hlow:=by simpa using (Ol (n:=Hp.length) (k:=5) (o:=false) (l:=(Im (Bv s).1).1)))

end Go.SX.Nb
namespace Go.SX
variable [GI:GlobInv]
open Classical Go.RowKit
section
variable {P:Program} {g:FuncId} {Hp:List AObj}
/-- Where a slice of plain values lies. -/
def qu (w:World) (u:Value) (l:List Value):Prop:=
 (u=.slice none 0 0∧l=[])∨∃(ad:Addr) (c:Nat),u=.slice (some ad) l.length c∧l.length≤c∧(l≠[]→ad.spot=none)∧(∀(j:Nat) (x:Value),l[j]? = some x→w.cell? ⟨ad.block,ad.off+j,none⟩=some x)
theorem AFun.libSl {l xs:List Value} {o:Bool} {r:AV} {v:Value} (hr:∀G w,Rep G w none r v) (h:∀w u,Fb w→qu w u l→Calls P g (u::xs).toArray w (fun e w'=>e=.returned v∧Below w.heap.size w w')):AFun P g (.slice o 1 (l.map .v)::xs.map .v) Hp r:=by
 intro d G w vs hn hv hH hT hTop
 have hn':vs.size=xs.length+1:=by simpa using hn
 have h0:vs[0]? = some (vs[0]'(by omega)):=Array.getElem?_eq_getElem (by omega)
 have hvs:vs=((vs[0]'(by omega))::xs).toArray:=by
  apply Array.ext
  ·simpa using hn'
  intro i h1 h2
  cases i with
  | zero=>rfl
  | succ i =>
   have hi:i<xs.length:=by omega
   have hrp:=hv (i+1) (.v xs[i]) vs[i+1] (by simp [hi]) (Array.getElem?_eq_getElem h1)
   have:=Gr hrp
   simpa using this
 have hsl:qu w (vs[0]'(by omega)) l:=by
  have hrp:=hv 0 _ _ rfl h0
  rcases Ek (.inl rfl) hrp with ⟨e,hl⟩|⟨ad,c,f,e,hc,hF,_⟩
  ·exact .inl ⟨e,by simpa using hl⟩
  rw [List.length_map] at e hc
  refine .inr ⟨ad,c,e,hc,fun hne=>hF.spot (by simpa using hne),fun j x hj=>?_⟩
  have hx:(l.map AV.v)[j]? = some (.v x):=by rw [List.getElem?_map,hj];rfl
  have h1:=(hF.cell j _ 0 _ hx rfl).2
  have h2:=Gr (hF.rep j _ 0 _ hx rfl)
  rw [h2] at h1
  simpa using h1
 rw [hvs]
 refine (callsIn_wide.2 (h w _ (fun x hx=>let ⟨_,u,a,b⟩:=hT.glob x hx;⟨u,a,b⟩) hsl)).mono ?_
 rintro e w' ⟨rfl,hb⟩
 obtain ⟨h1,h2⟩:=Nh hH hT hb
 exact ⟨v,G,r,Hp,rfl,(hr G w').lift,h1,h2,(Ji hT hb).keep _,rfl,rfl,rfl⟩
end
end Go.SX
