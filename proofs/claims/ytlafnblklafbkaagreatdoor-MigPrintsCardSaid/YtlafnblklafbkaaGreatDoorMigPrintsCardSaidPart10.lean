/- Texts on the way to this: MigPrints answers true for whatever it is handed: any migration that is right has the text that the chapter says, and is parsed from it as it was, unless brackets nest too deep; any other one has none (up to 12 moves, trees of up to 500 nodes). (part 10) -/
import Derived.Below
import Derived.Test.YtlafnblklafbkaaGreatDoorMigPrintsCardSaidPart9
set_option linter.all false
namespace Go.SX.Nb
open Go Go.SX Go.Proofs
variable [ErrAt]
set_option maxRecDepth 4000
abbrev pmO (L:List Tok) (i:Nat):AObj:=.cells 53 [eg L,A3 (i:Int)]
abbrev mvC (m:Mov):List AV:=[A3 m.kind,.slice true 1 (m.take.map Aa),.slice true 2 (m.give.map Bu),.slice true 6 (m.ahead.map A5),.slice true 6 (m.back.map A5)]
abbrev mvO (m:Mov):AObj:=.cells 47 (mvC m)
abbrev di (e a:Int):Value:=.iface 26 (.agg [Value.int .i64 e,Value.int .i64 a].toArray)
abbrev Lq:AV:=.v (.tuple #[])
theorem Ay {n:Nat} {L:List Tok} {i:Nat}:ObjLow n (pmO L i):=by
 show ∀y∈[AV.slice false 3 (L.map Hb),A3 (i:Int)],Low n y
 intro y hy
 simp only [List.mem_cons,List.not_mem_nil,or_false] at hy
 rcases hy with rfl|rfl
 ·simp [or_imp,forall_and]
 simp
/-- A contract of the parser: it comes to what the model comes to, or the model's fault is Fd. -/
def CP (g:FuncId) (args:List AV) (H:List AObj) {α:Type} (X:PR α) (Q:α→Nat→AV→List AObj→Prop) (R:List AObj→Prop):Prop:=
 ACallP Tryz.prog g args H (fun r H'=>∃c j,X=.ok c j∧Q c j r H') (fun v H'=>∃e a,X=.bad e a∧v=di e a∧R H')
theorem CP.ok {g:FuncId} {args:List AV} {H:List AObj} {α:Type} {X:PR α} {Q:α→Nat→AV→List AObj→Prop} {R:List AObj→Prop} {c:α} {j:Nat} (h:CP g args H X Q R) (hX:X=.ok c j):ACall Tryz.prog g args H (fun r H'=>Q c j r H'):=
 ACall.ofP (h.mono (fun r H' ⟨c',j',e,hq⟩=>by rw [hX] at e;injection e with e1 e2;subst e1;subst e2;exact hq) (fun v H' ⟨e,a,he,_⟩=>by rw [hX] at he;cases he))
theorem CP.bad {g:FuncId} {args:List AV} {H:List AObj} {α:Type} {X:PR α} {Q:α→Nat→AV→List AObj→Prop} {R:List AObj→Prop} {e a:Int} (h:CP g args H X Q R) (hX:X=.bad e a):ACallP Tryz.prog g args H (fun _ _=>False) (fun v H'=>v=di e a∧R H'):=
 h.mono (fun r H' ⟨c',j',he,hq⟩=>by rw [hX] at he;cases he) (fun v H' ⟨e',a',he,hv,hR⟩=>by rw [hX] at he;injection he with e1 e2;subst e1;subst e2;exact ⟨hv,hR⟩)
/-- The parser's object alone has turned. -/
def W1 (L:List Tok) (o:Nat) (Hp H':List AObj):Prop:=∃j,H'=Hp.set o (pmO L j)
theorem W1.refl {L:List Tok} {o i:Nat} {Hp:List AObj} (ho:Hp[o]? = some (pmO L i)):W1 L o Hp Hp:=⟨i,(Ep ho).symm⟩
theorem c48 (L:List Tok) (i o:Nat) (Hp:List AObj) (ho:Hp[o]? = some (pmO L i)) (hi:i<L.length):AFun Tryz.prog 48 [.ptr o 0] Hp (Hb (A7 L i)):=by
 refine ACall.body [.cell 2 59] [0] Tryz.func48 Tryz.ntmps48 (fun d=>?_)
 refine AAm ?_;refine Z37 ?_
 refine D.go (h:=Q.loadUp ho) (hr:=?_)
 refine Z37 ?_
 refine D.go (h:=Q.loadUp ho) (hr:=?_)
 refine D.tail ?_
 refine R.go (h:=Q.indexAddr (i) (Hb (A7 L i)) (fun _=>Nt hi)) (hr:=?_)
 refine R.go ?_;exact sr

theorem c49 (L:List Tok) (i o:Nat) (e:Int) (Hp:List AObj) (ho:Hp[o]? = some (pmO L i)) (hi:i<L.length):ACallP Tryz.prog 49 [.ptr o 0,A3 e] Hp (fun _ _=>False) (fun v H'=>v=di e (A7 L i).at_∧H'=Hp):=by
 refine ACallP.body [] [0,1] Tryz.func49 Tryz.ntmps49 (fun d=>?_)
 refine W.drawY0 [0,0,2,6,14,0,32,96,224,510,1022,2046,4095,8191,16383] [14] [.q 14 [] [],.s [] (some 0) [] []] (fun _=>Hp) (fun B=>[]++bot (B 0)) Ab (by kernel_rfl) rfl rfl (fun _=>rfl) ?_
 apply Y.q
 case h1 =>
  intro B hT hF
  refine Pi ?_
  refine D.go (h:=Q.loadUp ho) (hr:=?_)
  refine Z37 ?_
  refine D.go (h:=Q.loadUp ho) (hr:=?_)
  refine D.go (h:=Q.indexAddr (i) (Hb (A7 L i)) (fun _=>Nt hi)) (hr:=?_)
  refine Z9 ?_;refine D.build (places:=#[(0,1),(1,1)]) jU (fun w=>by simp) jZ ?_;refine D.makeIface (.of jU) ?_;exact Mh
 case hTF=>decide
 refine Y.panic (vs:=[.int .i64 e,.int .i64 ((A7 L i).at_:Int)]) (fun B hB f=>?_) ?_
 ·exact K.finPP ⟨rfl,rfl⟩
 exact tj

theorem AC9 (L:List Tok) (s:Str) (i o:Nat) (Hp:List AObj) (ho:Hp[o]? = some (pmO L i)) (hi:i<L.length):AFun Tryz.prog 130 [.ptr o 0,Aa s] Hp (Ap (isP L s i)):=by
 refine ACall.body [.tmp 4] [0,1] Tryz.func130 Tryz.ntmps130 (fun d=>?_)
 refine Z59 ?_;refine xl ?_;refine Z15 ?_;refine R.fin [1,5] ?_;refine Z34 ?_;refine Z4 ?_;refine Z63 ?_;refine j6 ?_;exact Z97

theorem c92 (L:List Tok) (s:Str) (i o:Nat) (Hp:List AObj) (ho:Hp[o]? = some (pmO L i)) (hi:i<L.length) (hll:L.length≤500000):CP 92 [.ptr o 0,Aa s] Hp (Bc L s i) (fun _ j r H'=>r=Lq∧H'=Hp.set o (pmO L j)) (W1 L o Hp):=by
 refine ACallP.body [] [0,1] Tryz.func92 Tryz.ntmps92 (fun d=>?_)
 refine Z31 ?_;refine R.call Tryz.call130 (AC9 L s i o _ (A4 ho) hi) ?_;refine R.go ?_;refine R.fin [0,7] ?_
 refine W.cond (fun ht7=>?_) (fun ht7=>?_)
 ·have hq:isP L s i=false:=by simpa using ht7
  have e:Bc L s i=.bad 8 (A7 L i).at_:=if_neg (by rw [hq];simp)
  refine AW.regionK ?_
  refine ARunK.one (R.go (ARun.nil ?_))
  refine xu ?_
  rintro x U O hU hl' ⟨rfl,hH⟩
  obtain ⟨rfl,rfl⟩:=Hi hU hH
  refine ⟨fun h=>h,fun o h=>(by cases h),?_⟩
  exact Z99
 have hq:isP L s i=true:=by simpa using ht7
 have e:Bc L s i=.ok () (i+1):=if_pos hq
 refine Z5 ?_;refine Z48 ?_
 refine R.go (h:=Q.loadUp ho) (hr:=?_)
 refine Z6 ?_
 refine R.storeUp jS ho ?_ ?_
 ·simp
 refine R.fin [] ?_;exact K.finPN .nores (hp:=⟨(),i+1,e,rfl,rfl⟩)

theorem Pl (L:List Tok) (i o:Nat) (Hp:List AObj) (ho:Hp[o]? = some (pmO L i)) (hi:i<L.length) (hll:L.length≤500000):CP 124 [.ptr o 0] Hp (De L i) (fun s j r H'=>r=Aa s∧H'=Hp.set o (pmO L j)) (W1 L o Hp):=by
 refine ACallP.body [.tmp 2] [0] Tryz.func124 Tryz.ntmps124 (fun d=>?_)
 refine Z46 ?_;refine xl ?_;refine Z15 ?_;refine Hu ?_;refine Z22 ?_;refine R.fin [0,3,8] ?_
 refine W.cond (fun ht8=>?_) (fun ht8=>?_)
 ·have e:De L i=.bad 8 (A7 L i).at_:=if_pos ht8
  refine AW.regionK ?_
  refine ARunK.one (R.go (ARun.nil ?_))
  refine xu ?_
  rintro x U O hU hl' ⟨rfl,hH⟩
  obtain ⟨rfl,rfl⟩:=Hi hU hH
  refine ⟨fun h=>h,fun o h=>(by cases h),?_⟩
  exact Z99
 have e:De L i=.ok (A7 L i).text (i+1):=if_neg (by rw [ht8];simp)
 refine Vr ?_
 refine R.go (h:=Q.loadUp ho) (hr:=?_)
 refine Z6 ?_
 refine R.storeUp jS ho ?_ ?_
 ·simp
 refine R.fin [3] ?_;refine Z19 ?_;refine Z2 ?_;exact K.finP (V.one V.tmp) (hp:=⟨_,i+1,e,rfl,rfl⟩)

theorem getset {Hp:List AObj} {o:Nat} {A B:AObj} (h:Hp[o]? = some A):(Hp.set o B)[o]? = some B:=by
 have:=(List.getElem?_eq_some_iff.1 h).1
 simp [this]
theorem W1.set {L:List Tok} {o i:Nat} {Hp:List AObj}:W1 L o Hp (Hp.set o (pmO L i)):=⟨i,rfl⟩
theorem B9 {l:List AObj} {i:Nat} {x:AObj} (h:∀y∈l,ObjLow (l.set i x).length y) (hx:∀n,ObjLow n x):∀y∈l.set i x,ObjLow (l.set i x).length y:=E3 h (hx _)
theorem ACa (L:List Tok) (i o:Nat) (Hp:List AObj) (ho:Hp[o]? = some (pmO L i)) (hi:i<L.length) (hl:TokEnd L) (hll:L.length≤500000):CP 159 [.ptr o 0] Hp (Ez L i) (fun c j r H'=>r=Bu c∧H'=Hp.set o (pmO L j)) (W1 L o Hp):=by
 refine ACallP.body [.cell 2 64] [0] Tryz.func159 Tryz.ntmps159 (fun d=>?_)
 refine Z52 ?_
 rcases hN:De L i with ⟨s,j⟩|⟨e,a⟩
 rotate_left
 ·refine AW.seqRK ?_
  refine ARunK.one (R.go (ARun.nil ?_))
  refine RK.callBad Tryz.call124 ((Pl L i o _ (A4 ho) hi hll).bad hN) ?_
  rintro x U O hU hl' ⟨rfl,j',hH⟩
  obtain ⟨rfl,rfl⟩:=B8 hU (List.getElem?_eq_some_iff.1 ho).1 hH
  refine ⟨fun h=>B9 h (fun n=>Ay),fun o h=>(by cases h),?_⟩
  refine K.thP ?_;exact K.finPP ⟨_,_,by unfold Ez;rw [hN];rfl,rfl,j',rfl⟩
 have hj:j<L.length:=(Ej hl hi _ _ hN).2
 have e0:Ez L i=N0 L s j:=by unfold Ez;rw [hN];rfl
 refine Z0 ?_;refine R.callUp (x:=pmO L j) Tryz.call124 ho (by simp) Ay ((Pl L i o _ (A4 ho) hi hll).ok hN) ?_;refine jh ?_;refine Z86 ?_;refine Z0 ?_;refine R.call Tryz.call48 (c48 L j o _ (A4 (getset ho)) hj) ?_;refine Z15 ?_;refine R.fin [0,2,3,4] ?_;refine Z31 ?_;refine R.call Tryz.call191 (ADa (A7 L j).text _) ?_;refine zr ?_;refine R.fin [0,2,3,4] ?_;refine Z34 ?_;refine Z4 ?_;refine Z68 ?_;refine R.fin [0,2,3,21] ?_
 refine W.cond (fun ht21=>?_) (fun ht21=>?_)
 ·have e:Ez L i=.bad 8 (A7 L j).at_:=by rw [e0];exact if_pos ht21
  refine AW.regionK ?_
  refine ARunK.one (R.go (ARun.nil ?_))
  refine RK.callBad Tryz.call49 (c49 L j o 8 _ (A4 (getset ho)) hj) ?_
  rintro x U O hU hl' ⟨rfl,hH⟩
  obtain ⟨rfl,rfl⟩:=Hi hU hH
  refine ⟨fun h=>h,fun o h=>(by cases h),?_⟩
  refine K.thP ?_;exact K.finPP ⟨_,_,e,rfl,W1.set⟩
 have e:Ez L i=.ok ⟨s,Ig (A7 L j).text⟩ (j+1):=by rw [e0];exact if_neg (by rw [ht21];simp)
 refine Vr ?_
 refine R.go (h:=Q.loadUp (getset ho)) (hr:=?_)
 refine Z6 ?_
 refine R.storeUp jS (getset ho) ?_ ?_
 ·simp
 refine nd ?_;refine Z26 ?_;exact K.finP (V.one (V.cellN jA jS)) (hp:=⟨_,j+1,e,rfl,by rw [List.set_set];rfl⟩)

theorem rh (L:List Tok) (i o:Nat) (Hp:List AObj) (ho:Hp[o]? = some (pmO L i)) (hi:i<L.length) (hl:TokEnd L) (hll:L.length≤500000):CP 160 [.ptr o 0] Hp (Fw L i) (fun c j r H'=>r=A5 c∧H'=Hp.set o (pmO L j)) (W1 L o Hp):=by
 refine ACallP.body [.cell 2 69] [0] Tryz.func160 Tryz.ntmps160 (fun d=>?_)
 refine Z52 ?_;refine W.drawY [0,1,3,7,0,16,48,112,255,511,1023,1023,1023,0,0,26623,61439,131071] [] [.q 13 [] [],.s [3] none [] [],.s [5] none [] [],.s [3] none [] [],.q 1 [] [],.s [5] none [] []] (fun _=>Hp) (fun _=>[.cells 69 [A3 0,Aa [],A3 0,A3 0,Aa [],.nil]]) Ab (by kernel_rfl) rfl rfl (fun _=>rfl) ?_
 apply Y.q
 case h1 =>
  intro B hT hF
  refine Z37 ?_
  refine D.go (h:=Q.loadUp ho) (hr:=?_)
  refine Z37 ?_
  refine D.go (h:=Q.loadUp ho) (hr:=?_)
  refine D.call Tryz.call192 (ADr L i hi hl hll (fun n Dv h1 h2=>lj hl (by omega) n Dv h1 h2) _) ?_;exact na
 case hTF=>decide
 refine Y.allocP Tryz.zeroValue69 ?_;refine Y.allocP Tryz.zeroValue26 ?_;refine Y.storeP Tryz.sizeOf69 ?_
 apply Y.q
 case h1 =>
  intro B hT hF
  exact Z60
 case hTF=>decide
 refine Y.storeP Tryz.sizeOf26 ?_;refine Y.tail (tn:=[])  ?_;refine R.fin [0,2,3,4,5] ?_;refine Z22 ?_;refine R.fin [0,2,3,4,5,21] ?_
 refine W.cond (fun ht21=>?_) (fun ht21=>?_)
 ·have e:Fw L i=.bad (atM L i).2.2.1 (atM L i).2.2.2:=if_pos ht21
  refine AW.regionK ?_
  refine ARunK.one (R.go (ARun.nil ?_))
  refine ARunK.one (R.makeIface (.of Tryz.underlying26) (ARun.nil ?_))
  refine RK.panic (vs:=[.int .i64 (atM L i).2.2.1,.int .i64 (atM L i).2.2.2]) ?_;exact Z99
 obtain ⟨k,hk,hkl⟩:=vd hl (by omega) hi (by simpa using ht21)
 have e:Fw L i=.ok (atM L i).1 k:=(if_neg (by rw [ht21];simp)).trans (by rw [hk];rfl)
 rw [hk]
 refine Z5 ?_;refine Z34 ?_
 refine R.storeUp jS ho ?_ ?_
 ·simp
 refine nd ?_;refine Z26 ?_;exact K.finP (V.one (V.cellN jA jS)) (hp:=⟨_,k,e,(Ac _).symm,rfl⟩) (hlow:=by have:=Aj Hp.length (atM L i).1;rw [Ac] at this;exact this)

/-- The parser's object and the move's, turned. -/
def U2 (L:List Tok) (Hp:List AObj) (o om i:Nat) (x:AObj):List AObj:=(Hp.set o (pmO L i)).set om x
theorem U2_len {L:List Tok} {Hp:List AObj} {o om i:Nat} {x:AObj}:(U2 L Hp o om i x).length=Hp.length:=by simp [U2]
theorem Cl {L:List Tok} {Hp:List AObj} {o om i:Nat} {x z:AObj} (hm:Hp[om]? = some z):(U2 L Hp o om i x)[om]? = some x:=gB hm
theorem Ba {L:List Tok} {Hp:List AObj} {o om i:Nat} {x z:AObj} (ho:Hp[o]? = some z) (hne:om≠o):(U2 L Hp o om i x)[o]? = some (pmO L i):=gA ho hne
theorem By {L:List Tok} {Hp:List AObj} {o om i j:Nat} {x:AObj} (hne:om≠o):(U2 L Hp o om i x).set o (pmO L j)=U2 L Hp o om j x:=re hne
theorem U2_setm {L:List Tok} {Hp:List AObj} {o om i:Nat} {x y:AObj}:(U2 L Hp o om i x).set om y=U2 L Hp o om i y:=List.set_set ..
theorem Na {L:List Tok} {Hp:List AObj} {o om i:Nat} {x:AObj} (ho:Hp[o]? = some (pmO L i)) (hm:Hp[om]? = some x):U2 L Hp o om i x=Hp:=by unfold U2;rw [Ep ho,Ep hm]
theorem dj {L:List Tok} {Hp:List AObj} {o om i:Nat} {x:AObj} (hne:om≠o) (hm:Hp[om]? = some x):Hp.set o (pmO L i)=U2 L Hp o om i x:=(Ep (by rw [List.getElem?_set_ne (Ne.symm hne)];exact hm)).symm
theorem Eh {L:List Tok} {Hp:List AObj} {o om i q:Nat} {x:AObj} (h1:q≠o) (h2:q≠om):(U2 L Hp o om i x)[q]? = Hp[q]? := by unfold U2;rw [List.getElem?_set_ne (Ne.symm h2),List.getElem?_set_ne (Ne.symm h1)]
def W2 (L:List Tok) (o om:Nat) (Hp H':List AObj):Prop:=∃j m,H'=U2 L Hp o om j (mvO m)
theorem M8 {n k:Nat} {o:Bool} {l:List Expr} {x:Expr}:Low n (.slice o k (l.map A5++[.agg (Cs x)])):=by
 rw [show AV.agg (Cs x)=A5 x from (Ac x).symm];exact dc
theorem Bt {n:Nat} {m:Mov}:ObjLow n (mvO m):=by
 show ∀y∈mvC m,Low n y
 intro y hy
 simp only [mvC,List.mem_cons,List.not_mem_nil,or_false] at hy
 rcases hy with rfl|rfl|rfl|rfl|rfl
 all_goals first|exact Dy|simp [or_imp,forall_and]
theorem lm {L:List Tok} {Hp:List AObj} {o om i:Nat} {m:Mov} {c:Col} {x:AObj}:(U2 L Hp o om i x).set om (.cells 47 [A3 m.kind,.slice true 1 (m.take.map Aa),.slice true 2 (m.give.map Bu++[Bu c]),.slice true 6 (m.ahead.map A5),.slice true 6 (m.back.map A5)])=U2 L Hp o om i (mvO (Bi m c)):=by
 rw [U2_setm];simp only [mvO,mvC,Bi,List.map_append,List.map_cons,List.map_nil]
theorem ln {L:List Tok} {Hp:List AObj} {o om i:Nat} {m:Mov} {e:Expr} {x:AObj}:(U2 L Hp o om i x).set om (.cells 47 [A3 m.kind,.slice true 1 (m.take.map Aa),.slice true 2 (m.give.map Bu),.slice true 6 (m.ahead.map A5++[.agg (Cs e)]),.slice true 6 (m.back.map A5)])=U2 L Hp o om i (mvO (J0 m e)):=by
 rw [U2_setm,show AV.agg (Cs e)=A5 e from (Ac e).symm];simp only [mvO,mvC,J0,List.map_append,List.map_cons,List.map_nil]
theorem lp {L:List Tok} {Hp:List AObj} {o om i:Nat} {m:Mov} {e:Expr} {x:AObj}:(U2 L Hp o om i x).set om (.cells 47 [A3 m.kind,.slice true 1 (m.take.map Aa),.slice true 2 (m.give.map Bu),.slice true 6 (m.ahead.map A5),.slice true 6 (m.back.map A5++[.agg (Cs e)])])=U2 L Hp o om i (mvO (P9 m e)):=by
 rw [U2_setm,show AV.agg (Cs e)=A5 e from (Ac e).symm];simp only [mvO,mvC,P9,List.map_append,List.map_cons,List.map_nil]
theorem lq {L:List Tok} {Hp:List AObj} {o om i:Nat} {m:Mov} {s:Str} {x:AObj}:(U2 L Hp o om i x).set om (.cells 47 [A3 m.kind,.slice true 1 (m.take.map Aa++[Aa s]),.slice true 2 (m.give.map Bu),.slice true 6 (m.ahead.map A5),.slice true 6 (m.back.map A5)])=U2 L Hp o om i (mvO (S7 m s)):=by
 rw [U2_setm];simp only [mvO,mvC,S7,List.map_append,List.map_cons,List.map_nil]

theorem dk (L:List Tok) (m:Mov) (i o om:Nat) (Hp:List AObj) (hne:om≠o) (ho:Hp[o]? = some (pmO L i)) (hm:Hp[om]? = some (mvO m)) (hi:i<L.length) (hl:TokEnd L) (hll:L.length≤500000) (hb:MvLe m (2*i-1)):CP 123 [.ptr o 0,.ptr om 0] Hp (C0 L m i) (fun m' j r H'=>r=Lq∧H'=U2 L Hp o om j (mvO m')) (W2 L o om Hp):=by
 have:=hb.take;have:=hb.give;have:=hb.ahead;have:=hb.back
 refine ACallP.body [] [0,1] Tryz.func123 Tryz.ntmps123 (fun d=>?_)
 rcases hC:Ez L i with ⟨c,j⟩|⟨e,a⟩
 rotate_left
 ·refine W.drawY [0,0,2,6,14,0,32,96,254,511,1023,2047] [6] [.q 6 [] [],.s [10] (some 0) [] [],.s [] none [0] [],.s [] none [0] [],.s [] none [0] [],.s [] none [0] [],.s [] none [0] []] (fun _=>Hp) (fun B=>[]++bot (B 0)) Ab (by kernel_rfl) rfl rfl (fun _=>rfl) ?_
  apply Y.q
  case h1 =>
   intro B hT hF
   refine Pi ?_
   refine D.go (h:=Q.loadUp hm) (hr:=?_)
   exact Z60
  case hTF=>decide
  refine Y.callBad (own0:=[]) Tryz.call159 (fun B hB=>⟨rfl,by simp [bot,hB]⟩) ((ACa L i o _ (A4 ho) hi hl hll).bad hC) ?_ ?_
  ·rintro x U O f hU hl' ⟨rfl,j',hH⟩
   obtain ⟨rfl,rfl⟩:=B8 hU (List.getElem?_eq_some_iff.1 ho).1 hH
   refine ⟨fun h=>B9 h (fun n=>Ay),fun o h=>(by cases h),?_⟩
   exact K.finPP ⟨_,_,by unfold C0;rw [hC];rfl,rfl,j',m,dj hne hm⟩
  refine Z13 ?_;exact t7
 have hj:=O7 hl hi _ _ hC
 refine W.drawY [0,0,2,6,14,0,32,96,254,511,1023,2047] [4,6] [.q 4 [] [],.s [8] (some 0) [] [],.q 1 [] [1],.s [10] (some 1) [] [],.q 1 [1] [],.s [8,12] none [0,1] []] (fun B=>U2 L Hp o om (if B 1=true then j else i) (if B 0=true then .cells 47 [A3 m.kind,.slice true 1 (m.take.map Aa),.slice false 2 (m.give.map Bu),.slice true 6 (m.ahead.map A5),.slice true 6 (m.back.map A5)] else .cells 47 [A3 m.kind,.slice true 1 (m.take.map Aa),.slice true 2 (m.give.map Bu),.slice true 6 (m.ahead.map A5),.slice true 6 (m.back.map A5)])) (fun _=>[]) Ab (by kernel_rfl) (Na ho hm) rfl (fun B=>U2_len) ?_
 apply Y.q
 case h1 =>
  intro B hT hF
  exact na
 case hTF=>decide
 refine Y.loadUpT (o:=om) (t':=47) (cs:=[A3 m.kind,.slice true 1 (m.take.map Aa),.slice true 2 (m.give.map Bu),.slice true 6 (m.ahead.map A5),.slice true 6 (m.back.map A5)]) (cs':=[A3 m.kind,.slice true 1 (m.take.map Aa),.slice false 2 (m.give.map Bu),.slice true 6 (m.ahead.map A5),.slice true 6 (m.back.map A5)]) Tryz.isAgg40 (fun B hB=>⟨by simp only [hB];exact Cl hm,U2_setm.symm,rfl⟩) ?_
 apply Y.q
 case h1 =>
  intro B hT hF
  exact Z60
 case hTF=>decide
 refine Y.callUp (r:=Bu c) (o:=o) (x0:=pmO L i) (x:=pmO L j) Tryz.call159 (fun B hB1 hB2 hB=>⟨by simp only [hB];exact Ba ho hne,(By hne).symm,rfl,Ay,?_⟩) ?_
 ·simp only [hB]
  exact (ACa L i o _ (A4 (Ba ho hne)) hi hl hll).ok hC
 apply Y.q
 case h1 =>
  intro B hT hF
  exact Z33
 case hTF=>decide
 refine Y.append jU Tryz.type64 ?_ ?_ ?_
 ·simp [Tryz.t64];omega
 ·simp [Tryz.t64];omega
 refine Y.tail (tn:=[4,6]) (U:=U2 L Hp o om j (.cells 47 [A3 m.kind,.slice true 1 (m.take.map Aa),.slice false 2 (m.give.map Bu),.slice true 6 (m.ahead.map A5),.slice true 6 (m.back.map A5)])) ?_;refine Z1 ?_
 refine R.storeUpT jS (Cl hm) ?_ ?_
 ·simp [or_imp,forall_and]
 refine R.fin [0,1] ?_;refine AW.upEq (lm (m:=m) (c:=c)) ?_
 rcases hW:Bc L [61] j with ⟨u,j2⟩|⟨e,a⟩
 rotate_left
 ·refine AW.seqRK ?_
  refine ARunK.one (R.go (ARun.nil ?_))
  refine RK.callBad Tryz.call92 ((c92 L [61] j o _ (A4 (Ba ho hne)) hj.2 hll).bad hW) ?_
  rintro x U O hU hl' ⟨rfl,j',hH⟩
  obtain ⟨rfl,rfl⟩:=B8 hU (List.getElem?_eq_some_iff.1 (Ba (L:=L) (i:=j) (x:=mvO (Bi m c)) ho hne)).1 hH
  refine ⟨fun h=>B9 h (fun n=>Ay),fun o h=>(by cases h),?_⟩
  refine K.thP ?_;exact K.finPP ⟨_,_,by unfold C0;rw [hC];show (Bc L [61] j).bind _=_;rw [hW];rfl,rfl,j',Bi m c,By hne⟩
 have hj2:=D8 hl hj.2 _ _ hW
 refine Z0 ?_;refine R.callUp (x:=pmO L j2) Tryz.call92 (Ba ho hne) (by simp) Ay ((c92 L [61] j o _ (A4 (Ba ho hne)) hj.2 hll).ok hW) ?_
 rw [By hne]
 refine R.fin [0,1] ?_
 rcases hT:Fw L j2 with ⟨x,k⟩|⟨e,a⟩
 rotate_left
 ·refine W.drawY0 [0,1,3,7,0,16,15,0,255,511,1023,511,2559,6655] [5] [.q 5 [] [],.s [22] (some 0) [] [],.q 2 [] [],.s [] none [0] [],.s [] none [0] [],.s [] none [0] [],.s [] none [0] [],.s [] none [0] [],.s [] none [0] []] (fun _=>U2 L Hp o om j2 (mvO (Bi m c))) (fun B=>[]++bot (B 0)) Ab (by kernel_rfl) rfl rfl (fun _=>rfl) ?_
  apply Y.q
  case h1 =>
   intro B hT hF
   refine Z37 ?_
   refine D.go (h:=Q.loadUp (Cl hm)) (hr:=?_)
   exact Z60
  case hTF=>decide
  refine Y.callBad (own0:=[]) Tryz.call160 (fun B hB=>⟨rfl,by simp [bot,hB]⟩) ((rh L j2 o _ (A4 (Ba ho hne)) hj2.2 hl hll).bad hT) ?_ ?_
  ·rintro x U O f hU hl' ⟨rfl,j',hH⟩
   obtain ⟨rfl,rfl⟩:=B8 hU (List.getElem?_eq_some_iff.1 (Ba (L:=L) (i:=j2) (x:=mvO (Bi m c)) ho hne)).1 hH
   refine ⟨fun h=>B9 h (fun n=>Ay),fun o h=>(by cases h),?_⟩
   exact K.finPP ⟨_,_,by unfold C0;rw [hC];show (Bc L [61] j).bind _=_;rw [hW];show (Fw L j2).bind _=_;rw [hT];rfl,rfl,j',Bi m c,By hne⟩
  apply Y.q
  case h1 =>
   intro B hT hF
   exact j9
  case hTF=>decide
  refine Z13 ?_;exact sy
 have hk:=Jk hl hll hj2.2 hT
 refine W.drawT0 [0,1,3,7,0,16,15,0,255,511,1023,511,2559,6655] [3,5] [.q 3 [] [0],.s [20] (some 0) [] [],.q 1 [] [1],.s [22] (some 1) [] [],.q 2 [] []] (fun B=>U2 L Hp o om (if B 1=true then k else j2) (if B 0=true then .cells 47 [A3 (Bi m c).kind,.slice true 1 ((Bi m c).take.map Aa),.slice true 2 ((Bi m c).give.map Bu),.slice false 6 ((Bi m c).ahead.map A5),.slice true 6 ((Bi m c).back.map A5)] else .cells 47 [A3 (Bi m c).kind,.slice true 1 ((Bi m c).take.map Aa),.slice true 2 ((Bi m c).give.map Bu),.slice true 6 ((Bi m c).ahead.map A5),.slice true 6 ((Bi m c).back.map A5)])) (fun _=>[]) Ab (by kernel_rfl) rfl rfl (fun B=>by rw [U2_len];exact U2_len.symm) ?_
 apply Y.q
 case h1 =>
  intro B hT hF
  refine Z37 ?_;exact Mh
 case hTF=>decide
 refine Y.loadUpT (o:=om) (t':=47) (cs:=[A3 (Bi m c).kind,.slice true 1 ((Bi m c).take.map Aa),.slice true 2 ((Bi m c).give.map Bu),.slice true 6 ((Bi m c).ahead.map A5),.slice true 6 ((Bi m c).back.map A5)]) (cs':=[A3 (Bi m c).kind,.slice true 1 ((Bi m c).take.map Aa),.slice true 2 ((Bi m c).give.map Bu),.slice false 6 ((Bi m c).ahead.map A5),.slice true 6 ((Bi m c).back.map A5)]) Tryz.isAgg45 (fun B hB=>⟨by simp only [hB];exact Cl hm,U2_setm.symm,rfl⟩) ?_
 apply Y.q
 case h1 =>
  intro B hT hF
  exact Z60
 case hTF=>decide
 refine Y.callUp (r:=A5 x) (o:=o) (x0:=pmO L j2) (x:=pmO L k) Tryz.call160 (fun B hB1 hB2 hB=>⟨by simp only [hB];exact Ba ho hne,(By hne).symm,rfl,Ay,?_⟩) ?_
 ·simp only [hB]
  exact (rh L j2 o _ (A4 (Ba ho hne)) hj2.2 hl hll).ok hT
 apply Y.q
 case h1 =>
  intro B hT hF
  exact j9
 case hTF=>decide
 refine Y.appendPut4 (tn:=[3,5]) (U:=U2 L Hp o om k (.cells 47 [A3 (Bi m c).kind,.slice true 1 ((Bi m c).take.map Aa),.slice true 2 ((Bi m c).give.map Bu),.slice false 6 ((Bi m c).ahead.map A5),.slice true 6 ((Bi m c).back.map A5)])) (O:=[]) (o:=om) (t':=47) (cs:=[A3 (Bi m c).kind,.slice true 1 ((Bi m c).take.map Aa),.slice true 2 ((Bi m c).give.map Bu),.slice false 6 ((Bi m c).ahead.map A5),.slice true 6 ((Bi m c).back.map A5)]) (by kernel_rfl) jU Tryz.type69 Tryz.sizeOf69 Tryz.sizeOf45 jU (A4 (Cl hm)) ?_ ?_ ?_ (hfsz:=Tryz.sizeOf45)
 ·simp [Tryz.t69,Bi];omega
 ·simp [Tryz.t69,Bi];omega
 refine Z1 ?_
 refine R.storeUpT jS (Cl hm) ?_ ?_
 ·exact M8
 refine R.fin [] ?_;exact K.finPN .nores (hp:=⟨J0 (Bi m c) x,k,by unfold C0;rw [hC];show (Bc L [61] j).bind _=_;rw [hW];show (Fw L j2).bind _=_;rw [hT];rfl,rfl,by exact ln (m:=Bi m c)⟩)

/-- What is asked of a part of a move that is a closure. -/
def gt (L:List Tok) (o om g:Nat) (caps:List AV) (Hp:List AObj) (one:Mov→Nat→PR Mov):Prop:=
 ∀m i,MvLe m (2*i-1)→0<i→i<L.length→CP g caps (U2 L Hp o om i (mvO m)) (one m i) (fun m' j r H'=>r=Lq∧H'=U2 L Hp o om j (mvO m')) (W2 L o om Hp)
theorem Gu {L:List Tok} {Hp:List AObj} {o om i j:Nat} {x y:AObj} (hne:om≠o):U2 L (U2 L Hp o om i x) o om j y=U2 L Hp o om j y:=by
 unfold U2
 rw [re hne,List.set_set]
theorem ri {L:List Tok} {Hp H':List AObj} {o om i:Nat} {x:AObj} (hne:om≠o) (h:W2 L o om (U2 L Hp o om i x) H'):W2 L o om Hp H':=by
 obtain ⟨j,m,e⟩:=h
 exact ⟨j,m,by rw [e,Gu hne]⟩
theorem AE8 (L:List Tok) (m:Mov) (i o om bp bm:Nat) (Hp:List AObj) (hne:om≠o) (ho:Hp[o]? = some (pmO L i)) (hm:Hp[om]? = some (mvO m)) (hbp:Hp[bp]? = some (.cells 51 [.ptr o 0])) (hbm:Hp[bm]? = some (.cells 102 [.ptr om 0])) (hi:i<L.length) (hl:TokEnd L) (hll:L.length≤500000) (hb:MvLe m (2*i-1)):CP 161 [.ptr bm 0,.ptr bp 0] Hp (Kl L m i) (fun m' j r H'=>r=Lq∧H'=U2 L Hp o om j (mvO m')) (W2 L o om Hp):=by
 have n1:bp≠o:=fun e=>by rw [e,ho] at hbp;simp at hbp
 have n2:bp≠om:=fun e=>by rw [e,hm] at hbp;simp at hbp
 have n3:bm≠o:=fun e=>by rw [e,ho] at hbm;simp at hbm
 have n4:bm≠om:=fun e=>by rw [e,hm] at hbm;simp at hbm
 have:=hb.take;have:=hb.give;have:=hb.ahead;have:=hb.back
 refine ACallP.body [] [0,1] Tryz.func161 Tryz.ntmps161 (fun d=>?_)
 refine W.flip Ab (by kernel_rfl) Tryz.zeroValue4 Tryz.sizeOf4 Tryz.isAgg4 (fun fb=>?_)
 refine AW.keep [0,1,3] (by simp only [go_sem,↓reduceIte,Nat.reduceEqDiff,Nat.reduceAdd]<;>rfl) ?_
 refine W.cond (fun ht3=>?_) (fun ht3=>?_)
 ·rcases hT:Fw L i with ⟨x,k⟩|⟨e,a⟩
  rotate_left
  ·refine W.drawY [0,1,3,7,0,16,15,0,255,511,1023,2047] [5] [.q 5 [] [],.s [9] (some 0) [] [],.q 2 [] [],.s [] none [0] [],.s [] none [0] [],.s [] none [0] [],.s [] none [0] []] (fun _=>Hp) (fun B=>[.cells 4 [.v (.bool fb)]]++bot (B 0)) Ab (by kernel_rfl) rfl rfl (fun _=>rfl) ?_
   apply Y.q
   case h1 =>
    intro B hT hF
    refine D.go (h:=Q.loadUp hbm) (hr:=?_)
    refine Z9 ?_
    refine D.go (h:=Q.loadUp hm) (hr:=?_)
    refine D.go (h:=Q.loadUp hbp) (hr:=?_)
    exact Mh
   case hTF=>decide
   refine Y.callBad (own0:=[.cells 4 [.v (.bool fb)]]) Tryz.call160 (fun B hB=>⟨rfl,by simp [bot,hB]⟩) ((rh L i o _ (A4 ho) hi hl hll).bad hT) ?_ ?_
   ·rintro x U O f hU hl' ⟨rfl,j',hH⟩
    obtain ⟨rfl,rfl⟩:=B8 hU (List.getElem?_eq_some_iff.1 ho).1 hH
    refine ⟨fun h=>B9 h (fun n=>Ay),fun o h=>(by cases h),?_⟩
    exact AB9
   apply Y.q
   case h1 =>
    intro B hT hF
    exact j9
   case hTF=>decide
   exact sy
  have hk:=Jk hl hll hi hT
  refine W.drawZ0 [0,1,3,7,0,16,15,0,255,511,1023,2047] [3,5] [.q 3 [] [0],.s [7] (some 0) [] [],.q 1 [] [1],.s [9] (some 1) [] [],.q 2 [] []] (fun B=>U2 L Hp o om (if B 1=true then k else i) (if B 0=true then .cells 47 [A3 m.kind,.slice true 1 (m.take.map Aa),.slice true 2 (m.give.map Bu),.slice true 6 (m.ahead.map A5),.slice false 6 (m.back.map A5)] else .cells 47 [A3 m.kind,.slice true 1 (m.take.map Aa),.slice true 2 (m.give.map Bu),.slice true 6 (m.ahead.map A5),.slice true 6 (m.back.map A5)])) (fun _=>[.cells 4 [.v (.bool fb)]]) Ab (by kernel_rfl) (Na ho hm) rfl (fun B=>U2_len) ?_
  apply Y.q
  case h1 =>
   intro B hT hF
   refine D.go (h:=Q.loadUp ((Eh n3 n4).trans hbm)) (hr:=?_)
   exact Z56
  case hTF=>decide
  refine Y.loadUpT (o:=om) (t':=47) (cs:=[A3 m.kind,.slice true 1 (m.take.map Aa),.slice true 2 (m.give.map Bu),.slice true 6 (m.ahead.map A5),.slice true 6 (m.back.map A5)]) (cs':=[A3 m.kind,.slice true 1 (m.take.map Aa),.slice true 2 (m.give.map Bu),.slice true 6 (m.ahead.map A5),.slice false 6 (m.back.map A5)]) Tryz.isAgg45 (fun B hB=>⟨by simp only [hB];exact Cl hm,U2_setm.symm,rfl⟩) ?_
  apply Y.q
  case h1 =>
   intro B hT hF
   refine D.go (h:=Q.loadUp ((Eh n1 n2).trans hbp)) (hr:=?_)
   exact Mh
  case hTF=>decide
  refine Y.callUp (r:=A5 x) (o:=o) (x0:=pmO L i) (x:=pmO L k) Tryz.call160 (fun B hB1 hB2 hB=>⟨by simp only [hB];exact Ba ho hne,(By hne).symm,rfl,Ay,?_⟩) ?_
  ·simp only [hB]
   exact ABa
  apply Y.q
  case h1 =>
   intro B hT hF
   exact j9
  case hTF=>decide
  refine Y.put2 (tn:=[3,5]) (U:=U2 L Hp o om k (.cells 47 [A3 m.kind,.slice true 1 (m.take.map Aa),.slice true 2 (m.give.map Bu),.slice true 6 (m.ahead.map A5),.slice false 6 (m.back.map A5)])) (O:=[.cells 4 [.v (.bool fb)]]) (o:=om) (t':=47) (cs:=[A3 m.kind,.slice true 1 (m.take.map Aa),.slice true 2 (m.give.map Bu),.slice true 6 (m.ahead.map A5),.slice false 6 (m.back.map A5)]) jU Tryz.type69 Tryz.sizeOf69 Tryz.sizeOf45 jU (A4 (Cl hm)) ?_ ?_ ?_ (hfsz:=Tryz.sizeOf45)
  ·simp [Tryz.t69];omega
  ·simp [Tryz.t69];omega
  refine Z1 ?_
  refine R.storeUpT jS (Cl hm) ?_ ?_
  ·exact M8
  exact zu
 rcases hT:Fw L i with ⟨x,k⟩|⟨e,a⟩
 rotate_left
 ·refine W.drawY0 [0,0,2,6,14,0,32,96,254,511,1023,2047] [6] [.q 6 [] [],.s [22] (some 0) [] [],.s [] none [0] [],.s [] none [0] [],.s [] none [0] [],.s [] none [0] [],.s [] none [0] []] (fun _=>Hp) (fun B=>[.cells 4 [.v (.bool fb)]]++bot (B 0)) Ab (by kernel_rfl) rfl rfl (fun _=>rfl) ?_
  apply Y.q
  case h1 =>
   intro B hT hF
   refine D.go (h:=Q.loadUp hbm) (hr:=?_)
   refine D.go (h:=Q.loadUp hbm) (hr:=?_)
   refine Z9 ?_
   refine D.go (h:=Q.loadUp hm) (hr:=?_)
   refine D.go (h:=Q.loadUp hbp) (hr:=?_)
   exact Mh
  case hTF=>decide
  refine Y.callBad (own0:=[.cells 4 [.v (.bool fb)]]) Tryz.call160 (fun B hB=>⟨rfl,by simp [bot,hB]⟩) ((rh L i o _ (A4 ho) hi hl hll).bad hT) ?_ ?_
  ·rintro x U O f hU hl' ⟨rfl,j',hH⟩
   obtain ⟨rfl,rfl⟩:=B8 hU (List.getElem?_eq_some_iff.1 ho).1 hH
   refine ⟨fun h=>B9 h (fun n=>Ay),fun o h=>(by cases h),?_⟩
   exact AB9
  refine Z13 ?_;exact t7
 have hk:=Jk hl hll hi hT
 refine W.drawY0 [0,0,2,6,14,0,32,96,254,511,1023,2047] [4,6] [.q 4 [] [],.s [20] (some 0) [] [],.q 1 [] [1],.s [22] (some 1) [] [],.q 1 [1] [],.s [20,24] none [0,1] []] (fun B=>U2 L Hp o om (if B 1=true then k else i) (if B 0=true then .cells 47 [A3 m.kind,.slice true 1 (m.take.map Aa),.slice true 2 (m.give.map Bu),.slice true 6 (m.ahead.map A5),.slice false 6 (m.back.map A5)] else .cells 47 [A3 m.kind,.slice true 1 (m.take.map Aa),.slice true 2 (m.give.map Bu),.slice true 6 (m.ahead.map A5),.slice true 6 (m.back.map A5)])) (fun _=>[.cells 4 [.v (.bool fb)]]) Ab (by kernel_rfl) (Na ho hm) rfl (fun B=>U2_len) ?_
 apply Y.q
 case h1 =>
  intro B hT hF
  refine D.go (h:=Q.loadUp ((Eh n3 n4).trans hbm)) (hr:=?_)
  refine D.go (h:=Q.loadUp ((Eh n3 n4).trans hbm)) (hr:=?_)
  exact Z56
 case hTF=>decide
 refine Y.loadUpT (o:=om) (t':=47) (cs:=[A3 m.kind,.slice true 1 (m.take.map Aa),.slice true 2 (m.give.map Bu),.slice true 6 (m.ahead.map A5),.slice true 6 (m.back.map A5)]) (cs':=[A3 m.kind,.slice true 1 (m.take.map Aa),.slice true 2 (m.give.map Bu),.slice true 6 (m.ahead.map A5),.slice false 6 (m.back.map A5)]) Tryz.isAgg45 (fun B hB=>⟨by simp only [hB];exact Cl hm,U2_setm.symm,rfl⟩) ?_
 apply Y.q
 case h1 =>
  intro B hT hF
  refine D.go (h:=Q.loadUp ((Eh n1 n2).trans hbp)) (hr:=?_)
  exact Mh
 case hTF=>decide
 refine Y.callUp (r:=A5 x) (o:=o) (x0:=pmO L i) (x:=pmO L k) Tryz.call160 (fun B hB1 hB2 hB=>⟨by simp only [hB];exact Ba ho hne,(By hne).symm,rfl,Ay,?_⟩) ?_
 ·simp only [hB]
  exact ABa
 apply Y.q
 case h1 =>
  intro B hT hF
  exact Z33
 case hTF=>decide
 refine Y.append jU Tryz.type69 ?_ ?_ ?_
 ·simp [Tryz.t69];omega
 ·simp [Tryz.t69];omega
 refine Y.tail (tn:=[4,6]) (U:=U2 L Hp o om k (.cells 47 [A3 m.kind,.slice true 1 (m.take.map Aa),.slice true 2 (m.give.map Bu),.slice true 6 (m.ahead.map A5),.slice false 6 (m.back.map A5)])) ?_;refine Z1 ?_
 refine R.storeUpT jS (Cl hm) ?_ ?_
 ·exact M8
 exact zu

theorem Cm {L:List Tok} {Hp:List AObj} {o om i j n:Nat} {x y:AObj} (hne:om≠o) (hy:ObjLow n y) (h:∀z∈U2 L Hp o om i x,ObjLow n z):∀z∈U2 L Hp o om j y,ObjLow n z:=by
 intro z hz
 rw [show U2 L Hp o om j y=((U2 L Hp o om i x).set o (pmO L j)).set om y by rw [By hne,U2_setm]] at hz
 rcases List.mem_or_eq_of_mem_set hz with hz|rfl
 ·rcases List.mem_or_eq_of_mem_set hz with hz|rfl
  ·exact h z hz
  exact Ay
 exact hy
theorem Dg {L:List Tok} {Hp own:List AObj} {o om i:Nat} {x:AObj} (h1:o<Hp.length) (h2:om<Hp.length):U2 L (Hp++own) o om i x=U2 L Hp o om i x++own:=by
 unfold U2
 rw [List.set_append_left _ _ h1,List.set_append_left _ _ (by simpa using h2)]
theorem Eb {L:List Tok} {Hp own U O:List AObj} {o om i:Nat} {x:AObj} (hne:om≠o) (h1:o<Hp.length) (h2:om<Hp.length) (hU:U.length=(U2 L Hp o om i x).length) (h:W2 L o om (U2 L Hp o om i x++own) (U++O)):W2 L o om Hp U∧own=O:=by
 obtain ⟨j,m,e⟩:=h
 rw [Dg (by rw [U2_len];exact h1) (by rw [U2_len];exact h2),Gu hne] at e
 obtain ⟨rfl,rfl⟩:=Hi (by rw [hU,U2_len,U2_len]) e
 exact ⟨⟨j,m,rfl⟩,rfl⟩
/-- Where the loop of things with commas between stands. -/
structure ListAt (L:List Tok) (n:Int) (one:Mov→Nat→PR Mov) (X:PR Mov) (x:Nat×Mov×Nat):Prop where
 lt:x.2.2<L.length
 pos:0<x.2.2
 le:MvLe x.2.1 (2*x.2.2)
 k:x.1≤x.2.2
 fuel:∃f,X=Fz L n one f x.1 x.2.1 x.2.2∧L.length-x.2.2<f
theorem ListAt.step {L:List Tok} {n:Int} {one:Mov→Nat→PR Mov} {X:PR Mov} {x:Nat×Mov×Nat} (h:ListAt L n one X x) (hq:H7 L n x.1 x.2.2=true):∃f,X=((Bc L [44] x.2.2).bind fun _ j=>(one x.2.1 j).bind fun m j=>Fz L n one f (x.1+1) m j)∧L.length-x.2.2<f+1:=by
 obtain ⟨f,e,hf⟩:=h.fuel
 obtain ⟨f,rfl⟩:∃g,f=g+1:=⟨f-1,by omega⟩
 refine ⟨f,?_,hf⟩
 rw [e,Fz,if_pos hq]
theorem ListAt.on {L:List Tok} (hl:TokEnd L) {n:Int} {one:Mov→Nat→PR Mov} (hP:Tf L one) {X:PR Mov} {x:Nat×Mov×Nat} (h:ListAt L n one X x) (hq:H7 L n x.1 x.2.2=true) {u:Unit} {j:Nat} (hW:Bc L [44] x.2.2=.ok u j) {m2:Mov} {j2:Nat} (hO:one x.2.1 j=.ok m2 j2):ListAt L n one X (x.1+1,m2,j2)∧x.2.2<j2:=by
 obtain ⟨f,e,hf⟩:=h.step hq
 have h1:=D8 hl h.lt _ _ hW
 have hj:j=x.2.2+1:=by
  unfold Bc at hW
  split at hW
  ·injection hW with _ h;exact h.symm
  cases hW
 obtain ⟨a1,a2,a3⟩:=hP x.2.1 j (h.le.mono (by omega)) (by omega) h1.2 _ _ hO
 have:=h.k
 refine ⟨⟨a2,by show 0<j2;omega,a3,by show x.1+1≤j2;omega,f,?_,by show L.length-j2<f;omega⟩,by omega⟩
 rw [e,hW]
 show (one x.2.1 j).bind _=_
 rw [hO];rfl
theorem ListAt.bad1 {L:List Tok} {n:Int} {one:Mov→Nat→PR Mov} {X:PR Mov} {x:Nat×Mov×Nat} (h:ListAt L n one X x) (hq:H7 L n x.1 x.2.2=true) {e a:Int} (hW:Bc L [44] x.2.2=.bad e a):X=.bad e a:=by
 obtain ⟨f,e,_⟩:=h.step hq
 rw [e,hW];rfl
theorem ListAt.bad2 {L:List Tok} {n:Int} {one:Mov→Nat→PR Mov} {X:PR Mov} {x:Nat×Mov×Nat} (h:ListAt L n one X x) (hq:H7 L n x.1 x.2.2=true) {u:Unit} {j:Nat} (hW:Bc L [44] x.2.2=.ok u j) {e a:Int} (hO:one x.2.1 j=.bad e a):X=.bad e a:=by
 obtain ⟨f,e,_⟩:=h.step hq
 rw [e,hW]
 show (one x.2.1 j).bind _=_
 rw [hO];rfl
theorem ListAt.out {L:List Tok} {n:Int} {one:Mov→Nat→PR Mov} {X:PR Mov} {x:Nat×Mov×Nat} (h:ListAt L n one X x) (hq:H7 L n x.1 x.2.2=false):X=.ok x.2.1 x.2.2:=by
 obtain ⟨f,e,hf⟩:=h.fuel
 obtain ⟨f,rfl⟩:∃g,f=g+1:=⟨f-1,by omega⟩
 rw [e,Fz,if_neg (by rw [hq];simp)]
theorem AE9 (L:List Tok) (m:Mov) (i o om bp bm:Nat) (Hp:List AObj) (hne:om≠o) (ho:Hp[o]? = some (pmO L i)) (hm:Hp[om]? = some (mvO m)) (hbp:Hp[bp]? = some (.cells 51 [.ptr o 0])) (hbm:Hp[bm]? = some (.cells 102 [.ptr om 0])) (hi:i<L.length) (hl:TokEnd L) (hll:L.length≤500000) (hb:MvLe m (2*i-1)):CP 129 [.ptr bm 0,.ptr bp 0] Hp (Ii L m i) (fun m' j r H'=>r=Lq∧H'=U2 L Hp o om j (mvO m')) (W2 L o om Hp):=by
 have n1:bp≠o:=fun e=>by rw [e,ho] at hbp;simp at hbp
 have n2:bp≠om:=fun e=>by rw [e,hm] at hbp;simp at hbp
 have n3:bm≠o:=fun e=>by rw [e,ho] at hbm;simp at hbm
 have n4:bm≠om:=fun e=>by rw [e,hm] at hbm;simp at hbm
 have:=hb.take;have:=hb.give;have:=hb.ahead;have:=hb.back
 refine ACallP.body [] [0,1] Tryz.func129 Tryz.ntmps129 (fun d=>?_)
 rcases hT:De L i with ⟨s,k⟩|⟨e,a⟩
 rotate_left
 ·refine W.drawY0 [0,0,2,6,14,0,32,96,254,511,1023,2047] [6] [.q 6 [] [],.s [8] (some 0) [] [],.s [] none [0] [],.s [] none [0] [],.s [] none [0] [],.s [] none [0] [],.s [] none [0] []] (fun _=>Hp) (fun B=>[]++bot (B 0)) Ab (by kernel_rfl) rfl rfl (fun _=>rfl) ?_
  apply Y.q
  case h1 =>
   intro B hT hF
   refine D.go (h:=Q.loadUp hbm) (hr:=?_)
   refine D.go (h:=Q.loadUp hbm) (hr:=?_)
   refine Z9 ?_
   refine D.go (h:=Q.loadUp hm) (hr:=?_)
   refine D.go (h:=Q.loadUp hbp) (hr:=?_)
   exact Mh
  case hTF=>decide
  refine Y.callBad (own0:=[]) Tryz.call124 (fun B hB=>⟨rfl,by simp [bot,hB]⟩) ((Pl L i o _ (A4 ho) hi hll).bad hT) ?_ ?_
  ·rintro x U O f hU hl' ⟨rfl,j',hH⟩
   obtain ⟨rfl,rfl⟩:=B8 hU (List.getElem?_eq_some_iff.1 ho).1 hH
   refine ⟨fun h=>B9 h (fun n=>Ay),fun o h=>(by cases h),?_⟩
   exact K.finPP ⟨_,_,by unfold Ii;rw [hT];rfl,rfl,j',m,dj hne hm⟩
  refine Z13 ?_;exact t7
 have hk:=Ej hl hi _ _ hT
 refine W.drawY0 [0,0,2,6,14,0,32,96,254,511,1023,2047] [4,6] [.q 4 [] [],.s [6] (some 0) [] [],.q 1 [] [1],.s [8] (some 1) [] [],.q 1 [1] [],.s [6,10] none [0,1] []] (fun B=>U2 L Hp o om (if B 1=true then k else i) (if B 0=true then .cells 47 [A3 m.kind,.slice false 1 (m.take.map Aa),.slice true 2 (m.give.map Bu),.slice true 6 (m.ahead.map A5),.slice true 6 (m.back.map A5)] else .cells 47 [A3 m.kind,.slice true 1 (m.take.map Aa),.slice true 2 (m.give.map Bu),.slice true 6 (m.ahead.map A5),.slice true 6 (m.back.map A5)])) (fun _=>[]) Ab (by kernel_rfl) (Na ho hm) rfl (fun B=>U2_len) ?_
 apply Y.q
 case h1 =>
  intro B hT hF
  refine D.go (h:=Q.loadUp ((Eh n3 n4).trans hbm)) (hr:=?_)
  refine D.go (h:=Q.loadUp ((Eh n3 n4).trans hbm)) (hr:=?_)
  exact Z56
 case hTF=>decide
 refine Y.loadUpT (o:=om) (t':=47) (cs:=[A3 m.kind,.slice true 1 (m.take.map Aa),.slice true 2 (m.give.map Bu),.slice true 6 (m.ahead.map A5),.slice true 6 (m.back.map A5)]) (cs':=[A3 m.kind,.slice false 1 (m.take.map Aa),.slice true 2 (m.give.map Bu),.slice true 6 (m.ahead.map A5),.slice true 6 (m.back.map A5)]) Tryz.isAgg29 (fun B hB=>⟨by simp only [hB];exact Cl hm,U2_setm.symm,rfl⟩) ?_
 apply Y.q
 case h1 =>
  intro B hT hF
  refine D.go (h:=Q.loadUp ((Eh n1 n2).trans hbp)) (hr:=?_)
  exact Mh
 case hTF=>decide
 refine Y.callUp (r:=Aa s) (o:=o) (x0:=pmO L i) (x:=pmO L k) Tryz.call124 (fun B hB1 hB2 hB=>⟨by simp only [hB];exact Ba ho hne,(By hne).symm,rfl,Ay,?_⟩) ?_
 ·simp only [hB]
  exact (Pl L i o _ (A4 (Ba ho hne)) hi hll).ok hT
 apply Y.q
 case h1 =>
  intro B hT hF
  exact Z33
 case hTF=>decide
 refine Y.append jU Tryz.type9 ?_ ?_ ?_
 ·simp [Tryz.t9];omega
 ·simp [Tryz.t9];omega
 refine Y.tail (tn:=[4,6]) (U:=U2 L Hp o om k (.cells 47 [A3 m.kind,.slice false 1 (m.take.map Aa),.slice true 2 (m.give.map Bu),.slice true 6 (m.ahead.map A5),.slice true 6 (m.back.map A5)])) ?_;refine Z1 ?_
 refine R.storeUpT jS (Cl hm) ?_ ?_
 ·simp [or_imp,forall_and]
 refine R.fin [] ?_;exact K.finPN .nores (hp:=⟨S7 m s,k,by unfold Ii;rw [hT];rfl,rfl,by exact lq⟩)

theorem AEa (L:List Tok) (m:Mov) (i o om bp bm:Nat) (Hp:List AObj) (hne:om≠o) (ho:Hp[o]? = some (pmO L i)) (hm:Hp[om]? = some (mvO m)) (hbp:Hp[bp]? = some (.cells 51 [.ptr o 0])) (hbm:Hp[bm]? = some (.cells 102 [.ptr om 0])) (hi:i<L.length) (hl:TokEnd L) (hll:L.length≤500000) (hb:MvLe m (2*i-1)):CP 128 [.ptr bp 0,.ptr bm 0] Hp (C0 L m i) (fun m' j r H'=>r=Lq∧H'=U2 L Hp o om j (mvO m')) (W2 L o om Hp):=by
 have hol:=(List.getElem?_eq_some_iff.1 ho).1
 have hml:=(List.getElem?_eq_some_iff.1 hm).1
 have n1:bp≠o:=fun e=>by rw [e,ho] at hbp;simp at hbp
 have n2:bp≠om:=fun e=>by rw [e,hm] at hbp;simp at hbp
 have n3:bm≠o:=fun e=>by rw [e,ho] at hbm;simp at hbm
 have n4:bm≠om:=fun e=>by rw [e,hm] at hbm;simp at hbm
 have:=hb.take;have:=hb.give;have:=hb.ahead;have:=hb.back
 refine ACallP.body [] [0,1] Tryz.func128 Tryz.ntmps128 (fun d=>?_)
 refine nq ?_
 rcases hT:C0 L m i with ⟨m2,k⟩|⟨e,a⟩
 rotate_left
 ·refine AW.regionK ?_
  refine ARunK.one (R.go (h:=Q.loadUp ((Eh n1 n2).trans hbp)) (hr:=ARun.nil ?_))
  refine ARunK.one (R.go (h:=Q.loadUp ((Eh n3 n4).trans hbm)) (hr:=ARun.nil ?_))
  refine RK.callBad Tryz.call123 ((dk L m i o om _ hne (A4 (Ba ho hne)) (A4 (Cl hm)) hi hl hll hb).bad hT) ?_
  rintro x U O hU hl' ⟨rfl,hW2⟩
  obtain ⟨⟨j',m',rfl⟩,rfl⟩:=Eb hne hol hml hU hW2
  refine ⟨fun h=>Cm hne Bt h,fun o h=>(by cases h),?_⟩
  exact K.finPP ⟨_,_,rfl,rfl,j',m',rfl⟩
 refine AW.region ?_
 refine R.go (h:=Q.loadUp ((Eh n1 n2).trans hbp)) (hr:=?_)
 refine R.go (h:=Q.loadUp ((Eh n3 n4).trans hbm)) (hr:=?_)
 refine R.callX (up':=U2 L Hp o om k (mvO m2)) (own':=[]) Tryz.call123 (((dk L m i o om _ hne (A4 (Ba ho hne)) (A4 (Cl hm)) hi hl hll hb).ok hT).mono (fun r H' e=>⟨e.1,e.2.trans (by rw [List.append_nil,List.append_nil,Gu hne])⟩)) (by rw [U2_len,U2_len]) (fun h=>Cm hne Bt h) ?_;refine R.fin [] ?_;exact K.finPN .nores (hp:=⟨m2,k,rfl,rfl,rfl⟩)

theorem c127 (L:List Tok) (n:Int) (m:Mov) (i o om g:Nat) (caps:List AV) (one:Mov→Nat→PR Mov) (Hp:List AObj) (hne:om≠o) (ho:Hp[o]? = some (pmO L i)) (hm:Hp[om]? = some (mvO m)) (h0:0<i) (hi:i<L.length) (hl:TokEnd L) (hll:L.length≤500000) (hb:MvLe m (2*i-1)) (hcall:∀args w,(callFunc g args).run Tryz.prog w=.ok (.enter g args) w) (hC:gt L o om g caps Hp one) (hP:Tf L one):CP 127 [.ptr o 0,A3 n,.fn (.func g) [] caps] Hp (Df L n one m i) (fun m' j r H'=>r=Lq∧H'=U2 L Hp o om j (mvO m')) (W2 L o om Hp):=by
 have hol:=(List.getElem?_eq_some_iff.1 ho).1
 have hml:=(List.getElem?_eq_some_iff.1 hm).1
 refine ACallP.body [] [0,1,2] Tryz.func127 Tryz.ntmps127 (fun d=>?_)
 refine nq ?_
 rcases h1:one m i with ⟨m1,j1⟩|⟨e,a⟩
 rotate_left
 ·refine AW.seqRK ?_
  refine ARunK.one (R.go (ARun.nil ?_))
  refine RK.callBad hcall (by rw [List.append_nil];exact (hC m i hb h0 hi).bad h1) ?_
  rintro z U O hU hl' ⟨rfl,j',m',hH⟩
  obtain ⟨rfl,rfl⟩:=Hi (A:=U2 L Hp o om j' (mvO m')) (B:=[]) (by rw [hU,U2_len,U2_len]) (hH.trans (List.append_nil _).symm)
  refine ⟨fun h=>Cm hne Bt h,fun o h=>(by cases h),?_⟩
  refine K.thP ?_;exact K.finPP ⟨_,_,by unfold Df;rw [h1];rfl,rfl,j',m',rfl⟩
 have g1:=hP m i hb h0 hi _ _ h1
 have e0:Df L n one m i=Fz L n one (L.length+1) 1 m1 j1:=by unfold Df;rw [h1];rfl
 refine Z0 ?_
 refine R.callVX (up':=U2 L Hp o om j1 (mvO m1)) (own':=[]) hcall (by rw [List.append_nil,List.append_nil];exact (hC m i hb h0 hi).ok h1) (by rw [U2_len,U2_len]) (fun h=>Cm hne Bt h) ?_
 refine R.fin [0,1,2] ?_;refine Z0 ?_;refine b6 ?_
 refine AW.loopC (α:=Nat×Mov×Nat) (fun x=>⟨30,A6 0 (.ptr o 0) (A6 1 (A3 n) (A6 2 (.fn (.func g) [] caps) (A6 6 (A3 (x.1:Int)) (fun _=>.any)))),U2 L Hp o om x.2.2 (mvO x.2.1),[],[],none⟩) (fun x=>ListAt L n one (Df L n one m i) x) (fun x=>L.length-x.2.2) ((1,m1,j1)) ⟨g1.2.1,by show 0<j1;omega,g1.2.2,by show 1≤j1;omega,_,e0,by show L.length-j1<_;omega⟩ (StLe.refl _) rfl (fun x hx=>?_)
 refine Z55 ?_;refine Z53 ?_;refine Z4 ?_;refine G.go ?_;refine G.call Tryz.call130 (fun hB=>AC9 L [44] x.2.2 o _ (A4 (Ba ho hne)) hx.lt) ?_;refine Qo ?_;refine R.fin [0,1,2,6,23] ?_
 refine W.cond (fun ht23=>?_) (fun ht23=>?_)
 ·have hq:H7 L n x.1 x.2.2=true:=ht23
  refine Z44 ?_
  rcases hW:Bc L [44] x.2.2 with ⟨u,j⟩|⟨e,a⟩
  rotate_left
  ·refine AW.seqRK ?_
   refine ARunK.one (R.go (ARun.nil ?_))
   refine RK.callBad Tryz.call92 ((c92 L [44] x.2.2 o _ (A4 (Ba ho hne)) hx.lt hll).bad hW) ?_
   rintro z U O hU hl' ⟨rfl,j',hH⟩
   obtain ⟨rfl,rfl⟩:=B8 hU (List.getElem?_eq_some_iff.1 (Ba (L:=L) (i:=x.2.2) (x:=mvO x.2.1) ho hne)).1 hH
   refine ⟨fun h=>B9 h (fun n=>Ay),fun o h=>(by cases h),?_⟩
   refine Xg ?_;refine K.thP ?_;refine K.lpP ?_;exact K.finPP ⟨_,_,hx.bad1 hq hW,rfl,j',x.2.1,By hne⟩
  have hj:=D8 hl hx.lt _ _ hW
  have hpos:=hx.pos
  refine Z0 ?_;refine R.callUp (x:=pmO L j) Tryz.call92 (Ba ho hne) (by simp) Ay ((c92 L [44] x.2.2 o _ (A4 (Ba ho hne)) hx.lt hll).ok hW) ?_
  rw [By hne]
  refine b6 ?_
  rcases hO:one x.2.1 j with ⟨m2,j2⟩|⟨e,a⟩
  rotate_left
  ·refine AW.regionK ?_
   refine ARunK.one (R.go (ARun.nil ?_))
   refine RK.callBad hcall (by rw [List.append_nil];exact (hC x.2.1 j (hx.le.mono (by omega)) (by omega) hj.2).bad hO) ?_
   rintro z U O hU hl' ⟨rfl,j',m',hH⟩
   obtain ⟨rfl,rfl⟩:=Hi (A:=U2 L Hp o om j' (mvO m')) (B:=[]) (by rw [hU,U2_len,U2_len]) (hH.trans (List.append_nil _).symm)
   refine ⟨fun h=>Cm hne Bt h,fun o h=>(by cases h),?_⟩
   refine K.blP ?_;refine K.thP ?_;refine K.lpP ?_;exact K.finPP ⟨_,_,hx.bad2 hq hW hO,rfl,j',m',rfl⟩
  have hon:=hx.on hl hP hq hW hO
  refine Z66 ?_
  refine R.callVX (up':=U2 L Hp o om j2 (mvO m2)) (own':=[]) hcall (by rw [List.append_nil,List.append_nil];exact (hC x.2.1 j (hx.le.mono (by omega)) (by omega) hj.2).ok hO) (by rw [U2_len,U2_len]) (fun h=>Cm hne Bt h) ?_
  refine b6 ?_;refine ar ?_
  refine R.go (h:=Q.add64 (h2:=fun _=>by have:=hx.k;have:=hx.lt;omega)) (hr:=?_)
  refine R.go ?_;refine b6 ?_
  refine K.lpN (x.1+1,m2,j2) hon.1 (by have:=hx.lt;have:=hon.2;show L.length-j2<L.length-x.2.2;omega) (StCut.of_eq rfl)
 have hq:H7 L n x.1 x.2.2=false:=ht23
 have e:=hx.out hq
 refine Z25 ?_;refine K.lpE ?_;exact K.finPN .nores (hp:=⟨_,_,e,rfl,rfl⟩)

theorem CP.mono {g:FuncId} {args:List AV} {H:List AObj} {α:Type} {X:PR α} {Q Q':α→Nat→AV→List AObj→Prop} {R R':List AObj→Prop} (h:CP g args H X Q R) (hQ:∀c j r H',Q c j r H'→Q' c j r H') (hR:∀H',R H'→R' H'):CP g args H X Q' R':=
 ACallP.mono h (fun r H' ⟨c,j,e,hq⟩=>⟨c,j,e,hQ _ _ _ _ hq⟩) (fun v H' ⟨e,a,e1,e2,h⟩=>⟨e,a,e1,e2,hR _ h⟩)
section
variable {L:List Tok} {o om bp bm:Nat} {X:List AObj} {z z':AObj}
theorem Ux (hne:om≠o) (ho:X[o]? = some z) (hm:X[om]? = some z') (hbp:X[bp]? = some (.cells 51 [.ptr o 0])) (hbm:X[bm]? = some (.cells 102 [.ptr om 0])) (n1:bp≠o) (n2:bp≠om) (n3:bm≠o) (n4:bm≠om) (hl:TokEnd L) (hll:L.length≤500000):gt L o om 161 [.ptr bm 0,.ptr bp 0] X (Kl L):=
 fun m i hb _ hi=>(AE8 L m i o om bp bm (U2 L X o om i (mvO m)) hne (Ba ho hne) (Cl hm) ((Eh n1 n2).trans hbp) ((Eh n3 n4).trans hbm) hi hl hll hb).mono (fun c j r H' e=>⟨e.1,e.2.trans (Gu hne)⟩) (fun H' h=>ri hne h)
theorem Uy (hne:om≠o) (ho:X[o]? = some z) (hm:X[om]? = some z') (hbp:X[bp]? = some (.cells 51 [.ptr o 0])) (hbm:X[bm]? = some (.cells 102 [.ptr om 0])) (n1:bp≠o) (n2:bp≠om) (n3:bm≠o) (n4:bm≠om) (hl:TokEnd L) (hll:L.length≤500000):gt L o om 129 [.ptr bm 0,.ptr bp 0] X (Ii L):=
 fun m i hb _ hi=>(AE9 L m i o om bp bm (U2 L X o om i (mvO m)) hne (Ba ho hne) (Cl hm) ((Eh n1 n2).trans hbp) ((Eh n3 n4).trans hbm) hi hl hll hb).mono (fun c j r H' e=>⟨e.1,e.2.trans (Gu hne)⟩) (fun H' h=>ri hne h)
theorem Uz (hne:om≠o) (ho:X[o]? = some z) (hm:X[om]? = some z') (hbp:X[bp]? = some (.cells 51 [.ptr o 0])) (hbm:X[bm]? = some (.cells 102 [.ptr om 0])) (n1:bp≠o) (n2:bp≠om) (n3:bm≠o) (n4:bm≠om) (hl:TokEnd L) (hll:L.length≤500000):gt L o om 128 [.ptr bp 0,.ptr bm 0] X (C0 L):=
 fun m i hb _ hi=>(AEa L m i o om bp bm (U2 L X o om i (mvO m)) hne (Ba ho hne) (Cl hm) ((Eh n1 n2).trans hbp) ((Eh n3 n4).trans hbm) hi hl hll hb).mono (fun c j r H' e=>⟨e.1,e.2.trans (Gu hne)⟩) (fun H' h=>ri hne h)
end
attribute [go_sem] U2_len
theorem Pm {L:List Tok} {Hp own:List AObj} {o om i n:Nat} {x z:AObj} (h:own[n]? = some z):(U2 L Hp o om i x++own)[oid Hp.length n]? = some z:=by
 unfold oid
 rw [List.getElem?_append_right (by rw [U2_len];omega),U2_len,Nat.add_sub_cancel_left]
 exact h
theorem D9 {n k o:Nat} (h:o<n):oid n k≠o:=by unfold oid;omega
theorem Zg (L:List Tok) (m:Mov) (i o om:Nat) (Hp:List AObj) (hne:om≠o) (ho:Hp[o]? = some (pmO L i)) (hm:Hp[om]? = some (mvO m)) (hi:i<L.length) (hl:TokEnd L) (hll:L.length≤500000) (hb:MvLe m (2*i)):CP 125 [.ptr o 0,.ptr om 0] Hp (Ck L m i) (fun m' j r H'=>r=Lq∧H'=U2 L Hp o om j (mvO m')) (W2 L o om Hp):=by
 have hol:=(List.getElem?_eq_some_iff.1 ho).1
 have hml:=(List.getElem?_eq_some_iff.1 hm).1
 refine ACallP.body [] [0,1] Tryz.func125 Tryz.ntmps125 (fun d=>?_)
 refine E4 ?_;refine R.box ?_;refine R.box ?_;refine Jv ?_;refine nq ?_
 rcases hW:Bc L backW i with ⟨u,j⟩|⟨e,a⟩
 rotate_left
 ·refine AW.seqRK ?_
  refine ARunK.one (R.go (ARun.nil ?_))
  refine RK.callBad Tryz.call92 (c92 L backW i o _ (A4 (Ba ho hne)) hi hll |>.bad hW) ?_
  rintro x U O hU hl' ⟨rfl,j',hH⟩
  obtain ⟨rfl,rfl⟩:=B8 hU (List.getElem?_eq_some_iff.1 (Ba (L:=L) (i:=i) (x:=mvO m) ho hne)).1 hH
  refine ⟨fun h=>B9 h (fun n=>Ay),fun o h=>(by cases h),?_⟩
  refine K.thP ?_;exact K.finPP ⟨_,_,by unfold Ck;rw [hW];rfl,rfl,j',m,By hne⟩
 have hj:=D8 hl hi _ _ hW
 refine Z0 ?_;refine R.callUp (x:=pmO L j) Tryz.call92 (Ba ho hne) (by simp) Ay ((c92 L backW i o _ (A4 (Ba ho hne)) hi hll).ok hW) ?_
 rw [By hne]
 refine Jv ?_
 rcases hP:Df L ((m.take.map Aa).length:Int) (Kl L) m j with ⟨m2,k⟩|⟨e,a⟩
 rotate_left
 ·refine W.drawY0 [0,0,2,6,14,30,0,127] [7] [.q 7 [] [],.s [13] (some 0) [] []] (fun _=>U2 L Hp o om j (mvO m)) (fun B=>[.cells 51 [.ptr o 0],.cells 102 [.ptr om 0]]++bot (B 0)) Ab (by kernel_rfl) rfl rfl (fun _=>rfl) ?_
  apply Y.q
  case h1 =>
   intro B hT hF
   refine Pi ?_
   refine D.go (h:=Q.loadUp (Cl hm)) (hr:=?_)
   refine D.go ?_;refine D.makeFunc ?_;exact Mh
  case hTF=>decide
  refine Y.callBad (own0:=[.cells 51 [.ptr o 0],.cells 102 [.ptr om 0]]) Tryz.call127 (fun B hB=>⟨rfl,by simp [bot,hB]⟩) ((c127 L (((m.take.map Aa).length:Int)) m j o om 161 [.ptr (oid Hp.length 1) 0,.ptr (oid Hp.length 0) 0] (Kl L) (U2 L Hp o om j (mvO m)++[.cells 51 [.ptr o 0],.cells 102 [.ptr om 0]]) hne (A4 (Ba ho hne)) (A4 (Cl hm)) (by omega) hj.2 hl hll (hb.mono (by omega)) Tryz.call161 (Ux (z:=pmO L j) (z':=mvO m) hne (A4 (Ba ho hne)) (A4 (Cl hm)) (Pm rfl) (Pm rfl) (D9 hol) (D9 hml) (D9 hol) (D9 hml) hl hll) (S8 hl hll)).bad hP) ?_ ?_
  ·rintro x U O f hU hl' ⟨rfl,hW2⟩
   obtain ⟨⟨j',m',rfl⟩,rfl⟩:=Eb hne hol hml hU hW2
   refine ⟨fun h=>Cm hne Bt h,fun o h=>(by cases h),?_⟩
   exact K.finPP ⟨_,_,by unfold Ck;rw [hW];show Df L _ _ m j=_;rw [←hP,List.length_map],rfl,j',m',rfl⟩
  exact tj
 refine W.drawQ0 [0,0,2,6,14,30,0,127] 7 Ab (by kernel_rfl) ?_;refine Pi ?_
 refine D.go (h:=Q.loadUp (Cl hm)) (hr:=?_)
 refine D.go ?_;refine D.makeFunc ?_;refine D.tail ?_
 refine R.callX (up':=U2 L Hp o om k (mvO m2)) (own':=[.cells 51 [.ptr o 0],.cells 102 [.ptr om 0]]) Tryz.call127 (((c127 L (((m.take.map Aa).length:Int)) m j o om 161 [.ptr (oid Hp.length 1) 0,.ptr (oid Hp.length 0) 0] (Kl L) (U2 L Hp o om j (mvO m)++[.cells 51 [.ptr o 0],.cells 102 [.ptr om 0]]) hne (A4 (Ba ho hne)) (A4 (Cl hm)) (by omega) hj.2 hl hll (hb.mono (by omega)) Tryz.call161 (Ux (z:=pmO L j) (z':=mvO m) hne (A4 (Ba ho hne)) (A4 (Cl hm)) (Pm rfl) (Pm rfl) (D9 hol) (D9 hml) (D9 hol) (D9 hml) hl hll) (S8 hl hll)).ok hP).mono (fun r H' e=>⟨e.1,e.2.trans (by first|rw [Dg (by rw [U2_len];exact hol) (by rw [U2_len];exact hml),Gu hne]|rw [Dg hol hml])⟩)) (by first|rfl|rw [U2_len,U2_len]|rw [U2_len]) (fun h=>Cm hne Bt h) ?_
 refine R.fin [] ?_;exact K.finPN .nores (hp:=⟨m2,k,by unfold Ck;rw [hW];show Df L _ _ m j=_;rw [←hP,List.length_map],rfl,rfl⟩)

theorem V0 {L:List Tok} {Hp:List AObj} {o om i:Nat} {m:Mov} {s:Str} {x:AObj}:(U2 L Hp o om i x).set om (.cells 47 [A3 m.kind,.slice true 1 [Aa s],.slice true 2 (m.give.map Bu),.slice true 6 (m.ahead.map A5),.slice true 6 (m.back.map A5)])=U2 L Hp o om i (mvO (takeS m s)):=U2_setm
theorem gu {n:Nat} {x:Expr}:Low n (.slice true 6 [.agg (Cs x)]):=by
 have:=Dy (n:=n) (k:=6) (o:=true) (l:=[x])
 simp only [List.map_cons,List.map_nil] at this
 rw [Ac] at this
 exact this
theorem Zh {n:Nat} {x:Expr}:Low n (.slice true 6 [A5 x]):=Dy (l:=[x])
theorem rj {L:List Tok} {m m1:Mov} {i k:Nat} (h:C0 L m i=.ok m1 k):(m1.give.map Bu)[0]? = some (Bu (m1.give.getD 0 ⟨[],0⟩)):=by
 obtain ⟨c,j,h1,h2⟩:=PR.bind_ok h
 obtain ⟨u,j2,h3,h4⟩:=PR.bind_ok h2
 obtain ⟨x,j3,h5,h6⟩:=PR.bind_ok h4
 injection h6 with h6 h7
 subst h6
 show ((m.give++[c]).map Bu)[0]? = some (Bu ((m.give++[c]).getD 0 ⟨[],0⟩))
 cases m.give<;>rfl
section
variable {L:List Tok} {m:Mov} {i:Nat}
theorem rk (h1:(m.kind==1)=true):Ei L m i=C0 L m i:=if_pos h1
theorem dl (h1:(m.kind==1)=false) (h2:(m.kind==2)=true):Ei L m i=(De L i).bind fun s j=>Ck L (takeS m s) j:=by
 unfold Ei;rw [if_neg (by rw [h1];simp),if_pos h2]
theorem rl (h1:(m.kind==1)=false) (h2:(m.kind==2)=false) (h3:(m.kind==3)=true):Ei L m i=Gf L m i:=by
 unfold Ei;rw [if_neg (by rw [h1];simp),if_neg (by rw [h2];simp),if_pos h3]
theorem Sr (h1:(m.kind==1)=false) (h2:(m.kind==2)=false) (h3:(m.kind==3)=false) (h4:(m.kind==4)=true):Ei L m i=(De L i).bind fun s j=>(Bc L intoW j).bind fun _ j=>(Df L 0 (C0 L) (takeS m s) j).bind fun m j=>Ck L m j:=by
 unfold Ei;rw [if_neg (by rw [h1];simp),if_neg (by rw [h2];simp),if_neg (by rw [h3];simp),if_pos h4]
theorem Ss (h1:(m.kind==1)=false) (h2:(m.kind==2)=false) (h3:(m.kind==3)=false) (h4:(m.kind==4)=false) (h5:(m.kind==5)=true):Ei L m i=(Df L 0 (Ii L) m i).bind fun m j=>(Bc L intoW j).bind fun _ j=>(C0 L m j).bind fun m j=>Ck L m j:=by
 unfold Ei;rw [if_neg (by rw [h1];simp),if_neg (by rw [h2];simp),if_neg (by rw [h3];simp),if_neg (by rw [h4];simp),if_pos h5]
theorem dm (h1:(m.kind==1)=false) (h2:(m.kind==2)=false) (h3:(m.kind==3)=false) (h4:(m.kind==4)=false) (h5:(m.kind==5)=false) (h6:(m.kind==6)=true):Ei L m i=(C0 L m i).bind fun m j=>Ck L (takeS m (m.give.getD 0 ⟨[],0⟩).name) j:=by
 unfold Ei;rw [if_neg (by rw [h1];simp),if_neg (by rw [h2];simp),if_neg (by rw [h3];simp),if_neg (by rw [h4];simp),if_neg (by rw [h5];simp),if_pos h6]
theorem ze (h1:(m.kind==1)=false) (h2:(m.kind==2)=false) (h3:(m.kind==3)=false) (h4:(m.kind==4)=false) (h5:(m.kind==5)=false) (h6:(m.kind==6)=false):Ei L m i=.ok m i:=by
 unfold Ei;rw [if_neg (by rw [h1];simp),if_neg (by rw [h2];simp),if_neg (by rw [h3];simp),if_neg (by rw [h4];simp),if_neg (by rw [h5];simp),if_neg (by rw [h6];simp)]
end
theorem ACb (L:List Tok) (m:Mov) (i o om:Nat) (Hp:List AObj) (hne:om≠o) (ho:Hp[o]? = some (pmO L i)) (hm:Hp[om]? = some (mvO m)) (hi:i<L.length) (hl:TokEnd L) (hll:L.length≤500000) (hb:MvLe m (2*i-1)):CP 126 [.ptr o 0,.ptr om 0] Hp (Gf L m i) (fun m' j r H'=>r=Lq∧H'=U2 L Hp o om j (mvO m')) (W2 L o om Hp):=by
 refine ACallP.body [] [0,1] Tryz.func126 Tryz.ntmps126 (fun d=>?_)
 refine nq ?_
 rcases h1:De L i with ⟨s,j⟩|⟨e,a⟩
 rotate_left
 ·refine AW.seqRK ?_
  refine ARunK.one (R.go (ARun.nil ?_))
  refine ARunK.one (R.go (ARun.nil ?_))
  refine RK.callBad Tryz.call124 ((Pl L i o _ (A4 (Ba ho hne)) hi hll).bad h1) ?_
  rintro x U O hU hl' ⟨rfl,j',hH⟩
  obtain ⟨rfl,rfl⟩:=B8 hU (List.getElem?_eq_some_iff.1 (Ba (L:=L) (i:=i) (x:=mvO m) ho hne)).1 hH
  refine ⟨fun h=>B9 h (fun n=>Ay),fun o h=>(by cases h),?_⟩
  refine K.thP ?_;exact K.finPP ⟨_,_,by unfold Gf;rw [h1];rfl,rfl,j',m,By hne⟩
 have hj:=Ej hl hi _ _ h1
 refine Z3 ?_;refine R.callUp (x:=pmO L j) Tryz.call124 (Ba ho hne) (by simp) Ay ((Pl L i o _ (A4 (Ba ho hne)) hi hll).ok h1) ?_
 rw [By hne]
 refine Jc ?_;refine Z1 ?_
 refine R.storeUpT jS (Cl hm) ?_ ?_
 ·simp [or_imp,forall_and]
 refine R.fin [0,1] ?_;refine AW.upEq (U2_setm (y:=.cells 47 [A3 m.kind,.slice true 1 ([Aa s]),.slice true 2 (m.give.map Bu),.slice true 6 (m.ahead.map A5),.slice true 6 (m.back.map A5)])) ?_
 rcases h2:Bc L toW j with ⟨u,j2⟩|⟨e,a⟩
 rotate_left
 ·refine AW.seqRK ?_
  refine ARunK.one (R.go (ARun.nil ?_))
  refine RK.callBad Tryz.call92 ((c92 L toW j o _ (A4 (Ba ho hne)) hj.2 hll).bad h2) ?_
  rintro x U O hU hl' ⟨rfl,j',hH⟩
  obtain ⟨rfl,rfl⟩:=B8 hU (List.getElem?_eq_some_iff.1 (Ba (L:=L) (i:=j) (x:=.cells 47 [A3 m.kind,.slice true 1 ([Aa s]),.slice true 2 (m.give.map Bu),.slice true 6 (m.ahead.map A5),.slice true 6 (m.back.map A5)]) ho hne)).1 hH
  refine ⟨fun h=>B9 h (fun n=>Ay),fun o h=>(by cases h),?_⟩
  refine K.thP ?_;exact K.finPP ⟨_,_,by unfold Gf;rw [h1];show (Bc L toW j).bind _=_;rw [h2];rfl,rfl,j',(⟨m.kind,[s],m.give,m.ahead,m.back⟩:Mov),By hne⟩
 have hj2:=D8 hl hj.2 _ _ h2
 refine Z0 ?_;refine R.callUp (x:=pmO L j2) Tryz.call92 (Ba ho hne) (by simp) Ay ((c92 L toW j o _ (A4 (Ba ho hne)) hj.2 hll).ok h2) ?_
 rw [By hne]
 refine R.fin [0,1] ?_
 rcases h3:De L j2 with ⟨t,k⟩|⟨e,a⟩
 rotate_left
 ·refine AW.seqRK ?_
  refine ARunK.one (R.go (ARun.nil ?_))
  refine RK.callBad Tryz.call124 ((Pl L j2 o _ (A4 (Ba ho hne)) hj2.2 hll).bad h3) ?_
  rintro x U O hU hl' ⟨rfl,j',hH⟩
  obtain ⟨rfl,rfl⟩:=B8 hU (List.getElem?_eq_some_iff.1 (Ba (L:=L) (i:=j2) (x:=.cells 47 [A3 m.kind,.slice true 1 ([Aa s]),.slice true 2 (m.give.map Bu),.slice true 6 (m.ahead.map A5),.slice true 6 (m.back.map A5)]) ho hne)).1 hH
  refine ⟨fun h=>B9 h (fun n=>Ay),fun o h=>(by cases h),?_⟩
  refine K.thP ?_;exact K.finPP ⟨_,_,by unfold Gf;rw [h1];show (Bc L toW j).bind _=_;rw [h2];show (De L j2).bind _=_;rw [h3];rfl,rfl,j',(⟨m.kind,[s],m.give,m.ahead,m.back⟩:Mov),By hne⟩
 refine Z0 ?_;refine R.callUp (x:=pmO L k) Tryz.call124 (Ba ho hne) (by simp) Ay ((Pl L j2 o _ (A4 (Ba ho hne)) hj2.2 hll).ok h3) ?_
 rw [By hne]
 refine R.go ?_;refine R.fin [1,4] ?_;refine Z3 ?_;refine jh ?_;refine Jc ?_;refine Z1 ?_
 refine R.storeUpT jS (Cl hm) ?_ ?_
 ·simp [or_imp,forall_and]
 refine R.fin [1,4] ?_;refine AW.upEq (U2_setm (y:=.cells 47 [A3 m.kind,.slice true 1 ([Aa s]),.slice true 2 ([Bu ⟨t,0⟩]),.slice true 6 (m.ahead.map A5),.slice true 6 (m.back.map A5)])) ?_;refine Z30 ?_;refine Z6 ?_
 refine R.go (h:=Q.loadUp (Cl hm)) (hr:=?_)
 refine R.go (h:=Q.indexAddr (0) (Aa s) (fun _=>rfl)) (hr:=?_)
 refine R.go ?_;refine R.call Tryz.call75 (c75 s _) ?_;refine Jc ?_;refine R.go ?_;refine R.call Tryz.call75 (c75 t _) ?_;refine Jc ?_;refine Z1 ?_
 refine R.storeUpT jS (Cl hm) ?_ ?_
 ·first|exact gu|exact Zh
 rw [U2_setm]
 refine Z1 ?_
 refine R.storeUpT jS (Cl hm) ?_ ?_
 ·first|exact gu|exact Zh
 rw [U2_setm]
 refine R.fin [] ?_;exact K.finPN .nores (hp:=⟨⟨m.kind,[s],[⟨t,0⟩],[Aq s],[Aq t]⟩,k,by unfold Gf;rw [h1];show (Bc L toW j).bind _=_;rw [h2];show (De L j2).bind _=_;rw [h3];rfl,rfl,by simp only [mvO,mvC,List.map_cons,List.map_nil,Ac]⟩)

theorem lr {L:List Tok} {Hp:List AObj} {o om i:Nat} {m:Mov} {c:Col} {x:AObj}:(U2 L Hp o om i x).set om (.cells 47 [A3 m.kind,.slice true 1 [Aa c.name],.slice true 2 (m.give.map Bu),.slice true 6 (m.ahead.map A5),.slice true 6 (m.back.map A5)])=U2 L Hp o om i (mvO (takeS m c.name)):=U2_setm
theorem c91 (L:List Tok) (m:Mov) (i o om:Nat) (Hp:List AObj) (hne:om≠o) (ho:Hp[o]? = some (pmO L i)) (hm:Hp[om]? = some (mvO m)) (hi:i<L.length) (hl:TokEnd L) (hll:L.length≤500000) (hb:MvLe m (2*i-1)) (h0:0<i):CP 91 [.ptr o 0,.ptr om 0] Hp (Ei L m i) (fun m' j r H'=>r=Lq∧H'=U2 L Hp o om j (mvO m')) (W2 L o om Hp):=by
 have hol:=(List.getElem?_eq_some_iff.1 ho).1
 have hml:=(List.getElem?_eq_some_iff.1 hm).1
 refine ACallP.body [] [0,1] Tryz.func91 Tryz.ntmps91 (fun d=>?_)
 refine E4 ?_;refine R.box ?_;refine R.box ?_;refine Jv ?_;refine nq ?_;refine Z19 ?_
 refine R.go (h:=Q.loadUp (Cl hm)) (hr:=?_)
 refine R.fin [2,3,7] ?_;refine Z69 ?_;refine R.fin [2,3,7,8] ?_
 refine W.cond (fun ht8=>?_) (fun ht8=>?_)
 ·rcases h1:C0 L m i with ⟨m1,k⟩|⟨e,a⟩
  rotate_left
  ·refine AW.regionK ?_
   refine ARunK.one (R.go (ARun.nil ?_))
   refine ARunK.one (R.go (ARun.nil ?_))
   refine ABb ?_
   rintro x U O hU hl' ⟨rfl,hW2⟩
   obtain ⟨⟨j',m',rfl⟩,rfl⟩:=Eb hne hol hml hU hW2
   refine ⟨fun h=>Cm hne Bt h,fun o h=>(by cases h),?_⟩
   refine K.blP ?_;exact K.finPP ⟨_,_,by rw [rk ht8];rw [h1],rfl,j',m',rfl⟩
  refine Z30 ?_
  refine R.callX (up':=U2 L Hp o om k (mvO m1)) (own':=[.cells 51 [.ptr o 0],.cells 102 [.ptr om 0]]) Tryz.call123 (((dk L m i o om (U2 L Hp o om i (mvO m)++[.cells 51 [.ptr o 0],.cells 102 [.ptr om 0]]) hne (A4 (Ba ho hne)) (A4 (Cl hm)) hi hl hll hb).ok h1).mono (fun r H' e=>⟨e.1,e.2.trans (by first|rw [Dg (by rw [U2_len];exact hol) (by rw [U2_len];exact hml),Gu hne]|rw [Dg hol hml])⟩)) (by first|rfl|rw [U2_len,U2_len]|rw [U2_len]) (fun h=>Cm hne Bt h) ?_
  refine Z89 ?_;exact K.finPN .nores (hp:=⟨m1,k,by rw [rk ht8];rw [h1],rfl,rfl⟩)
 refine Z3 ?_;refine R.fin [2,3,7,13] ?_
 refine W.cond (fun ht13=>?_) (fun ht13=>?_)
 ·rcases h1:De L i with ⟨s,j⟩|⟨e,a⟩
  rotate_left
  ·refine W.drawY [0,0,2,6,15,31,63] [2] [.q 2 [] [],.s [17] (some 0) [] [],.s [] none [0] [],.s [] none [0] [],.s [] none [0] [],.s [] none [0] []] (fun _=>U2 L Hp o om i (mvO m)) (fun B=>[.cells 51 [.ptr o 0],.cells 102 [.ptr om 0]]++bot (B 0)) Ab (by kernel_rfl) rfl rfl (fun _=>rfl) ?_
   apply Y.q
   case h1 =>
    intro B hT hF
    exact Z56
   case hTF=>decide
   refine Y.callBad (own0:=[.cells 51 [.ptr o 0],.cells 102 [.ptr om 0]]) Tryz.call124 (fun B hB=>⟨rfl,by simp [bot,hB]⟩) ((Pl L i o _ (A4 (Ba ho hne)) hi hll).bad h1) ?_ ?_
   ·rintro x U O f hU hl' ⟨rfl,j',hH⟩
    obtain ⟨rfl,rfl⟩:=B8 hU (List.getElem?_eq_some_iff.1 (Ba (L:=L) (i:=i) (x:=mvO m) ho hne)).1 hH
    refine ⟨fun h=>B9 h (fun n=>Ay),fun o h=>(by cases h),?_⟩
    refine K.blP ?_;exact K.finPP ⟨_,_,by rw [dl ht8 ht13];rw [h1];rfl,rfl,j',m,By hne⟩
   exact sy
  have hj:=Ej hl hi _ _ h1
  refine W.drawY [0,0,2,6,15,31,63] [2] [.q 2 [] [],.s [17] (some 0) [] [],.s [18] none [0] []] (fun B=>U2 L Hp o om (if B 0=true then j else i) (mvO m)) (fun _=>[.cells 51 [.ptr o 0],.cells 102 [.ptr om 0]]) Ab (by kernel_rfl) rfl rfl (fun B=>by rw [U2_len];exact U2_len.symm) ?_
  apply Y.q
  case h1 =>
   intro B hT hF
   exact Z56
  case hTF=>decide
  refine Y.callUp (r:=Aa s) (o:=o) (x0:=pmO L i) (x:=pmO L j) Tryz.call124 (fun B hB1 hB2 hB=>⟨by simp only [hB];exact Ba ho hne,(By hne).symm,rfl,Ay,?_⟩) ?_
  ·simp only [hB]
   exact (Pl L i o _ (A4 (Ba ho hne)) hi hll).ok h1
  refine AA7 ?_;refine Z1 ?_
  refine R.storeUpT jS (Cl hm) ?_ ?_
  ·simp [or_imp,forall_and]
  refine Jv ?_;refine AW.upEq (V0 (m:=m) (s:=s)) ?_
  rcases h2:Ck L (takeS m s) j with ⟨m2,k⟩|⟨e,a⟩
  rotate_left
  ·refine AW.regionK ?_
   refine ARunK.one (R.go (ARun.nil ?_))
   refine ARunK.one (R.go (ARun.nil ?_))
   refine RK.callBad Tryz.call125 ((Zg L (takeS m s) j o om (U2 L Hp o om j (mvO (takeS m s))++[.cells 51 [.ptr o 0],.cells 102 [.ptr om 0]]) hne (A4 (Ba ho hne)) (A4 (Cl hm)) hj.2 hl hll ((hb.mono (by omega:2*i-1≤2*j)).takeS (by omega))).bad h2) ?_
   rintro x U O hU hl' ⟨rfl,hW2⟩
   obtain ⟨⟨j',m',rfl⟩,rfl⟩:=Eb hne hol hml hU hW2
   refine ⟨fun h=>Cm hne Bt h,fun o h=>(by cases h),?_⟩
   refine K.blP ?_;exact K.finPP ⟨_,_,by rw [dl ht8 ht13];rw [h1];show Ck L (takeS m s) j=_;rw [h2],rfl,j',m',rfl⟩
  refine Z30 ?_
  refine R.callX (up':=U2 L Hp o om k (mvO m2)) (own':=[.cells 51 [.ptr o 0],.cells 102 [.ptr om 0]]) Tryz.call125 (((Zg L (takeS m s) j o om (U2 L Hp o om j (mvO (takeS m s))++[.cells 51 [.ptr o 0],.cells 102 [.ptr om 0]]) hne (A4 (Ba ho hne)) (A4 (Cl hm)) hj.2 hl hll ((hb.mono (by omega:2*i-1≤2*j)).takeS (by omega))).ok h2).mono (fun r H' e=>⟨e.1,e.2.trans (by first|rw [Dg (by rw [U2_len];exact hol) (by rw [U2_len];exact hml),Gu hne]|rw [Dg hol hml])⟩)) (by first|rfl|rw [U2_len,U2_len]|rw [U2_len]) (fun h=>Cm hne Bt h) ?_
  refine Z89 ?_;exact K.finPN .nores (hp:=⟨m2,k,by rw [dl ht8 ht13];rw [h1];show Ck L (takeS m s) j=_;rw [h2],rfl,rfl⟩)
 refine Z3 ?_;refine R.fin [2,3,7,24] ?_
 refine W.cond (fun ht24=>?_) (fun ht24=>?_)
 ·rcases h1:Gf L m i with ⟨m1,k⟩|⟨e,a⟩
  rotate_left
  ·refine AW.regionK ?_
   refine ARunK.one (R.go (ARun.nil ?_))
   refine ARunK.one (R.go (ARun.nil ?_))
   refine RK.callBad Tryz.call126 ((ACb L m i o om (U2 L Hp o om i (mvO m)++[.cells 51 [.ptr o 0],.cells 102 [.ptr om 0]]) hne (A4 (Ba ho hne)) (A4 (Cl hm)) hi hl hll hb).bad h1) ?_
   rintro x U O hU hl' ⟨rfl,hW2⟩
   obtain ⟨⟨j',m',rfl⟩,rfl⟩:=Eb hne hol hml hU hW2
   refine ⟨fun h=>Cm hne Bt h,fun o h=>(by cases h),?_⟩
   refine K.blP ?_;exact K.finPP ⟨_,_,by rw [rl ht8 ht13 ht24];rw [h1],rfl,j',m',rfl⟩
  refine Z30 ?_
  refine R.callX (up':=U2 L Hp o om k (mvO m1)) (own':=[.cells 51 [.ptr o 0],.cells 102 [.ptr om 0]]) Tryz.call126 (((ACb L m i o om (U2 L Hp o om i (mvO m)++[.cells 51 [.ptr o 0],.cells 102 [.ptr om 0]]) hne (A4 (Ba ho hne)) (A4 (Cl hm)) hi hl hll hb).ok h1).mono (fun r H' e=>⟨e.1,e.2.trans (by first|rw [Dg (by rw [U2_len];exact hol) (by rw [U2_len];exact hml),Gu hne]|rw [Dg hol hml])⟩)) (by first|rfl|rw [U2_len,U2_len]|rw [U2_len]) (fun h=>Cm hne Bt h) ?_
  refine Z89 ?_;exact K.finPN .nores (hp:=⟨m1,k,by rw [rl ht8 ht13 ht24];rw [h1],rfl,rfl⟩)
 refine Z3 ?_;refine R.fin [2,3,7,29] ?_
 refine W.cond (fun ht29=>?_) (fun ht29=>?_)
 ·rcases h1:De L i with ⟨s,j⟩|⟨e,a⟩
  rotate_left
  ·refine W.drawY [0,0,2,6,15,31,63] [2] [.q 2 [] [],.s [33] (some 0) [] [],.s [] none [0] [],.s [] none [0] [],.s [] none [0] [],.s [] none [0] []] (fun _=>U2 L Hp o om i (mvO m)) (fun B=>[.cells 51 [.ptr o 0],.cells 102 [.ptr om 0]]++bot (B 0)) Ab (by kernel_rfl) rfl rfl (fun _=>rfl) ?_
   apply Y.q
   case h1 =>
    intro B hT hF
    exact Z56
   case hTF=>decide
   refine Y.callBad (own0:=[.cells 51 [.ptr o 0],.cells 102 [.ptr om 0]]) Tryz.call124 (fun B hB=>⟨rfl,by simp [bot,hB]⟩) ((Pl L i o _ (A4 (Ba ho hne)) hi hll).bad h1) ?_ ?_
   ·rintro x U O f hU hl' ⟨rfl,j',hH⟩
    obtain ⟨rfl,rfl⟩:=B8 hU (List.getElem?_eq_some_iff.1 (Ba (L:=L) (i:=i) (x:=mvO m) ho hne)).1 hH
    refine ⟨fun h=>B9 h (fun n=>Ay),fun o h=>(by cases h),?_⟩
    refine K.blP ?_;exact K.finPP ⟨_,_,by rw [Sr ht8 ht13 ht24 ht29];rw [h1];rfl,rfl,j',m,By hne⟩
   exact sy
  have hj:=Ej hl hi _ _ h1
  refine W.drawY [0,0,2,6,15,31,63] [2] [.q 2 [] [],.s [33] (some 0) [] [],.s [34] none [0] []] (fun B=>U2 L Hp o om (if B 0=true then j else i) (mvO m)) (fun _=>[.cells 51 [.ptr o 0],.cells 102 [.ptr om 0]]) Ab (by kernel_rfl) rfl rfl (fun B=>by rw [U2_len];exact U2_len.symm) ?_
  apply Y.q
  case h1 =>
   intro B hT hF
   exact Z56
  case hTF=>decide
  refine Y.callUp (r:=Aa s) (o:=o) (x0:=pmO L i) (x:=pmO L j) Tryz.call124 (fun B hB1 hB2 hB=>⟨by simp only [hB];exact Ba ho hne,(By hne).symm,rfl,Ay,?_⟩) ?_
  ·simp only [hB]
   exact (Pl L i o _ (A4 (Ba ho hne)) hi hll).ok h1
  refine AA7 ?_;refine Z1 ?_
  refine R.storeUpT jS (Cl hm) ?_ ?_
  ·simp [or_imp,forall_and]
  refine Jv ?_;refine AW.upEq (V0 (m:=m) (s:=s)) ?_
  rcases h2:Bc L intoW j with ⟨u,j2⟩|⟨e,a⟩
  rotate_left
  ·refine AW.seqRK ?_
   refine ARunK.one (R.go (ARun.nil ?_))
   refine RK.callBad Tryz.call92 ((c92 L intoW j o _ (A4 (Ba ho hne)) hj.2 hll).bad h2) ?_
   rintro x U O hU hl' ⟨rfl,j',hH⟩
   obtain ⟨rfl,rfl⟩:=B8 hU (List.getElem?_eq_some_iff.1 (Ba (L:=L) (i:=j) (x:=mvO (takeS m s)) ho hne)).1 hH
   refine ⟨fun h=>B9 h (fun n=>Ay),fun o h=>(by cases h),?_⟩
   refine Xg ?_;exact K.finPP ⟨_,_,by rw [Sr ht8 ht13 ht24 ht29];rw [h1];show (Bc L intoW j).bind _=_;rw [h2];rfl,rfl,j',(takeS m s),By hne⟩
  have hj2:=D8 hl hj.2 _ _ h2
  refine Z0 ?_;refine R.callUp (x:=pmO L j2) Tryz.call92 (Ba ho hne) (by simp) Ay ((c92 L intoW j o _ (A4 (Ba ho hne)) hj.2 hll).ok h2) ?_
  rw [By hne]
  refine Jv ?_
  rcases h3:Df L 0 (C0 L) (takeS m s) j2 with ⟨m1,j3⟩|⟨e,a⟩
  rotate_left
  ·refine AW.seqRK ?_
   refine ARunK.one (R.go (ARun.nil ?_))
   refine ARunK.one (R.makeFunc (ARun.nil ?_))
   refine RK.callBad Tryz.call127 ((c127 L (0) (takeS m s) j2 o om 128 [.ptr (oid Hp.length 0) 0,.ptr (oid Hp.length 1) 0] (C0 L) (U2 L Hp o om j2 (mvO (takeS m s))++[.cells 51 [.ptr o 0],.cells 102 [.ptr om 0]]) hne (A4 (Ba ho hne)) (A4 (Cl hm)) (by omega) hj2.2 hl hll ((hb.mono (by omega:2*i-1≤2*j2-1)).takeS (by omega)) Tryz.call128 (Uz (z:=pmO L j2) (z':=mvO (takeS m s)) hne (A4 (Ba ho hne)) (A4 (Cl hm)) (Pm rfl) (Pm rfl) (D9 hol) (D9 hml) (D9 hol) (D9 hml) hl hll) (Hg hl hll)).bad h3) ?_
   rintro x U O hU hl' ⟨rfl,hW2⟩
   obtain ⟨⟨j',m',rfl⟩,rfl⟩:=Eb hne hol hml hU hW2
   refine ⟨fun h=>Cm hne Bt h,fun o h=>(by cases h),?_⟩
   refine Xg ?_;exact K.finPP ⟨_,_,by rw [Sr ht8 ht13 ht24 ht29];rw [h1];show (Bc L intoW j).bind _=_;rw [h2];show (Df L 0 (C0 L) (takeS m s) j2).bind _=_;rw [h3];rfl,rfl,j',m',rfl⟩
  have hj3:=N2 hl (Hg hl hll) (takeS m s) j2 ((hb.mono (by omega:2*i-1≤2*j2-1)).takeS (by omega)) (by omega) hj2.2 _ _ h3
  refine Z0 ?_;refine R.makeFunc ?_
  refine R.callX (up':=U2 L Hp o om j3 (mvO m1)) (own':=[.cells 51 [.ptr o 0],.cells 102 [.ptr om 0]]) Tryz.call127 (((c127 L (0) (takeS m s) j2 o om 128 [.ptr (oid Hp.length 0) 0,.ptr (oid Hp.length 1) 0] (C0 L) (U2 L Hp o om j2 (mvO (takeS m s))++[.cells 51 [.ptr o 0],.cells 102 [.ptr om 0]]) hne (A4 (Ba ho hne)) (A4 (Cl hm)) (by omega) hj2.2 hl hll ((hb.mono (by omega:2*i-1≤2*j2-1)).takeS (by omega)) Tryz.call128 (Uz (z:=pmO L j2) (z':=mvO (takeS m s)) hne (A4 (Ba ho hne)) (A4 (Cl hm)) (Pm rfl) (Pm rfl) (D9 hol) (D9 hml) (D9 hol) (D9 hml) hl hll) (Hg hl hll)).ok h3).mono (fun r H' e=>⟨e.1,e.2.trans (by first|rw [Dg (by rw [U2_len];exact hol) (by rw [U2_len];exact hml),Gu hne]|rw [Dg hol hml])⟩)) (by first|rfl|rw [U2_len,U2_len]|rw [U2_len]) (fun h=>Cm hne Bt h) ?_
  refine Jv ?_
  rcases h4:Ck L m1 j3 with ⟨m2,k⟩|⟨e,a⟩
  rotate_left
  ·refine AW.regionK ?_
   refine ARunK.one (R.go (ARun.nil ?_))
   refine ARunK.one (R.go (ARun.nil ?_))
   refine RK.callBad Tryz.call125 ((Zg L m1 j3 o om (U2 L Hp o om j3 (mvO m1)++[.cells 51 [.ptr o 0],.cells 102 [.ptr om 0]]) hne (A4 (Ba ho hne)) (A4 (Cl hm)) hj3.2.1 hl hll hj3.2.2).bad h4) ?_
   rintro x U O hU hl' ⟨rfl,hW2⟩
   obtain ⟨⟨j',m',rfl⟩,rfl⟩:=Eb hne hol hml hU hW2
   refine ⟨fun h=>Cm hne Bt h,fun o h=>(by cases h),?_⟩
   refine K.blP ?_;exact K.finPP ⟨_,_,by rw [Sr ht8 ht13 ht24 ht29];rw [h1];show (Bc L intoW j).bind _=_;rw [h2];show (Df L 0 (C0 L) (takeS m s) j2).bind _=_;rw [h3];show Ck L m1 j3=_;rw [h4],rfl,j',m',rfl⟩
  refine Z30 ?_
  refine R.callX (up':=U2 L Hp o om k (mvO m2)) (own':=[.cells 51 [.ptr o 0],.cells 102 [.ptr om 0]]) Tryz.call125 (((Zg L m1 j3 o om (U2 L Hp o om j3 (mvO m1)++[.cells 51 [.ptr o 0],.cells 102 [.ptr om 0]]) hne (A4 (Ba ho hne)) (A4 (Cl hm)) hj3.2.1 hl hll hj3.2.2).ok h4).mono (fun r H' e=>⟨e.1,e.2.trans (by first|rw [Dg (by rw [U2_len];exact hol) (by rw [U2_len];exact hml),Gu hne]|rw [Dg hol hml])⟩)) (by first|rfl|rw [U2_len,U2_len]|rw [U2_len]) (fun h=>Cm hne Bt h) ?_
  refine Z89 ?_;exact K.finPN .nores (hp:=⟨m2,k,by rw [Sr ht8 ht13 ht24 ht29];rw [h1];show (Bc L intoW j).bind _=_;rw [h2];show (Df L 0 (C0 L) (takeS m s) j2).bind _=_;rw [h3];show Ck L m1 j3=_;rw [h4],rfl,rfl⟩)
 refine Z3 ?_;refine R.fin [2,3,7,45] ?_
 refine W.cond (fun ht45=>?_) (fun ht45=>?_)
 ·rcases h1:Df L 0 (Ii L) m i with ⟨m1,j⟩|⟨e,a⟩
  rotate_left
  ·refine AW.seqRK ?_
   refine ARunK.one (R.go (ARun.nil ?_))
   refine ARunK.one (R.makeFunc (ARun.nil ?_))
   refine RK.callBad Tryz.call127 ((c127 L (0) m i o om 129 [.ptr (oid Hp.length 1) 0,.ptr (oid Hp.length 0) 0] (Ii L) (U2 L Hp o om i (mvO m)++[.cells 51 [.ptr o 0],.cells 102 [.ptr om 0]]) hne (A4 (Ba ho hne)) (A4 (Cl hm)) h0 hi hl hll hb Tryz.call129 (Uy (z:=pmO L i) (z':=mvO m) hne (A4 (Ba ho hne)) (A4 (Cl hm)) (Pm rfl) (Pm rfl) (D9 hol) (D9 hml) (D9 hol) (D9 hml) hl hll) (N1 hl)).bad h1) ?_
   rintro x U O hU hl' ⟨rfl,hW2⟩
   obtain ⟨⟨j',m',rfl⟩,rfl⟩:=Eb hne hol hml hU hW2
   refine ⟨fun h=>Cm hne Bt h,fun o h=>(by cases h),?_⟩
   refine Xg ?_;exact K.finPP ⟨_,_,by rw [Ss ht8 ht13 ht24 ht29 ht45];rw [h1];rfl,rfl,j',m',rfl⟩
  have hj:=N2 hl (N1 hl) m i hb h0 hi _ _ h1
  refine Z0 ?_;refine R.makeFunc ?_
  refine R.callX (up':=U2 L Hp o om j (mvO m1)) (own':=[.cells 51 [.ptr o 0],.cells 102 [.ptr om 0]]) Tryz.call127 (((c127 L (0) m i o om 129 [.ptr (oid Hp.length 1) 0,.ptr (oid Hp.length 0) 0] (Ii L) (U2 L Hp o om i (mvO m)++[.cells 51 [.ptr o 0],.cells 102 [.ptr om 0]]) hne (A4 (Ba ho hne)) (A4 (Cl hm)) h0 hi hl hll hb Tryz.call129 (Uy (z:=pmO L i) (z':=mvO m) hne (A4 (Ba ho hne)) (A4 (Cl hm)) (Pm rfl) (Pm rfl) (D9 hol) (D9 hml) (D9 hol) (D9 hml) hl hll) (N1 hl)).ok h1).mono (fun r H' e=>⟨e.1,e.2.trans (by first|rw [Dg (by rw [U2_len];exact hol) (by rw [U2_len];exact hml),Gu hne]|rw [Dg hol hml])⟩)) (by first|rfl|rw [U2_len,U2_len]|rw [U2_len]) (fun h=>Cm hne Bt h) ?_
  refine Jv ?_
  rcases h2:Bc L intoW j with ⟨u,j2⟩|⟨e,a⟩
  rotate_left
  ·refine AW.seqRK ?_
   refine ARunK.one (R.go (ARun.nil ?_))
   refine RK.callBad Tryz.call92 ((c92 L intoW j o _ (A4 (Ba ho hne)) hj.2.1 hll).bad h2) ?_
   rintro x U O hU hl' ⟨rfl,j',hH⟩
   obtain ⟨rfl,rfl⟩:=B8 hU (List.getElem?_eq_some_iff.1 (Ba (L:=L) (i:=j) (x:=mvO m1) ho hne)).1 hH
   refine ⟨fun h=>B9 h (fun n=>Ay),fun o h=>(by cases h),?_⟩
   refine Xg ?_;exact K.finPP ⟨_,_,by rw [Ss ht8 ht13 ht24 ht29 ht45];rw [h1];show (Bc L intoW j).bind _=_;rw [h2];rfl,rfl,j',m1,By hne⟩
  have hj2:=D8 hl hj.2.1 _ _ h2
  have hj2e:=I3 h2
  refine Z0 ?_;refine R.callUp (x:=pmO L j2) Tryz.call92 (Ba ho hne) (by simp) Ay ((c92 L intoW j o _ (A4 (Ba ho hne)) hj.2.1 hll).ok h2) ?_
  rw [By hne]
  refine Jv ?_
  rcases h3:C0 L m1 j2 with ⟨m2,j3⟩|⟨e,a⟩
  rotate_left
  ·refine AW.seqRK ?_
   refine ARunK.one (R.go (ARun.nil ?_))
   refine ARunK.one (R.go (ARun.nil ?_))
   refine RK.callBad Tryz.call123 ((dk L m1 j2 o om (U2 L Hp o om j2 (mvO m1)++[.cells 51 [.ptr o 0],.cells 102 [.ptr om 0]]) hne (A4 (Ba ho hne)) (A4 (Cl hm)) hj2.2 hl hll (hj.2.2.mono (by omega))).bad h3) ?_
   rintro x U O hU hl' ⟨rfl,hW2⟩
   obtain ⟨⟨j',m',rfl⟩,rfl⟩:=Eb hne hol hml hU hW2
   refine ⟨fun h=>Cm hne Bt h,fun o h=>(by cases h),?_⟩
   refine Xg ?_;exact K.finPP ⟨_,_,by rw [Ss ht8 ht13 ht24 ht29 ht45];rw [h1];show (Bc L intoW j).bind _=_;rw [h2];show (C0 L m1 j2).bind _=_;rw [h3];rfl,rfl,j',m',rfl⟩
  have hj3:=Hg hl hll m1 j2 (hj.2.2.mono (by omega)) (by omega) hj2.2 _ _ h3
  refine Z3 ?_
  refine R.callX (up':=U2 L Hp o om j3 (mvO m2)) (own':=[.cells 51 [.ptr o 0],.cells 102 [.ptr om 0]]) Tryz.call123 (((dk L m1 j2 o om (U2 L Hp o om j2 (mvO m1)++[.cells 51 [.ptr o 0],.cells 102 [.ptr om 0]]) hne (A4 (Ba ho hne)) (A4 (Cl hm)) hj2.2 hl hll (hj.2.2.mono (by omega))).ok h3).mono (fun r H' e=>⟨e.1,e.2.trans (by first|rw [Dg (by rw [U2_len];exact hol) (by rw [U2_len];exact hml),Gu hne]|rw [Dg hol hml])⟩)) (by first|rfl|rw [U2_len,U2_len]|rw [U2_len]) (fun h=>Cm hne Bt h) ?_
  refine Jv ?_
  rcases h4:Ck L m2 j3 with ⟨m3,k⟩|⟨e,a⟩
  rotate_left
  ·refine AW.regionK ?_
   refine ARunK.one (R.go (ARun.nil ?_))
   refine ARunK.one (R.go (ARun.nil ?_))
   refine RK.callBad Tryz.call125 ((Zg L m2 j3 o om (U2 L Hp o om j3 (mvO m2)++[.cells 51 [.ptr o 0],.cells 102 [.ptr om 0]]) hne (A4 (Ba ho hne)) (A4 (Cl hm)) hj3.2.1 hl hll hj3.2.2).bad h4) ?_
   rintro x U O hU hl' ⟨rfl,hW2⟩
   obtain ⟨⟨j',m',rfl⟩,rfl⟩:=Eb hne hol hml hU hW2
   refine ⟨fun h=>Cm hne Bt h,fun o h=>(by cases h),?_⟩
   refine K.blP ?_;exact K.finPP ⟨_,_,by rw [Ss ht8 ht13 ht24 ht29 ht45];rw [h1];show (Bc L intoW j).bind _=_;rw [h2];show (C0 L m1 j2).bind _=_;rw [h3];show Ck L m2 j3=_;rw [h4],rfl,j',m',rfl⟩
  refine Z30 ?_
  refine R.callX (up':=U2 L Hp o om k (mvO m3)) (own':=[.cells 51 [.ptr o 0],.cells 102 [.ptr om 0]]) Tryz.call125 (((Zg L m2 j3 o om (U2 L Hp o om j3 (mvO m2)++[.cells 51 [.ptr o 0],.cells 102 [.ptr om 0]]) hne (A4 (Ba ho hne)) (A4 (Cl hm)) hj3.2.1 hl hll hj3.2.2).ok h4).mono (fun r H' e=>⟨e.1,e.2.trans (by first|rw [Dg (by rw [U2_len];exact hol) (by rw [U2_len];exact hml),Gu hne]|rw [Dg hol hml])⟩)) (by first|rfl|rw [U2_len,U2_len]|rw [U2_len]) (fun h=>Cm hne Bt h) ?_
  refine Z89 ?_;exact K.finPN .nores (hp:=⟨m3,k,by rw [Ss ht8 ht13 ht24 ht29 ht45];rw [h1];show (Bc L intoW j).bind _=_;rw [h2];show (C0 L m1 j2).bind _=_;rw [h3];show Ck L m2 j3=_;rw [h4],rfl,rfl⟩)
 refine Z3 ?_;refine R.fin [2,3,58] ?_
 refine W.cond (fun ht58=>?_) (fun ht58=>?_)
 ·rcases h1:C0 L m i with ⟨m1,j⟩|⟨e,a⟩
  rotate_left
  ·refine AW.seqRK ?_
   refine ARunK.one (R.go (ARun.nil ?_))
   refine ARunK.one (R.go (ARun.nil ?_))
   refine ABb ?_
   rintro x U O hU hl' ⟨rfl,hW2⟩
   obtain ⟨⟨j',m',rfl⟩,rfl⟩:=Eb hne hol hml hU hW2
   refine ⟨fun h=>Cm hne Bt h,fun o h=>(by cases h),?_⟩
   refine Xg ?_;exact K.finPP ⟨_,_,by rw [dm ht8 ht13 ht24 ht29 ht45 ht58];rw [h1];rfl,rfl,j',m',rfl⟩
  have hj:=Hg hl hll m i hb h0 hi _ _ h1
  refine Z3 ?_
  refine R.callX (up':=U2 L Hp o om j (mvO m1)) (own':=[.cells 51 [.ptr o 0],.cells 102 [.ptr om 0]]) Tryz.call123 (((dk L m i o om (U2 L Hp o om i (mvO m)++[.cells 51 [.ptr o 0],.cells 102 [.ptr om 0]]) hne (A4 (Ba ho hne)) (A4 (Cl hm)) hi hl hll hb).ok h1).mono (fun r H' e=>⟨e.1,e.2.trans (by first|rw [Dg (by rw [U2_len];exact hol) (by rw [U2_len];exact hml),Gu hne]|rw [Dg hol hml])⟩)) (by first|rfl|rw [U2_len,U2_len]|rw [U2_len]) (fun h=>Cm hne Bt h) ?_
  refine Jv ?_;refine W.drawY [0,0,2,6,14,30,62,126,254,511,1023,2047] [] [.q 8 [] [],.s [71] none [] []] (fun _=>U2 L Hp o om j (mvO m1)) (fun _=>[.cells 51 [.ptr o 0],.cells 102 [.ptr om 0]]) Ab (by kernel_rfl) rfl rfl (fun B=>rfl) ?_
  apply Y.q
  case h1 =>
   intro B hT hF
   refine Pi ?_
   refine D.go (h:=Q.loadUp (Cl hm)) (hr:=?_)
   refine D.go (h:=Q.indexAddr (0) (Bu (m1.give.getD 0 ⟨[],0⟩)) (fun _=>rj h1)) (hr:=?_)
   exact Z56
  case hTF=>decide
  refine Y.buildSlice jU Tryz.sizeOf9 Tryz.zeroValue9 ?_;refine Y.tail (tn:=[]) (U:=U2 L Hp o om j (mvO m1)) ?_;refine Z1 ?_
  refine R.storeUpT jS (Cl hm) ?_ ?_
  ·simp [or_imp,forall_and]
  refine Jv ?_;refine AW.upEq (lr (m:=m1) (c:=m1.give.getD 0 ⟨[],0⟩)) ?_
  rcases h2:Ck L (takeS m1 (m1.give.getD 0 ⟨[],0⟩).name) j with ⟨m2,k⟩|⟨e,a⟩
  rotate_left
  ·refine AW.regionK ?_
   refine ARunK.one (R.go (ARun.nil ?_))
   refine ARunK.one (R.go (ARun.nil ?_))
   refine RK.callBad Tryz.call125 ((Zg L (takeS m1 (m1.give.getD 0 ⟨[],0⟩).name) j o om (U2 L Hp o om j (mvO (takeS m1 (m1.give.getD 0 ⟨[],0⟩).name))++[.cells 51 [.ptr o 0],.cells 102 [.ptr om 0]]) hne (A4 (Ba ho hne)) (A4 (Cl hm)) hj.2.1 hl hll (hj.2.2.takeS (by omega))).bad h2) ?_
   rintro x U O hU hl' ⟨rfl,hW2⟩
   obtain ⟨⟨j',m',rfl⟩,rfl⟩:=Eb hne hol hml hU hW2
   refine ⟨fun h=>Cm hne Bt h,fun o h=>(by cases h),?_⟩
   refine K.blP ?_;exact K.finPP ⟨_,_,by rw [dm ht8 ht13 ht24 ht29 ht45 ht58];rw [h1];show Ck L (takeS m1 (m1.give.getD 0 ⟨[],0⟩).name) j=_;rw [h2],rfl,j',m',rfl⟩
  refine Z30 ?_
  refine R.callX (up':=U2 L Hp o om k (mvO m2)) (own':=[.cells 51 [.ptr o 0],.cells 102 [.ptr om 0]]) Tryz.call125 (((Zg L (takeS m1 (m1.give.getD 0 ⟨[],0⟩).name) j o om (U2 L Hp o om j (mvO (takeS m1 (m1.give.getD 0 ⟨[],0⟩).name))++[.cells 51 [.ptr o 0],.cells 102 [.ptr om 0]]) hne (A4 (Ba ho hne)) (A4 (Cl hm)) hj.2.1 hl hll (hj.2.2.takeS (by omega))).ok h2).mono (fun r H' e=>⟨e.1,e.2.trans (by first|rw [Dg (by rw [U2_len];exact hol) (by rw [U2_len];exact hml),Gu hne]|rw [Dg hol hml])⟩)) (by first|rfl|rw [U2_len,U2_len]|rw [U2_len]) (fun h=>Cm hne Bt h) ?_
  refine Z89 ?_;exact K.finPN .nores (hp:=⟨m2,k,by rw [dm ht8 ht13 ht24 ht29 ht45 ht58];rw [h1];show Ck L (takeS m1 (m1.give.getD 0 ⟨[],0⟩).name) j=_;rw [h2],rfl,rfl⟩)
 refine AW.skip ?_;refine K.blN ?_;exact K.finPN .nores (hp:=⟨m,i,ze ht8 ht13 ht24 ht29 ht45 ht58,rfl,rfl⟩)

def ACc:Str:=[32,97,100,100,32,100,114,111,112,32,114,101,110,97,109,101,32,115,112,108,105,116,32,109,101,114,103,101,32,114,101,116,121,112,101]
theorem ls:K9 ACc [32]=migWords:=by kernel_rfl
theorem c12 (k:Int) (Hp:List AObj):AFun Tryz.prog 12 [A3 k] Hp (Aa (Av k)):=by
 refine ACall.body [.tmp 2] [0] Tryz.func12 Tryz.ntmps12 (fun d=>?_)
 refine Z46 ?_;refine Z22 ?_;refine Qo ?_;refine R.fin [0,8] ?_
 refine W.cond (fun ht8=>?_) (fun ht8=>?_)
 ·have hm:Av k=[]:=if_pos ht8
  exact n7
 have hm:Av k=migWords.getD k.toNat []:=if_neg (by rw [ht8];simp)
 refine aq ?_;refine R.call Tryz.call29 (c29 ACc [32] (by decide) (by decide) _) ?_
 rw [ls]
 refine R.go ?_
 have hk:1≤k∧k≤6:=by simp at ht8;omega
 have hget:(migWords.map Aa)[k.toNat]? = some (Aa (migWords.getD k.toNat [])):=by
  have hlt:k.toNat<migWords.length:=by show k.toNat<7;omega
  rw [List.getElem?_map,List.getElem?_eq_getElem hlt,List.getD_eq_getElem?_getD,List.getElem?_eq_getElem hlt]
  rfl
 refine R.go (h:=Q.indexAddr (k.toNat) (Aa (migWords.getD k.toNat [])) (fun _=>hget)) (hr:=?_)
 exact AAi

theorem lu {s:Str} {x:Nat} (h:∀j:Nat,j<x→(Av ((j:Int)+1)==s)=false) (hx:x<6) (he:(Av ((x:Int)+1)==s)=true):D7 s=(x:Int)+1:=by
 have a:∀j:Nat,j<x→∀k:Int,k=(j:Int)+1→(Av k==s)=false:=fun j hj k e=>by rw [e];exact h j hj
 have b:∀k:Int,k=(x:Int)+1→(Av k==s)=true:=fun k e=>by rw [e];exact he
 have h6:x=0∨x=1∨x=2∨x=3∨x=4∨x=5:=by omega
 unfold D7
 rcases h6 with rfl|rfl|rfl|rfl|rfl|rfl
 ·rw [if_pos (b 1 rfl)];rfl
 ·rw [if_neg (by rw [a 0 (by omega) 1 rfl];simp),if_pos (b 2 rfl)];rfl
 ·rw [if_neg (by rw [a 0 (by omega) 1 rfl];simp),if_neg (by rw [a 1 (by omega) 2 rfl];simp),if_pos (b 3 rfl)];rfl
 ·rw [if_neg (by rw [a 0 (by omega) 1 rfl];simp),if_neg (by rw [a 1 (by omega) 2 rfl];simp),if_neg (by rw [a 2 (by omega) 3 rfl];simp),if_pos (b 4 rfl)];rfl
 ·rw [if_neg (by rw [a 0 (by omega) 1 rfl];simp),if_neg (by rw [a 1 (by omega) 2 rfl];simp),if_neg (by rw [a 2 (by omega) 3 rfl];simp),if_neg (by rw [a 3 (by omega) 4 rfl];simp),if_pos (b 5 rfl)];rfl
 rw [if_neg (by rw [a 0 (by omega) 1 rfl];simp),if_neg (by rw [a 1 (by omega) 2 rfl];simp),if_neg (by rw [a 2 (by omega) 3 rfl];simp),if_neg (by rw [a 3 (by omega) 4 rfl];simp),if_neg (by rw [a 4 (by omega) 5 rfl];simp),if_pos (b 6 rfl)];rfl
theorem Zi {s:Str} {x:Nat} (h:∀j:Nat,j<x→(Av ((j:Int)+1)==s)=false) (he:(Av ((x:Int)+1)==s)=false):∀j:Nat,j<x+1→(Av ((j:Int)+1)==s)=false:=fun j hj=>by
 rcases Nat.lt_or_ge j x with h1|h1
 ·exact h j h1
 rw [show j=x by omega];exact he
theorem lv {s:Str} {x:Nat} (h:∀j:Nat,j<x→(Av ((j:Int)+1)==s)=false) (hx:6≤x):D7 s=0:=by
 have a:∀j:Nat,j<6→∀k:Int,k=(j:Int)+1→(Av k==s)=false:=fun j hj k e=>by rw [e];exact h j (by omega)
 unfold D7
 rw [if_neg (by rw [a 0 (by omega) 1 rfl];simp),if_neg (by rw [a 1 (by omega) 2 rfl];simp),if_neg (by rw [a 2 (by omega) 3 rfl];simp),if_neg (by rw [a 3 (by omega) 4 rfl];simp),if_neg (by rw [a 4 (by omega) 5 rfl];simp),if_neg (by rw [a 5 (by omega) 6 rfl];simp)]
theorem c90 (s:Str) (Hp:List AObj):AFun Tryz.prog 90 [Aa s] Hp (A3 (D7 s)):=by
 refine ACall.body [.tmp 2] [0] Tryz.func90 Tryz.ntmps90 (fun d=>?_)
 refine Z46 ?_;refine Z8 ?_;refine Hu ?_
 refine AW.loopC (α:=Nat) (fun x=>⟨13,A6 0 (Aa s) (A6 3 (A3 ((x:Nat)+1)) (fun _=>.any)),Hp,[],[],none⟩) (fun x=>∀j:Nat,j<x→(Av ((j:Int)+1)==s)=false) (fun x=>6-x) (0) (fun j h=>by omega) (StLe.refl _) rfl (fun x hx=>?_)
 refine Z31 ?_;refine R.fin [0,3,5] ?_
 refine W.cond (fun ht5=>?_) (fun ht5=>?_)
 ·have hx6:x<6:=by simp at ht5;omega
  refine Z44 ?_;refine Z0 ?_;refine R.call Tryz.call12 (c12 _ _) ?_;refine Z1 ?_;refine R.fin [0,3,11] ?_
  refine W.cond (fun ht11=>?_) (fun ht11=>?_)
  ·refine Xk ?_;refine Z32 ?_;exact K.fin (V.one V.tmp) ⟨by rw [lu hx hx6 ht11],rfl⟩
  refine n6 ?_
  refine K.lpN (x+1) (Zi hx ht11) (by omega) (StCut.of_eq rfl)
 have hx6:6≤x:=by simp at ht5;omega
 refine Z47 ?_;refine Z12 ?_;exact K.fin (V.one V.tmp) ⟨by rw [lv hx hx6],rfl⟩

theorem rm {L:List Tok} {Hp own:List AObj} {o i n:Nat} {x:AObj} (h1:o<Hp.length):U2 L (Hp++own) o (oid Hp.length n) i x=Hp.set o (pmO L i)++own.set n x:=by
 unfold U2 oid
 rw [List.set_append_left _ _ h1,List.set_append,if_neg (by simp),List.length_set,Nat.add_sub_cancel_left]
theorem Zj {L:List Tok} {Hp:List AObj} {o i j n:Nat} (h:∀z∈Hp.set o (pmO L i),ObjLow n z):∀z∈Hp.set o (pmO L j),ObjLow n z:=by
 intro z hz
 rw [show Hp.set o (pmO L j)=(Hp.set o (pmO L i)).set o (pmO L j) by rw [List.set_set]] at hz
 rcases List.mem_or_eq_of_mem_set hz with hz|rfl
 ·exact h z hz
 exact Ay
theorem c50 (L:List Tok) (i o:Nat) (Hp:List AObj) (ho:Hp[o]? = some (pmO L i)) (hi:i<L.length) (hl:TokEnd L) (hll:L.length≤500000):CP 50 [.ptr o 0] Hp (F8 L i) (fun m j r H'=>r=Dp m∧H'=Hp.set o (pmO L j)) (W1 L o Hp):=by
 have hol:=(List.getElem?_eq_some_iff.1 ho).1
 have hne:oid Hp.length 2≠o:=by unfold oid;omega
 refine ACallP.body [.cell 2 47] [0] Tryz.func50 Tryz.ntmps50 (fun d=>?_)
 refine Z52 ?_;refine xl ?_;refine Z86 ?_;refine Z3 ?_;refine R.call Tryz.call90 (c90 (A7 L i).text _) ?_;refine R.build (places:=#[(0,1),(1,1),(2,1),(3,1),(4,1)]) jU (fun w=>by simp) jZ ?_;refine Z15 ?_;refine R.fin [0,2,3,4] ?_;refine Z76 ?_;refine R.nilCell 2 1 1 ?_;refine R.nilCell 2 2 2 ?_;refine R.nilCell 2 3 6 ?_;refine R.nilCell 2 4 6 ?_;refine Z1 ?_;refine Z29 ?_;refine Z68 ?_;refine R.fin [0,2,4,18] ?_
 refine W.cond (fun ht18=>?_) (fun ht18=>?_)
 ·have e:F8 L i=.bad 8 (A7 L i).at_:=if_pos ht18
  refine AW.regionK ?_
  refine ARunK.one (R.go (ARun.nil ?_))
  refine xu ?_
  rintro x U O hU hl' ⟨rfl,hH⟩
  obtain ⟨rfl,rfl⟩:=Hi hU hH
  refine ⟨fun h=>h,fun o h=>(by cases h),?_⟩
  exact Z99
 have e0:F8 L i=(Ei L (⟨D7 (A7 L i).text,[],[],[],[]⟩:Mov) (i+1)).bind fun m j=>(Bc L [59] j).bind fun _ j=>.ok m j:=if_neg (by rw [ht18];simp)
 have hi1:i+1<L.length:=hl.step hi (by simp only [Bool.or_eq_false_iff,bne_eq_false_iff_eq] at ht18;rw [ht18.1];decide)
 refine Vr ?_
 refine R.go (h:=Q.loadUp ho) (hr:=?_)
 refine Z6 ?_
 refine R.storeUp jS ho ?_ ?_
 ·simp
 refine R.fin [0,2,4] ?_
 rcases hR:Ei L (⟨D7 (A7 L i).text,[],[],[],[]⟩:Mov) (i+1) with ⟨m1,k⟩|⟨e,a⟩
 rotate_left
 ·refine AW.seqRK ?_
  refine ARunK.one (R.go (ARun.nil ?_))
  refine RK.callBad Tryz.call91 ((c91 L (⟨D7 (A7 L i).text,[],[],[],[]⟩:Mov) (i+1) o (oid Hp.length 2) (Hp.set o (pmO L (i+1))++[.cells 47 [A3 0,.nil,.nil,.nil,.nil],.cells 59 [.v (.int .i64 (A7 L i).kind),.v (sv (A7 L i).text),.v (.int .i64 ((A7 L i).at_:Int))],mvO (⟨D7 (A7 L i).text,[],[],[],[]⟩:Mov)]) hne (by rw [List.getElem?_append_left (by simpa using hol)];exact getset ho) (by unfold oid;rw [List.getElem?_append_right (by simp)];simp) hi1 hl hll ⟨Nat.zero_le _,Nat.zero_le _,Nat.zero_le _,Nat.zero_le _⟩ (by omega)).bad hR) ?_
  rintro x U O hU hl' ⟨rfl,j',m',hH⟩
  rw [show oid Hp.length 2=oid (Hp.set o (pmO L (i+1))).length 2 by simp,rm (by simpa using hol),List.set_set] at hH
  obtain ⟨rfl,rfl⟩:=Hi (by rw [hU];simp) hH
  refine ⟨fun h=>Zj h,fun o h=>(by cases h),?_⟩
  refine K.thP ?_;exact K.finPP ⟨_,_,by rw [e0];rw [hR];rfl,rfl,j',rfl⟩
 have hk:=Wh hl hll (⟨D7 (A7 L i).text,[],[],[],[]⟩:Mov) (i+1) ⟨Nat.zero_le _,Nat.zero_le _,Nat.zero_le _,Nat.zero_le _⟩ (by omega) hi1 _ _ hR
 refine Z0 ?_
 refine R.callX (up':=Hp.set o (pmO L k)) (own':=[.cells 47 [A3 0,.nil,.nil,.nil,.nil],.cells 59 [.v (.int .i64 (A7 L i).kind),.v (sv (A7 L i).text),.v (.int .i64 ((A7 L i).at_:Int))],mvO m1]) Tryz.call91 (((c91 L (⟨D7 (A7 L i).text,[],[],[],[]⟩:Mov) (i+1) o (oid Hp.length 2) (Hp.set o (pmO L (i+1))++[.cells 47 [A3 0,.nil,.nil,.nil,.nil],.cells 59 [.v (.int .i64 (A7 L i).kind),.v (sv (A7 L i).text),.v (.int .i64 ((A7 L i).at_:Int))],mvO (⟨D7 (A7 L i).text,[],[],[],[]⟩:Mov)]) hne (by rw [List.getElem?_append_left (by simpa using hol)];exact getset ho) (by unfold oid;rw [List.getElem?_append_right (by simp)];simp) hi1 hl hll ⟨Nat.zero_le _,Nat.zero_le _,Nat.zero_le _,Nat.zero_le _⟩ (by omega)).ok hR).mono (fun r H' e=>⟨e.1,e.2.trans (by rw [show oid Hp.length 2=oid (Hp.set o (pmO L (i+1))).length 2 by simp];rw [rm (by simpa using hol),List.set_set];rfl)⟩)) (by simp) (fun h=>by simpa using Zj h) ?_
 refine R.fin [0,2,4] ?_
 rcases hW:Bc L [59] k with ⟨u,j2⟩|⟨e,a⟩
 rotate_left
 ·refine AW.seqRK ?_
  refine ARunK.one (R.go (ARun.nil ?_))
  refine RK.callBad Tryz.call92 ((c92 L [59] k o _ (A4 (getset ho)) hk.2.1 hll).bad hW) ?_
  rintro x U O hU hl' ⟨rfl,j',hH⟩
  obtain ⟨rfl,rfl⟩:=B8 hU (List.getElem?_eq_some_iff.1 (getset (B:=pmO L k) ho)).1 hH
  refine ⟨fun h=>B9 h (fun n=>Ay),fun o h=>(by cases h),?_⟩
  refine K.thP ?_;exact K.finPP ⟨_,_,by rw [e0];rw [hR];show (Bc L [59] k).bind _=_;rw [hW];rfl,rfl,j',by rw [List.set_set]⟩
 refine Z0 ?_;refine R.callUp (x:=pmO L j2) Tryz.call92 (getset ho) (by simp) Ay ((c92 L [59] k o _ (A4 (getset ho)) hk.2.1 hll).ok hW) ?_
 rw [List.set_set]
 refine R.fin [2,4] ?_;refine Z0 ?_;refine Z26 ?_;exact K.finP (V.one (V.cellN jA jS)) (hp:=⟨m1,j2,by rw [e0];rw [hR];show (Bc L [59] k).bind _=_;rw [hW];rfl,rfl,rfl⟩) (hlow:=Yu)

/-- What mig.parser.moves comes to: the moves, or none and the fault. -/
def Kp (L:List Tok):List Mov×Int×Int:=match I2 L with
 | .ok l _=>(l,0,0)
 | .bad e a=>([],e,a)
abbrev Ol (L:List Tok):AV:=.tup [Ca (Kp L).1,.agg [A3 (Kp L).2.1,A3 (Kp L).2.2]]
theorem Zk {up:List AObj} {n:Nat} {x y z:AObj} (hn:up.length=n):(up++[x,y]).set (oid n 0) z=up++[z,y]:=by
 subst hn
 rw [show oid up.length 0=up.length+0 from rfl,As];rfl
theorem rn {up:List AObj} {n:Nat} {x y z:AObj} (hn:up.length=n):(up++[x,y]).set (oid n 1) z=up++[x,z]:=by
 subst hn
 rw [show oid up.length 1=up.length+1 from rfl,As];rfl
theorem Zl {up:List AObj} {n:Nat} {x y:AObj} (hn:up.length=n):(up++[x,y])[oid n 0]? = some x:=by
 subst hn
 rw [show oid up.length 0=up.length+0 from rfl,Cn];rfl
theorem rp {up:List AObj} {n:Nat} {x y:AObj} (hn:up.length=n):(up++[x,y])[oid n 1]? = some y:=by
 subst hn
 rw [show oid up.length 1=up.length+1 from rfl,Cn];rfl
theorem wd {fc:Func} {r0 crest:Code} (hf:Tryz.prog.funcs[47]? = some fc) (hb:fc.body=some (.seq r0 crest)) (d a b:Nat) (H:List AObj):AW Tryz.prog (d+1) crest ⟨8,A6 2 (.v .nilIface) (A6 3 (.v .nilIface) (Go.SX.argsF [.ptr a 0,.ptr b 0])),H,[],[],none⟩ (fun e s2=>(e=.normal∨e=.ret)∧s2.defs=[]∧s2.up=H):=by
 have e:=Tryz.func47.symm.trans hf
 injection e with e
 subst e
 injection hb with hb
 injection hb with h1 h2
 subst h2
 refine AW.keep [0,1,2] (by simp only [go_sem,↓reduceIte,Nat.reduceEqDiff,Nat.reduceAdd]<;>rfl) ?_
 refine Z0 ?_;refine R.neqNil0 jU ?_;refine R.fin [0,1,2,5] ?_
 refine W.cond (fun ht5=>?_) (fun ht5=>?_)
 ·cases ht5
 refine AW.skip ?_;exact ⟨.inl rfl,rfl,rfl⟩

theorem gv {fc:Func} {r0 crest:Code} (hf:Tryz.prog.funcs[47]? = some fc) (hb:fc.body=some (.seq r0 crest)) {n:Nat} {up:List AObj} {x0 y1 y2:AV} (e a:Int) (hn:up.length=n) (d:Nat):AW Tryz.prog (d+1) crest ⟨8,A6 2 (.iface 26 (.agg ([Value.int .i64 e,Value.int .i64 a].map .v))) (A6 3 (.iface 26 (.agg ([Value.int .i64 e,Value.int .i64 a].map .v))) (Go.SX.argsF [.ptr (oid n 0) 0,.ptr (oid n 1) 0])),(up++[.cells 23 [x0],.cells 26 [y1,y2]]),[],[],none⟩ (fun e' s2=>(e'=.normal∨e'=.ret)∧s2.defs=[]∧s2.up=up++[.cells 23 [.slice true 5 []],.cells 26 [A3 e,A3 a]]):=by
 have e':=Tryz.func47.symm.trans hf
 injection e' with e'
 subst e'
 injection hb with hb
 injection hb with h1 h2
 subst h2
 refine AW.keep [0,1,2] (by simp only [go_sem,↓reduceIte,Nat.reduceEqDiff,Nat.reduceAdd]<;>rfl) ?_
 refine Z0 ?_;refine R.neqNil jU ?_;refine R.fin [0,1,2,5] ?_
 refine W.cond (fun ht5=>?_) (fun ht5=>?_)
 ·refine W.drawY0 [0,1,0,7] [2] [.q 2 [] [],.s [] (some 0) [] []] (fun B=>if B 0=true then (up++[.cells 23 [.nil],.cells 26 [y1,y2]]) else (up++[.cells 23 [x0],.cells 26 [y1,y2]])) (fun _=>[]) Ab (by kernel_rfl) rfl rfl (fun B=>by split<;>simp) ?_
  apply Y.q
  case h1 =>
   intro B hT hF
   refine D.go ?_;refine D.typeAssert (.of jU) ?_;exact Mh
  case hTF=>decide
  refine Y.storeUp (o:=oid n 0) (t':=23) (ys:=[.nil]) (cs:=[x0]) (cs':=[.nil]) Tryz.sizeOf23 (fun B hB=>⟨by simp only [hB];exact Zl hn,by simp [upd,hB];exact (Zk hn).symm,rfl,by simp⟩) ?_
  refine Y.tail (tn:=[2]) (U:=(up++[.cells 23 [.nil],.cells 26 [y1,y2]])) ?_
  refine R.storeUp jS (rp hn) ?_ ?_
  ·simp
  rw [rn hn]
  refine R.nilUp (oid n 0) 0 5 (Zl hn) (Zk hn) ?_;refine R.fin [] ?_;exact ⟨.inl rfl,rfl,rfl⟩
 cases ht5

/-- Where the loop of moves stands. -/
structure MovAt (L:List Tok) (x:List Mov×Nat):Prop where
 lt:x.2<L.length
 le:x.1.length≤8
 at_:I2 L=Cr L (9-x.1.length) x.1 x.2
theorem gw {L:List Tok} (hl:TokEnd L) (hll:L.length≤500000) {i:Nat} (hi:i<L.length) {m:Mov} {j:Nat} (h:F8 L i=.ok m j):i<j∧j<L.length:=by
 unfold F8 at h
 split at h
 ·cases h
 rename_i h0
 have hi1:i+1<L.length:=hl.step hi (by
  simp only [Bool.or_eq_true,not_or,Bool.not_eq_true,bne_eq_false_iff_eq] at h0
  rw [h0.1];decide)
 obtain ⟨m1,k,h1,h2⟩:=PR.bind_ok h
 obtain ⟨u,j2,h3,h4⟩:=PR.bind_ok h2
 injection h4 with h5 h6
 subst h6
 obtain ⟨a1,a2,_⟩:=Wh hl hll _ (i+1) ⟨Nat.zero_le _,Nat.zero_le _,Nat.zero_le _,Nat.zero_le _⟩ (by omega) hi1 _ _ h1
 obtain ⟨b1,b2⟩:=D8 hl a2 _ _ h3
 exact ⟨by omega,b2⟩
theorem Kq {L:List Tok} {l:List Mov} {i:Nat} (hl:l.length≤8):Cr L (9-l.length) l i=if (A7 L i).kind != 0 then (if (l.length:Int)==8 then Uf L i 3 else (F8 L i).bind fun m j=>Cr L (8-l.length) (l++[m]) j) else .ok l i:=by
 rw [show 9-l.length=(8-l.length)+1 by omega,Cr]
theorem MovAt.out {L:List Tok} {x:List Mov×Nat} (h:MovAt L x) (hk:((A7 L x.2).kind != 0)=false):I2 L=.ok x.1 x.2:=by
 rw [h.at_,Kq h.le,if_neg (by rw [hk];simp)]
theorem MovAt.long {L:List Tok} {x:List Mov×Nat} (h:MovAt L x) (hk:((A7 L x.2).kind != 0)=true) (h8:((x.1.length:Int)==8)=true):I2 L=.bad 3 (A7 L x.2).at_:=by
 rw [h.at_,Kq h.le,if_pos hk,if_pos h8];rfl
theorem MovAt.step {L:List Tok} {x:List Mov×Nat} (h:MovAt L x) (hk:((A7 L x.2).kind != 0)=true) (h8:((x.1.length:Int)==8)=false):I2 L=(F8 L x.2).bind fun m j=>Cr L (8-x.1.length) (x.1++[m]) j:=by
 rw [h.at_,Kq h.le,if_pos hk,if_neg (by rw [h8];simp)]
theorem MovAt.bad {L:List Tok} {x:List Mov×Nat} (h:MovAt L x) (hk:((A7 L x.2).kind != 0)=true) (h8:((x.1.length:Int)==8)=false) {e a:Int} (hM:F8 L x.2=.bad e a):I2 L=.bad e a:=by
 rw [h.step hk h8,hM];rfl
theorem MovAt.on {L:List Tok} (hl:TokEnd L) (hll:L.length≤500000) {x:List Mov×Nat} (h:MovAt L x) (hk:((A7 L x.2).kind != 0)=true) (h8:((x.1.length:Int)==8)=false) {m:Mov} {j:Nat} (hM:F8 L x.2=.ok m j):MovAt L (x.1++[m],j)∧x.2<j:=by
 obtain ⟨a1,a2⟩:=gw hl hll h.lt hM
 have h1:x.1.length≤7:=by
  have:=h.le
  simp only [beq_eq_false_iff_ne,ne_eq] at h8
  omega
 refine ⟨⟨a2,by show (x.1++[m]).length≤8;simp;omega,?_⟩,a1⟩
 rw [h.step hk h8,hM]
 show Cr L (8-x.1.length) (x.1++[m]) j=Cr L (9-(x.1++[m]).length) (x.1++[m]) j
 rw [show 9-(x.1++[m]).length=8-x.1.length by rw [List.length_append,List.length_singleton];omega]
theorem gx (e a:Int):∀v∈[Value.int .i64 e,Value.int .i64 a],(AV.v v).one=true:=by
 intro v hv
 simp only [List.mem_cons,List.not_mem_nil,or_false] at hv
 rcases hv with rfl|rfl<;>rfl
theorem lw {L:List Tok} {l:List Mov} {i:Nat} (h:I2 L=.ok l i):Ol L=.tup [Ca l,.agg [A3 0,A3 0]]:=by unfold Ol Kp;rw [h]
theorem Su {L:List Tok} {e a:Int} (h:I2 L=.bad e a):Ol L=.tup [.slice false 5 [],.agg [A3 e,A3 a]]:=by unfold Ol Kp;rw [h];rfl
theorem we {fn fc:Func} {x0 r1 y r0 crest:Code} (hf:Tryz.prog.funcs[23]? = some fn) (hb:fn.body=some (.seq x0 (.seq r1 y))) (hf2:Tryz.prog.funcs[47]? = some fc) (hb2:fc.body=some (.seq r0 crest)) (L:List Tok) (o:Nat) (Hp:List AObj) (ho:Hp[o]? = some (pmO L 0)) (hl:TokEnd L) (hll:L.length≤500000) (d:Nat):
  AW Tryz.prog (d+1) y ⟨21,A6 0 (.ptr o 0) (A6 2 (.ptr (oid Hp.length 0) 0) (A6 3 (.ptr (oid Hp.length 1) 0) (A6 4 (.fn (.func 47) [] [.ptr (oid Hp.length 0) 0,.ptr (oid Hp.length 1) 0]) fun _=>.any))),Hp,[.cells 23 [.nil],.cells 26 [A3 0,A3 0]],[],none⟩ (KG Tryz.prog crest 8 3 2 [.ptr (oid Hp.length 0) 0,.ptr (oid Hp.length 1) 0] [.cell 2 23,.cell 3 26] Hp.length (fun r H'=>r=Ol L∧∃i,H'=Hp.set o (pmO L i))):=by
 have e:=Tryz.func23.symm.trans hf
 injection e with e
 subst e
 injection hb with hb
 injection hb with h1 h2
 injection h2 with h2 h3
 subst h3
 refine AW.keep [0,2,3] (by simp only [go_sem,↓reduceIte,Nat.reduceEqDiff,Nat.reduceAdd]<;>rfl) ?_
 refine AW.upEq (Ep ho).symm ?_;refine W.seq ?_
 refine AW.loopC (α:=List Mov×Nat) (fun x=>⟨21,A6 0 (.ptr o 0) (A6 2 (.ptr (oid Hp.length 0) 0) (A6 3 (.ptr (oid Hp.length 1) 0) (fun _=>.any))),Hp.set o (pmO L x.2),[.cells 23 [.slice true 5 (x.1.map Dp)],.cells 26 [A3 0,A3 0]],[],none⟩) (fun x=>MovAt L x) (fun x=>L.length-x.2) (([],0)) ⟨hl.pos,by decide,rfl⟩ (StLe.nilCell (own:=[.cells 23 [.nil],.cells 26 [A3 0,A3 0]]) (n:=0) (j0:=0) (k:=5) (t:=23) (cs:=[.nil]) rfl rfl) rfl (fun x hx=>?_)
 refine Z8 ?_;refine R.call Tryz.call48 (c48 L x.2 o _ (A4 (getset ho)) hx.lt) ?_;refine Z1 ?_;refine R.fin [0,2,3,8] ?_
 refine W.cond (fun ht8=>?_) (fun ht8=>?_)
 ·have hk:((A7 L x.2).kind != 0)=true:=ht8
  refine nh ?_;refine Z22 ?_;refine R.fin [0,2,3,11] ?_
  refine W.cond (fun ht11=>?_) (fun ht11=>?_)
  ·have h8:((x.1.length:Int)==8)=true:=by rw [List.length_map] at ht11;exact ht11
   refine AW.regionK ?_
   refine ARunK.one (R.go (ARun.nil ?_))
   refine RK.callBad Tryz.call49 (c49 L x.2 o 3 _ (A4 (getset ho)) hx.lt) ?_
   rintro z U O hU hl' ⟨rfl,hH⟩
   obtain ⟨rfl,rfl⟩:=Hi hU hH
   refine ⟨fun h=>h,fun o h=>(by cases h),?_⟩
   refine Xg ?_;refine K.lpP ?_;refine K.thP ?_;exact KG.finP (vs:=[.int .i64 3,.int .i64 ((A7 L x.2).at_:Int)]) (gx _ _) (V.two (V.cell Tryz.isAgg23) (V.cellN Tryz.isAgg26 Tryz.sizeOf26)) (fun d=>gv hf2 hb2 3 ((A7 L x.2).at_:Int) (by simp) d) ⟨(Su (hx.long hk h8)).symm,x.2,rfl⟩
  have h8:((x.1.length:Int)==8)=false:=by rw [List.length_map] at ht11;exact ht11
  refine Z5 ?_
  rcases hM:F8 L x.2 with ⟨m,j⟩|⟨e,a⟩
  rotate_left
  ·refine W.drawYP0 [2,3] [0,0,2,6,15,31] [2] [.q 2 [] [],.s [16] (some 0) [] [],.s [] none [0] [],.s [] none [0] [],.s [] none [0] []] (fun _=>Hp.set o (pmO L x.2)) (fun B=>[.cells 23 [.slice true 5 (x.1.map Dp)],.cells 26 [A3 0,A3 0]]++bot (B 0)) Ab (by kernel_rfl) (by kernel_rfl) rfl rfl (fun _=>rfl) ?_
   apply Y.q
   case h1 =>
    intro B hT hF
    exact Z56
   case hTF=>decide
   refine Y.callBad (own0:=[.cells 23 [.slice true 5 (x.1.map Dp)],.cells 26 [A3 0,A3 0]]) Tryz.call50 (fun B hB=>⟨rfl,by simp [bot,hB]⟩) ((c50 L x.2 o _ (A4 (getset ho)) hx.lt hl hll).bad hM) ?_ ?_
   ·rintro z U O f hU hl' ⟨rfl,j',hH⟩
    obtain ⟨rfl,rfl⟩:=B8 hU (List.getElem?_eq_some_iff.1 (getset (B:=pmO L x.2) ho)).1 hH
    refine ⟨fun h=>B9 h (fun n=>Ay),fun o h=>(by cases h),?_⟩
    intro hts
    have h2:=hts 2 (by simp)
    have h3:=hts 3 (by simp)
    simp only [go_sem,↓reduceIte,Nat.reduceEqDiff,Nat.reduceAdd] at h2 h3
    refine K.blP ?_;refine K.lpP ?_;refine K.thP ?_;exact KG.finP (vs:=[.int .i64 e,.int .i64 a]) (gx _ _) (V.two (V.cell (n:=0) (off:=0) Tryz.isAgg23 (hp:=by rw [h2];simp only [List.length_set];rfl)) (V.cellN (n:=1) (off:=0) Tryz.isAgg26 Tryz.sizeOf26 (hp:=by rw [h3];simp only [List.length_set];rfl))) (fun d=>gv hf2 hb2 e a (by simp) d) ⟨(Su (hx.bad hk h8 hM)).symm,j',List.set_set ..⟩
   exact t7
  have hon:=hx.on hl hll hk h8 hM
  refine W.drawY0 [0,0,2,6,15,31] [0,2] [.s [14] (some 0) [] [],.q 1 [] [1],.s [16] (some 1) [] [],.q 1 [1] []] (fun B=>Hp.set o (pmO L (if B 1=true then j else x.2))) (fun B=>if B 0=true then [.cells 23 [.slice false 5 (x.1.map Dp)],.cells 26 [A3 0,A3 0]] else [.cells 23 [.slice true 5 (x.1.map Dp)],.cells 26 [A3 0,A3 0]]) Ab (by kernel_rfl) rfl rfl (fun B=>by simp) ?_
  refine Y.loadOwnT (u:=Hp.length) (n:=0) (t':=23) (cs:=[.slice true 5 (x.1.map Dp)]) (cs':=[.slice false 5 (x.1.map Dp)]) Tryz.isAgg23 (fun B hB=>⟨by simp,by simp only [hB];rfl,by simp only [hB];rfl,rfl⟩) ?_
  apply Y.q
  case h1 =>
   intro B hT hF
   exact Z60
  case hTF=>decide
  refine Y.callUp (r:=Dp m) (o:=o) (x0:=pmO L x.2) (x:=pmO L j) Tryz.call50 (fun B hB1 hB2 hB=>⟨by simp only [hB];exact getset ho,by simp only [hB];exact (List.set_set ..).symm,rfl,Ay,?_⟩) ?_
  ·simp only [hB]
   exact ((c50 L x.2 o _ (A4 (getset ho)) hx.lt hl hll).ok hM)
  apply Y.q
  case h1 =>
   intro B hT hF
   exact Z33
  case hTF=>decide
  refine Y.tail (tn:=[0,2]) (U:=Hp.set o (pmO L j)) (O:=[.cells 23 [.slice false 5 (x.1.map Dp)],.cells 26 [A3 0,A3 0]]) ?_
  refine R.append jU Tryz.type47 ?_ ?_ ?_
  ·simp [Tryz.t47];have:=hx.le;omega
  ·simp [Tryz.t47];have:=hx.le;omega
  refine R.storeOwnT jS ?_;refine R.fin [0,2,3] ?_;refine K.blN ?_
  refine K.lpN (x.1++[m],j) hon.1 (by have:=hx.lt;have:=hon.2;show L.length-j<L.length-x.2;omega) (StCut.of_eq (by simp [List.map_append,show Tryz.t47.size=5 from rfl]))
 have hk:((A7 L x.2).kind != 0)=false:=ht8
 have e:=hx.out hk
 refine Z47 ?_;refine Z0 ?_;refine AAq ?_;refine Hv ?_;refine Z21 ?_;exact KG.fin .ret (V.two (V.cell Tryz.isAgg23) (V.cellN Tryz.isAgg26 Tryz.sizeOf26)) (fun d=>wd hf2 hb2 d _ _ _) ⟨(lw e).symm,x.2,rfl⟩ (hlow:=by simpa using (Ea (n:=Hp.length) (k:=5) (o:=false) (l:=x.1)))

theorem c23 (L:List Tok) (o:Nat) (Hp:List AObj) (ho:Hp[o]? = some (pmO L 0)) (hl:TokEnd L) (hll:L.length≤500000):ACall Tryz.prog 23 [.ptr o 0] Hp (fun r H'=>r=Ol L∧∃i,H'=Hp.set o (pmO L i)):=by
 refine ACall.guarded (n:=21) (nc:=8) (a:=3) (b:=2) (os:=[oid Hp.length 0,oid Hp.length 1]) (own0:=[.cells 23 [.nil],.cells 26 [A3 0,A3 0]]) (rs:=[.cell 2 23,.cell 3 26])
  (fr0:=A6 0 (.ptr o 0) (A6 2 (.ptr (oid Hp.length 0) 0) (A6 3 (.ptr (oid Hp.length 1) 0) fun _=>.any))) (fr1:=A6 0 (.ptr o 0) (A6 2 (.ptr (oid Hp.length 0) 0) (A6 3 (.ptr (oid Hp.length 1) 0) (A6 4 (.fn (.func 47) [] [.ptr (oid Hp.length 0) 0,.ptr (oid Hp.length 1) 0]) fun _=>.any))))
  Tryz.func23 rfl rfl Tryz.ntmps23 (by simp) Tryz.func47 rfl Tryz.ntmps47 rfl (by simp) (by decide) (by decide) Tryz.call47 (fun d=>?_) (fun d=>?_) rfl (fun d l=>?_)
 ·refine AW.keep [0] (by simp only [go_sem,↓reduceIte,Nat.reduceEqDiff,Nat.reduceAdd]<;>rfl) ?_
  refine AW.region ?_;refine R.alloc jZ ?_;refine R.alloc jZ ?_;refine R.fin [0,2,3] ?_;exact ⟨rfl,rfl⟩
 ·refine R.makeFunc ?_;refine R.fin [0,2,3,4] ?_
  rfl
 exact @we { b:=ErrAt.b,bd:=d+1,bl:=l } _ _ _ _ _ _ _ Tryz.func23 rfl Tryz.func47 rfl L o Hp ho hl hll d
theorem gy {s:Str} (h:((Db s).2.1 != 0)=true):I9 s=([],(Db s).2.1,((Db s).2.2:Int)):=if_pos h
theorem zf {s:Str} (h:((Db s).2.1 != 0)=false):I9 s=Kp (Db s).1:=by
 unfold I9 Kp
 rw [if_neg (by rw [h];simp)]
 cases I2 (Db s).1<;>rfl
theorem c8 (s:Str) (hs:s.length≤1048576) (Hp:List AObj):AFun Tryz.prog 8 [Aa s] Hp (.tup [Ca (I9 s).1,.agg [A3 (I9 s).2.1,A3 (I9 s).2.2]]):=by
 refine ACall.body [.tmp 2,.cell 3 26] [0] Tryz.func8 Tryz.ntmps8 (fun d=>?_)
 refine Z0 ?_;refine R.alloc jZ ?_;refine Hu ?_;refine Z0 ?_;refine R.call Tryz.call22 (c22 s hs _) ?_;refine Z6 ?_;refine ja ?_;refine R.fin [3,4,5] ?_;refine Z22 ?_;refine R.fin [3,4,5,13] ?_
 refine W.cond (fun ht13=>?_) (fun ht13=>?_)
 ·have e:=gy ht13
  refine W.drawQ [0,0,3] 2 Ab (by kernel_rfl) ?_;refine Z9 ?_;refine D.tail ?_;refine R.wk 2 (Ca []) (.nil false 5) ?_;refine Hv ?_;refine Z82 ?_;exact K.fin (V.two V.tmp (V.cellN jA jS)) ⟨by rw [e]<;>rfl,rfl⟩
 have hz:(Db s).2.1=0:=by simpa using ht13
 have hle:=er hz
 have hlen:=fl hz
 have e:=zf ht13
 refine Mf ?_;refine jh ?_;refine R.box ?_
 refine R.callEx (fun _=>Hp) (fun i=>[.cells 26 [A3 0,A3 0],.cells 26 [A3 (Db s).2.1,A3 ((Db s).2.2:Nat)],pmO (Db s).1 i]) Tryz.call23 ((c23 (Db s).1 (oid Hp.length 2) _ (by rw [Br];rfl) hle (by omega)).mono (fun r H' ⟨e,i,h⟩=>⟨e,i,h.trans (by rw [Ie];rfl)⟩)) (fun _=>rfl) (fun _ h=>h) (fun i=>?_)
 refine Z6 ?_;refine Hv ?_;refine Z21 ?_;exact K.fin (V.two V.tmp (V.cellN jA jS)) ⟨by rw [e],rfl⟩ (hlow:=by simpa using (Ea (n:=Hp.length) (k:=5) (o:=false) (l:=(Kp (Db s).1).1)))

end Go.SX.Nb
namespace Go.SX
variable [GI:GlobInv]
open Classical Go.RowKit
section
variable {P:Program} {g:FuncId} {Hp:List AObj}
/-- Where a slice of plain values lies. -/
def ACd (w:World) (u:Value) (l:List Value):Prop:=
 (u=.slice none 0 0∧l=[])∨∃(ad:Addr) (c:Nat),u=.slice (some ad) l.length c∧l.length≤c∧(l≠[]→ad.spot=none)∧(∀(j:Nat) (x:Value),l[j]? = some x→w.cell? ⟨ad.block,ad.off+j,none⟩=some x)
theorem AFun.libSl {l xs:List Value} {o:Bool} {r:AV} {v:Value} (hr:∀G w,Rep G w none r v) (h:∀w u,H0 w→ACd w u l→Calls P g (u::xs).toArray w (fun e w'=>e=.returned v∧Below w.heap.size w w')):AFun P g (.slice o 1 (l.map .v)::xs.map .v) Hp r:=by
 intro d G w vs hn hv hH hT hTop
 have hn':vs.size=xs.length+1:=by simpa using hn
 have h0:vs[0]? = some (vs[0]'(by omega)):=Array.getElem?_eq_getElem (by omega)
 have hvs:vs=((vs[0]'(by omega))::xs).toArray:=by
  apply Array.ext
  ·simpa using hn'
  intro i h1 h2
  cases i with
  | zero=>rfl
  | succ i =>
   have hi:i<xs.length:=by omega
   have hrp:=hv (i+1) (.v xs[i]) vs[i+1] (by simp [hi]) (Array.getElem?_eq_getElem h1)
   have:=Ib hrp
   simpa using this
 have hsl:ACd w (vs[0]'(by omega)) l:=by
  have hrp:=hv 0 _ _ rfl h0
  rcases Fc (.inl rfl) hrp with ⟨e,hl⟩|⟨ad,c,f,e,hc,hF,_⟩
  ·exact .inl ⟨e,by simpa using hl⟩
  rw [List.length_map] at e hc
  refine .inr ⟨ad,c,e,hc,fun hne=>hF.spot (by simpa using hne),fun j x hj=>?_⟩
  have hx:(l.map AV.v)[j]? = some (.v x):=by rw [List.getElem?_map,hj];rfl
  have h1:=(hF.cell j _ 0 _ hx rfl).2
  have h2:=Ib (hF.rep j _ 0 _ hx rfl)
  rw [h2] at h1
  simpa using h1
 rw [hvs]
 refine (callsIn_wide.2 (h w _ (fun x hx=>let ⟨_,u,a,b⟩:=hT.glob x hx;⟨u,a,b⟩) hsl)).mono ?_
 rintro e w' ⟨rfl,hb⟩
 obtain ⟨h1,h2⟩:=Qq hH hT hb
 exact ⟨v,G,r,Hp,rfl,(hr G w').lift,h1,h2,(Lv hT hb).keep _,rfl,rfl,rfl⟩
end
end Go.SX
