/- Texts on the way to this: PhaseWays answers true for whatever it is handed: of any columns, any migration and any events: behind a cut it only comes to the new version; behind an abort, or a failure, only to where it was, with the cause that it had; keys only rise in each phase (up to 100 events, 50 columns, 4000 bytes). (part 10) -/
import Derived.Below
import Derived.Test.YthakapgmpcbbkaaGreatDoorPhaseWaysCardSaidPart9
set_option linter.all false
namespace Go.SX.Nb
open Go Go.SX Go.Proofs
variable [ErrAt]
set_option maxRecDepth 4000
abbrev pmO (L:List Tok) (i:Nat):AObj:=.cells 99 [el L,A2 (i:Int)]
abbrev mvC (m:Mov):List AV:=[A2 m.kind,.slice true 1 (m.take.map A8),.slice true 2 (m.give.map Ax),.slice true 6 (m.ahead.map A7),.slice true 6 (m.back.map A7)]
abbrev mvO (m:Mov):AObj:=.cells 77 (mvC m)
abbrev dk (e a:Int):Value:=.iface 59 (.agg [Value.int .i64 e,Value.int .i64 a].toArray)
abbrev Ll:AV:=.v (.tuple #[])
theorem Aw {n:Nat} {L:List Tok} {i:Nat}:ObjLow n (pmO L i):=by
 show ∀y∈[AV.slice false 3 (L.map Ha),A2 (i:Int)],Low n y
 intro y hy
 simp only [List.mem_cons,List.not_mem_nil,or_false] at hy
 rcases hy with rfl|rfl
 ·simp [or_imp,forall_and]
 simp
/-- A contract of the parser: it comes to what the model comes to, or the model's fault is F5. -/
def CP (g:FuncId) (args:List AV) (H:List AObj) {α:Type} (X:PR α) (Q:α→Nat→AV→List AObj→Prop) (R:List AObj→Prop):Prop:=
 ACallP Tryz.prog g args H (fun r H'=>∃c j,X=.ok c j∧Q c j r H') (fun v H'=>∃e a,X=.bad e a∧v=dk e a∧R H')
theorem CP.ok {g:FuncId} {args:List AV} {H:List AObj} {α:Type} {X:PR α} {Q:α→Nat→AV→List AObj→Prop} {R:List AObj→Prop} {c:α} {j:Nat} (h:CP g args H X Q R) (hX:X=.ok c j):ACall Tryz.prog g args H (fun r H'=>Q c j r H'):=
 ACall.ofP (h.mono (fun r H' ⟨c',j',e,hq⟩=>by rw [hX] at e;injection e with e1 e2;subst e1;subst e2;exact hq) (fun v H' ⟨e,a,he,_⟩=>by rw [hX] at he;cases he))
theorem CP.bad {g:FuncId} {args:List AV} {H:List AObj} {α:Type} {X:PR α} {Q:α→Nat→AV→List AObj→Prop} {R:List AObj→Prop} {e a:Int} (h:CP g args H X Q R) (hX:X=.bad e a):ACallP Tryz.prog g args H (fun _ _=>False) (fun v H'=>v=dk e a∧R H'):=
 h.mono (fun r H' ⟨c',j',he,hq⟩=>by rw [hX] at he;cases he) (fun v H' ⟨e',a',he,hv,hR⟩=>by rw [hX] at he;injection he with e1 e2;subst e1;subst e2;exact ⟨hv,hR⟩)
/-- The parser's object alone has turned. -/
def W1 (L:List Tok) (o:Nat) (Hp H':List AObj):Prop:=∃j,H'=Hp.set o (pmO L j)
theorem W1.refl {L:List Tok} {o i:Nat} {Hp:List AObj} (ho:Hp[o]? = some (pmO L i)):W1 L o Hp Hp:=⟨i,(Ek ho).symm⟩
theorem c73 (L:List Tok) (i o:Nat) (Hp:List AObj) (ho:Hp[o]? = some (pmO L i)) (hi:i<L.length):AFun Tryz.prog 73 [.ptr o 0] Hp (Ha (A5 L i)):=by
 refine ACall.body [.cell 2 130] [0] Tryz.func73 Tryz.ntmps73 (fun d=>?_)
 refine ABn ?_;refine Z56 ?_
 refine D.go (h:=Q.loadUp ho) (hr:=?_)
 refine Z56 ?_
 refine D.go (h:=Q.loadUp ho) (hr:=?_)
 refine D.tail ?_
 refine R.go (h:=Q.indexAddr (i) (Ha (A5 L i)) (fun _=>O0 hi)) (hr:=?_)
 refine R.go ?_;exact uf

theorem c74 (L:List Tok) (i o:Nat) (e:Int) (Hp:List AObj) (ho:Hp[o]? = some (pmO L i)) (hi:i<L.length):ACallP Tryz.prog 74 [.ptr o 0,A2 e] Hp (fun _ _=>False) (fun v H'=>v=dk e (A5 L i).at_∧H'=Hp):=by
 refine ACallP.body [] [0,1] Tryz.func74 Tryz.ntmps74 (fun d=>?_)
 refine W.drawY0 [0,0,2,6,14,0,32,96,224,510,1022,2046,4095,8191,16383] [14] [.q 14 [] [],.s [] (some 0) [] []] (fun _=>Hp) (fun B=>[]++bot (B 0)) Ac (by kernel_rfl) rfl rfl (fun _=>rfl) ?_
 apply Y.q
 case h1 =>
  intro B hT hF
  refine Vl ?_
  refine D.go (h:=Q.loadUp ho) (hr:=?_)
  refine Z56 ?_
  refine D.go (h:=Q.loadUp ho) (hr:=?_)
  refine D.go (h:=Q.indexAddr (i) (Ha (A5 L i)) (fun _=>O0 hi)) (hr:=?_)
  refine Z14 ?_;refine D.build (places:=#[(0,1),(1,1)]) jU (fun w=>by simp) jZ ?_;refine D.makeIface (.of jU) ?_;exact Np
 case hTF=>decide
 refine Y.panic (vs:=[.int .i64 e,.int .i64 ((A5 L i).at_:Int)]) (fun B hB f=>?_) ?_
 ·exact K.finPP ⟨rfl,rfl⟩
 exact ux

theorem AD3 (L:List Tok) (s:Str) (i o:Nat) (Hp:List AObj) (ho:Hp[o]? = some (pmO L i)) (hi:i<L.length):AFun Tryz.prog 144 [.ptr o 0,A8 s] Hp (Ao (isP L s i)):=by
 refine ACall.body [.tmp 4] [0,1] Tryz.func144 Tryz.ntmps144 (fun d=>?_)
 refine Z42 ?_;refine z7 ?_;refine Z16 ?_;refine R.fin [1,5] ?_;refine Z1 ?_;refine Z75 ?_;refine Z64 ?_;exact uh

theorem Nf (L:List Tok) (s:Str) (i o:Nat) (Hp:List AObj) (ho:Hp[o]? = some (pmO L i)) (hi:i<L.length) (hll:L.length≤500000):CP 103 [.ptr o 0,A8 s] Hp (Be L s i) (fun _ j r H'=>r=Ll∧H'=Hp.set o (pmO L j)) (W1 L o Hp):=by
 refine ACallP.body [] [0,1] Tryz.func103 Tryz.ntmps103 (fun d=>?_)
 refine Z11 ?_;refine R.call Tryz.call144 (AD3 L s i o _ (A4 ho) hi) ?_;refine R.go ?_;refine R.fin [0,7] ?_
 refine W.cond (fun ht7=>?_) (fun ht7=>?_)
 ·have hq:isP L s i=false:=by simpa using ht7
  have e:Be L s i=.bad 8 (A5 L i).at_:=if_neg (by rw [hq];simp)
  refine AW.regionK ?_
  refine ARunK.one (R.go (ARun.nil ?_))
  refine zi ?_
  rintro x U O hU hl' ⟨rfl,hH⟩
  obtain ⟨rfl,rfl⟩:=Hh hU hH
  refine ⟨fun h=>h,fun o h=>(by cases h),?_⟩
  exact ud
 have hq:isP L s i=true:=by simpa using ht7
 have e:Be L s i=.ok () (i+1):=if_pos hq
 refine Z9 ?_;refine Z60 ?_
 refine R.go (h:=Q.loadUp ho) (hr:=?_)
 refine Z23 ?_
 refine R.storeUp jS ho ?_ ?_
 ·simp
 refine R.fin [] ?_;exact K.finPN .nores (hp:=⟨(),i+1,e,rfl,rfl⟩)

theorem Pn (L:List Tok) (i o:Nat) (Hp:List AObj) (ho:Hp[o]? = some (pmO L i)) (hi:i<L.length) (hll:L.length≤500000):CP 138 [.ptr o 0] Hp (Dt L i) (fun s j r H'=>r=A8 s∧H'=Hp.set o (pmO L j)) (W1 L o Hp):=by
 refine ACallP.body [.tmp 2] [0] Tryz.func138 Tryz.ntmps138 (fun d=>?_)
 refine Z46 ?_;refine z7 ?_;refine Z16 ?_;refine L9 ?_;refine Z34 ?_;refine R.fin [0,3,8] ?_
 refine W.cond (fun ht8=>?_) (fun ht8=>?_)
 ·have e:Dt L i=.bad 8 (A5 L i).at_:=if_pos ht8
  refine AW.regionK ?_
  refine ARunK.one (R.go (ARun.nil ?_))
  refine zi ?_
  rintro x U O hU hl' ⟨rfl,hH⟩
  obtain ⟨rfl,rfl⟩:=Hh hU hH
  refine ⟨fun h=>h,fun o h=>(by cases h),?_⟩
  exact ud
 have e:Dt L i=.ok (A5 L i).text (i+1):=if_neg (by rw [ht8];simp)
 refine Qh ?_
 refine R.go (h:=Q.loadUp ho) (hr:=?_)
 refine Z23 ?_
 refine R.storeUp jS ho ?_ ?_
 ·simp
 refine R.fin [3] ?_;refine Z18 ?_;refine Z4 ?_;exact K.finP (V.one V.tmp) (hp:=⟨_,i+1,e,rfl,rfl⟩)

theorem getset {Hp:List AObj} {o:Nat} {A B:AObj} (h:Hp[o]? = some A):(Hp.set o B)[o]? = some B:=by
 have:=(List.getElem?_eq_some_iff.1 h).1
 simp [this]
theorem W1.set {L:List Tok} {o i:Nat} {Hp:List AObj}:W1 L o Hp (Hp.set o (pmO L i)):=⟨i,rfl⟩
theorem B5 {l:List AObj} {i:Nat} {x:AObj} (h:∀y∈l,ObjLow (l.set i x).length y) (hx:∀n,ObjLow n x):∀y∈l.set i x,ObjLow (l.set i x).length y:=E3 h (hx _)
theorem c168 (L:List Tok) (i o:Nat) (Hp:List AObj) (ho:Hp[o]? = some (pmO L i)) (hi:i<L.length) (hl:TokEnd L) (hll:L.length≤500000):CP 168 [.ptr o 0] Hp (Fu L i) (fun c j r H'=>r=Ax c∧H'=Hp.set o (pmO L j)) (W1 L o Hp):=by
 refine ACallP.body [.cell 2 48] [0] Tryz.func168 Tryz.ntmps168 (fun d=>?_)
 refine Z43 ?_
 rcases hN:Dt L i with ⟨s,j⟩|⟨e,a⟩
 rotate_left
 ·refine AW.seqRK ?_
  refine ARunK.one (R.go (ARun.nil ?_))
  refine RK.callBad Tryz.call138 ((Pn L i o _ (A4 ho) hi hll).bad hN) ?_
  rintro x U O hU hl' ⟨rfl,j',hH⟩
  obtain ⟨rfl,rfl⟩:=B4 hU (List.getElem?_eq_some_iff.1 ho).1 hH
  refine ⟨fun h=>B5 h (fun n=>Aw),fun o h=>(by cases h),?_⟩
  refine K.thP ?_;exact K.finPP ⟨_,_,by unfold Fu;rw [hN];rfl,rfl,j',rfl⟩
 have hj:j<L.length:=(Eh hl hi _ _ hN).2
 have e0:Fu L i=Pa L s j:=by unfold Fu;rw [hN];rfl
 refine Z2 ?_;refine R.callUp (x:=pmO L j) Tryz.call138 ho (by simp) Aw ((Pn L i o _ (A4 ho) hi hll).ok hN) ?_;refine Xh ?_;refine Xc ?_;refine Z2 ?_;refine R.call Tryz.call73 (c73 L j o _ (A4 (getset ho)) hj) ?_;refine Z16 ?_;refine R.fin [0,2,3,4] ?_;refine Z11 ?_;refine R.call Tryz.call190 (AE6 (A5 L j).text _) ?_;refine Z36 ?_;refine R.fin [0,2,3,4] ?_;refine Z1 ?_;refine Z75 ?_;refine R.go ?_;refine R.fin [0,2,3,21] ?_
 refine W.cond (fun ht21=>?_) (fun ht21=>?_)
 ·have e:Fu L i=.bad 8 (A5 L j).at_:=by rw [e0];exact if_pos ht21
  refine AW.regionK ?_
  refine ARunK.one (R.go (ARun.nil ?_))
  refine RK.callBad Tryz.call74 (c74 L j o 8 _ (A4 (getset ho)) hj) ?_
  rintro x U O hU hl' ⟨rfl,hH⟩
  obtain ⟨rfl,rfl⟩:=Hh hU hH
  refine ⟨fun h=>h,fun o h=>(by cases h),?_⟩
  refine K.thP ?_;exact K.finPP ⟨_,_,e,rfl,W1.set⟩
 have e:Fu L i=.ok ⟨s,Ic (A5 L j).text⟩ (j+1):=by rw [e0];exact if_neg (by rw [ht21];simp)
 refine Qh ?_
 refine R.go (h:=Q.loadUp (getset ho)) (hr:=?_)
 refine Z23 ?_
 refine R.storeUp jS (getset ho) ?_ ?_
 ·simp
 refine I5 ?_;refine Z2 ?_;refine Z10 ?_;exact K.finP (V.one (V.cellN jA jS)) (hp:=⟨_,j+1,e,rfl,by rw [List.set_set];rfl⟩)

theorem s8 (L:List Tok) (i o:Nat) (Hp:List AObj) (ho:Hp[o]? = some (pmO L i)) (hi:i<L.length) (hl:TokEnd L) (hll:L.length≤500000):CP 169 [.ptr o 0] Hp (Gw L i) (fun c j r H'=>r=A7 c∧H'=Hp.set o (pmO L j)) (W1 L o Hp):=by
 refine ACallP.body [.cell 2 103] [0] Tryz.func169 Tryz.ntmps169 (fun d=>?_)
 refine Z43 ?_;refine W.drawY [0,1,3,7,0,16,48,112,255,511,1023,1023,1023,0,0,26623,61439,131071] [] [.q 13 [] [],.s [3] none [] [],.s [5] none [] [],.s [3] none [] [],.q 1 [] [],.s [5] none [] []] (fun _=>Hp) (fun _=>[.cells 103 [A2 0,A8 [],A2 0,A2 0,A8 [],.nil]]) Ac (by kernel_rfl) rfl rfl (fun _=>rfl) ?_
 apply Y.q
 case h1 =>
  intro B hT hF
  refine Z56 ?_
  refine D.go (h:=Q.loadUp ho) (hr:=?_)
  refine Z56 ?_
  refine D.go (h:=Q.loadUp ho) (hr:=?_)
  refine D.call Tryz.call191 (AEm L i hi hl hll (fun n Dv h1 h2=>lh hl (by omega) n Dv h1 h2) _) ?_;exact ni
 case hTF=>decide
 refine Y.allocP Tryz.zeroValue103 ?_;refine Y.allocP Tryz.zeroValue59 ?_;refine Y.storeP Tryz.sizeOf103 ?_
 apply Y.q
 case h1 =>
  intro B hT hF
  exact Z44
 case hTF=>decide
 refine Y.storeP Tryz.sizeOf59 ?_;refine Y.tail (tn:=[])  ?_;refine R.fin [0,2,3,4,5] ?_;refine Z34 ?_;refine R.fin [0,2,3,4,5,21] ?_
 refine W.cond (fun ht21=>?_) (fun ht21=>?_)
 ·have e:Gw L i=.bad (atM L i).2.2.1 (atM L i).2.2.2:=if_pos ht21
  refine AW.regionK ?_
  refine ARunK.one (R.go (ARun.nil ?_))
  refine ARunK.one (R.makeIface (.of Tryz.underlying59) (ARun.nil ?_))
  refine RK.panic (vs:=[.int .i64 (atM L i).2.2.1,.int .i64 (atM L i).2.2.2]) ?_;exact ud
 obtain ⟨k,hk,hkl⟩:=wl hl (by omega) hi (by simpa using ht21)
 have e:Gw L i=.ok (atM L i).1 k:=(if_neg (by rw [ht21];simp)).trans (by rw [hk];rfl)
 rw [hk]
 refine Z9 ?_;refine Z35 ?_
 refine R.storeUp jS ho ?_ ?_
 ·simp
 refine I5 ?_;refine Z2 ?_;refine Z10 ?_;exact K.finP (V.one (V.cellN jA jS)) (hp:=⟨_,k,e,(Ab _).symm,rfl⟩) (hlow:=by have:=Ad Hp.length (atM L i).1;rw [Ab] at this;exact this)

/-- The parser's object and the move's, turned. -/
def U2 (L:List Tok) (Hp:List AObj) (o om i:Nat) (x:AObj):List AObj:=(Hp.set o (pmO L i)).set om x
theorem U2_len {L:List Tok} {Hp:List AObj} {o om i:Nat} {x:AObj}:(U2 L Hp o om i x).length=Hp.length:=by simp [U2]
theorem Cf {L:List Tok} {Hp:List AObj} {o om i:Nat} {x z:AObj} (hm:Hp[om]? = some z):(U2 L Hp o om i x)[om]? = some x:=gB hm
theorem B6 {L:List Tok} {Hp:List AObj} {o om i:Nat} {x z:AObj} (ho:Hp[o]? = some z) (hne:om≠o):(U2 L Hp o om i x)[o]? = some (pmO L i):=gA ho hne
theorem Bp {L:List Tok} {Hp:List AObj} {o om i j:Nat} {x:AObj} (hne:om≠o):(U2 L Hp o om i x).set o (pmO L j)=U2 L Hp o om j x:=ru hne
theorem U2_setm {L:List Tok} {Hp:List AObj} {o om i:Nat} {x y:AObj}:(U2 L Hp o om i x).set om y=U2 L Hp o om i y:=List.set_set ..
theorem Ng {L:List Tok} {Hp:List AObj} {o om i:Nat} {x:AObj} (ho:Hp[o]? = some (pmO L i)) (hm:Hp[om]? = some x):U2 L Hp o om i x=Hp:=by unfold U2;rw [Ek ho,Ek hm]
theorem dl {L:List Tok} {Hp:List AObj} {o om i:Nat} {x:AObj} (hne:om≠o) (hm:Hp[om]? = some x):Hp.set o (pmO L i)=U2 L Hp o om i x:=(Ek (by rw [List.getElem?_set_ne (Ne.symm hne)];exact hm)).symm
theorem Ec {L:List Tok} {Hp:List AObj} {o om i q:Nat} {x:AObj} (h1:q≠o) (h2:q≠om):(U2 L Hp o om i x)[q]? = Hp[q]? := by unfold U2;rw [List.getElem?_set_ne (Ne.symm h2),List.getElem?_set_ne (Ne.symm h1)]
def W2 (L:List Tok) (o om:Nat) (Hp H':List AObj):Prop:=∃j m,H'=U2 L Hp o om j (mvO m)
theorem M3 {n k:Nat} {o:Bool} {l:List Expr} {x:Expr}:Low n (.slice o k (l.map A7++[.agg (Ee x)])):=by
 rw [show AV.agg (Ee x)=A7 x from (Ab x).symm];exact dc
theorem Bn {n:Nat} {m:Mov}:ObjLow n (mvO m):=by
 show ∀y∈mvC m,Low n y
 intro y hy
 simp only [mvC,List.mem_cons,List.not_mem_nil,or_false] at hy
 rcases hy with rfl|rfl|rfl|rfl|rfl
 all_goals first|exact Dc|simp [or_imp,forall_and]
theorem lm {L:List Tok} {Hp:List AObj} {o om i:Nat} {m:Mov} {c:Col} {x:AObj}:(U2 L Hp o om i x).set om (.cells 77 [A2 m.kind,.slice true 1 (m.take.map A8),.slice true 2 (m.give.map Ax++[Ax c]),.slice true 6 (m.ahead.map A7),.slice true 6 (m.back.map A7)])=U2 L Hp o om i (mvO (Bm m c)):=by
 rw [U2_setm];simp only [mvO,mvC,Bm,List.map_append,List.map_cons,List.map_nil]
theorem ln {L:List Tok} {Hp:List AObj} {o om i:Nat} {m:Mov} {e:Expr} {x:AObj}:(U2 L Hp o om i x).set om (.cells 77 [A2 m.kind,.slice true 1 (m.take.map A8),.slice true 2 (m.give.map Ax),.slice true 6 (m.ahead.map A7++[.agg (Ee e)]),.slice true 6 (m.back.map A7)])=U2 L Hp o om i (mvO (Lk m e)):=by
 rw [U2_setm,show AV.agg (Ee e)=A7 e from (Ab e).symm];simp only [mvO,mvC,Lk,List.map_append,List.map_cons,List.map_nil]
theorem lq {L:List Tok} {Hp:List AObj} {o om i:Nat} {m:Mov} {e:Expr} {x:AObj}:(U2 L Hp o om i x).set om (.cells 77 [A2 m.kind,.slice true 1 (m.take.map A8),.slice true 2 (m.give.map Ax),.slice true 6 (m.ahead.map A7),.slice true 6 (m.back.map A7++[.agg (Ee e)])])=U2 L Hp o om i (mvO (Rv m e)):=by
 rw [U2_setm,show AV.agg (Ee e)=A7 e from (Ab e).symm];simp only [mvO,mvC,Rv,List.map_append,List.map_cons,List.map_nil]
theorem lr {L:List Tok} {Hp:List AObj} {o om i:Nat} {m:Mov} {s:Str} {x:AObj}:(U2 L Hp o om i x).set om (.cells 77 [A2 m.kind,.slice true 1 (m.take.map A8++[A8 s]),.slice true 2 (m.give.map Ax),.slice true 6 (m.ahead.map A7),.slice true 6 (m.back.map A7)])=U2 L Hp o om i (mvO (Rw m s)):=by
 rw [U2_setm];simp only [mvO,mvC,Rw,List.map_append,List.map_cons,List.map_nil]

theorem dm (L:List Tok) (m:Mov) (i o om:Nat) (Hp:List AObj) (hne:om≠o) (ho:Hp[o]? = some (pmO L i)) (hm:Hp[om]? = some (mvO m)) (hi:i<L.length) (hl:TokEnd L) (hll:L.length≤500000) (hb:MvLe m (2*i-1)):CP 137 [.ptr o 0,.ptr om 0] Hp (Cc L m i) (fun m' j r H'=>r=Ll∧H'=U2 L Hp o om j (mvO m')) (W2 L o om Hp):=by
 have:=hb.take;have:=hb.give;have:=hb.ahead;have:=hb.back
 refine ACallP.body [] [0,1] Tryz.func137 Tryz.ntmps137 (fun d=>?_)
 rcases hC:Fu L i with ⟨c,j⟩|⟨e,a⟩
 rotate_left
 ·refine W.drawY [0,0,2,6,14,0,32,96,254,511,1023,2047] [6] [.q 6 [] [],.s [10] (some 0) [] [],.s [] none [0] [],.s [] none [0] [],.s [] none [0] [],.s [] none [0] [],.s [] none [0] []] (fun _=>Hp) (fun B=>[]++bot (B 0)) Ac (by kernel_rfl) rfl rfl (fun _=>rfl) ?_
  apply Y.q
  case h1 =>
   intro B hT hF
   refine Vl ?_
   refine D.go (h:=Q.loadUp hm) (hr:=?_)
   exact Z44
  case hTF=>decide
  refine Y.callBad (own0:=[]) Tryz.call168 (fun B hB=>⟨rfl,by simp [bot,hB]⟩) ((c168 L i o _ (A4 ho) hi hl hll).bad hC) ?_ ?_
  ·rintro x U O f hU hl' ⟨rfl,j',hH⟩
   obtain ⟨rfl,rfl⟩:=B4 hU (List.getElem?_eq_some_iff.1 ho).1 hH
   refine ⟨fun h=>B5 h (fun n=>Aw),fun o h=>(by cases h),?_⟩
   exact K.finPP ⟨_,_,by unfold Cc;rw [hC];rfl,rfl,j',m,dl hne hm⟩
  refine Z15 ?_;exact uo
 have hj:=Oa hl hi _ _ hC
 refine W.drawY [0,0,2,6,14,0,32,96,254,511,1023,2047] [4,6] [.q 4 [] [],.s [8] (some 0) [] [],.q 1 [] [1],.s [10] (some 1) [] [],.q 1 [1] [],.s [8,12] none [0,1] []] (fun B=>U2 L Hp o om (if B 1=true then j else i) (if B 0=true then .cells 77 [A2 m.kind,.slice true 1 (m.take.map A8),.slice false 2 (m.give.map Ax),.slice true 6 (m.ahead.map A7),.slice true 6 (m.back.map A7)] else .cells 77 [A2 m.kind,.slice true 1 (m.take.map A8),.slice true 2 (m.give.map Ax),.slice true 6 (m.ahead.map A7),.slice true 6 (m.back.map A7)])) (fun _=>[]) Ac (by kernel_rfl) (Ng ho hm) rfl (fun B=>U2_len) ?_
 apply Y.q
 case h1 =>
  intro B hT hF
  exact ni
 case hTF=>decide
 refine Y.loadUpT (o:=om) (t':=77) (cs:=[A2 m.kind,.slice true 1 (m.take.map A8),.slice true 2 (m.give.map Ax),.slice true 6 (m.ahead.map A7),.slice true 6 (m.back.map A7)]) (cs':=[A2 m.kind,.slice true 1 (m.take.map A8),.slice false 2 (m.give.map Ax),.slice true 6 (m.ahead.map A7),.slice true 6 (m.back.map A7)]) Tryz.isAgg22 (fun B hB=>⟨by simp only [hB];exact Cf hm,U2_setm.symm,rfl⟩) ?_
 apply Y.q
 case h1 =>
  intro B hT hF
  exact Z44
 case hTF=>decide
 refine Y.callUp (r:=Ax c) (o:=o) (x0:=pmO L i) (x:=pmO L j) Tryz.call168 (fun B hB1 hB2 hB=>⟨by simp only [hB];exact B6 ho hne,(Bp hne).symm,rfl,Aw,?_⟩) ?_
 ·simp only [hB]
  exact (c168 L i o _ (A4 (B6 ho hne)) hi hl hll).ok hC
 apply Y.q
 case h1 =>
  intro B hT hF
  exact Z33
 case hTF=>decide
 refine Y.append jU Tryz.type48 ?_ ?_ ?_
 ·simp [Tryz.t48];omega
 ·simp [Tryz.t48];omega
 refine Y.tail (tn:=[4,6]) (U:=U2 L Hp o om j (.cells 77 [A2 m.kind,.slice true 1 (m.take.map A8),.slice false 2 (m.give.map Ax),.slice true 6 (m.ahead.map A7),.slice true 6 (m.back.map A7)])) ?_;refine Z0 ?_
 refine R.storeUpT jS (Cf hm) ?_ ?_
 ·simp [or_imp,forall_and]
 refine R.fin [0,1] ?_;refine AW.upEq (lm (m:=m) (c:=c)) ?_
 rcases hW:Be L [61] j with ⟨u,j2⟩|⟨e,a⟩
 rotate_left
 ·refine AW.seqRK ?_
  refine ARunK.one (R.go (ARun.nil ?_))
  refine RK.callBad Tryz.call103 ((Nf L [61] j o _ (A4 (B6 ho hne)) hj.2 hll).bad hW) ?_
  rintro x U O hU hl' ⟨rfl,j',hH⟩
  obtain ⟨rfl,rfl⟩:=B4 hU (List.getElem?_eq_some_iff.1 (B6 (L:=L) (i:=j) (x:=mvO (Bm m c)) ho hne)).1 hH
  refine ⟨fun h=>B5 h (fun n=>Aw),fun o h=>(by cases h),?_⟩
  refine K.thP ?_;exact K.finPP ⟨_,_,by unfold Cc;rw [hC];show (Be L [61] j).bind _=_;rw [hW];rfl,rfl,j',Bm m c,Bp hne⟩
 have hj2:=D8 hl hj.2 _ _ hW
 refine Z2 ?_;refine R.callUp (x:=pmO L j2) Tryz.call103 (B6 ho hne) (by simp) Aw ((Nf L [61] j o _ (A4 (B6 ho hne)) hj.2 hll).ok hW) ?_
 rw [Bp hne]
 refine R.fin [0,1] ?_
 rcases hT:Gw L j2 with ⟨x,k⟩|⟨e,a⟩
 rotate_left
 ·refine W.drawY0 [0,1,3,7,0,16,15,0,255,511,1023,511,2559,6655] [5] [.q 5 [] [],.s [22] (some 0) [] [],.q 2 [] [],.s [] none [0] [],.s [] none [0] [],.s [] none [0] [],.s [] none [0] [],.s [] none [0] [],.s [] none [0] []] (fun _=>U2 L Hp o om j2 (mvO (Bm m c))) (fun B=>[]++bot (B 0)) Ac (by kernel_rfl) rfl rfl (fun _=>rfl) ?_
  apply Y.q
  case h1 =>
   intro B hT hF
   refine Z56 ?_
   refine D.go (h:=Q.loadUp (Cf hm)) (hr:=?_)
   exact Z44
  case hTF=>decide
  refine Y.callBad (own0:=[]) Tryz.call169 (fun B hB=>⟨rfl,by simp [bot,hB]⟩) ((s8 L j2 o _ (A4 (B6 ho hne)) hj2.2 hl hll).bad hT) ?_ ?_
  ·rintro x U O f hU hl' ⟨rfl,j',hH⟩
   obtain ⟨rfl,rfl⟩:=B4 hU (List.getElem?_eq_some_iff.1 (B6 (L:=L) (i:=j2) (x:=mvO (Bm m c)) ho hne)).1 hH
   refine ⟨fun h=>B5 h (fun n=>Aw),fun o h=>(by cases h),?_⟩
   exact K.finPP ⟨_,_,by unfold Cc;rw [hC];show (Be L [61] j).bind _=_;rw [hW];show (Gw L j2).bind _=_;rw [hT];rfl,rfl,j',Bm m c,Bp hne⟩
  apply Y.q
  case h1 =>
   intro B hT hF
   exact j9
  case hTF=>decide
  refine Z15 ?_;exact uk
 have hk:=Jg hl hll hj2.2 hT
 refine W.drawT0 [0,1,3,7,0,16,15,0,255,511,1023,511,2559,6655] [3,5] [.q 3 [] [0],.s [20] (some 0) [] [],.q 1 [] [1],.s [22] (some 1) [] [],.q 2 [] []] (fun B=>U2 L Hp o om (if B 1=true then k else j2) (if B 0=true then .cells 77 [A2 (Bm m c).kind,.slice true 1 ((Bm m c).take.map A8),.slice true 2 ((Bm m c).give.map Ax),.slice false 6 ((Bm m c).ahead.map A7),.slice true 6 ((Bm m c).back.map A7)] else .cells 77 [A2 (Bm m c).kind,.slice true 1 ((Bm m c).take.map A8),.slice true 2 ((Bm m c).give.map Ax),.slice true 6 ((Bm m c).ahead.map A7),.slice true 6 ((Bm m c).back.map A7)])) (fun _=>[]) Ac (by kernel_rfl) rfl rfl (fun B=>by rw [U2_len];exact U2_len.symm) ?_
 apply Y.q
 case h1 =>
  intro B hT hF
  refine Z14 ?_;exact Z44
 case hTF=>decide
 refine Y.loadUpT (o:=om) (t':=77) (cs:=[A2 (Bm m c).kind,.slice true 1 ((Bm m c).take.map A8),.slice true 2 ((Bm m c).give.map Ax),.slice true 6 ((Bm m c).ahead.map A7),.slice true 6 ((Bm m c).back.map A7)]) (cs':=[A2 (Bm m c).kind,.slice true 1 ((Bm m c).take.map A8),.slice true 2 ((Bm m c).give.map Ax),.slice false 6 ((Bm m c).ahead.map A7),.slice true 6 ((Bm m c).back.map A7)]) Tryz.isAgg75 (fun B hB=>⟨by simp only [hB];exact Cf hm,U2_setm.symm,rfl⟩) ?_
 apply Y.q
 case h1 =>
  intro B hT hF
  exact Z44
 case hTF=>decide
 refine Y.callUp (r:=A7 x) (o:=o) (x0:=pmO L j2) (x:=pmO L k) Tryz.call169 (fun B hB1 hB2 hB=>⟨by simp only [hB];exact B6 ho hne,(Bp hne).symm,rfl,Aw,?_⟩) ?_
 ·simp only [hB]
  exact (s8 L j2 o _ (A4 (B6 ho hne)) hj2.2 hl hll).ok hT
 apply Y.q
 case h1 =>
  intro B hT hF
  exact j9
 case hTF=>decide
 refine Y.appendPut4 (tn:=[3,5]) (U:=U2 L Hp o om k (.cells 77 [A2 (Bm m c).kind,.slice true 1 ((Bm m c).take.map A8),.slice true 2 ((Bm m c).give.map Ax),.slice false 6 ((Bm m c).ahead.map A7),.slice true 6 ((Bm m c).back.map A7)])) (O:=[]) (o:=om) (t':=77) (cs:=[A2 (Bm m c).kind,.slice true 1 ((Bm m c).take.map A8),.slice true 2 ((Bm m c).give.map Ax),.slice false 6 ((Bm m c).ahead.map A7),.slice true 6 ((Bm m c).back.map A7)]) (by kernel_rfl) jU Tryz.type103 Tryz.sizeOf103 Tryz.sizeOf75 jU (A4 (Cf hm)) ?_ ?_ ?_ (hfsz:=Tryz.sizeOf75)
 ·simp [Tryz.t103,Bm];omega
 ·simp [Tryz.t103,Bm];omega
 refine Z0 ?_
 refine R.storeUpT jS (Cf hm) ?_ ?_
 ·exact M3
 refine R.fin [] ?_;exact K.finPN .nores (hp:=⟨Lk (Bm m c) x,k,by unfold Cc;rw [hC];show (Be L [61] j).bind _=_;rw [hW];show (Gw L j2).bind _=_;rw [hT];rfl,rfl,by exact ln (m:=Bm m c)⟩)

/-- What is asked of a part of a move that is a closure. -/
def gm (L:List Tok) (o om g:Nat) (caps:List AV) (Hp:List AObj) (one:Mov→Nat→PR Mov):Prop:=
 ∀m i,MvLe m (2*i-1)→0<i→i<L.length→CP g caps (U2 L Hp o om i (mvO m)) (one m i) (fun m' j r H'=>r=Ll∧H'=U2 L Hp o om j (mvO m')) (W2 L o om Hp)
theorem Gy {L:List Tok} {Hp:List AObj} {o om i j:Nat} {x y:AObj} (hne:om≠o):U2 L (U2 L Hp o om i x) o om j y=U2 L Hp o om j y:=by
 unfold U2
 rw [ru hne,List.set_set]
theorem s9 {L:List Tok} {Hp H':List AObj} {o om i:Nat} {x:AObj} (hne:om≠o) (h:W2 L o om (U2 L Hp o om i x) H'):W2 L o om Hp H':=by
 obtain ⟨j,m,e⟩:=h
 exact ⟨j,m,by rw [e,Gy hne]⟩
theorem AFa (L:List Tok) (m:Mov) (i o om bp bm:Nat) (Hp:List AObj) (hne:om≠o) (ho:Hp[o]? = some (pmO L i)) (hm:Hp[om]? = some (mvO m)) (hbp:Hp[bp]? = some (.cells 97 [.ptr o 0])) (hbm:Hp[bm]? = some (.cells 159 [.ptr om 0])) (hi:i<L.length) (hl:TokEnd L) (hll:L.length≤500000) (hb:MvLe m (2*i-1)):CP 170 [.ptr bm 0,.ptr bp 0] Hp (Kj L m i) (fun m' j r H'=>r=Ll∧H'=U2 L Hp o om j (mvO m')) (W2 L o om Hp):=by
 have n1:bp≠o:=fun e=>by rw [e,ho] at hbp;simp at hbp
 have n2:bp≠om:=fun e=>by rw [e,hm] at hbp;simp at hbp
 have n3:bm≠o:=fun e=>by rw [e,ho] at hbm;simp at hbm
 have n4:bm≠om:=fun e=>by rw [e,hm] at hbm;simp at hbm
 have:=hb.take;have:=hb.give;have:=hb.ahead;have:=hb.back
 refine ACallP.body [] [0,1] Tryz.func170 Tryz.ntmps170 (fun d=>?_)
 refine W.flip Ac (by kernel_rfl) Tryz.zeroValue4 Tryz.sizeOf4 Tryz.isAgg4 (fun fb=>?_)
 refine AW.keep [0,1,3] (by simp only [go_sem,↓reduceIte,Nat.reduceEqDiff,Nat.reduceAdd]<;>rfl) ?_
 refine W.cond (fun ht3=>?_) (fun ht3=>?_)
 ·rcases hT:Gw L i with ⟨x,k⟩|⟨e,a⟩
  rotate_left
  ·refine W.drawY [0,1,3,7,0,16,15,0,255,511,1023,2047] [5] [.q 5 [] [],.s [9] (some 0) [] [],.q 2 [] [],.s [] none [0] [],.s [] none [0] [],.s [] none [0] [],.s [] none [0] []] (fun _=>Hp) (fun B=>[.cells 4 [.v (.bool fb)]]++bot (B 0)) Ac (by kernel_rfl) rfl rfl (fun _=>rfl) ?_
   apply Y.q
   case h1 =>
    intro B hT hF
    refine D.go (h:=Q.loadUp hbm) (hr:=?_)
    refine Z14 ?_
    refine D.go (h:=Q.loadUp hm) (hr:=?_)
    refine D.go (h:=Q.loadUp hbp) (hr:=?_)
    exact Np
   case hTF=>decide
   refine Y.callBad (own0:=[.cells 4 [.v (.bool fb)]]) Tryz.call169 (fun B hB=>⟨rfl,by simp [bot,hB]⟩) ((s8 L i o _ (A4 ho) hi hl hll).bad hT) ?_ ?_
   ·rintro x U O f hU hl' ⟨rfl,j',hH⟩
    obtain ⟨rfl,rfl⟩:=B4 hU (List.getElem?_eq_some_iff.1 ho).1 hH
    refine ⟨fun h=>B5 h (fun n=>Aw),fun o h=>(by cases h),?_⟩
    exact AC4
   apply Y.q
   case h1 =>
    intro B hT hF
    exact j9
   case hTF=>decide
   exact uk
  have hk:=Jg hl hll hi hT
  refine W.drawZ0 [0,1,3,7,0,16,15,0,255,511,1023,2047] [3,5] [.q 3 [] [0],.s [7] (some 0) [] [],.q 1 [] [1],.s [9] (some 1) [] [],.q 2 [] []] (fun B=>U2 L Hp o om (if B 1=true then k else i) (if B 0=true then .cells 77 [A2 m.kind,.slice true 1 (m.take.map A8),.slice true 2 (m.give.map Ax),.slice true 6 (m.ahead.map A7),.slice false 6 (m.back.map A7)] else .cells 77 [A2 m.kind,.slice true 1 (m.take.map A8),.slice true 2 (m.give.map Ax),.slice true 6 (m.ahead.map A7),.slice true 6 (m.back.map A7)])) (fun _=>[.cells 4 [.v (.bool fb)]]) Ac (by kernel_rfl) (Ng ho hm) rfl (fun B=>U2_len) ?_
  apply Y.q
  case h1 =>
   intro B hT hF
   refine D.go (h:=Q.loadUp ((Ec n3 n4).trans hbm)) (hr:=?_)
   exact Z53
  case hTF=>decide
  refine Y.loadUpT (o:=om) (t':=77) (cs:=[A2 m.kind,.slice true 1 (m.take.map A8),.slice true 2 (m.give.map Ax),.slice true 6 (m.ahead.map A7),.slice true 6 (m.back.map A7)]) (cs':=[A2 m.kind,.slice true 1 (m.take.map A8),.slice true 2 (m.give.map Ax),.slice true 6 (m.ahead.map A7),.slice false 6 (m.back.map A7)]) Tryz.isAgg75 (fun B hB=>⟨by simp only [hB];exact Cf hm,U2_setm.symm,rfl⟩) ?_
  apply Y.q
  case h1 =>
   intro B hT hF
   refine D.go (h:=Q.loadUp ((Ec n1 n2).trans hbp)) (hr:=?_)
   exact Np
  case hTF=>decide
  refine Y.callUp (r:=A7 x) (o:=o) (x0:=pmO L i) (x:=pmO L k) Tryz.call169 (fun B hB1 hB2 hB=>⟨by simp only [hB];exact B6 ho hne,(Bp hne).symm,rfl,Aw,?_⟩) ?_
  ·simp only [hB]
   exact AC5
  apply Y.q
  case h1 =>
   intro B hT hF
   exact j9
  case hTF=>decide
  refine Y.put2 (tn:=[3,5]) (U:=U2 L Hp o om k (.cells 77 [A2 m.kind,.slice true 1 (m.take.map A8),.slice true 2 (m.give.map Ax),.slice true 6 (m.ahead.map A7),.slice false 6 (m.back.map A7)])) (O:=[.cells 4 [.v (.bool fb)]]) (o:=om) (t':=77) (cs:=[A2 m.kind,.slice true 1 (m.take.map A8),.slice true 2 (m.give.map Ax),.slice true 6 (m.ahead.map A7),.slice false 6 (m.back.map A7)]) jU Tryz.type103 Tryz.sizeOf103 Tryz.sizeOf75 jU (A4 (Cf hm)) ?_ ?_ ?_ (hfsz:=Tryz.sizeOf75)
  ·simp [Tryz.t103];omega
  ·simp [Tryz.t103];omega
  refine Z0 ?_
  refine R.storeUpT jS (Cf hm) ?_ ?_
  ·exact M3
  exact AB6
 rcases hT:Gw L i with ⟨x,k⟩|⟨e,a⟩
 rotate_left
 ·refine W.drawY0 [0,0,2,6,14,0,32,96,254,511,1023,2047] [6] [.q 6 [] [],.s [22] (some 0) [] [],.s [] none [0] [],.s [] none [0] [],.s [] none [0] [],.s [] none [0] [],.s [] none [0] []] (fun _=>Hp) (fun B=>[.cells 4 [.v (.bool fb)]]++bot (B 0)) Ac (by kernel_rfl) rfl rfl (fun _=>rfl) ?_
  apply Y.q
  case h1 =>
   intro B hT hF
   refine D.go (h:=Q.loadUp hbm) (hr:=?_)
   refine D.go (h:=Q.loadUp hbm) (hr:=?_)
   refine Z14 ?_
   refine D.go (h:=Q.loadUp hm) (hr:=?_)
   refine D.go (h:=Q.loadUp hbp) (hr:=?_)
   exact Np
  case hTF=>decide
  refine Y.callBad (own0:=[.cells 4 [.v (.bool fb)]]) Tryz.call169 (fun B hB=>⟨rfl,by simp [bot,hB]⟩) ((s8 L i o _ (A4 ho) hi hl hll).bad hT) ?_ ?_
  ·rintro x U O f hU hl' ⟨rfl,j',hH⟩
   obtain ⟨rfl,rfl⟩:=B4 hU (List.getElem?_eq_some_iff.1 ho).1 hH
   refine ⟨fun h=>B5 h (fun n=>Aw),fun o h=>(by cases h),?_⟩
   exact AC4
  refine Z15 ?_;exact uo
 have hk:=Jg hl hll hi hT
 refine W.drawY0 [0,0,2,6,14,0,32,96,254,511,1023,2047] [4,6] [.q 4 [] [],.s [20] (some 0) [] [],.q 1 [] [1],.s [22] (some 1) [] [],.q 1 [1] [],.s [20,24] none [0,1] []] (fun B=>U2 L Hp o om (if B 1=true then k else i) (if B 0=true then .cells 77 [A2 m.kind,.slice true 1 (m.take.map A8),.slice true 2 (m.give.map Ax),.slice true 6 (m.ahead.map A7),.slice false 6 (m.back.map A7)] else .cells 77 [A2 m.kind,.slice true 1 (m.take.map A8),.slice true 2 (m.give.map Ax),.slice true 6 (m.ahead.map A7),.slice true 6 (m.back.map A7)])) (fun _=>[.cells 4 [.v (.bool fb)]]) Ac (by kernel_rfl) (Ng ho hm) rfl (fun B=>U2_len) ?_
 apply Y.q
 case h1 =>
  intro B hT hF
  refine D.go (h:=Q.loadUp ((Ec n3 n4).trans hbm)) (hr:=?_)
  refine D.go (h:=Q.loadUp ((Ec n3 n4).trans hbm)) (hr:=?_)
  exact Z53
 case hTF=>decide
 refine Y.loadUpT (o:=om) (t':=77) (cs:=[A2 m.kind,.slice true 1 (m.take.map A8),.slice true 2 (m.give.map Ax),.slice true 6 (m.ahead.map A7),.slice true 6 (m.back.map A7)]) (cs':=[A2 m.kind,.slice true 1 (m.take.map A8),.slice true 2 (m.give.map Ax),.slice true 6 (m.ahead.map A7),.slice false 6 (m.back.map A7)]) Tryz.isAgg75 (fun B hB=>⟨by simp only [hB];exact Cf hm,U2_setm.symm,rfl⟩) ?_
 apply Y.q
 case h1 =>
  intro B hT hF
  refine D.go (h:=Q.loadUp ((Ec n1 n2).trans hbp)) (hr:=?_)
  exact Np
 case hTF=>decide
 refine Y.callUp (r:=A7 x) (o:=o) (x0:=pmO L i) (x:=pmO L k) Tryz.call169 (fun B hB1 hB2 hB=>⟨by simp only [hB];exact B6 ho hne,(Bp hne).symm,rfl,Aw,?_⟩) ?_
 ·simp only [hB]
  exact AC5
 apply Y.q
 case h1 =>
  intro B hT hF
  exact Z33
 case hTF=>decide
 refine Y.append jU Tryz.type103 ?_ ?_ ?_
 ·simp [Tryz.t103];omega
 ·simp [Tryz.t103];omega
 refine Y.tail (tn:=[4,6]) (U:=U2 L Hp o om k (.cells 77 [A2 m.kind,.slice true 1 (m.take.map A8),.slice true 2 (m.give.map Ax),.slice true 6 (m.ahead.map A7),.slice false 6 (m.back.map A7)])) ?_;refine Z0 ?_
 refine R.storeUpT jS (Cf hm) ?_ ?_
 ·exact M3
 exact AB6

theorem Cg {L:List Tok} {Hp:List AObj} {o om i j n:Nat} {x y:AObj} (hne:om≠o) (hy:ObjLow n y) (h:∀z∈U2 L Hp o om i x,ObjLow n z):∀z∈U2 L Hp o om j y,ObjLow n z:=by
 intro z hz
 rw [show U2 L Hp o om j y=((U2 L Hp o om i x).set o (pmO L j)).set om y by rw [Bp hne,U2_setm]] at hz
 rcases List.mem_or_eq_of_mem_set hz with hz|rfl
 ·rcases List.mem_or_eq_of_mem_set hz with hz|rfl
  ·exact h z hz
  exact Aw
 exact hy
theorem Di {L:List Tok} {Hp own:List AObj} {o om i:Nat} {x:AObj} (h1:o<Hp.length) (h2:om<Hp.length):U2 L (Hp++own) o om i x=U2 L Hp o om i x++own:=by
 unfold U2
 rw [List.set_append_left _ _ h1,List.set_append_left _ _ (by simpa using h2)]
theorem E8 {L:List Tok} {Hp own U O:List AObj} {o om i:Nat} {x:AObj} (hne:om≠o) (h1:o<Hp.length) (h2:om<Hp.length) (hU:U.length=(U2 L Hp o om i x).length) (h:W2 L o om (U2 L Hp o om i x++own) (U++O)):W2 L o om Hp U∧own=O:=by
 obtain ⟨j,m,e⟩:=h
 rw [Di (by rw [U2_len];exact h1) (by rw [U2_len];exact h2),Gy hne] at e
 obtain ⟨rfl,rfl⟩:=Hh (by rw [hU,U2_len,U2_len]) e
 exact ⟨⟨j,m,rfl⟩,rfl⟩
/-- Where the loop of things with commas between stands. -/
structure ListAt (L:List Tok) (n:Int) (one:Mov→Nat→PR Mov) (X:PR Mov) (x:Nat×Mov×Nat):Prop where
 lt:x.2.2<L.length
 pos:0<x.2.2
 le:MvLe x.2.1 (2*x.2.2)
 k:x.1≤x.2.2
 fuel:∃f,X=H7 L n one f x.1 x.2.1 x.2.2∧L.length-x.2.2<f
theorem ListAt.step {L:List Tok} {n:Int} {one:Mov→Nat→PR Mov} {X:PR Mov} {x:Nat×Mov×Nat} (h:ListAt L n one X x) (hq:If L n x.1 x.2.2=true):∃f,X=((Be L [44] x.2.2).bind fun _ j=>(one x.2.1 j).bind fun m j=>H7 L n one f (x.1+1) m j)∧L.length-x.2.2<f+1:=by
 obtain ⟨f,e,hf⟩:=h.fuel
 obtain ⟨f,rfl⟩:∃g,f=g+1:=⟨f-1,by omega⟩
 refine ⟨f,?_,hf⟩
 rw [e,H7,if_pos hq]
theorem ListAt.on {L:List Tok} (hl:TokEnd L) {n:Int} {one:Mov→Nat→PR Mov} (hP:Tb L one) {X:PR Mov} {x:Nat×Mov×Nat} (h:ListAt L n one X x) (hq:If L n x.1 x.2.2=true) {u:Unit} {j:Nat} (hW:Be L [44] x.2.2=.ok u j) {m2:Mov} {j2:Nat} (hO:one x.2.1 j=.ok m2 j2):ListAt L n one X (x.1+1,m2,j2)∧x.2.2<j2:=by
 obtain ⟨f,e,hf⟩:=h.step hq
 have h1:=D8 hl h.lt _ _ hW
 have hj:j=x.2.2+1:=by
  unfold Be at hW
  split at hW
  ·injection hW with _ h;exact h.symm
  cases hW
 obtain ⟨a1,a2,a3⟩:=hP x.2.1 j (h.le.mono (by omega)) (by omega) h1.2 _ _ hO
 have:=h.k
 refine ⟨⟨a2,by show 0<j2;omega,a3,by show x.1+1≤j2;omega,f,?_,by show L.length-j2<f;omega⟩,by omega⟩
 rw [e,hW]
 show (one x.2.1 j).bind _=_
 rw [hO];rfl
theorem ListAt.bad1 {L:List Tok} {n:Int} {one:Mov→Nat→PR Mov} {X:PR Mov} {x:Nat×Mov×Nat} (h:ListAt L n one X x) (hq:If L n x.1 x.2.2=true) {e a:Int} (hW:Be L [44] x.2.2=.bad e a):X=.bad e a:=by
 obtain ⟨f,e,_⟩:=h.step hq
 rw [e,hW];rfl
theorem ListAt.bad2 {L:List Tok} {n:Int} {one:Mov→Nat→PR Mov} {X:PR Mov} {x:Nat×Mov×Nat} (h:ListAt L n one X x) (hq:If L n x.1 x.2.2=true) {u:Unit} {j:Nat} (hW:Be L [44] x.2.2=.ok u j) {e a:Int} (hO:one x.2.1 j=.bad e a):X=.bad e a:=by
 obtain ⟨f,e,_⟩:=h.step hq
 rw [e,hW]
 show (one x.2.1 j).bind _=_
 rw [hO];rfl
theorem ListAt.out {L:List Tok} {n:Int} {one:Mov→Nat→PR Mov} {X:PR Mov} {x:Nat×Mov×Nat} (h:ListAt L n one X x) (hq:If L n x.1 x.2.2=false):X=.ok x.2.1 x.2.2:=by
 obtain ⟨f,e,hf⟩:=h.fuel
 obtain ⟨f,rfl⟩:∃g,f=g+1:=⟨f-1,by omega⟩
 rw [e,H7,if_neg (by rw [hq];simp)]
theorem c143 (L:List Tok) (m:Mov) (i o om bp bm:Nat) (Hp:List AObj) (hne:om≠o) (ho:Hp[o]? = some (pmO L i)) (hm:Hp[om]? = some (mvO m)) (hbp:Hp[bp]? = some (.cells 97 [.ptr o 0])) (hbm:Hp[bm]? = some (.cells 159 [.ptr om 0])) (hi:i<L.length) (hl:TokEnd L) (hll:L.length≤500000) (hb:MvLe m (2*i-1)):CP 143 [.ptr bm 0,.ptr bp 0] Hp (Iv L m i) (fun m' j r H'=>r=Ll∧H'=U2 L Hp o om j (mvO m')) (W2 L o om Hp):=by
 have n1:bp≠o:=fun e=>by rw [e,ho] at hbp;simp at hbp
 have n2:bp≠om:=fun e=>by rw [e,hm] at hbp;simp at hbp
 have n3:bm≠o:=fun e=>by rw [e,ho] at hbm;simp at hbm
 have n4:bm≠om:=fun e=>by rw [e,hm] at hbm;simp at hbm
 have:=hb.take;have:=hb.give;have:=hb.ahead;have:=hb.back
 refine ACallP.body [] [0,1] Tryz.func143 Tryz.ntmps143 (fun d=>?_)
 rcases hT:Dt L i with ⟨s,k⟩|⟨e,a⟩
 rotate_left
 ·refine W.drawY0 [0,0,2,6,14,0,32,96,254,511,1023,2047] [6] [.q 6 [] [],.s [8] (some 0) [] [],.s [] none [0] [],.s [] none [0] [],.s [] none [0] [],.s [] none [0] [],.s [] none [0] []] (fun _=>Hp) (fun B=>[]++bot (B 0)) Ac (by kernel_rfl) rfl rfl (fun _=>rfl) ?_
  apply Y.q
  case h1 =>
   intro B hT hF
   refine D.go (h:=Q.loadUp hbm) (hr:=?_)
   refine D.go (h:=Q.loadUp hbm) (hr:=?_)
   refine Z14 ?_
   refine D.go (h:=Q.loadUp hm) (hr:=?_)
   refine D.go (h:=Q.loadUp hbp) (hr:=?_)
   exact Np
  case hTF=>decide
  refine Y.callBad (own0:=[]) Tryz.call138 (fun B hB=>⟨rfl,by simp [bot,hB]⟩) ((Pn L i o _ (A4 ho) hi hll).bad hT) ?_ ?_
  ·rintro x U O f hU hl' ⟨rfl,j',hH⟩
   obtain ⟨rfl,rfl⟩:=B4 hU (List.getElem?_eq_some_iff.1 ho).1 hH
   refine ⟨fun h=>B5 h (fun n=>Aw),fun o h=>(by cases h),?_⟩
   exact K.finPP ⟨_,_,by unfold Iv;rw [hT];rfl,rfl,j',m,dl hne hm⟩
  refine Z15 ?_;exact uo
 have hk:=Eh hl hi _ _ hT
 refine W.drawY0 [0,0,2,6,14,0,32,96,254,511,1023,2047] [4,6] [.q 4 [] [],.s [6] (some 0) [] [],.q 1 [] [1],.s [8] (some 1) [] [],.q 1 [1] [],.s [6,10] none [0,1] []] (fun B=>U2 L Hp o om (if B 1=true then k else i) (if B 0=true then .cells 77 [A2 m.kind,.slice false 1 (m.take.map A8),.slice true 2 (m.give.map Ax),.slice true 6 (m.ahead.map A7),.slice true 6 (m.back.map A7)] else .cells 77 [A2 m.kind,.slice true 1 (m.take.map A8),.slice true 2 (m.give.map Ax),.slice true 6 (m.ahead.map A7),.slice true 6 (m.back.map A7)])) (fun _=>[]) Ac (by kernel_rfl) (Ng ho hm) rfl (fun B=>U2_len) ?_
 apply Y.q
 case h1 =>
  intro B hT hF
  refine D.go (h:=Q.loadUp ((Ec n3 n4).trans hbm)) (hr:=?_)
  refine D.go (h:=Q.loadUp ((Ec n3 n4).trans hbm)) (hr:=?_)
  exact Z53
 case hTF=>decide
 refine Y.loadUpT (o:=om) (t':=77) (cs:=[A2 m.kind,.slice true 1 (m.take.map A8),.slice true 2 (m.give.map Ax),.slice true 6 (m.ahead.map A7),.slice true 6 (m.back.map A7)]) (cs':=[A2 m.kind,.slice false 1 (m.take.map A8),.slice true 2 (m.give.map Ax),.slice true 6 (m.ahead.map A7),.slice true 6 (m.back.map A7)]) Tryz.isAgg74 (fun B hB=>⟨by simp only [hB];exact Cf hm,U2_setm.symm,rfl⟩) ?_
 apply Y.q
 case h1 =>
  intro B hT hF
  refine D.go (h:=Q.loadUp ((Ec n1 n2).trans hbp)) (hr:=?_)
  exact Np
 case hTF=>decide
 refine Y.callUp (r:=A8 s) (o:=o) (x0:=pmO L i) (x:=pmO L k) Tryz.call138 (fun B hB1 hB2 hB=>⟨by simp only [hB];exact B6 ho hne,(Bp hne).symm,rfl,Aw,?_⟩) ?_
 ·simp only [hB]
  exact (Pn L i o _ (A4 (B6 ho hne)) hi hll).ok hT
 apply Y.q
 case h1 =>
  intro B hT hF
  exact Z33
 case hTF=>decide
 refine Y.append jU Tryz.type9 ?_ ?_ ?_
 ·simp [Tryz.t9];omega
 ·simp [Tryz.t9];omega
 refine Y.tail (tn:=[4,6]) (U:=U2 L Hp o om k (.cells 77 [A2 m.kind,.slice false 1 (m.take.map A8),.slice true 2 (m.give.map Ax),.slice true 6 (m.ahead.map A7),.slice true 6 (m.back.map A7)])) ?_;refine Z0 ?_
 refine R.storeUpT jS (Cf hm) ?_ ?_
 ·simp [or_imp,forall_and]
 refine R.fin [] ?_;exact K.finPN .nores (hp:=⟨Rw m s,k,by unfold Iv;rw [hT];rfl,rfl,by exact lr⟩)

theorem AFb (L:List Tok) (m:Mov) (i o om bp bm:Nat) (Hp:List AObj) (hne:om≠o) (ho:Hp[o]? = some (pmO L i)) (hm:Hp[om]? = some (mvO m)) (hbp:Hp[bp]? = some (.cells 97 [.ptr o 0])) (hbm:Hp[bm]? = some (.cells 159 [.ptr om 0])) (hi:i<L.length) (hl:TokEnd L) (hll:L.length≤500000) (hb:MvLe m (2*i-1)):CP 142 [.ptr bp 0,.ptr bm 0] Hp (Cc L m i) (fun m' j r H'=>r=Ll∧H'=U2 L Hp o om j (mvO m')) (W2 L o om Hp):=by
 have hol:=(List.getElem?_eq_some_iff.1 ho).1
 have hml:=(List.getElem?_eq_some_iff.1 hm).1
 have n1:bp≠o:=fun e=>by rw [e,ho] at hbp;simp at hbp
 have n2:bp≠om:=fun e=>by rw [e,hm] at hbp;simp at hbp
 have n3:bm≠o:=fun e=>by rw [e,ho] at hbm;simp at hbm
 have n4:bm≠om:=fun e=>by rw [e,hm] at hbm;simp at hbm
 have:=hb.take;have:=hb.give;have:=hb.ahead;have:=hb.back
 refine ACallP.body [] [0,1] Tryz.func142 Tryz.ntmps142 (fun d=>?_)
 refine o4 ?_
 rcases hT:Cc L m i with ⟨m2,k⟩|⟨e,a⟩
 rotate_left
 ·refine AW.regionK ?_
  refine ARunK.one (R.go (h:=Q.loadUp ((Ec n1 n2).trans hbp)) (hr:=ARun.nil ?_))
  refine ARunK.one (R.go (h:=Q.loadUp ((Ec n3 n4).trans hbm)) (hr:=ARun.nil ?_))
  refine RK.callBad Tryz.call137 ((dm L m i o om _ hne (A4 (B6 ho hne)) (A4 (Cf hm)) hi hl hll hb).bad hT) ?_
  rintro x U O hU hl' ⟨rfl,hW2⟩
  obtain ⟨⟨j',m',rfl⟩,rfl⟩:=E8 hne hol hml hU hW2
  refine ⟨fun h=>Cg hne Bn h,fun o h=>(by cases h),?_⟩
  exact K.finPP ⟨_,_,rfl,rfl,j',m',rfl⟩
 refine AW.region ?_
 refine R.go (h:=Q.loadUp ((Ec n1 n2).trans hbp)) (hr:=?_)
 refine R.go (h:=Q.loadUp ((Ec n3 n4).trans hbm)) (hr:=?_)
 refine R.callX (up':=U2 L Hp o om k (mvO m2)) (own':=[]) Tryz.call137 (((dm L m i o om _ hne (A4 (B6 ho hne)) (A4 (Cf hm)) hi hl hll hb).ok hT).mono (fun r H' e=>⟨e.1,e.2.trans (by rw [List.append_nil,List.append_nil,Gy hne])⟩)) (by rw [U2_len,U2_len]) (fun h=>Cg hne Bn h) ?_;refine R.fin [] ?_;exact K.finPN .nores (hp:=⟨m2,k,rfl,rfl,rfl⟩)

theorem ls (L:List Tok) (n:Int) (m:Mov) (i o om g:Nat) (caps:List AV) (one:Mov→Nat→PR Mov) (Hp:List AObj) (hne:om≠o) (ho:Hp[o]? = some (pmO L i)) (hm:Hp[om]? = some (mvO m)) (h0:0<i) (hi:i<L.length) (hl:TokEnd L) (hll:L.length≤500000) (hb:MvLe m (2*i-1)) (hcall:∀args w,(callFunc g args).run Tryz.prog w=.ok (.enter g args) w) (hC:gm L o om g caps Hp one) (hP:Tb L one):CP 141 [.ptr o 0,A2 n,.fn (.func g) [] caps] Hp (Dz L n one m i) (fun m' j r H'=>r=Ll∧H'=U2 L Hp o om j (mvO m')) (W2 L o om Hp):=by
 have hol:=(List.getElem?_eq_some_iff.1 ho).1
 have hml:=(List.getElem?_eq_some_iff.1 hm).1
 refine ACallP.body [] [0,1,2] Tryz.func141 Tryz.ntmps141 (fun d=>?_)
 refine o4 ?_
 rcases h1:one m i with ⟨m1,j1⟩|⟨e,a⟩
 rotate_left
 ·refine AW.seqRK ?_
  refine ARunK.one (R.go (ARun.nil ?_))
  refine RK.callBad hcall (by rw [List.append_nil];exact (hC m i hb h0 hi).bad h1) ?_
  rintro z U O hU hl' ⟨rfl,j',m',hH⟩
  obtain ⟨rfl,rfl⟩:=Hh (A:=U2 L Hp o om j' (mvO m')) (B:=[]) (by rw [hU,U2_len,U2_len]) (hH.trans (List.append_nil _).symm)
  refine ⟨fun h=>Cg hne Bn h,fun o h=>(by cases h),?_⟩
  refine K.thP ?_;exact K.finPP ⟨_,_,by unfold Dz;rw [h1];rfl,rfl,j',m',rfl⟩
 have g1:=hP m i hb h0 hi _ _ h1
 have e0:Dz L n one m i=H7 L n one (L.length+1) 1 m1 j1:=by unfold Dz;rw [h1];rfl
 refine Z2 ?_
 refine R.callVX (up':=U2 L Hp o om j1 (mvO m1)) (own':=[]) hcall (by rw [List.append_nil,List.append_nil];exact (hC m i hb h0 hi).ok h1) (by rw [U2_len,U2_len]) (fun h=>Cg hne Bn h) ?_
 refine R.fin [0,1,2] ?_;refine Z2 ?_;refine au ?_
 refine AW.loopC (α:=Nat×Mov×Nat) (fun x=>⟨30,A6 0 (.ptr o 0) (A6 1 (A2 n) (A6 2 (.fn (.func g) [] caps) (A6 6 (A2 (x.1:Int)) (fun _=>.any)))),U2 L Hp o om x.2.2 (mvO x.2.1),[],[],none⟩) (fun x=>ListAt L n one (Dz L n one m i) x) (fun x=>L.length-x.2.2) ((1,m1,j1)) ⟨g1.2.1,by show 0<j1;omega,g1.2.2,by show 1≤j1;omega,_,e0,by show L.length-j1<_;omega⟩ (StLe.refl _) rfl (fun x hx=>?_)
 refine Z11 ?_;refine Z64 ?_;refine je ?_;refine G.call Tryz.call144 (fun hB=>AD3 L [44] x.2.2 o _ (A4 (B6 ho hne)) hx.lt) ?_;refine Vn ?_;refine R.fin [0,1,2,6,23] ?_
 refine W.cond (fun ht23=>?_) (fun ht23=>?_)
 ·have hq:If L n x.1 x.2.2=true:=ht23
  refine Z9 ?_;refine Z24 ?_
  rcases hW:Be L [44] x.2.2 with ⟨u,j⟩|⟨e,a⟩
  rotate_left
  ·refine AW.seqRK ?_
   refine ARunK.one (R.go (ARun.nil ?_))
   refine RK.callBad Tryz.call103 ((Nf L [44] x.2.2 o _ (A4 (B6 ho hne)) hx.lt hll).bad hW) ?_
   rintro z U O hU hl' ⟨rfl,j',hH⟩
   obtain ⟨rfl,rfl⟩:=B4 hU (List.getElem?_eq_some_iff.1 (B6 (L:=L) (i:=x.2.2) (x:=mvO x.2.1) ho hne)).1 hH
   refine ⟨fun h=>B5 h (fun n=>Aw),fun o h=>(by cases h),?_⟩
   refine Xd ?_;refine K.thP ?_;refine K.lpP ?_;exact K.finPP ⟨_,_,hx.bad1 hq hW,rfl,j',x.2.1,Bp hne⟩
  have hj:=D8 hl hx.lt _ _ hW
  have hpos:=hx.pos
  refine Z2 ?_;refine R.callUp (x:=pmO L j) Tryz.call103 (B6 ho hne) (by simp) Aw ((Nf L [44] x.2.2 o _ (A4 (B6 ho hne)) hx.lt hll).ok hW) ?_
  rw [Bp hne]
  refine au ?_
  rcases hO:one x.2.1 j with ⟨m2,j2⟩|⟨e,a⟩
  rotate_left
  ·refine AW.regionK ?_
   refine ARunK.one (R.go (ARun.nil ?_))
   refine RK.callBad hcall (by rw [List.append_nil];exact (hC x.2.1 j (hx.le.mono (by omega)) (by omega) hj.2).bad hO) ?_
   rintro z U O hU hl' ⟨rfl,j',m',hH⟩
   obtain ⟨rfl,rfl⟩:=Hh (A:=U2 L Hp o om j' (mvO m')) (B:=[]) (by rw [hU,U2_len,U2_len]) (hH.trans (List.append_nil _).symm)
   refine ⟨fun h=>Cg hne Bn h,fun o h=>(by cases h),?_⟩
   refine K.blP ?_;refine K.thP ?_;refine K.lpP ?_;exact K.finPP ⟨_,_,hx.bad2 hq hW hO,rfl,j',m',rfl⟩
  have hon:=hx.on hl hP hq hW hO
  refine Z93 ?_
  refine R.callVX (up':=U2 L Hp o om j2 (mvO m2)) (own':=[]) hcall (by rw [List.append_nil,List.append_nil];exact (hC x.2.1 j (hx.le.mono (by omega)) (by omega) hj.2).ok hO) (by rw [U2_len,U2_len]) (fun h=>Cg hne Bn h) ?_
  refine au ?_;refine Z12 ?_;refine Z93 ?_
  refine R.go (h:=Q.add64 (h2:=fun _=>by have:=hx.k;have:=hx.lt;omega)) (hr:=?_)
  refine R.go ?_;refine au ?_
  refine K.lpN (x.1+1,m2,j2) hon.1 (by have:=hx.lt;have:=hon.2;show L.length-j2<L.length-x.2.2;omega) (StCut.of_eq rfl)
 have hq:If L n x.1 x.2.2=false:=ht23
 have e:=hx.out hq
 refine Z81 ?_;refine K.lpE ?_;exact K.finPN .nores (hp:=⟨_,_,e,rfl,rfl⟩)

theorem CP.mono {g:FuncId} {args:List AV} {H:List AObj} {α:Type} {X:PR α} {Q Q':α→Nat→AV→List AObj→Prop} {R R':List AObj→Prop} (h:CP g args H X Q R) (hQ:∀c j r H',Q c j r H'→Q' c j r H') (hR:∀H',R H'→R' H'):CP g args H X Q' R':=
 ACallP.mono h (fun r H' ⟨c,j,e,hq⟩=>⟨c,j,e,hQ _ _ _ _ hq⟩) (fun v H' ⟨e,a,e1,e2,h⟩=>⟨e,a,e1,e2,hR _ h⟩)
section
variable {L:List Tok} {o om bp bm:Nat} {X:List AObj} {z z':AObj}
theorem Up (hne:om≠o) (ho:X[o]? = some z) (hm:X[om]? = some z') (hbp:X[bp]? = some (.cells 97 [.ptr o 0])) (hbm:X[bm]? = some (.cells 159 [.ptr om 0])) (n1:bp≠o) (n2:bp≠om) (n3:bm≠o) (n4:bm≠om) (hl:TokEnd L) (hll:L.length≤500000):gm L o om 170 [.ptr bm 0,.ptr bp 0] X (Kj L):=
 fun m i hb _ hi=>(AFa L m i o om bp bm (U2 L X o om i (mvO m)) hne (B6 ho hne) (Cf hm) ((Ec n1 n2).trans hbp) ((Ec n3 n4).trans hbm) hi hl hll hb).mono (fun c j r H' e=>⟨e.1,e.2.trans (Gy hne)⟩) (fun H' h=>s9 hne h)
theorem Uq (hne:om≠o) (ho:X[o]? = some z) (hm:X[om]? = some z') (hbp:X[bp]? = some (.cells 97 [.ptr o 0])) (hbm:X[bm]? = some (.cells 159 [.ptr om 0])) (n1:bp≠o) (n2:bp≠om) (n3:bm≠o) (n4:bm≠om) (hl:TokEnd L) (hll:L.length≤500000):gm L o om 143 [.ptr bm 0,.ptr bp 0] X (Iv L):=
 fun m i hb _ hi=>(c143 L m i o om bp bm (U2 L X o om i (mvO m)) hne (B6 ho hne) (Cf hm) ((Ec n1 n2).trans hbp) ((Ec n3 n4).trans hbm) hi hl hll hb).mono (fun c j r H' e=>⟨e.1,e.2.trans (Gy hne)⟩) (fun H' h=>s9 hne h)
theorem Ur (hne:om≠o) (ho:X[o]? = some z) (hm:X[om]? = some z') (hbp:X[bp]? = some (.cells 97 [.ptr o 0])) (hbm:X[bm]? = some (.cells 159 [.ptr om 0])) (n1:bp≠o) (n2:bp≠om) (n3:bm≠o) (n4:bm≠om) (hl:TokEnd L) (hll:L.length≤500000):gm L o om 142 [.ptr bp 0,.ptr bm 0] X (Cc L):=
 fun m i hb _ hi=>(AFb L m i o om bp bm (U2 L X o om i (mvO m)) hne (B6 ho hne) (Cf hm) ((Ec n1 n2).trans hbp) ((Ec n3 n4).trans hbm) hi hl hll hb).mono (fun c j r H' e=>⟨e.1,e.2.trans (Gy hne)⟩) (fun H' h=>s9 hne h)
end
attribute [go_sem] U2_len
theorem Po {L:List Tok} {Hp own:List AObj} {o om i n:Nat} {x z:AObj} (h:own[n]? = some z):(U2 L Hp o om i x++own)[oid Hp.length n]? = some z:=by
 unfold oid
 rw [List.getElem?_append_right (by rw [U2_len];omega),U2_len,Nat.add_sub_cancel_left]
 exact h
theorem D9 {n k o:Nat} (h:o<n):oid n k≠o:=by unfold oid;omega
theorem Zc (L:List Tok) (m:Mov) (i o om:Nat) (Hp:List AObj) (hne:om≠o) (ho:Hp[o]? = some (pmO L i)) (hm:Hp[om]? = some (mvO m)) (hi:i<L.length) (hl:TokEnd L) (hll:L.length≤500000) (hb:MvLe m (2*i)):CP 139 [.ptr o 0,.ptr om 0] Hp (Cz L m i) (fun m' j r H'=>r=Ll∧H'=U2 L Hp o om j (mvO m')) (W2 L o om Hp):=by
 have hol:=(List.getElem?_eq_some_iff.1 ho).1
 have hml:=(List.getElem?_eq_some_iff.1 hm).1
 refine ACallP.body [] [0,1] Tryz.func139 Tryz.ntmps139 (fun d=>?_)
 refine Xe ?_;refine R.box ?_;refine I5 ?_;refine o4 ?_
 rcases hW:Be L backW i with ⟨u,j⟩|⟨e,a⟩
 rotate_left
 ·refine AW.seqRK ?_
  refine ARunK.one (R.go (ARun.nil ?_))
  refine RK.callBad Tryz.call103 (Nf L backW i o _ (A4 (B6 ho hne)) hi hll |>.bad hW) ?_
  rintro x U O hU hl' ⟨rfl,j',hH⟩
  obtain ⟨rfl,rfl⟩:=B4 hU (List.getElem?_eq_some_iff.1 (B6 (L:=L) (i:=i) (x:=mvO m) ho hne)).1 hH
  refine ⟨fun h=>B5 h (fun n=>Aw),fun o h=>(by cases h),?_⟩
  refine K.thP ?_;exact K.finPP ⟨_,_,by unfold Cz;rw [hW];rfl,rfl,j',m,Bp hne⟩
 have hj:=D8 hl hi _ _ hW
 refine Z2 ?_;refine R.callUp (x:=pmO L j) Tryz.call103 (B6 ho hne) (by simp) Aw ((Nf L backW i o _ (A4 (B6 ho hne)) hi hll).ok hW) ?_
 rw [Bp hne]
 refine I5 ?_
 rcases hP:Dz L ((m.take.map A8).length:Int) (Kj L) m j with ⟨m2,k⟩|⟨e,a⟩
 rotate_left
 ·refine W.drawY0 [0,0,2,6,14,30,0,127] [7] [.q 7 [] [],.s [13] (some 0) [] []] (fun _=>U2 L Hp o om j (mvO m)) (fun B=>[.cells 97 [.ptr o 0],.cells 159 [.ptr om 0]]++bot (B 0)) Ac (by kernel_rfl) rfl rfl (fun _=>rfl) ?_
  apply Y.q
  case h1 =>
   intro B hT hF
   refine Vl ?_
   refine D.go (h:=Q.loadUp (Cf hm)) (hr:=?_)
   refine D.go ?_;refine D.makeFunc ?_;exact Np
  case hTF=>decide
  refine Y.callBad (own0:=[.cells 97 [.ptr o 0],.cells 159 [.ptr om 0]]) Tryz.call141 (fun B hB=>⟨rfl,by simp [bot,hB]⟩) ((ls L (((m.take.map A8).length:Int)) m j o om 170 [.ptr (oid Hp.length 1) 0,.ptr (oid Hp.length 0) 0] (Kj L) (U2 L Hp o om j (mvO m)++[.cells 97 [.ptr o 0],.cells 159 [.ptr om 0]]) hne (A4 (B6 ho hne)) (A4 (Cf hm)) (by omega) hj.2 hl hll (hb.mono (by omega)) Tryz.call170 (Up (z:=pmO L j) (z':=mvO m) hne (A4 (B6 ho hne)) (A4 (Cf hm)) (Po rfl) (Po rfl) (D9 hol) (D9 hml) (D9 hol) (D9 hml) hl hll) (Rx hl hll)).bad hP) ?_ ?_
  ·rintro x U O f hU hl' ⟨rfl,hW2⟩
   obtain ⟨⟨j',m',rfl⟩,rfl⟩:=E8 hne hol hml hU hW2
   refine ⟨fun h=>Cg hne Bn h,fun o h=>(by cases h),?_⟩
   exact K.finPP ⟨_,_,by unfold Cz;rw [hW];show Dz L _ _ m j=_;rw [←hP,List.length_map],rfl,j',m',rfl⟩
  exact ux
 refine W.drawQ0 [0,0,2,6,14,30,0,127] 7 Ac (by kernel_rfl) ?_;refine Vl ?_
 refine D.go (h:=Q.loadUp (Cf hm)) (hr:=?_)
 refine D.go ?_;refine D.makeFunc ?_;refine D.tail ?_
 refine R.callX (up':=U2 L Hp o om k (mvO m2)) (own':=[.cells 97 [.ptr o 0],.cells 159 [.ptr om 0]]) Tryz.call141 (((ls L (((m.take.map A8).length:Int)) m j o om 170 [.ptr (oid Hp.length 1) 0,.ptr (oid Hp.length 0) 0] (Kj L) (U2 L Hp o om j (mvO m)++[.cells 97 [.ptr o 0],.cells 159 [.ptr om 0]]) hne (A4 (B6 ho hne)) (A4 (Cf hm)) (by omega) hj.2 hl hll (hb.mono (by omega)) Tryz.call170 (Up (z:=pmO L j) (z':=mvO m) hne (A4 (B6 ho hne)) (A4 (Cf hm)) (Po rfl) (Po rfl) (D9 hol) (D9 hml) (D9 hol) (D9 hml) hl hll) (Rx hl hll)).ok hP).mono (fun r H' e=>⟨e.1,e.2.trans (by first|rw [Di (by rw [U2_len];exact hol) (by rw [U2_len];exact hml),Gy hne]|rw [Di hol hml])⟩)) (by first|rfl|rw [U2_len,U2_len]|rw [U2_len]) (fun h=>Cg hne Bn h) ?_
 refine R.fin [] ?_;exact K.finPN .nores (hp:=⟨m2,k,by unfold Cz;rw [hW];show Dz L _ _ m j=_;rw [←hP,List.length_map],rfl,rfl⟩)

theorem Us {L:List Tok} {Hp:List AObj} {o om i:Nat} {m:Mov} {s:Str} {x:AObj}:(U2 L Hp o om i x).set om (.cells 77 [A2 m.kind,.slice true 1 [A8 s],.slice true 2 (m.give.map Ax),.slice true 6 (m.ahead.map A7),.slice true 6 (m.back.map A7)])=U2 L Hp o om i (mvO (takeS m s)):=U2_setm
theorem gn {n:Nat} {x:Expr}:Low n (.slice true 6 [.agg (Ee x)]):=by
 have:=Dc (n:=n) (k:=6) (o:=true) (l:=[x])
 simp only [List.map_cons,List.map_nil] at this
 rw [Ab] at this
 exact this
theorem Zd {n:Nat} {x:Expr}:Low n (.slice true 6 [A7 x]):=Dc (l:=[x])
theorem sa {L:List Tok} {m m1:Mov} {i k:Nat} (h:Cc L m i=.ok m1 k):(m1.give.map Ax)[0]? = some (Ax (m1.give.getD 0 ⟨[],0⟩)):=by
 obtain ⟨c,j,h1,h2⟩:=PR.bind_ok h
 obtain ⟨u,j2,h3,h4⟩:=PR.bind_ok h2
 obtain ⟨x,j3,h5,h6⟩:=PR.bind_ok h4
 injection h6 with h6 h7
 subst h6
 show ((m.give++[c]).map Ax)[0]? = some (Ax ((m.give++[c]).getD 0 ⟨[],0⟩))
 cases m.give<;>rfl
section
variable {L:List Tok} {m:Mov} {i:Nat}
theorem sb (h1:(m.kind==1)=true):Ev L m i=Cc L m i:=if_pos h1
theorem dn (h1:(m.kind==1)=false) (h2:(m.kind==2)=true):Ev L m i=(Dt L i).bind fun s j=>Cz L (takeS m s) j:=by
 unfold Ev;rw [if_neg (by rw [h1];simp),if_pos h2]
theorem sc (h1:(m.kind==1)=false) (h2:(m.kind==2)=false) (h3:(m.kind==3)=true):Ev L m i=Hf L m i:=by
 unfold Ev;rw [if_neg (by rw [h1];simp),if_neg (by rw [h2];simp),if_pos h3]
theorem Se (h1:(m.kind==1)=false) (h2:(m.kind==2)=false) (h3:(m.kind==3)=false) (h4:(m.kind==4)=true):Ev L m i=(Dt L i).bind fun s j=>(Be L intoW j).bind fun _ j=>(Dz L 0 (Cc L) (takeS m s) j).bind fun m j=>Cz L m j:=by
 unfold Ev;rw [if_neg (by rw [h1];simp),if_neg (by rw [h2];simp),if_neg (by rw [h3];simp),if_pos h4]
theorem Sf (h1:(m.kind==1)=false) (h2:(m.kind==2)=false) (h3:(m.kind==3)=false) (h4:(m.kind==4)=false) (h5:(m.kind==5)=true):Ev L m i=(Dz L 0 (Iv L) m i).bind fun m j=>(Be L intoW j).bind fun _ j=>(Cc L m j).bind fun m j=>Cz L m j:=by
 unfold Ev;rw [if_neg (by rw [h1];simp),if_neg (by rw [h2];simp),if_neg (by rw [h3];simp),if_neg (by rw [h4];simp),if_pos h5]
theorem dp (h1:(m.kind==1)=false) (h2:(m.kind==2)=false) (h3:(m.kind==3)=false) (h4:(m.kind==4)=false) (h5:(m.kind==5)=false) (h6:(m.kind==6)=true):Ev L m i=(Cc L m i).bind fun m j=>Cz L (takeS m (m.give.getD 0 ⟨[],0⟩).name) j:=by
 unfold Ev;rw [if_neg (by rw [h1];simp),if_neg (by rw [h2];simp),if_neg (by rw [h3];simp),if_neg (by rw [h4];simp),if_neg (by rw [h5];simp),if_pos h6]
theorem AAq (h1:(m.kind==1)=false) (h2:(m.kind==2)=false) (h3:(m.kind==3)=false) (h4:(m.kind==4)=false) (h5:(m.kind==5)=false) (h6:(m.kind==6)=false):Ev L m i=.ok m i:=by
 unfold Ev;rw [if_neg (by rw [h1];simp),if_neg (by rw [h2];simp),if_neg (by rw [h3];simp),if_neg (by rw [h4];simp),if_neg (by rw [h5];simp),if_neg (by rw [h6];simp)]
end
theorem AD4 (L:List Tok) (m:Mov) (i o om:Nat) (Hp:List AObj) (hne:om≠o) (ho:Hp[o]? = some (pmO L i)) (hm:Hp[om]? = some (mvO m)) (hi:i<L.length) (hl:TokEnd L) (hll:L.length≤500000) (hb:MvLe m (2*i-1)):CP 140 [.ptr o 0,.ptr om 0] Hp (Hf L m i) (fun m' j r H'=>r=Ll∧H'=U2 L Hp o om j (mvO m')) (W2 L o om Hp):=by
 refine ACallP.body [] [0,1] Tryz.func140 Tryz.ntmps140 (fun d=>?_)
 refine o4 ?_
 rcases h1:Dt L i with ⟨s,j⟩|⟨e,a⟩
 rotate_left
 ·refine AW.seqRK ?_
  refine ARunK.one (R.go (ARun.nil ?_))
  refine ARunK.one (R.go (ARun.nil ?_))
  refine RK.callBad Tryz.call138 ((Pn L i o _ (A4 (B6 ho hne)) hi hll).bad h1) ?_
  rintro x U O hU hl' ⟨rfl,j',hH⟩
  obtain ⟨rfl,rfl⟩:=B4 hU (List.getElem?_eq_some_iff.1 (B6 (L:=L) (i:=i) (x:=mvO m) ho hne)).1 hH
  refine ⟨fun h=>B5 h (fun n=>Aw),fun o h=>(by cases h),?_⟩
  refine K.thP ?_;exact K.finPP ⟨_,_,by unfold Hf;rw [h1];rfl,rfl,j',m,Bp hne⟩
 have hj:=Eh hl hi _ _ h1
 refine Z1 ?_;refine R.callUp (x:=pmO L j) Tryz.call138 (B6 ho hne) (by simp) Aw ((Pn L i o _ (A4 (B6 ho hne)) hi hll).ok h1) ?_
 rw [Bp hne]
 refine Qi ?_;refine Z0 ?_
 refine R.storeUpT jS (Cf hm) ?_ ?_
 ·simp [or_imp,forall_and]
 refine R.fin [0,1] ?_;refine AW.upEq (U2_setm (y:=.cells 77 [A2 m.kind,.slice true 1 ([A8 s]),.slice true 2 (m.give.map Ax),.slice true 6 (m.ahead.map A7),.slice true 6 (m.back.map A7)])) ?_
 rcases h2:Be L toW j with ⟨u,j2⟩|⟨e,a⟩
 rotate_left
 ·refine AW.seqRK ?_
  refine ARunK.one (R.go (ARun.nil ?_))
  refine RK.callBad Tryz.call103 ((Nf L toW j o _ (A4 (B6 ho hne)) hj.2 hll).bad h2) ?_
  rintro x U O hU hl' ⟨rfl,j',hH⟩
  obtain ⟨rfl,rfl⟩:=B4 hU (List.getElem?_eq_some_iff.1 (B6 (L:=L) (i:=j) (x:=.cells 77 [A2 m.kind,.slice true 1 ([A8 s]),.slice true 2 (m.give.map Ax),.slice true 6 (m.ahead.map A7),.slice true 6 (m.back.map A7)]) ho hne)).1 hH
  refine ⟨fun h=>B5 h (fun n=>Aw),fun o h=>(by cases h),?_⟩
  refine K.thP ?_;exact K.finPP ⟨_,_,by unfold Hf;rw [h1];show (Be L toW j).bind _=_;rw [h2];rfl,rfl,j',(⟨m.kind,[s],m.give,m.ahead,m.back⟩:Mov),Bp hne⟩
 have hj2:=D8 hl hj.2 _ _ h2
 refine Z2 ?_;refine R.callUp (x:=pmO L j2) Tryz.call103 (B6 ho hne) (by simp) Aw ((Nf L toW j o _ (A4 (B6 ho hne)) hj.2 hll).ok h2) ?_
 rw [Bp hne]
 refine R.fin [0,1] ?_
 rcases h3:Dt L j2 with ⟨t,k⟩|⟨e,a⟩
 rotate_left
 ·refine AW.seqRK ?_
  refine ARunK.one (R.go (ARun.nil ?_))
  refine RK.callBad Tryz.call138 ((Pn L j2 o _ (A4 (B6 ho hne)) hj2.2 hll).bad h3) ?_
  rintro x U O hU hl' ⟨rfl,j',hH⟩
  obtain ⟨rfl,rfl⟩:=B4 hU (List.getElem?_eq_some_iff.1 (B6 (L:=L) (i:=j2) (x:=.cells 77 [A2 m.kind,.slice true 1 ([A8 s]),.slice true 2 (m.give.map Ax),.slice true 6 (m.ahead.map A7),.slice true 6 (m.back.map A7)]) ho hne)).1 hH
  refine ⟨fun h=>B5 h (fun n=>Aw),fun o h=>(by cases h),?_⟩
  refine K.thP ?_;exact K.finPP ⟨_,_,by unfold Hf;rw [h1];show (Be L toW j).bind _=_;rw [h2];show (Dt L j2).bind _=_;rw [h3];rfl,rfl,j',(⟨m.kind,[s],m.give,m.ahead,m.back⟩:Mov),Bp hne⟩
 refine Z2 ?_;refine R.callUp (x:=pmO L k) Tryz.call138 (B6 ho hne) (by simp) Aw ((Pn L j2 o _ (A4 (B6 ho hne)) hj2.2 hll).ok h3) ?_
 rw [Bp hne]
 refine R.go ?_;refine R.fin [1,4] ?_;refine Z1 ?_;refine Xh ?_;refine Qi ?_;refine Z0 ?_
 refine R.storeUpT jS (Cf hm) ?_ ?_
 ·simp [or_imp,forall_and]
 refine R.fin [1,4] ?_;refine AW.upEq (U2_setm (y:=.cells 77 [A2 m.kind,.slice true 1 ([A8 s]),.slice true 2 ([Ax ⟨t,0⟩]),.slice true 6 (m.ahead.map A7),.slice true 6 (m.back.map A7)])) ?_;refine Z13 ?_;refine Z23 ?_
 refine R.go (h:=Q.loadUp (Cf hm)) (hr:=?_)
 refine R.go (h:=Q.indexAddr (0) (A8 s) (fun _=>rfl)) (hr:=?_)
 refine R.go ?_;refine R.call Tryz.call112 (xc s _) ?_;refine Qi ?_;refine R.go ?_;refine R.call Tryz.call112 (xc t _) ?_;refine Qi ?_;refine Z0 ?_
 refine R.storeUpT jS (Cf hm) ?_ ?_
 ·first|exact gn|exact Zd
 rw [U2_setm]
 refine Z0 ?_
 refine R.storeUpT jS (Cf hm) ?_ ?_
 ·first|exact gn|exact Zd
 rw [U2_setm]
 refine R.fin [] ?_;exact K.finPN .nores (hp:=⟨⟨m.kind,[s],[⟨t,0⟩],[B7 s],[B7 t]⟩,k,by unfold Hf;rw [h1];show (Be L toW j).bind _=_;rw [h2];show (Dt L j2).bind _=_;rw [h3];rfl,rfl,by simp only [mvO,mvC,List.map_cons,List.map_nil,Ab]⟩)

theorem lu {L:List Tok} {Hp:List AObj} {o om i:Nat} {m:Mov} {c:Col} {x:AObj}:(U2 L Hp o om i x).set om (.cells 77 [A2 m.kind,.slice true 1 [A8 c.name],.slice true 2 (m.give.map Ax),.slice true 6 (m.ahead.map A7),.slice true 6 (m.back.map A7)])=U2 L Hp o om i (mvO (takeS m c.name)):=U2_setm
theorem AD5 (L:List Tok) (m:Mov) (i o om:Nat) (Hp:List AObj) (hne:om≠o) (ho:Hp[o]? = some (pmO L i)) (hm:Hp[om]? = some (mvO m)) (hi:i<L.length) (hl:TokEnd L) (hll:L.length≤500000) (hb:MvLe m (2*i-1)) (h0:0<i):CP 102 [.ptr o 0,.ptr om 0] Hp (Ev L m i) (fun m' j r H'=>r=Ll∧H'=U2 L Hp o om j (mvO m')) (W2 L o om Hp):=by
 have hol:=(List.getElem?_eq_some_iff.1 ho).1
 have hml:=(List.getElem?_eq_some_iff.1 hm).1
 refine ACallP.body [] [0,1] Tryz.func102 Tryz.ntmps102 (fun d=>?_)
 refine Xe ?_;refine R.box ?_;refine I5 ?_;refine o4 ?_;refine Z18 ?_
 refine R.go (h:=Q.loadUp (Cf hm)) (hr:=?_)
 refine R.fin [2,3,7] ?_;refine Z71 ?_;refine R.fin [2,3,7,8] ?_
 refine W.cond (fun ht8=>?_) (fun ht8=>?_)
 ·rcases h1:Cc L m i with ⟨m1,k⟩|⟨e,a⟩
  rotate_left
  ·refine AW.regionK ?_
   refine ARunK.one (R.go (ARun.nil ?_))
   refine ARunK.one (R.go (ARun.nil ?_))
   refine AC6 ?_
   rintro x U O hU hl' ⟨rfl,hW2⟩
   obtain ⟨⟨j',m',rfl⟩,rfl⟩:=E8 hne hol hml hU hW2
   refine ⟨fun h=>Cg hne Bn h,fun o h=>(by cases h),?_⟩
   refine K.blP ?_;exact K.finPP ⟨_,_,by rw [sb ht8];rw [h1],rfl,j',m',rfl⟩
  refine Z13 ?_
  refine R.callX (up':=U2 L Hp o om k (mvO m1)) (own':=[.cells 97 [.ptr o 0],.cells 159 [.ptr om 0]]) Tryz.call137 (((dm L m i o om (U2 L Hp o om i (mvO m)++[.cells 97 [.ptr o 0],.cells 159 [.ptr om 0]]) hne (A4 (B6 ho hne)) (A4 (Cf hm)) hi hl hll hb).ok h1).mono (fun r H' e=>⟨e.1,e.2.trans (by first|rw [Di (by rw [U2_len];exact hol) (by rw [U2_len];exact hml),Gy hne]|rw [Di hol hml])⟩)) (by first|rfl|rw [U2_len,U2_len]|rw [U2_len]) (fun h=>Cg hne Bn h) ?_
  refine Z50 ?_;exact K.finPN .nores (hp:=⟨m1,k,by rw [sb ht8];rw [h1],rfl,rfl⟩)
 refine Z1 ?_;refine R.fin [2,3,7,13] ?_
 refine W.cond (fun ht13=>?_) (fun ht13=>?_)
 ·rcases h1:Dt L i with ⟨s,j⟩|⟨e,a⟩
  rotate_left
  ·refine W.drawY [0,0,2,6,15,31,63] [2] [.q 2 [] [],.s [17] (some 0) [] [],.s [] none [0] [],.s [] none [0] [],.s [] none [0] [],.s [] none [0] []] (fun _=>U2 L Hp o om i (mvO m)) (fun B=>[.cells 97 [.ptr o 0],.cells 159 [.ptr om 0]]++bot (B 0)) Ac (by kernel_rfl) rfl rfl (fun _=>rfl) ?_
   apply Y.q
   case h1 =>
    intro B hT hF
    exact Z53
   case hTF=>decide
   refine Y.callBad (own0:=[.cells 97 [.ptr o 0],.cells 159 [.ptr om 0]]) Tryz.call138 (fun B hB=>⟨rfl,by simp [bot,hB]⟩) ((Pn L i o _ (A4 (B6 ho hne)) hi hll).bad h1) ?_ ?_
   ·rintro x U O f hU hl' ⟨rfl,j',hH⟩
    obtain ⟨rfl,rfl⟩:=B4 hU (List.getElem?_eq_some_iff.1 (B6 (L:=L) (i:=i) (x:=mvO m) ho hne)).1 hH
    refine ⟨fun h=>B5 h (fun n=>Aw),fun o h=>(by cases h),?_⟩
    refine K.blP ?_;exact K.finPP ⟨_,_,by rw [dn ht8 ht13];rw [h1];rfl,rfl,j',m,Bp hne⟩
   exact uk
  have hj:=Eh hl hi _ _ h1
  refine W.drawY [0,0,2,6,15,31,63] [2] [.q 2 [] [],.s [17] (some 0) [] [],.s [18] none [0] []] (fun B=>U2 L Hp o om (if B 0=true then j else i) (mvO m)) (fun _=>[.cells 97 [.ptr o 0],.cells 159 [.ptr om 0]]) Ac (by kernel_rfl) rfl rfl (fun B=>by rw [U2_len];exact U2_len.symm) ?_
  apply Y.q
  case h1 =>
   intro B hT hF
   exact Z53
  case hTF=>decide
  refine Y.callUp (r:=A8 s) (o:=o) (x0:=pmO L i) (x:=pmO L j) Tryz.call138 (fun B hB1 hB2 hB=>⟨by simp only [hB];exact B6 ho hne,(Bp hne).symm,rfl,Aw,?_⟩) ?_
  ·simp only [hB]
   exact (Pn L i o _ (A4 (B6 ho hne)) hi hll).ok h1
  refine ABd ?_;refine Z0 ?_
  refine R.storeUpT jS (Cf hm) ?_ ?_
  ·simp [or_imp,forall_and]
  refine I5 ?_;refine AW.upEq (Us (m:=m) (s:=s)) ?_
  rcases h2:Cz L (takeS m s) j with ⟨m2,k⟩|⟨e,a⟩
  rotate_left
  ·refine AW.regionK ?_
   refine ARunK.one (R.go (ARun.nil ?_))
   refine ARunK.one (R.go (ARun.nil ?_))
   refine RK.callBad Tryz.call139 ((Zc L (takeS m s) j o om (U2 L Hp o om j (mvO (takeS m s))++[.cells 97 [.ptr o 0],.cells 159 [.ptr om 0]]) hne (A4 (B6 ho hne)) (A4 (Cf hm)) hj.2 hl hll ((hb.mono (by omega:2*i-1≤2*j)).takeS (by omega))).bad h2) ?_
   rintro x U O hU hl' ⟨rfl,hW2⟩
   obtain ⟨⟨j',m',rfl⟩,rfl⟩:=E8 hne hol hml hU hW2
   refine ⟨fun h=>Cg hne Bn h,fun o h=>(by cases h),?_⟩
   refine K.blP ?_;exact K.finPP ⟨_,_,by rw [dn ht8 ht13];rw [h1];show Cz L (takeS m s) j=_;rw [h2],rfl,j',m',rfl⟩
  refine Z13 ?_
  refine R.callX (up':=U2 L Hp o om k (mvO m2)) (own':=[.cells 97 [.ptr o 0],.cells 159 [.ptr om 0]]) Tryz.call139 (((Zc L (takeS m s) j o om (U2 L Hp o om j (mvO (takeS m s))++[.cells 97 [.ptr o 0],.cells 159 [.ptr om 0]]) hne (A4 (B6 ho hne)) (A4 (Cf hm)) hj.2 hl hll ((hb.mono (by omega:2*i-1≤2*j)).takeS (by omega))).ok h2).mono (fun r H' e=>⟨e.1,e.2.trans (by first|rw [Di (by rw [U2_len];exact hol) (by rw [U2_len];exact hml),Gy hne]|rw [Di hol hml])⟩)) (by first|rfl|rw [U2_len,U2_len]|rw [U2_len]) (fun h=>Cg hne Bn h) ?_
  refine Z50 ?_;exact K.finPN .nores (hp:=⟨m2,k,by rw [dn ht8 ht13];rw [h1];show Cz L (takeS m s) j=_;rw [h2],rfl,rfl⟩)
 refine Z1 ?_;refine R.fin [2,3,7,24] ?_
 refine W.cond (fun ht24=>?_) (fun ht24=>?_)
 ·rcases h1:Hf L m i with ⟨m1,k⟩|⟨e,a⟩
  rotate_left
  ·refine AW.regionK ?_
   refine ARunK.one (R.go (ARun.nil ?_))
   refine ARunK.one (R.go (ARun.nil ?_))
   refine RK.callBad Tryz.call140 ((AD4 L m i o om (U2 L Hp o om i (mvO m)++[.cells 97 [.ptr o 0],.cells 159 [.ptr om 0]]) hne (A4 (B6 ho hne)) (A4 (Cf hm)) hi hl hll hb).bad h1) ?_
   rintro x U O hU hl' ⟨rfl,hW2⟩
   obtain ⟨⟨j',m',rfl⟩,rfl⟩:=E8 hne hol hml hU hW2
   refine ⟨fun h=>Cg hne Bn h,fun o h=>(by cases h),?_⟩
   refine K.blP ?_;exact K.finPP ⟨_,_,by rw [sc ht8 ht13 ht24];rw [h1],rfl,j',m',rfl⟩
  refine Z13 ?_
  refine R.callX (up':=U2 L Hp o om k (mvO m1)) (own':=[.cells 97 [.ptr o 0],.cells 159 [.ptr om 0]]) Tryz.call140 (((AD4 L m i o om (U2 L Hp o om i (mvO m)++[.cells 97 [.ptr o 0],.cells 159 [.ptr om 0]]) hne (A4 (B6 ho hne)) (A4 (Cf hm)) hi hl hll hb).ok h1).mono (fun r H' e=>⟨e.1,e.2.trans (by first|rw [Di (by rw [U2_len];exact hol) (by rw [U2_len];exact hml),Gy hne]|rw [Di hol hml])⟩)) (by first|rfl|rw [U2_len,U2_len]|rw [U2_len]) (fun h=>Cg hne Bn h) ?_
  refine Z50 ?_;exact K.finPN .nores (hp:=⟨m1,k,by rw [sc ht8 ht13 ht24];rw [h1],rfl,rfl⟩)
 refine Z1 ?_;refine R.fin [2,3,7,29] ?_
 refine W.cond (fun ht29=>?_) (fun ht29=>?_)
 ·rcases h1:Dt L i with ⟨s,j⟩|⟨e,a⟩
  rotate_left
  ·refine W.drawY [0,0,2,6,15,31,63] [2] [.q 2 [] [],.s [33] (some 0) [] [],.s [] none [0] [],.s [] none [0] [],.s [] none [0] [],.s [] none [0] []] (fun _=>U2 L Hp o om i (mvO m)) (fun B=>[.cells 97 [.ptr o 0],.cells 159 [.ptr om 0]]++bot (B 0)) Ac (by kernel_rfl) rfl rfl (fun _=>rfl) ?_
   apply Y.q
   case h1 =>
    intro B hT hF
    exact Z53
   case hTF=>decide
   refine Y.callBad (own0:=[.cells 97 [.ptr o 0],.cells 159 [.ptr om 0]]) Tryz.call138 (fun B hB=>⟨rfl,by simp [bot,hB]⟩) ((Pn L i o _ (A4 (B6 ho hne)) hi hll).bad h1) ?_ ?_
   ·rintro x U O f hU hl' ⟨rfl,j',hH⟩
    obtain ⟨rfl,rfl⟩:=B4 hU (List.getElem?_eq_some_iff.1 (B6 (L:=L) (i:=i) (x:=mvO m) ho hne)).1 hH
    refine ⟨fun h=>B5 h (fun n=>Aw),fun o h=>(by cases h),?_⟩
    refine K.blP ?_;exact K.finPP ⟨_,_,by rw [Se ht8 ht13 ht24 ht29];rw [h1];rfl,rfl,j',m,Bp hne⟩
   exact uk
  have hj:=Eh hl hi _ _ h1
  refine W.drawY [0,0,2,6,15,31,63] [2] [.q 2 [] [],.s [33] (some 0) [] [],.s [34] none [0] []] (fun B=>U2 L Hp o om (if B 0=true then j else i) (mvO m)) (fun _=>[.cells 97 [.ptr o 0],.cells 159 [.ptr om 0]]) Ac (by kernel_rfl) rfl rfl (fun B=>by rw [U2_len];exact U2_len.symm) ?_
  apply Y.q
  case h1 =>
   intro B hT hF
   exact Z53
  case hTF=>decide
  refine Y.callUp (r:=A8 s) (o:=o) (x0:=pmO L i) (x:=pmO L j) Tryz.call138 (fun B hB1 hB2 hB=>⟨by simp only [hB];exact B6 ho hne,(Bp hne).symm,rfl,Aw,?_⟩) ?_
  ·simp only [hB]
   exact (Pn L i o _ (A4 (B6 ho hne)) hi hll).ok h1
  refine ABd ?_;refine Z0 ?_
  refine R.storeUpT jS (Cf hm) ?_ ?_
  ·simp [or_imp,forall_and]
  refine I5 ?_;refine AW.upEq (Us (m:=m) (s:=s)) ?_
  rcases h2:Be L intoW j with ⟨u,j2⟩|⟨e,a⟩
  rotate_left
  ·refine AW.seqRK ?_
   refine ARunK.one (R.go (ARun.nil ?_))
   refine RK.callBad Tryz.call103 ((Nf L intoW j o _ (A4 (B6 ho hne)) hj.2 hll).bad h2) ?_
   rintro x U O hU hl' ⟨rfl,j',hH⟩
   obtain ⟨rfl,rfl⟩:=B4 hU (List.getElem?_eq_some_iff.1 (B6 (L:=L) (i:=j) (x:=mvO (takeS m s)) ho hne)).1 hH
   refine ⟨fun h=>B5 h (fun n=>Aw),fun o h=>(by cases h),?_⟩
   refine Xd ?_;exact K.finPP ⟨_,_,by rw [Se ht8 ht13 ht24 ht29];rw [h1];show (Be L intoW j).bind _=_;rw [h2];rfl,rfl,j',(takeS m s),Bp hne⟩
  have hj2:=D8 hl hj.2 _ _ h2
  refine Z2 ?_;refine R.callUp (x:=pmO L j2) Tryz.call103 (B6 ho hne) (by simp) Aw ((Nf L intoW j o _ (A4 (B6 ho hne)) hj.2 hll).ok h2) ?_
  rw [Bp hne]
  refine I5 ?_
  rcases h3:Dz L 0 (Cc L) (takeS m s) j2 with ⟨m1,j3⟩|⟨e,a⟩
  rotate_left
  ·refine AW.seqRK ?_
   refine ARunK.one (R.go (ARun.nil ?_))
   refine ARunK.one (R.makeFunc (ARun.nil ?_))
   refine RK.callBad Tryz.call141 ((ls L (0) (takeS m s) j2 o om 142 [.ptr (oid Hp.length 0) 0,.ptr (oid Hp.length 1) 0] (Cc L) (U2 L Hp o om j2 (mvO (takeS m s))++[.cells 97 [.ptr o 0],.cells 159 [.ptr om 0]]) hne (A4 (B6 ho hne)) (A4 (Cf hm)) (by omega) hj2.2 hl hll ((hb.mono (by omega:2*i-1≤2*j2-1)).takeS (by omega)) Tryz.call142 (Ur (z:=pmO L j2) (z':=mvO (takeS m s)) hne (A4 (B6 ho hne)) (A4 (Cf hm)) (Po rfl) (Po rfl) (D9 hol) (D9 hml) (D9 hol) (D9 hml) hl hll) (Hg hl hll)).bad h3) ?_
   rintro x U O hU hl' ⟨rfl,hW2⟩
   obtain ⟨⟨j',m',rfl⟩,rfl⟩:=E8 hne hol hml hU hW2
   refine ⟨fun h=>Cg hne Bn h,fun o h=>(by cases h),?_⟩
   refine Xd ?_;exact K.finPP ⟨_,_,by rw [Se ht8 ht13 ht24 ht29];rw [h1];show (Be L intoW j).bind _=_;rw [h2];show (Dz L 0 (Cc L) (takeS m s) j2).bind _=_;rw [h3];rfl,rfl,j',m',rfl⟩
  have hj3:=N4 hl (Hg hl hll) (takeS m s) j2 ((hb.mono (by omega:2*i-1≤2*j2-1)).takeS (by omega)) (by omega) hj2.2 _ _ h3
  refine Z2 ?_;refine L8 ?_
  refine R.callX (up':=U2 L Hp o om j3 (mvO m1)) (own':=[.cells 97 [.ptr o 0],.cells 159 [.ptr om 0]]) Tryz.call141 (((ls L (0) (takeS m s) j2 o om 142 [.ptr (oid Hp.length 0) 0,.ptr (oid Hp.length 1) 0] (Cc L) (U2 L Hp o om j2 (mvO (takeS m s))++[.cells 97 [.ptr o 0],.cells 159 [.ptr om 0]]) hne (A4 (B6 ho hne)) (A4 (Cf hm)) (by omega) hj2.2 hl hll ((hb.mono (by omega:2*i-1≤2*j2-1)).takeS (by omega)) Tryz.call142 (Ur (z:=pmO L j2) (z':=mvO (takeS m s)) hne (A4 (B6 ho hne)) (A4 (Cf hm)) (Po rfl) (Po rfl) (D9 hol) (D9 hml) (D9 hol) (D9 hml) hl hll) (Hg hl hll)).ok h3).mono (fun r H' e=>⟨e.1,e.2.trans (by first|rw [Di (by rw [U2_len];exact hol) (by rw [U2_len];exact hml),Gy hne]|rw [Di hol hml])⟩)) (by first|rfl|rw [U2_len,U2_len]|rw [U2_len]) (fun h=>Cg hne Bn h) ?_
  refine I5 ?_
  rcases h4:Cz L m1 j3 with ⟨m2,k⟩|⟨e,a⟩
  rotate_left
  ·refine AW.regionK ?_
   refine ARunK.one (R.go (ARun.nil ?_))
   refine ARunK.one (R.go (ARun.nil ?_))
   refine RK.callBad Tryz.call139 ((Zc L m1 j3 o om (U2 L Hp o om j3 (mvO m1)++[.cells 97 [.ptr o 0],.cells 159 [.ptr om 0]]) hne (A4 (B6 ho hne)) (A4 (Cf hm)) hj3.2.1 hl hll hj3.2.2).bad h4) ?_
   rintro x U O hU hl' ⟨rfl,hW2⟩
   obtain ⟨⟨j',m',rfl⟩,rfl⟩:=E8 hne hol hml hU hW2
   refine ⟨fun h=>Cg hne Bn h,fun o h=>(by cases h),?_⟩
   refine K.blP ?_;exact K.finPP ⟨_,_,by rw [Se ht8 ht13 ht24 ht29];rw [h1];show (Be L intoW j).bind _=_;rw [h2];show (Dz L 0 (Cc L) (takeS m s) j2).bind _=_;rw [h3];show Cz L m1 j3=_;rw [h4],rfl,j',m',rfl⟩
  refine Z13 ?_
  refine R.callX (up':=U2 L Hp o om k (mvO m2)) (own':=[.cells 97 [.ptr o 0],.cells 159 [.ptr om 0]]) Tryz.call139 (((Zc L m1 j3 o om (U2 L Hp o om j3 (mvO m1)++[.cells 97 [.ptr o 0],.cells 159 [.ptr om 0]]) hne (A4 (B6 ho hne)) (A4 (Cf hm)) hj3.2.1 hl hll hj3.2.2).ok h4).mono (fun r H' e=>⟨e.1,e.2.trans (by first|rw [Di (by rw [U2_len];exact hol) (by rw [U2_len];exact hml),Gy hne]|rw [Di hol hml])⟩)) (by first|rfl|rw [U2_len,U2_len]|rw [U2_len]) (fun h=>Cg hne Bn h) ?_
  refine Z50 ?_;exact K.finPN .nores (hp:=⟨m2,k,by rw [Se ht8 ht13 ht24 ht29];rw [h1];show (Be L intoW j).bind _=_;rw [h2];show (Dz L 0 (Cc L) (takeS m s) j2).bind _=_;rw [h3];show Cz L m1 j3=_;rw [h4],rfl,rfl⟩)
 refine Z1 ?_;refine R.fin [2,3,7,45] ?_
 refine W.cond (fun ht45=>?_) (fun ht45=>?_)
 ·rcases h1:Dz L 0 (Iv L) m i with ⟨m1,j⟩|⟨e,a⟩
  rotate_left
  ·refine AW.seqRK ?_
   refine ARunK.one (R.go (ARun.nil ?_))
   refine ARunK.one (R.makeFunc (ARun.nil ?_))
   refine RK.callBad Tryz.call141 ((ls L (0) m i o om 143 [.ptr (oid Hp.length 1) 0,.ptr (oid Hp.length 0) 0] (Iv L) (U2 L Hp o om i (mvO m)++[.cells 97 [.ptr o 0],.cells 159 [.ptr om 0]]) hne (A4 (B6 ho hne)) (A4 (Cf hm)) h0 hi hl hll hb Tryz.call143 (Uq (z:=pmO L i) (z':=mvO m) hne (A4 (B6 ho hne)) (A4 (Cf hm)) (Po rfl) (Po rfl) (D9 hol) (D9 hml) (D9 hol) (D9 hml) hl hll) (N3 hl)).bad h1) ?_
   rintro x U O hU hl' ⟨rfl,hW2⟩
   obtain ⟨⟨j',m',rfl⟩,rfl⟩:=E8 hne hol hml hU hW2
   refine ⟨fun h=>Cg hne Bn h,fun o h=>(by cases h),?_⟩
   refine Xd ?_;exact K.finPP ⟨_,_,by rw [Sf ht8 ht13 ht24 ht29 ht45];rw [h1];rfl,rfl,j',m',rfl⟩
  have hj:=N4 hl (N3 hl) m i hb h0 hi _ _ h1
  refine Z2 ?_;refine L8 ?_
  refine R.callX (up':=U2 L Hp o om j (mvO m1)) (own':=[.cells 97 [.ptr o 0],.cells 159 [.ptr om 0]]) Tryz.call141 (((ls L (0) m i o om 143 [.ptr (oid Hp.length 1) 0,.ptr (oid Hp.length 0) 0] (Iv L) (U2 L Hp o om i (mvO m)++[.cells 97 [.ptr o 0],.cells 159 [.ptr om 0]]) hne (A4 (B6 ho hne)) (A4 (Cf hm)) h0 hi hl hll hb Tryz.call143 (Uq (z:=pmO L i) (z':=mvO m) hne (A4 (B6 ho hne)) (A4 (Cf hm)) (Po rfl) (Po rfl) (D9 hol) (D9 hml) (D9 hol) (D9 hml) hl hll) (N3 hl)).ok h1).mono (fun r H' e=>⟨e.1,e.2.trans (by first|rw [Di (by rw [U2_len];exact hol) (by rw [U2_len];exact hml),Gy hne]|rw [Di hol hml])⟩)) (by first|rfl|rw [U2_len,U2_len]|rw [U2_len]) (fun h=>Cg hne Bn h) ?_
  refine I5 ?_
  rcases h2:Be L intoW j with ⟨u,j2⟩|⟨e,a⟩
  rotate_left
  ·refine AW.seqRK ?_
   refine ARunK.one (R.go (ARun.nil ?_))
   refine RK.callBad Tryz.call103 ((Nf L intoW j o _ (A4 (B6 ho hne)) hj.2.1 hll).bad h2) ?_
   rintro x U O hU hl' ⟨rfl,j',hH⟩
   obtain ⟨rfl,rfl⟩:=B4 hU (List.getElem?_eq_some_iff.1 (B6 (L:=L) (i:=j) (x:=mvO m1) ho hne)).1 hH
   refine ⟨fun h=>B5 h (fun n=>Aw),fun o h=>(by cases h),?_⟩
   refine Xd ?_;exact K.finPP ⟨_,_,by rw [Sf ht8 ht13 ht24 ht29 ht45];rw [h1];show (Be L intoW j).bind _=_;rw [h2];rfl,rfl,j',m1,Bp hne⟩
  have hj2:=D8 hl hj.2.1 _ _ h2
  have hj2e:=Hz h2
  refine Z2 ?_;refine R.callUp (x:=pmO L j2) Tryz.call103 (B6 ho hne) (by simp) Aw ((Nf L intoW j o _ (A4 (B6 ho hne)) hj.2.1 hll).ok h2) ?_
  rw [Bp hne]
  refine I5 ?_
  rcases h3:Cc L m1 j2 with ⟨m2,j3⟩|⟨e,a⟩
  rotate_left
  ·refine AW.seqRK ?_
   refine ARunK.one (R.go (ARun.nil ?_))
   refine ARunK.one (R.go (ARun.nil ?_))
   refine RK.callBad Tryz.call137 ((dm L m1 j2 o om (U2 L Hp o om j2 (mvO m1)++[.cells 97 [.ptr o 0],.cells 159 [.ptr om 0]]) hne (A4 (B6 ho hne)) (A4 (Cf hm)) hj2.2 hl hll (hj.2.2.mono (by omega))).bad h3) ?_
   rintro x U O hU hl' ⟨rfl,hW2⟩
   obtain ⟨⟨j',m',rfl⟩,rfl⟩:=E8 hne hol hml hU hW2
   refine ⟨fun h=>Cg hne Bn h,fun o h=>(by cases h),?_⟩
   refine Xd ?_;exact K.finPP ⟨_,_,by rw [Sf ht8 ht13 ht24 ht29 ht45];rw [h1];show (Be L intoW j).bind _=_;rw [h2];show (Cc L m1 j2).bind _=_;rw [h3];rfl,rfl,j',m',rfl⟩
  have hj3:=Hg hl hll m1 j2 (hj.2.2.mono (by omega)) (by omega) hj2.2 _ _ h3
  refine Z1 ?_
  refine R.callX (up':=U2 L Hp o om j3 (mvO m2)) (own':=[.cells 97 [.ptr o 0],.cells 159 [.ptr om 0]]) Tryz.call137 (((dm L m1 j2 o om (U2 L Hp o om j2 (mvO m1)++[.cells 97 [.ptr o 0],.cells 159 [.ptr om 0]]) hne (A4 (B6 ho hne)) (A4 (Cf hm)) hj2.2 hl hll (hj.2.2.mono (by omega))).ok h3).mono (fun r H' e=>⟨e.1,e.2.trans (by first|rw [Di (by rw [U2_len];exact hol) (by rw [U2_len];exact hml),Gy hne]|rw [Di hol hml])⟩)) (by first|rfl|rw [U2_len,U2_len]|rw [U2_len]) (fun h=>Cg hne Bn h) ?_
  refine I5 ?_
  rcases h4:Cz L m2 j3 with ⟨m3,k⟩|⟨e,a⟩
  rotate_left
  ·refine AW.regionK ?_
   refine ARunK.one (R.go (ARun.nil ?_))
   refine ARunK.one (R.go (ARun.nil ?_))
   refine RK.callBad Tryz.call139 ((Zc L m2 j3 o om (U2 L Hp o om j3 (mvO m2)++[.cells 97 [.ptr o 0],.cells 159 [.ptr om 0]]) hne (A4 (B6 ho hne)) (A4 (Cf hm)) hj3.2.1 hl hll hj3.2.2).bad h4) ?_
   rintro x U O hU hl' ⟨rfl,hW2⟩
   obtain ⟨⟨j',m',rfl⟩,rfl⟩:=E8 hne hol hml hU hW2
   refine ⟨fun h=>Cg hne Bn h,fun o h=>(by cases h),?_⟩
   refine K.blP ?_;exact K.finPP ⟨_,_,by rw [Sf ht8 ht13 ht24 ht29 ht45];rw [h1];show (Be L intoW j).bind _=_;rw [h2];show (Cc L m1 j2).bind _=_;rw [h3];show Cz L m2 j3=_;rw [h4],rfl,j',m',rfl⟩
  refine Z13 ?_
  refine R.callX (up':=U2 L Hp o om k (mvO m3)) (own':=[.cells 97 [.ptr o 0],.cells 159 [.ptr om 0]]) Tryz.call139 (((Zc L m2 j3 o om (U2 L Hp o om j3 (mvO m2)++[.cells 97 [.ptr o 0],.cells 159 [.ptr om 0]]) hne (A4 (B6 ho hne)) (A4 (Cf hm)) hj3.2.1 hl hll hj3.2.2).ok h4).mono (fun r H' e=>⟨e.1,e.2.trans (by first|rw [Di (by rw [U2_len];exact hol) (by rw [U2_len];exact hml),Gy hne]|rw [Di hol hml])⟩)) (by first|rfl|rw [U2_len,U2_len]|rw [U2_len]) (fun h=>Cg hne Bn h) ?_
  refine Z50 ?_;exact K.finPN .nores (hp:=⟨m3,k,by rw [Sf ht8 ht13 ht24 ht29 ht45];rw [h1];show (Be L intoW j).bind _=_;rw [h2];show (Cc L m1 j2).bind _=_;rw [h3];show Cz L m2 j3=_;rw [h4],rfl,rfl⟩)
 refine Z1 ?_;refine R.fin [2,3,58] ?_
 refine W.cond (fun ht58=>?_) (fun ht58=>?_)
 ·rcases h1:Cc L m i with ⟨m1,j⟩|⟨e,a⟩
  rotate_left
  ·refine AW.seqRK ?_
   refine ARunK.one (R.go (ARun.nil ?_))
   refine ARunK.one (R.go (ARun.nil ?_))
   refine AC6 ?_
   rintro x U O hU hl' ⟨rfl,hW2⟩
   obtain ⟨⟨j',m',rfl⟩,rfl⟩:=E8 hne hol hml hU hW2
   refine ⟨fun h=>Cg hne Bn h,fun o h=>(by cases h),?_⟩
   refine Xd ?_;exact K.finPP ⟨_,_,by rw [dp ht8 ht13 ht24 ht29 ht45 ht58];rw [h1];rfl,rfl,j',m',rfl⟩
  have hj:=Hg hl hll m i hb h0 hi _ _ h1
  refine Z1 ?_
  refine R.callX (up':=U2 L Hp o om j (mvO m1)) (own':=[.cells 97 [.ptr o 0],.cells 159 [.ptr om 0]]) Tryz.call137 (((dm L m i o om (U2 L Hp o om i (mvO m)++[.cells 97 [.ptr o 0],.cells 159 [.ptr om 0]]) hne (A4 (B6 ho hne)) (A4 (Cf hm)) hi hl hll hb).ok h1).mono (fun r H' e=>⟨e.1,e.2.trans (by first|rw [Di (by rw [U2_len];exact hol) (by rw [U2_len];exact hml),Gy hne]|rw [Di hol hml])⟩)) (by first|rfl|rw [U2_len,U2_len]|rw [U2_len]) (fun h=>Cg hne Bn h) ?_
  refine I5 ?_;refine W.drawY [0,0,2,6,14,30,62,126,254,511,1023,2047] [] [.q 8 [] [],.s [71] none [] []] (fun _=>U2 L Hp o om j (mvO m1)) (fun _=>[.cells 97 [.ptr o 0],.cells 159 [.ptr om 0]]) Ac (by kernel_rfl) rfl rfl (fun B=>rfl) ?_
  apply Y.q
  case h1 =>
   intro B hT hF
   refine Vl ?_
   refine D.go (h:=Q.loadUp (Cf hm)) (hr:=?_)
   refine D.go (h:=Q.indexAddr (0) (Ax (m1.give.getD 0 ⟨[],0⟩)) (fun _=>sa h1)) (hr:=?_)
   exact Z53
  case hTF=>decide
  refine Y.buildSlice jU Tryz.sizeOf9 Tryz.zeroValue9 ?_;refine Y.tail (tn:=[]) (U:=U2 L Hp o om j (mvO m1)) ?_;refine Z0 ?_
  refine R.storeUpT jS (Cf hm) ?_ ?_
  ·simp [or_imp,forall_and]
  refine I5 ?_;refine AW.upEq (lu (m:=m1) (c:=m1.give.getD 0 ⟨[],0⟩)) ?_
  rcases h2:Cz L (takeS m1 (m1.give.getD 0 ⟨[],0⟩).name) j with ⟨m2,k⟩|⟨e,a⟩
  rotate_left
  ·refine AW.regionK ?_
   refine ARunK.one (R.go (ARun.nil ?_))
   refine ARunK.one (R.go (ARun.nil ?_))
   refine RK.callBad Tryz.call139 ((Zc L (takeS m1 (m1.give.getD 0 ⟨[],0⟩).name) j o om (U2 L Hp o om j (mvO (takeS m1 (m1.give.getD 0 ⟨[],0⟩).name))++[.cells 97 [.ptr o 0],.cells 159 [.ptr om 0]]) hne (A4 (B6 ho hne)) (A4 (Cf hm)) hj.2.1 hl hll (hj.2.2.takeS (by omega))).bad h2) ?_
   rintro x U O hU hl' ⟨rfl,hW2⟩
   obtain ⟨⟨j',m',rfl⟩,rfl⟩:=E8 hne hol hml hU hW2
   refine ⟨fun h=>Cg hne Bn h,fun o h=>(by cases h),?_⟩
   refine K.blP ?_;exact K.finPP ⟨_,_,by rw [dp ht8 ht13 ht24 ht29 ht45 ht58];rw [h1];show Cz L (takeS m1 (m1.give.getD 0 ⟨[],0⟩).name) j=_;rw [h2],rfl,j',m',rfl⟩
  refine Z13 ?_
  refine R.callX (up':=U2 L Hp o om k (mvO m2)) (own':=[.cells 97 [.ptr o 0],.cells 159 [.ptr om 0]]) Tryz.call139 (((Zc L (takeS m1 (m1.give.getD 0 ⟨[],0⟩).name) j o om (U2 L Hp o om j (mvO (takeS m1 (m1.give.getD 0 ⟨[],0⟩).name))++[.cells 97 [.ptr o 0],.cells 159 [.ptr om 0]]) hne (A4 (B6 ho hne)) (A4 (Cf hm)) hj.2.1 hl hll (hj.2.2.takeS (by omega))).ok h2).mono (fun r H' e=>⟨e.1,e.2.trans (by first|rw [Di (by rw [U2_len];exact hol) (by rw [U2_len];exact hml),Gy hne]|rw [Di hol hml])⟩)) (by first|rfl|rw [U2_len,U2_len]|rw [U2_len]) (fun h=>Cg hne Bn h) ?_
  refine Z50 ?_;exact K.finPN .nores (hp:=⟨m2,k,by rw [dp ht8 ht13 ht24 ht29 ht45 ht58];rw [h1];show Cz L (takeS m1 (m1.give.getD 0 ⟨[],0⟩).name) j=_;rw [h2],rfl,rfl⟩)
 refine AW.skip ?_;refine K.blN ?_;exact K.finPN .nores (hp:=⟨m,i,AAq ht8 ht13 ht24 ht29 ht45 ht58,rfl,rfl⟩)

def AD6:Str:=[32,97,100,100,32,100,114,111,112,32,114,101,110,97,109,101,32,115,112,108,105,116,32,109,101,114,103,101,32,114,101,116,121,112,101]
theorem lv:J9 AD6 [32]=migWords:=by kernel_rfl
theorem c96 (k:Int) (Hp:List AObj):AFun Tryz.prog 96 [A2 k] Hp (A8 (B9 k)):=by
 refine ACall.body [.tmp 2] [0] Tryz.func96 Tryz.ntmps96 (fun d=>?_)
 refine Z46 ?_;refine Z34 ?_;refine Vn ?_;refine R.fin [0,8] ?_
 refine W.cond (fun ht8=>?_) (fun ht8=>?_)
 ·have hm:B9 k=[]:=if_pos ht8
  exact ul
 have hm:B9 k=migWords.getD k.toNat []:=if_neg (by rw [ht8];simp)
 refine Sx ?_;refine R.call Tryz.call44 (c44 AD6 [32] (by decide) (by decide) _) ?_
 rw [lv]
 refine R.go ?_
 have hk:1≤k∧k≤6:=by simp at ht8;omega
 have hget:(migWords.map A8)[k.toNat]? = some (A8 (migWords.getD k.toNat [])):=by
  have hlt:k.toNat<migWords.length:=by show k.toNat<7;omega
  rw [List.getElem?_map,List.getElem?_eq_getElem hlt,List.getD_eq_getElem?_getD,List.getElem?_eq_getElem hlt]
  rfl
 refine R.go (h:=Q.indexAddr (k.toNat) (A8 (migWords.getD k.toNat [])) (fun _=>hget)) (hr:=?_)
 refine Z0 ?_;exact Z90

theorem lw {s:Str} {x:Nat} (h:∀j:Nat,j<x→(B9 ((j:Int)+1)==s)=false) (hx:x<6) (he:(B9 ((x:Int)+1)==s)=true):D7 s=(x:Int)+1:=by
 have a:∀j:Nat,j<x→∀k:Int,k=(j:Int)+1→(B9 k==s)=false:=fun j hj k e=>by rw [e];exact h j hj
 have b:∀k:Int,k=(x:Int)+1→(B9 k==s)=true:=fun k e=>by rw [e];exact he
 have h6:x=0∨x=1∨x=2∨x=3∨x=4∨x=5:=by omega
 unfold D7
 rcases h6 with rfl|rfl|rfl|rfl|rfl|rfl
 ·rw [if_pos (b 1 rfl)];rfl
 ·rw [if_neg (by rw [a 0 (by omega) 1 rfl];simp),if_pos (b 2 rfl)];rfl
 ·rw [if_neg (by rw [a 0 (by omega) 1 rfl];simp),if_neg (by rw [a 1 (by omega) 2 rfl];simp),if_pos (b 3 rfl)];rfl
 ·rw [if_neg (by rw [a 0 (by omega) 1 rfl];simp),if_neg (by rw [a 1 (by omega) 2 rfl];simp),if_neg (by rw [a 2 (by omega) 3 rfl];simp),if_pos (b 4 rfl)];rfl
 ·rw [if_neg (by rw [a 0 (by omega) 1 rfl];simp),if_neg (by rw [a 1 (by omega) 2 rfl];simp),if_neg (by rw [a 2 (by omega) 3 rfl];simp),if_neg (by rw [a 3 (by omega) 4 rfl];simp),if_pos (b 5 rfl)];rfl
 rw [if_neg (by rw [a 0 (by omega) 1 rfl];simp),if_neg (by rw [a 1 (by omega) 2 rfl];simp),if_neg (by rw [a 2 (by omega) 3 rfl];simp),if_neg (by rw [a 3 (by omega) 4 rfl];simp),if_neg (by rw [a 4 (by omega) 5 rfl];simp),if_pos (b 6 rfl)];rfl
theorem Ze {s:Str} {x:Nat} (h:∀j:Nat,j<x→(B9 ((j:Int)+1)==s)=false) (he:(B9 ((x:Int)+1)==s)=false):∀j:Nat,j<x+1→(B9 ((j:Int)+1)==s)=false:=fun j hj=>by
 rcases Nat.lt_or_ge j x with h1|h1
 ·exact h j h1
 rw [show j=x by omega];exact he
theorem lx {s:Str} {x:Nat} (h:∀j:Nat,j<x→(B9 ((j:Int)+1)==s)=false) (hx:6≤x):D7 s=0:=by
 have a:∀j:Nat,j<6→∀k:Int,k=(j:Int)+1→(B9 k==s)=false:=fun j hj k e=>by rw [e];exact h j (by omega)
 unfold D7
 rw [if_neg (by rw [a 0 (by omega) 1 rfl];simp),if_neg (by rw [a 1 (by omega) 2 rfl];simp),if_neg (by rw [a 2 (by omega) 3 rfl];simp),if_neg (by rw [a 3 (by omega) 4 rfl];simp),if_neg (by rw [a 4 (by omega) 5 rfl];simp),if_neg (by rw [a 5 (by omega) 6 rfl];simp)]
theorem AFc (s:Str) (Hp:List AObj):AFun Tryz.prog 101 [A8 s] Hp (A2 (D7 s)):=by
 refine ACall.body [.tmp 2] [0] Tryz.func101 Tryz.ntmps101 (fun d=>?_)
 refine Z46 ?_;refine Z52 ?_;refine L9 ?_
 refine AW.loopC (α:=Nat) (fun x=>⟨13,A6 0 (A8 s) (A6 3 (A2 ((x:Nat)+1)) (fun _=>.any)),Hp,[],[],none⟩) (fun x=>∀j:Nat,j<x→(B9 ((j:Int)+1)==s)=false) (fun x=>6-x) (0) (fun j h=>by omega) (StLe.refl _) rfl (fun x hx=>?_)
 refine Z11 ?_;refine R.fin [0,3,5] ?_
 refine W.cond (fun ht5=>?_) (fun ht5=>?_)
 ·have hx6:x<6:=by simp at ht5;omega
  refine Z9 ?_;refine Mb ?_;refine R.call Tryz.call96 (c96 _ _) ?_;refine Z0 ?_;refine R.fin [0,3,11] ?_
  refine W.cond (fun ht11=>?_) (fun ht11=>?_)
  ·refine Z1 ?_;refine ag ?_;exact K.fin (V.one V.tmp) ⟨by rw [lw hx hx6 ht11],rfl⟩
  refine Z21 ?_;refine Z60 ?_;refine L9 ?_
  refine K.lpN (x+1) (Ze hx ht11) (by omega) (StCut.of_eq rfl)
 have hx6:6≤x:=by simp at ht5;omega
 refine Z81 ?_;refine Z66 ?_;refine Z4 ?_;exact K.fin (V.one V.tmp) ⟨by rw [lx hx hx6],rfl⟩

theorem sd {L:List Tok} {Hp own:List AObj} {o i n:Nat} {x:AObj} (h1:o<Hp.length):U2 L (Hp++own) o (oid Hp.length n) i x=Hp.set o (pmO L i)++own.set n x:=by
 unfold U2 oid
 rw [List.set_append_left _ _ h1,List.set_append,if_neg (by simp),List.length_set,Nat.add_sub_cancel_left]
theorem Zf {L:List Tok} {Hp:List AObj} {o i j n:Nat} (h:∀z∈Hp.set o (pmO L i),ObjLow n z):∀z∈Hp.set o (pmO L j),ObjLow n z:=by
 intro z hz
 rw [show Hp.set o (pmO L j)=(Hp.set o (pmO L i)).set o (pmO L j) by rw [List.set_set]] at hz
 rcases List.mem_or_eq_of_mem_set hz with hz|rfl
 ·exact h z hz
 exact Aw
theorem c75 (L:List Tok) (i o:Nat) (Hp:List AObj) (ho:Hp[o]? = some (pmO L i)) (hi:i<L.length) (hl:TokEnd L) (hll:L.length≤500000):CP 75 [.ptr o 0] Hp (Fv L i) (fun m j r H'=>r=Gu m∧H'=Hp.set o (pmO L j)) (W1 L o Hp):=by
 have hol:=(List.getElem?_eq_some_iff.1 ho).1
 have hne:oid Hp.length 2≠o:=by unfold oid;omega
 refine ACallP.body [.cell 2 77] [0] Tryz.func75 Tryz.ntmps75 (fun d=>?_)
 refine Z43 ?_;refine z7 ?_;refine Xc ?_;refine Z1 ?_;refine R.call Tryz.call101 (AFc (A5 L i).text _) ?_;refine R.build (places:=#[(0,1),(1,1),(2,1),(3,1),(4,1)]) jU (fun w=>by simp) jZ ?_;refine Z16 ?_;refine R.fin [0,2,3,4] ?_;refine Z57 ?_;refine R.nilCell 2 1 1 ?_;refine R.nilCell 2 2 2 ?_;refine R.nilCell 2 3 6 ?_;refine R.nilCell 2 4 6 ?_;refine Z0 ?_;refine Z75 ?_;refine R.go ?_;refine R.fin [0,2,4,18] ?_
 refine W.cond (fun ht18=>?_) (fun ht18=>?_)
 ·have e:Fv L i=.bad 8 (A5 L i).at_:=if_pos ht18
  refine AW.regionK ?_
  refine ARunK.one (R.go (ARun.nil ?_))
  refine zi ?_
  rintro x U O hU hl' ⟨rfl,hH⟩
  obtain ⟨rfl,rfl⟩:=Hh hU hH
  refine ⟨fun h=>h,fun o h=>(by cases h),?_⟩
  exact ud
 have e0:Fv L i=(Ev L (⟨D7 (A5 L i).text,[],[],[],[]⟩:Mov) (i+1)).bind fun m j=>(Be L [59] j).bind fun _ j=>.ok m j:=if_neg (by rw [ht18];simp)
 have hi1:i+1<L.length:=hl.step hi (by simp only [Bool.or_eq_false_iff,bne_eq_false_iff_eq] at ht18;rw [ht18.1];decide)
 refine Qh ?_
 refine R.go (h:=Q.loadUp ho) (hr:=?_)
 refine Z23 ?_
 refine R.storeUp jS ho ?_ ?_
 ·simp
 refine R.fin [0,2,4] ?_
 rcases hR:Ev L (⟨D7 (A5 L i).text,[],[],[],[]⟩:Mov) (i+1) with ⟨m1,k⟩|⟨e,a⟩
 rotate_left
 ·refine AW.seqRK ?_
  refine ARunK.one (R.go (ARun.nil ?_))
  refine RK.callBad Tryz.call102 ((AD5 L (⟨D7 (A5 L i).text,[],[],[],[]⟩:Mov) (i+1) o (oid Hp.length 2) (Hp.set o (pmO L (i+1))++[.cells 77 [A2 0,.nil,.nil,.nil,.nil],.cells 130 [.v (.int .i64 (A5 L i).kind),.v (sv (A5 L i).text),.v (.int .i64 ((A5 L i).at_:Int))],mvO (⟨D7 (A5 L i).text,[],[],[],[]⟩:Mov)]) hne (by rw [List.getElem?_append_left (by simpa using hol)];exact getset ho) (by unfold oid;rw [List.getElem?_append_right (by simp)];simp) hi1 hl hll ⟨Nat.zero_le _,Nat.zero_le _,Nat.zero_le _,Nat.zero_le _⟩ (by omega)).bad hR) ?_
  rintro x U O hU hl' ⟨rfl,j',m',hH⟩
  rw [show oid Hp.length 2=oid (Hp.set o (pmO L (i+1))).length 2 by simp,sd (by simpa using hol),List.set_set] at hH
  obtain ⟨rfl,rfl⟩:=Hh (by rw [hU];simp) hH
  refine ⟨fun h=>Zf h,fun o h=>(by cases h),?_⟩
  refine K.thP ?_;exact K.finPP ⟨_,_,by rw [e0];rw [hR];rfl,rfl,j',rfl⟩
 have hk:=Wc hl hll (⟨D7 (A5 L i).text,[],[],[],[]⟩:Mov) (i+1) ⟨Nat.zero_le _,Nat.zero_le _,Nat.zero_le _,Nat.zero_le _⟩ (by omega) hi1 _ _ hR
 refine Z2 ?_
 refine R.callX (up':=Hp.set o (pmO L k)) (own':=[.cells 77 [A2 0,.nil,.nil,.nil,.nil],.cells 130 [.v (.int .i64 (A5 L i).kind),.v (sv (A5 L i).text),.v (.int .i64 ((A5 L i).at_:Int))],mvO m1]) Tryz.call102 (((AD5 L (⟨D7 (A5 L i).text,[],[],[],[]⟩:Mov) (i+1) o (oid Hp.length 2) (Hp.set o (pmO L (i+1))++[.cells 77 [A2 0,.nil,.nil,.nil,.nil],.cells 130 [.v (.int .i64 (A5 L i).kind),.v (sv (A5 L i).text),.v (.int .i64 ((A5 L i).at_:Int))],mvO (⟨D7 (A5 L i).text,[],[],[],[]⟩:Mov)]) hne (by rw [List.getElem?_append_left (by simpa using hol)];exact getset ho) (by unfold oid;rw [List.getElem?_append_right (by simp)];simp) hi1 hl hll ⟨Nat.zero_le _,Nat.zero_le _,Nat.zero_le _,Nat.zero_le _⟩ (by omega)).ok hR).mono (fun r H' e=>⟨e.1,e.2.trans (by rw [show oid Hp.length 2=oid (Hp.set o (pmO L (i+1))).length 2 by simp];rw [sd (by simpa using hol),List.set_set];rfl)⟩)) (by simp) (fun h=>by simpa using Zf h) ?_
 refine R.fin [0,2,4] ?_
 rcases hW:Be L [59] k with ⟨u,j2⟩|⟨e,a⟩
 rotate_left
 ·refine AW.seqRK ?_
  refine ARunK.one (R.go (ARun.nil ?_))
  refine RK.callBad Tryz.call103 ((Nf L [59] k o _ (A4 (getset ho)) hk.2.1 hll).bad hW) ?_
  rintro x U O hU hl' ⟨rfl,j',hH⟩
  obtain ⟨rfl,rfl⟩:=B4 hU (List.getElem?_eq_some_iff.1 (getset (B:=pmO L k) ho)).1 hH
  refine ⟨fun h=>B5 h (fun n=>Aw),fun o h=>(by cases h),?_⟩
  refine K.thP ?_;exact K.finPP ⟨_,_,by rw [e0];rw [hR];show (Be L [59] k).bind _=_;rw [hW];rfl,rfl,j',by rw [List.set_set]⟩
 refine Z2 ?_;refine R.callUp (x:=pmO L j2) Tryz.call103 (getset ho) (by simp) Aw ((Nf L [59] k o _ (A4 (getset ho)) hk.2.1 hll).ok hW) ?_
 rw [List.set_set]
 refine nq ?_;refine Z10 ?_;exact K.finP (V.one (V.cellN jA jS)) (hp:=⟨m1,j2,by rw [e0];rw [hR];show (Be L [59] k).bind _=_;rw [hW];rfl,rfl,rfl⟩) (hlow:=Ys)

/-- What mig.parser.moves comes to: the moves, or none and the fault. -/
def Kn (L:List Tok):List Mov×Int×Int:=match Ga L with
 | .ok l _=>(l,0,0)
 | .bad e a=>([],e,a)
abbrev Ok (L:List Tok):AV:=.tup [Fs (Kn L).1,.agg [A2 (Kn L).2.1,A2 (Kn L).2.2]]
theorem Zg {up:List AObj} {n:Nat} {x y z:AObj} (hn:up.length=n):(up++[x,y]).set (oid n 0) z=up++[z,y]:=by
 subst hn
 rw [show oid up.length 0=up.length+0 from rfl,Am];rfl
theorem se {up:List AObj} {n:Nat} {x y z:AObj} (hn:up.length=n):(up++[x,y]).set (oid n 1) z=up++[x,z]:=by
 subst hn
 rw [show oid up.length 1=up.length+1 from rfl,Am];rfl
theorem Zh {up:List AObj} {n:Nat} {x y:AObj} (hn:up.length=n):(up++[x,y])[oid n 0]? = some x:=by
 subst hn
 rw [show oid up.length 0=up.length+0 from rfl,C8];rfl
theorem sg {up:List AObj} {n:Nat} {x y:AObj} (hn:up.length=n):(up++[x,y])[oid n 1]? = some y:=by
 subst hn
 rw [show oid up.length 1=up.length+1 from rfl,C8];rfl
theorem xp {fc:Func} {r0 crest:Code} (hf:Tryz.prog.funcs[72]? = some fc) (hb:fc.body=some (.seq r0 crest)) (d a b:Nat) (H:List AObj):AW Tryz.prog (d+1) crest ⟨8,A6 2 (.v .nilIface) (A6 3 (.v .nilIface) (Go.SX.argsF [.ptr a 0,.ptr b 0])),H,[],[],none⟩ (fun e s2=>(e=.normal∨e=.ret)∧s2.defs=[]∧s2.up=H):=by
 have e:=Tryz.func72.symm.trans hf
 injection e with e
 subst e
 injection hb with hb
 injection hb with h1 h2
 subst h2
 refine AW.keep [0,1,2] (by simp only [go_sem,↓reduceIte,Nat.reduceEqDiff,Nat.reduceAdd]<;>rfl) ?_
 refine Z2 ?_;refine R.neqNil0 jU ?_;refine R.fin [0,1,2,5] ?_
 refine W.cond (fun ht5=>?_) (fun ht5=>?_)
 ·cases ht5
 refine AW.skip ?_;exact ⟨.inl rfl,rfl,rfl⟩

theorem gq {fc:Func} {r0 crest:Code} (hf:Tryz.prog.funcs[72]? = some fc) (hb:fc.body=some (.seq r0 crest)) {n:Nat} {up:List AObj} {x0 y1 y2:AV} (e a:Int) (hn:up.length=n) (d:Nat):AW Tryz.prog (d+1) crest ⟨8,A6 2 (.iface 59 (.agg ([Value.int .i64 e,Value.int .i64 a].map .v))) (A6 3 (.iface 59 (.agg ([Value.int .i64 e,Value.int .i64 a].map .v))) (Go.SX.argsF [.ptr (oid n 0) 0,.ptr (oid n 1) 0])),(up++[.cells 35 [x0],.cells 59 [y1,y2]]),[],[],none⟩ (fun e' s2=>(e'=.normal∨e'=.ret)∧s2.defs=[]∧s2.up=up++[.cells 35 [.slice true 5 []],.cells 59 [A2 e,A2 a]]):=by
 have e':=Tryz.func72.symm.trans hf
 injection e' with e'
 subst e'
 injection hb with hb
 injection hb with h1 h2
 subst h2
 refine AW.keep [0,1,2] (by simp only [go_sem,↓reduceIte,Nat.reduceEqDiff,Nat.reduceAdd]<;>rfl) ?_
 refine Z2 ?_;refine R.neqNil jU ?_;refine R.fin [0,1,2,5] ?_
 refine W.cond (fun ht5=>?_) (fun ht5=>?_)
 ·refine W.drawY0 [0,1,0,7] [2] [.q 2 [] [],.s [] (some 0) [] []] (fun B=>if B 0=true then (up++[.cells 35 [.nil],.cells 59 [y1,y2]]) else (up++[.cells 35 [x0],.cells 59 [y1,y2]])) (fun _=>[]) Ac (by kernel_rfl) rfl rfl (fun B=>by split<;>simp) ?_
  apply Y.q
  case h1 =>
   intro B hT hF
   refine D.go ?_;refine D.typeAssert (.of jU) ?_;exact Np
  case hTF=>decide
  refine Y.storeUp (o:=oid n 0) (t':=35) (ys:=[.nil]) (cs:=[x0]) (cs':=[.nil]) Tryz.sizeOf35 (fun B hB=>⟨by simp only [hB];exact Zh hn,by simp [upd,hB];exact (Zg hn).symm,rfl,by simp⟩) ?_
  refine Y.tail (tn:=[2]) (U:=(up++[.cells 35 [.nil],.cells 59 [y1,y2]])) ?_
  refine R.storeUp jS (sg hn) ?_ ?_
  ·simp
  rw [se hn]
  refine R.nilUp (oid n 0) 0 5 (Zh hn) (Zg hn) ?_;refine R.fin [] ?_;exact ⟨.inl rfl,rfl,rfl⟩
 cases ht5

/-- Where the loop of moves stands. -/
structure MovAt (L:List Tok) (x:List Mov×Nat):Prop where
 lt:x.2<L.length
 le:x.1.length≤8
 at_:Ga L=Dh L (9-x.1.length) x.1 x.2
theorem gr {L:List Tok} (hl:TokEnd L) (hll:L.length≤500000) {i:Nat} (hi:i<L.length) {m:Mov} {j:Nat} (h:Fv L i=.ok m j):i<j∧j<L.length:=by
 unfold Fv at h
 split at h
 ·cases h
 rename_i h0
 have hi1:i+1<L.length:=hl.step hi (by
  simp only [Bool.or_eq_true,not_or,Bool.not_eq_true,bne_eq_false_iff_eq] at h0
  rw [h0.1];decide)
 obtain ⟨m1,k,h1,h2⟩:=PR.bind_ok h
 obtain ⟨u,j2,h3,h4⟩:=PR.bind_ok h2
 injection h4 with h5 h6
 subst h6
 obtain ⟨a1,a2,_⟩:=Wc hl hll _ (i+1) ⟨Nat.zero_le _,Nat.zero_le _,Nat.zero_le _,Nat.zero_le _⟩ (by omega) hi1 _ _ h1
 obtain ⟨b1,b2⟩:=D8 hl a2 _ _ h3
 exact ⟨by omega,b2⟩
theorem Ko {L:List Tok} {l:List Mov} {i:Nat} (hl:l.length≤8):Dh L (9-l.length) l i=if (A5 L i).kind != 0 then (if (l.length:Int)==8 then Uc L i 3 else (Fv L i).bind fun m j=>Dh L (8-l.length) (l++[m]) j) else .ok l i:=by
 rw [show 9-l.length=(8-l.length)+1 by omega,Dh]
theorem MovAt.out {L:List Tok} {x:List Mov×Nat} (h:MovAt L x) (hk:((A5 L x.2).kind != 0)=false):Ga L=.ok x.1 x.2:=by
 rw [h.at_,Ko h.le,if_neg (by rw [hk];simp)]
theorem MovAt.long {L:List Tok} {x:List Mov×Nat} (h:MovAt L x) (hk:((A5 L x.2).kind != 0)=true) (h8:((x.1.length:Int)==8)=true):Ga L=.bad 3 (A5 L x.2).at_:=by
 rw [h.at_,Ko h.le,if_pos hk,if_pos h8];rfl
theorem MovAt.step {L:List Tok} {x:List Mov×Nat} (h:MovAt L x) (hk:((A5 L x.2).kind != 0)=true) (h8:((x.1.length:Int)==8)=false):Ga L=(Fv L x.2).bind fun m j=>Dh L (8-x.1.length) (x.1++[m]) j:=by
 rw [h.at_,Ko h.le,if_pos hk,if_neg (by rw [h8];simp)]
theorem MovAt.bad {L:List Tok} {x:List Mov×Nat} (h:MovAt L x) (hk:((A5 L x.2).kind != 0)=true) (h8:((x.1.length:Int)==8)=false) {e a:Int} (hM:Fv L x.2=.bad e a):Ga L=.bad e a:=by
 rw [h.step hk h8,hM];rfl
theorem MovAt.on {L:List Tok} (hl:TokEnd L) (hll:L.length≤500000) {x:List Mov×Nat} (h:MovAt L x) (hk:((A5 L x.2).kind != 0)=true) (h8:((x.1.length:Int)==8)=false) {m:Mov} {j:Nat} (hM:Fv L x.2=.ok m j):MovAt L (x.1++[m],j)∧x.2<j:=by
 obtain ⟨a1,a2⟩:=gr hl hll h.lt hM
 have h1:x.1.length≤7:=by
  have:=h.le
  simp only [beq_eq_false_iff_ne,ne_eq] at h8
  omega
 refine ⟨⟨a2,by show (x.1++[m]).length≤8;simp;omega,?_⟩,a1⟩
 rw [h.step hk h8,hM]
 show Dh L (8-x.1.length) (x.1++[m]) j=Dh L (9-(x.1++[m]).length) (x.1++[m]) j
 rw [show 9-(x.1++[m]).length=8-x.1.length by rw [List.length_append,List.length_singleton];omega]
theorem gt (e a:Int):∀v∈[Value.int .i64 e,Value.int .i64 a],(AV.v v).one=true:=by
 intro v hv
 simp only [List.mem_cons,List.not_mem_nil,or_false] at hv
 rcases hv with rfl|rfl<;>rfl
theorem ly {L:List Tok} {l:List Mov} {i:Nat} (h:Ga L=.ok l i):Ok L=.tup [Fs l,.agg [A2 0,A2 0]]:=by unfold Ok Kn;rw [h]
theorem Sg {L:List Tok} {e a:Int} (h:Ga L=.bad e a):Ok L=.tup [.slice false 5 [],.agg [A2 e,A2 a]]:=by unfold Ok Kn;rw [h];rfl
theorem xq {fn fc:Func} {x0 r1 y r0 crest:Code} (hf:Tryz.prog.funcs[51]? = some fn) (hb:fn.body=some (.seq x0 (.seq r1 y))) (hf2:Tryz.prog.funcs[72]? = some fc) (hb2:fc.body=some (.seq r0 crest)) (L:List Tok) (o:Nat) (Hp:List AObj) (ho:Hp[o]? = some (pmO L 0)) (hl:TokEnd L) (hll:L.length≤500000) (d:Nat):
  AW Tryz.prog (d+1) y ⟨21,A6 0 (.ptr o 0) (A6 2 (.ptr (oid Hp.length 0) 0) (A6 3 (.ptr (oid Hp.length 1) 0) (A6 4 (.fn (.func 72) [] [.ptr (oid Hp.length 0) 0,.ptr (oid Hp.length 1) 0]) fun _=>.any))),Hp,[.cells 35 [.nil],.cells 59 [A2 0,A2 0]],[],none⟩ (KG Tryz.prog crest 8 3 2 [.ptr (oid Hp.length 0) 0,.ptr (oid Hp.length 1) 0] [.cell 2 35,.cell 3 59] Hp.length (fun r H'=>r=Ok L∧∃i,H'=Hp.set o (pmO L i))):=by
 have e:=Tryz.func51.symm.trans hf
 injection e with e
 subst e
 injection hb with hb
 injection hb with h1 h2
 injection h2 with h2 h3
 subst h3
 refine AW.keep [0,2,3] (by simp only [go_sem,↓reduceIte,Nat.reduceEqDiff,Nat.reduceAdd]<;>rfl) ?_
 refine AW.upEq (Ek ho).symm ?_;refine W.seq ?_
 refine AW.loopC (α:=List Mov×Nat) (fun x=>⟨21,A6 0 (.ptr o 0) (A6 2 (.ptr (oid Hp.length 0) 0) (A6 3 (.ptr (oid Hp.length 1) 0) (fun _=>.any))),Hp.set o (pmO L x.2),[.cells 35 [.slice true 5 (x.1.map Gu)],.cells 59 [A2 0,A2 0]],[],none⟩) (fun x=>MovAt L x) (fun x=>L.length-x.2) (([],0)) ⟨hl.pos,by decide,rfl⟩ (StLe.nilCell (own:=[.cells 35 [.nil],.cells 59 [A2 0,A2 0]]) (n:=0) (j0:=0) (k:=5) (t:=35) (cs:=[.nil]) rfl rfl) rfl (fun x hx=>?_)
 refine Z52 ?_;refine R.call Tryz.call73 (c73 L x.2 o _ (A4 (getset ho)) hx.lt) ?_;refine Z0 ?_;refine R.fin [0,2,3,8] ?_
 refine W.cond (fun ht8=>?_) (fun ht8=>?_)
 ·have hk:((A5 L x.2).kind != 0)=true:=ht8
  refine Z9 ?_;refine AW.block ?_;refine Z34 ?_;refine R.fin [0,2,3,11] ?_
  refine W.cond (fun ht11=>?_) (fun ht11=>?_)
  ·have h8:((x.1.length:Int)==8)=true:=by rw [List.length_map] at ht11;exact ht11
   refine AW.regionK ?_
   refine ARunK.one (R.go (ARun.nil ?_))
   refine RK.callBad Tryz.call74 (c74 L x.2 o 3 _ (A4 (getset ho)) hx.lt) ?_
   rintro z U O hU hl' ⟨rfl,hH⟩
   obtain ⟨rfl,rfl⟩:=Hh hU hH
   refine ⟨fun h=>h,fun o h=>(by cases h),?_⟩
   refine Xd ?_;refine K.lpP ?_;refine K.thP ?_;exact KG.finP (vs:=[.int .i64 3,.int .i64 ((A5 L x.2).at_:Int)]) (gt _ _) (V.two (V.cell Tryz.isAgg35) (V.cellN Tryz.isAgg59 Tryz.sizeOf59)) (fun d=>gq hf2 hb2 3 ((A5 L x.2).at_:Int) (by simp) d) ⟨(Sg (hx.long hk h8)).symm,x.2,rfl⟩
  have h8:((x.1.length:Int)==8)=false:=by rw [List.length_map] at ht11;exact ht11
  refine Z9 ?_
  rcases hM:Fv L x.2 with ⟨m,j⟩|⟨e,a⟩
  rotate_left
  ·refine W.drawYP0 [2,3] [0,0,2,6,15,31] [2] [.q 2 [] [],.s [16] (some 0) [] [],.s [] none [0] [],.s [] none [0] [],.s [] none [0] []] (fun _=>Hp.set o (pmO L x.2)) (fun B=>[.cells 35 [.slice true 5 (x.1.map Gu)],.cells 59 [A2 0,A2 0]]++bot (B 0)) Ac (by kernel_rfl) (by kernel_rfl) rfl rfl (fun _=>rfl) ?_
   apply Y.q
   case h1 =>
    intro B hT hF
    exact Z53
   case hTF=>decide
   refine Y.callBad (own0:=[.cells 35 [.slice true 5 (x.1.map Gu)],.cells 59 [A2 0,A2 0]]) Tryz.call75 (fun B hB=>⟨rfl,by simp [bot,hB]⟩) ((c75 L x.2 o _ (A4 (getset ho)) hx.lt hl hll).bad hM) ?_ ?_
   ·rintro z U O f hU hl' ⟨rfl,j',hH⟩
    obtain ⟨rfl,rfl⟩:=B4 hU (List.getElem?_eq_some_iff.1 (getset (B:=pmO L x.2) ho)).1 hH
    refine ⟨fun h=>B5 h (fun n=>Aw),fun o h=>(by cases h),?_⟩
    intro hts
    have h2:=hts 2 (by simp)
    have h3:=hts 3 (by simp)
    simp only [go_sem,↓reduceIte,Nat.reduceEqDiff,Nat.reduceAdd] at h2 h3
    refine K.blP ?_;refine K.lpP ?_;refine K.thP ?_;exact KG.finP (vs:=[.int .i64 e,.int .i64 a]) (gt _ _) (V.two (V.cell (n:=0) (off:=0) Tryz.isAgg35 (hp:=by rw [h2];simp only [List.length_set];rfl)) (V.cellN (n:=1) (off:=0) Tryz.isAgg59 Tryz.sizeOf59 (hp:=by rw [h3];simp only [List.length_set];rfl))) (fun d=>gq hf2 hb2 e a (by simp) d) ⟨(Sg (hx.bad hk h8 hM)).symm,j',List.set_set ..⟩
   exact uo
  have hon:=hx.on hl hll hk h8 hM
  refine W.drawY0 [0,0,2,6,15,31] [0,2] [.s [14] (some 0) [] [],.q 1 [] [1],.s [16] (some 1) [] [],.q 1 [1] []] (fun B=>Hp.set o (pmO L (if B 1=true then j else x.2))) (fun B=>if B 0=true then [.cells 35 [.slice false 5 (x.1.map Gu)],.cells 59 [A2 0,A2 0]] else [.cells 35 [.slice true 5 (x.1.map Gu)],.cells 59 [A2 0,A2 0]]) Ac (by kernel_rfl) rfl rfl (fun B=>by simp) ?_
  refine Y.loadOwnT (u:=Hp.length) (n:=0) (t':=35) (cs:=[.slice true 5 (x.1.map Gu)]) (cs':=[.slice false 5 (x.1.map Gu)]) Tryz.isAgg35 (fun B hB=>⟨by simp,by simp only [hB];rfl,by simp only [hB];rfl,rfl⟩) ?_
  apply Y.q
  case h1 =>
   intro B hT hF
   exact Z44
  case hTF=>decide
  refine Y.callUp (r:=Gu m) (o:=o) (x0:=pmO L x.2) (x:=pmO L j) Tryz.call75 (fun B hB1 hB2 hB=>⟨by simp only [hB];exact getset ho,by simp only [hB];exact (List.set_set ..).symm,rfl,Aw,?_⟩) ?_
  ·simp only [hB]
   exact ((c75 L x.2 o _ (A4 (getset ho)) hx.lt hl hll).ok hM)
  apply Y.q
  case h1 =>
   intro B hT hF
   exact Z33
  case hTF=>decide
  refine Y.tail (tn:=[0,2]) (U:=Hp.set o (pmO L j)) (O:=[.cells 35 [.slice false 5 (x.1.map Gu)],.cells 59 [A2 0,A2 0]]) ?_
  refine R.append jU Tryz.type77 ?_ ?_ ?_
  ·simp [Tryz.t77];have:=hx.le;omega
  ·simp [Tryz.t77];have:=hx.le;omega
  refine R.storeOwnT jS ?_;refine R.fin [0,2,3] ?_;refine K.blN ?_
  refine K.lpN (x.1++[m],j) hon.1 (by have:=hx.lt;have:=hon.2;show L.length-j<L.length-x.2;omega) (StCut.of_eq (by simp [List.map_append,show Tryz.t77.size=5 from rfl]))
 have hk:((A5 L x.2).kind != 0)=false:=ht8
 have e:=hx.out hk
 refine Z81 ?_;refine Z66 ?_;refine Xh ?_;refine ui ?_;refine Z25 ?_;exact KG.fin .ret (V.two (V.cell Tryz.isAgg35) (V.cellN Tryz.isAgg59 Tryz.sizeOf59)) (fun d=>xp hf2 hb2 d _ _ _) ⟨(ly e).symm,x.2,rfl⟩ (hlow:=by simpa using (Kl (n:=Hp.length) (k:=5) (o:=false) (l:=x.1)))

theorem c51 (L:List Tok) (o:Nat) (Hp:List AObj) (ho:Hp[o]? = some (pmO L 0)) (hl:TokEnd L) (hll:L.length≤500000):ACall Tryz.prog 51 [.ptr o 0] Hp (fun r H'=>r=Ok L∧∃i,H'=Hp.set o (pmO L i)):=by
 refine ACall.guarded (n:=21) (nc:=8) (a:=3) (b:=2) (os:=[oid Hp.length 0,oid Hp.length 1]) (own0:=[.cells 35 [.nil],.cells 59 [A2 0,A2 0]]) (rs:=[.cell 2 35,.cell 3 59])
  (fr0:=A6 0 (.ptr o 0) (A6 2 (.ptr (oid Hp.length 0) 0) (A6 3 (.ptr (oid Hp.length 1) 0) fun _=>.any))) (fr1:=A6 0 (.ptr o 0) (A6 2 (.ptr (oid Hp.length 0) 0) (A6 3 (.ptr (oid Hp.length 1) 0) (A6 4 (.fn (.func 72) [] [.ptr (oid Hp.length 0) 0,.ptr (oid Hp.length 1) 0]) fun _=>.any))))
  Tryz.func51 rfl rfl Tryz.ntmps51 (by simp) Tryz.func72 rfl Tryz.ntmps72 rfl (by simp) (by decide) (by decide) Tryz.call72 (fun d=>?_) (fun d=>?_) rfl (fun d l=>?_)
 ·refine AW.keep [0] (by simp only [go_sem,↓reduceIte,Nat.reduceEqDiff,Nat.reduceAdd]<;>rfl) ?_
  refine AW.region ?_;refine J8 ?_;refine J8 ?_;refine R.fin [0,2,3] ?_;exact ⟨rfl,rfl⟩
 ·refine L8 ?_;refine R.fin [0,2,3,4] ?_
  rfl
 exact @xq { b:=ErrAt.b,bd:=d+1,bl:=l } _ _ _ _ _ _ _ Tryz.func51 rfl Tryz.func72 rfl L o Hp ho hl hll d
theorem gu {s:Str} (h:((D5 s).2.1 != 0)=true):F0 s=([],(D5 s).2.1,((D5 s).2.2:Int)):=if_pos h
theorem AAr {s:Str} (h:((D5 s).2.1 != 0)=false):F0 s=Kn (D5 s).1:=by
 unfold F0 Kn
 rw [if_neg (by rw [h];simp)]
 cases Ga (D5 s).1<;>rfl
theorem c30 (s:Str) (hs:s.length≤1048576) (Hp:List AObj):AFun Tryz.prog 30 [A8 s] Hp (.tup [Fs (F0 s).1,.agg [A2 (F0 s).2.1,A2 (F0 s).2.2]]):=by
 refine ACall.body [.tmp 2,.cell 3 59] [0] Tryz.func30 Tryz.ntmps30 (fun d=>?_)
 refine Z2 ?_;refine J8 ?_;refine L9 ?_;refine Z2 ?_;refine R.call Tryz.call50 (c50 s hs _) ?_;refine Z23 ?_;refine J8 ?_;refine Z36 ?_;refine R.fin [3,4,5] ?_;refine Z34 ?_;refine R.fin [3,4,5,13] ?_
 refine W.cond (fun ht13=>?_) (fun ht13=>?_)
 ·have e:=gu ht13
  refine W.drawQ [0,0,3] 2 Ac (by kernel_rfl) ?_;refine Z14 ?_;refine D.tail ?_;refine R.wk 2 (Fs []) (.nil false 5) ?_;refine Fi ?_;refine Vj ?_;exact K.fin (V.two V.tmp (V.cellN jA jS)) ⟨by rw [e]<;>rfl,rfl⟩
 have hz:(D5 s).2.1=0:=by simpa using ht13
 have hle:=ew hz
 have hlen:=fl hz
 have e:=AAr ht13
 refine Mc ?_;refine Xh ?_;refine R.box ?_
 refine R.callEx (fun _=>Hp) (fun i=>[.cells 59 [A2 0,A2 0],.cells 59 [A2 (D5 s).2.1,A2 ((D5 s).2.2:Nat)],pmO (D5 s).1 i]) Tryz.call51 ((c51 (D5 s).1 (oid Hp.length 2) _ (by rw [Al];rfl) hle (by omega)).mono (fun r H' ⟨e,i,h⟩=>⟨e,i,h.trans (by rw [E5];rfl)⟩)) (fun _=>rfl) (fun _ h=>h) (fun i=>?_)
 refine Z23 ?_;refine Fi ?_;refine Z25 ?_;exact K.fin (V.two V.tmp (V.cellN jA jS)) ⟨by rw [e],rfl⟩ (hlow:=by simpa using (Kl (n:=Hp.length) (k:=5) (o:=false) (l:=(Kn (D5 s).1).1)))

/-! Words that stand among others are parsed as they are alone. -/
/-! Moves that stand among others are parsed as they are alone. -/
section
variable {l l':List Tok} {p m:Nat}
end
/-! Two sources, one behind the other, with a line's end between. -/
/-! MigJoins: the moves of two sources, one behind the other. -/
theorem sh {l:List Tok} {f:Nat} {ms:List Mov} {i:Nat} (h:(A5 l i).kind=0):Dh l (f+1) ms i=.ok ms i:=by rw [Dh,if_neg (by rw [h];decide)]
theorem si {l:List Tok} {f:Nat} {ms:List Mov} {i:Nat} (h:(A5 l i).kind≠0) (h8:ms.length=8):Dh l (f+1) ms i=.bad 3 (A5 l i).at_:=by
 rw [Dh,if_pos (by simpa using h),if_pos (by rw [h8];rfl)];rfl
theorem sj {l:List Tok} {f:Nat} {ms:List Mov} {i:Nat} (h:(A5 l i).kind≠0) (h8:ms.length≠8):Dh l (f+1) ms i=(Fv l i).bind fun m j=>Dh l f (ms++[m]) j:=by
 rw [Dh,if_pos (by simpa using h),if_neg (by simp only [beq_iff_eq];omega)]
theorem sk {l:List Tok} {f:Nat} {ms:List Mov} {i:Nat} {x:List Mov} {ia:Nat} (h:Dh l (f+1) ms i=.ok x ia):((A5 l i).kind=0∧x=ms∧ia=i)∨((A5 l i).kind≠0∧ms.length≠8∧∃v j,Fv l i=.ok v j∧Dh l f (ms++[v]) j=.ok x ia):=by
 by_cases hk:(A5 l i).kind=0
 ·rw [sh hk] at h
  injection h with h1 h2
  exact .inl ⟨hk,h1.symm,h2.symm⟩
 by_cases h8:ms.length=8
 ·rw [si hk h8] at h;cases h
 rw [sj hk h8] at h
 obtain ⟨v,j,e1,e2⟩:=PR.bind_ok h
 exact .inr ⟨hk,h8,v,j,e1,e2⟩
/-! What mig.Parse hands back may be walked. -/
theorem xt {L:List Tok} (hl:TokEnd L) (hll:L.length≤500000) {i:Nat} (hi:i<L.length) {m:Mov} {j:Nat} (h:Fv L i=.ok m j):MvLe m (2*L.length):=by
 unfold Fv at h
 split at h
 ·cases h
 rename_i h0
 have hi1:i+1<L.length:=hl.step hi (by
  simp only [Bool.or_eq_true,not_or,Bool.not_eq_true,bne_eq_false_iff_eq] at h0
  rw [h0.1];decide)
 obtain ⟨m1,k,h1,h2⟩:=PR.bind_ok h
 obtain ⟨u,j2,h3,h4⟩:=PR.bind_ok h2
 injection h4 with h5 h6
 subst h5
 obtain ⟨_,a2,a3⟩:=Wc hl hll _ (i+1) ⟨Nat.zero_le _,Nat.zero_le _,Nat.zero_le _,Nat.zero_le _⟩ (by omega) hi1 _ _ h1
 exact a3.mono (by omega)
theorem Pf {L:List Tok} (hl:TokEnd L) (hll:L.length≤500000) (hw:∀i,WordOk (A5 L i)):∀(f:Nat) (l:List Mov) (i:Nat) (x:List Mov) (j:Nat),i<L.length→l.length≤8→l.length+f=9→(∀m∈l,MvP m∧MvLe m (2*L.length))→Dh L f l i=.ok x j→(∀m∈x,MvP m∧MvLe m (2*L.length))∧x.length≤8
 | 0,l,i,x,j,_,h1,h2,_,_=>by omega
 | f+1,l,i,x,j,hi,h8,hf,hg,h=>by
  rcases sk h with ⟨_,rfl,_⟩|⟨_,hn,v,k,e1,e2⟩
  ·exact ⟨hg,h8⟩
  have a:=gr hl hll hi e1
  have b:=xn hl hll hw hi e1
  have c:=xt hl hll hi e1
  have hlen:(l++[v]).length=l.length+1:=by simp
  refine Pf hl hll hw f (l++[v]) k x j a.2 (by omega) (by omega) (fun m hm=>?_) e2
  rcases List.mem_append.1 hm with h|h
  ·exact hg m h
  rw [List.mem_singleton.1 h]
  exact ⟨b,c⟩
structure MigGood (l:List Mov):Prop where
 ok:OkMovs l
 each:∀m∈l,MvP m
 len:l.length≤8
theorem MigGood.nil:MigGood []:=⟨⟨Nat.zero_le _,fun m h=>(List.not_mem_nil h).elim⟩,fun m h=>(List.not_mem_nil h).elim,Nat.zero_le _⟩
theorem Sh (s:Str):MigGood (F0 s).1:=by
 by_cases h0:((D5 s).2.1 != 0)=true
 ·rw [gu h0]
  exact .nil
 have h0:(D5 s).2.1=0:=by simpa using h0
 unfold F0
 rw [if_neg (by rw [h0];simp)]
 cases hm:Ga (D5 s).1 with
 | bad e a=>exact .nil
 | ok l i =>
  have hl:=ew h0
  have hll:=fl h0
  obtain ⟨h1,h2⟩:=Pf hl (by omega) (di h0) 9 [] 0 l i (by have:=pg h0;omega) (by decide) rfl (fun m h=>by cases h) hm
  exact ⟨⟨by show l.length≤1048576;omega,fun m hm=>(h1 m hm).1.ok (h1 m hm).2 (by omega)⟩,fun m hm=>(h1 m hm).1,h2⟩
theorem MigGood.right {l:List Mov} (h:MigGood l):N2 l=true:=by
 unfold N2
 rw [Bool.and_eq_true,List.all_eq_true]
 exact ⟨decide_eq_true (by have:=h.len;omega),fun m hm=>(h.each m hm).one⟩
/-! The words of moves, and what is parsed from them. -/
/-- A tree that may be printed and read. -/
structure PrE (x:Expr):Prop where
 right:Ck x=true
 rng:Bx Ew x=true
 need:Av x≤30
theorem Zi {l:List Tok} {i:Nat} {x:Expr} {rest:List TK} (hx:PrE x) (hs:seg l i=Aa x++rest) (hst:stops 0 rest):Gw l i=.ok x (i+(Aa x).length):=by
 have hr:=hx.right
 unfold Ck at hr
 simp only [Bool.and_eq_true,decide_eq_true_eq] at hr
 obtain ⟨⟨hd,hz⟩,hn⟩:=hr
 have hneed:=hx.need
 have h1:atR l i=(x,adv ⟨i,0,0,0⟩ (Aa x).length):=
  (Rt l _ x (Nat.le_refl _) hn hx.rng).1 0 ⟨i,0,0,0⟩ rest (Nat.zero_le _) rfl (by show 0+Av x≤30;omega) hs hst
 have e:atS l i (x,adv ⟨i,0,0,0⟩ (Aa x).length)=adv ⟨i,0,0,0⟩ (Aa x).length:=by
  unfold atS
  rw [if_neg (by show ¬(((0:Int) != 0)=true);decide),if_neg (by simp;omega),if_neg (by simp;omega)]
 have e2:atM l i=(x,((i+(Aa x).length:Nat):Int),0,0):=by
  unfold atM
  rw [h1,e,if_neg (by show ¬(((0:Int) != 0)=true);decide)]
  rfl
 unfold Gw
 rw [e2,if_neg (show ¬(((0:Int) != 0)=true) by decide)]
 show PR.ok x (((i+(Aa x).length:Nat):Int)).toNat=_
 rw [Int.toNat_natCast]
theorem I3 {l:List Tok} {i:Nat} {k:Int} {s:Str} {rest:List TK} (hk:((k==5) || (k==2))=true) (hs:seg l i=(k,s)::rest):Be l s i=.ok () (i+1):=by
 obtain ⟨h1,h2,_,_⟩:=Aq hs
 unfold Be isP
 rw [h1,h2,hk,if_pos (by simp)]
theorem sm {l:List Tok} {i:Nat} {k:Int} {t s:Str} {rest:List TK} (hs:seg l i=(k,t)::rest):isP l s i=(((k==5) || (k==2))&&(t==s)):=by
 obtain ⟨h1,h2,_,_⟩:=Aq hs
 unfold isP
 rw [h1,h2]
theorem Iy {l:List Tok} {i:Nat} {s:Str} {rest:List TK} (hs:seg l i=(1,s)::rest):Dt l i=.ok s (i+1):=by
 obtain ⟨h1,h2,_,_⟩:=Aq hs
 unfold Dt
 rw [h1,h2]
 rfl
theorem so {l:List Tok} {i:Nat} {nm:Str} {k:Int} {rest:List TK} (h1:1≤k) (h3:k≤3) (hs:seg l i=(2,Ai k)::rest):Pa l nm i=.ok ⟨nm,k⟩ (i+1):=by
 obtain ⟨h4,h5,_,_⟩:=Aq hs
 unfold Pa
 rw [h4,h5,k8 h1 h3,if_neg (by simp;omega)]
def Fw (c:Col) (x:Expr):List TK:=(1,c.name)::(2,Ai c.kind)::(5,[61])::Aa x
theorem Nh {l:List Tok} {m:Mov} {i:Nat} {c:Col} {x:Expr} {rest:List TK} (h1:1≤c.kind) (h3:c.kind≤3) (hx:PrE x) (hs:seg l i=Fw c x++rest) (hst:stops 0 rest):Cc l m i=.ok (Lk (Bm m c) x) (i+(Fw c x).length):=by
 unfold Fw at hs
 simp only [List.cons_append] at hs
 have s1:=(Aq hs).2.2.1
 have s2:=(Aq s1).2.2.1
 have s3:=(Aq s2).2.2.1
 unfold Cc Fu
 rw [Iy hs]
 show ((Pa l c.name (i+1)).bind _)=_
 rw [so h1 h3 s1]
 show ((Be l [61] (i+1+1)).bind _)=_
 rw [I3 (by decide) s2]
 show ((Gw l (i+1+1+1)).bind _)=_
 rw [Zi hx s3 hst]
 show PR.ok _ (i+1+1+1+(Aa x).length)=_
 rw [show i+(Fw c x).length=i+1+1+1+(Aa x).length by simp [Fw];omega]
/-- Things with commas between. -/
theorem Ut {l:List Tok} {α:Type} {one:Mov→Nat→PR Mov} {tk:α→List TK} {ap:Mov→α→Mov} {P:α→Prop} {n:Int} (h1:∀it,P it→∀m i rest,stops 0 rest→seg l i=tk it++rest→one m i=.ok (ap m it) (i+(tk it).length)) (hc:∀r:List TK,stops 0 ((5,[44])::r)) {rest:List TK} (hst:stops 0 rest) (hr:∃k t r,rest=(k,t)::r∧t≠[44]):
  ∀(its:List α) (k f:Nat) (m:Mov) (i:Nat),1≤k→(∀it∈its,P it)→its.length<f→seg l i=(its.flatMap fun it=>(5,[44])::tk it)++rest→(n=k+its.length∨(n=0∧2≤k+its.length))→H7 l n one f k m i=.ok (its.foldl ap m) (i+(its.flatMap fun it=>(5,[44])::tk it).length)
 | [],k,f,m,i,hk1,_,hf,hs,hn=>by
  obtain ⟨f,rfl⟩:∃g,f=g+1:=⟨f-1,by simp at hf;omega⟩
  obtain ⟨k',t,r,hr,ht⟩:=hr
  rw [hr] at hs
  have:If l n k i=false:=by
   unfold If
   rw [sm hs]
   simp only [List.length_nil] at hn
   have e:(t==([44]:Str))=false:=by simpa using ht
   rw [e,Bool.and_false,Bool.or_false]
   rcases hn with hn|⟨hn,h2⟩
   ·rw [hn,show decide ((k:Int)<(k:Int)+((0:Nat):Int))=false from decide_eq_false (by omega)]
    rw [show ((((k:Int)+((0:Nat):Int)))==0)=false by simp;omega]
    rfl
   rw [hn,show decide ((k:Int)<0)=false from decide_eq_false (by omega),show decide ((k:Int)<2)=false from decide_eq_false (by omega)]
   rfl
  rw [H7,this,if_neg (by simp)]
  rfl
 | it::its,k,f,m,i,hk1,hP,hf,hs,hn=>by
  obtain ⟨f,rfl⟩:∃g,f=g+1:=⟨f-1,by simp at hf;omega⟩
  rw [List.flatMap_cons,List.append_assoc,List.cons_append] at hs
  have s1:=(Aq hs).2.2.1
  have:If l n k i=true:=by
   unfold If
   rw [sm hs]
   simp only [List.length_cons] at hn
   rcases hn with hn|⟨hn,h2⟩
   ·rw [show decide ((k:Int)<n)=true from decide_eq_true (by omega)]
    rfl
   rw [hn]
   simp
  rw [H7,this,if_pos rfl,I3 (by decide) hs]
  show ((one m (i+1)).bind _)=_
  have hst2:stops 0 ((its.flatMap fun it=>(5,[44])::tk it)++rest):=by
   cases its with
   | nil=>exact hst
   | cons a b=>rw [List.flatMap_cons];exact hc _
  rw [h1 it (hP it List.mem_cons_self) m (i+1) _ hst2 s1]
  show H7 l n one f (k+1) (ap m it) (i+1+(tk it).length)=_
  rw [Ut h1 hc hst hr its (k+1) f (ap m it) _ (by omega) (fun x hx=>hP x (.tail _ hx)) (by simp at hf;omega) (Cj s1) (by simp only [List.length_cons] at hn;omega)]
  simp only [List.foldl_cons,List.flatMap_cons,List.length_append,List.length_cons]
  congr 1
  omega
/-- Words of some things, with commas between. -/
def Fc:List (List TK)→List TK
 | []=>[]
 | t::r=>t++r.flatMap fun u=>(5,[44])::u
theorem Si (r:List TK):stops 0 ((5,[44])::r):=fun h r' e _=>by
 injection e with e _
 subst e
 exact ⟨by decide,by decide⟩
theorem Ol (r:List TK):stops 0 ((2,backW)::r):=fun h r' e _=>by
 injection e with e _
 subst e
 exact ⟨by decide +kernel,by decide⟩
theorem lz (r:List TK):stops 0 ((2,intoW)::r):=fun h r' e _=>by
 injection e with e _
 subst e
 exact ⟨by decide +kernel,by decide⟩
theorem Iz (r:List TK):stops 0 ((5,[59])::r):=fun h r' e _=>by
 injection e with e _
 subst e
 exact ⟨by decide,by decide⟩
theorem xu {l:List Tok} {i:Nat} {ts:List TK} (h:seg l i=ts):ts.length≤l.length:=by
 rw [←h]
 unfold seg
 rw [List.length_map,List.length_drop]
 omega
theorem Uu {α:Type} {tk:α→List TK}:∀(its:List α),its.length≤(its.flatMap fun it=>(5,[44])::tk it).length
 | []=>Nat.le_refl _
 | a::r=>by
  have:=Uu (tk:=tk) r
  rw [List.flatMap_cons,List.length_append,List.length_cons,List.length_cons]
  omega
theorem Sj {l:List Tok} {α:Type} {one:Mov→Nat→PR Mov} {tk:α→List TK} {ap:Mov→α→Mov} {P:α→Prop} {n:Int} (h1:∀it,P it→∀m i rest,stops 0 rest→seg l i=tk it++rest→one m i=.ok (ap m it) (i+(tk it).length)) {rest:List TK} (hst:stops 0 rest) (hr:∃k t r,rest=(k,t)::r∧t≠[44])
  {its:List α} {m:Mov} {i:Nat} (h0:its≠[]) (hP:∀it∈its,P it) (hs:seg l i=Fc (its.map tk)++rest) (hn:n=its.length∨(n=0∧2≤its.length)):Dz l n one m i=.ok (its.foldl ap m) (i+(Fc (its.map tk)).length):=by
 cases its with
 | nil=>exact absurd rfl h0
 | cons a r =>
  have e:Fc ((a::r).map tk)=tk a++r.flatMap fun it=>(5,[44])::tk it:=by
   rw [List.map_cons,Fc,List.flatMap_map]
  rw [e,List.append_assoc] at hs
  have hst2:stops 0 ((r.flatMap fun it=>(5,[44])::tk it)++rest):=by
   cases r with
   | nil=>exact hst
   | cons a b=>rw [List.flatMap_cons];exact Si _
  have s1:=Cj hs
  have hl:=xu s1
  rw [List.length_append] at hl
  have hf:=Uu (tk:=tk) r
  unfold Dz
  rw [h1 a (hP a List.mem_cons_self) m i _ hst2 hs]
  show H7 l n one (l.length+1) 1 (ap m a) (i+(tk a).length)=_
  rw [Ut h1 Si hst hr r 1 (l.length+1) (ap m a) _ (Nat.le_refl _) (fun x hx=>hP x (.tail _ hx)) (by omega) s1 (by simp only [List.length_cons] at hn;omega),e,List.length_append,Nat.add_assoc]
  rfl
theorem Uv:∀(g:List (Col×Expr)) (m:Mov),g.foldl (fun m p=>Lk (Bm m p.1) p.2) m=⟨m.kind,m.take,m.give++g.map (·.1),m.ahead++g.map (·.2),m.back⟩
 | [],m=>by simp
 | p::g,m=>by rw [List.foldl_cons,Uv g];simp [Lk,Bm]
theorem Uw:∀(g:List Expr) (m:Mov),g.foldl Rv m=⟨m.kind,m.take,m.give,m.ahead,m.back++g⟩
 | [],m=>by simp
 | p::g,m=>by rw [List.foldl_cons,Uw g];simp [Rv]
theorem Ux:∀(g:List Str) (m:Mov),g.foldl Rw m=⟨m.kind,m.take++g,m.give,m.ahead,m.back⟩
 | [],m=>by simp
 | p::g,m=>by rw [List.foldl_cons,Ux g];simp [Rw]
def Jl (m:Mov):List TK:=Fc ((m.give.zip m.ahead).map fun p=>Fw p.1 p.2)
def M4 (m:Mov):List TK:=Fc (m.take.map fun s=>[(1,s)])
def Jm (m:Mov):List TK:=(2,backW)::Fc (m.back.map Aa)
/-- The words of a move. -/
def mvT (m:Mov):List TK:=(2,B9 m.kind)::((if m.kind==1 then Jl m else if m.kind==2 then M4 m++Jm m else if m.kind==3 then M4 m++[(2,toW),(1,(m.give.getD 0 ⟨[],0⟩).name)] else if m.kind==6 then Jl m++Jm m else M4 m++(2,intoW)::(Jl m++Jm m))++[(5,[59])])
theorem Ni {l:List Tok} {m:Mov} {xs:List Expr} {i:Nat} {rest:List TK} (hx:∀x∈xs,PrE x) (hn:xs.length=m.take.length) (h0:xs≠[]) (hst:stops 0 rest) (hr:∃k t r,rest=(k,t)::r∧t≠[44]) (hs:seg l i=(2,backW)::(Fc (xs.map Aa)++rest)):Cz l m i=.ok ⟨m.kind,m.take,m.give,m.ahead,m.back++xs⟩ (i+1+(Fc (xs.map Aa)).length):=by
 unfold Cz
 rw [I3 (by decide) hs]
 show Dz l m.take.length (Kj l) m (i+1)=_
 rw [Sj (ap:=Rv) (tk:=Aa) (P:=PrE) (fun x hx m i rest hst hs=>by unfold Kj;rw [Zi hx hs hst];rfl) hst hr h0 hx (Aq hs).2.2.1 (.inl (by rw [hn])),Uw]
theorem m0 {l:List Tok} {n:Int} {m:Mov} {g:List (Col×Expr)} {i:Nat} {rest:List TK} (hg:∀p∈g,1≤p.1.kind∧p.1.kind≤3∧PrE p.2) (hn:n=g.length∨(n=0∧2≤g.length)) (h0:g≠[]) (hst:stops 0 rest) (hr:∃k t r,rest=(k,t)::r∧t≠[44]) (hs:seg l i=Fc (g.map fun p=>Fw p.1 p.2)++rest):Dz l n (Cc l) m i=.ok ⟨m.kind,m.take,m.give++g.map (·.1),m.ahead++g.map (·.2),m.back⟩ (i+(Fc (g.map fun p=>Fw p.1 p.2)).length):=by
 rw [Sj (ap:=fun m p=>Lk (Bm m p.1) p.2) (tk:=fun p=>Fw p.1 p.2) (P:=fun p=>1≤p.1.kind∧p.1.kind≤3∧PrE p.2) (fun p hp m i rest hst hs=>Nh hp.1 hp.2.1 hp.2.2 hs hst) hst hr h0 hg hs hn,Uv]
theorem m8 {l:List Tok} {m:Mov} {g:List Str} {i:Nat} {rest:List TK} (hn:2≤g.length) (hst:stops 0 rest) (hr:∃k t r,rest=(k,t)::r∧t≠[44]) (hs:seg l i=Fc (g.map fun s=>[(1,s)])++rest):Dz l 0 (Iv l) m i=.ok ⟨m.kind,m.take++g,m.give,m.ahead,m.back⟩ (i+(Fc (g.map fun s=>[((1:Int),s)])).length):=by
 rw [Sj (ap:=Rw) (tk:=fun s=>[(1,s)]) (P:=fun _=>True) (fun s _ m i rest hst hs=>by unfold Iv;rw [Iy hs];rfl) hst hr (fun e=>by rw [e] at hn;simp at hn) (fun _ _=>trivial) hs (.inr ⟨rfl,hn⟩),Ux]
/-- A move that may be printed and read. -/
structure PrM (m:Mov):Prop where
 one:Eu m=true
 ahead:∀x∈m.ahead,PrE x
 back:∀x∈m.back,PrE x
def J0 (m:Mov):List TK:=if m.kind==1 then Jl m else if m.kind==2 then M4 m++Jm m else if m.kind==3 then M4 m++[(2,toW),(1,(m.give.getD 0 ⟨[],0⟩).name)] else if m.kind==6 then Jl m++Jm m else M4 m++(2,intoW)::(Jl m++Jm m)
theorem sq (m:Mov):mvT m=(2,B9 m.kind)::(J0 m++[(5,[59])]):=rfl
theorem Zj {k:Int} (h:(Ai k==([]:Str))=false):1≤k∧k≤3:=by
 unfold Ai at h
 split at h
 ·cases h
 rename_i h1;omega
theorem Kp {α:Type} {l:List α} (h:((l.length:Int)==1)=true):∃a,l=[a]:=by
 match l,h with
 | [a],_=>exact ⟨a,rfl⟩
 | [],h=>simp at h
 | _::_::_,h=>simp at h;omega
theorem gw {α:Type} {l:List α} (h:((l.length:Int)==0)=true):l=[]:=by
 match l,h with
 | [],_=>rfl
 | _::_,h=>simp at h;omega
theorem Q5 {r:List TK}:∃k t r',((5,[59])::r:List TK)=(k,t)::r'∧t≠[44]:=⟨_,_,_,rfl,by decide⟩
theorem sr {r:List TK}:∃k t r',((2,backW)::r:List TK)=(k,t)::r'∧t≠[44]:=⟨_,_,_,rfl,by decide⟩
theorem xv {r:List TK}:∃k t r',((2,intoW)::r:List TK)=(k,t)::r'∧t≠[44]:=⟨_,_,_,rfl,by decide⟩
theorem J1 (t:List TK):Fc [t]=t:=by simp [Fc]
theorem gx {α β:Type}:∀{a:List α} {b:List β},b.length=a.length→(a.zip b).map (·.1)=a∧(a.zip b).map (·.2)=b
 | [],[],_=>⟨rfl,rfl⟩
 | [],_::_,h=>by simp at h
 | _::_,[],h=>by simp at h
 | x::a,y::b,h=>by
  obtain ⟨h1,h2⟩:=gx (a:=a) (b:=b) (by simpa using h)
  rw [List.zip_cons_cons,List.map_cons,List.map_cons,h1,h2]
  exact ⟨rfl,rfl⟩
/-- What a right move has. -/
theorem Sk {m:Mov} (h:PrM m):C9 m=true∧(m.kind≠3→∀c∈m.give,1≤c.kind∧c.kind≤3)∧(m.kind=3→∀c∈m.give,c.kind=0)∧Fb m=true:=by
 have h1:=h.one
 unfold Eu at h1
 simp only [Bool.and_eq_true,List.all_eq_true] at h1
 refine ⟨h1.1.1.1.1.1,fun hk c hc=>?_,fun hk c hc=>?_,h1.2⟩
 ·have:=h1.1.1.1.1.2 c hc
  unfold G9 at this
  simp only [Bool.and_eq_true] at this
  have e:(m.kind==3)=false:=by simpa using hk
  rw [e] at this
  exact Zj (by simpa using this.2.1)
 have:=h1.1.1.1.1.2 c hc
 unfold G9 at this
 simp only [Bool.and_eq_true] at this
 rw [hk] at this
 simpa using this.2.2
theorem su {m:Mov} (h:PrM m) (hk:m.kind≠3):∀p∈m.give.zip m.ahead,1≤p.1.kind∧p.1.kind≤3∧PrE p.2:=fun p hp=>by
 have h1:=(Sk h).2.1 hk p.1 (List.of_mem_zip hp).1
 exact ⟨h1.1,h1.2,h.ahead p.2 (List.of_mem_zip hp).2⟩
theorem sw {l:List Tok} {m:Mov} {i:Nat} {rest:List TK} (h:PrM m) (hs:seg l i=J0 m++(5,[59])::rest):Ev l ⟨m.kind,[],[],[],[]⟩ i=.ok m (i+(J0 m).length):=by
 obtain ⟨hc,hg3,hg0,hl⟩:=Sk h
 obtain ⟨hal,hbl⟩:=Eo hc
 have hgo:=su h
 have hba:=h.back
 have hz:=gx hal
 unfold C9 at hc
 rw [if_neg (by simp [hal,hbl])] at hc
 obtain ⟨k,take,give,ahead,back⟩:=m
 simp only at *
 by_cases k1:(k==1)=true
 ·rw [if_pos k1,Bool.and_eq_true] at hc
  have e:k=1:=by simpa using k1
  subst e
  obtain rfl:=gw hc.1
  obtain ⟨c,rfl⟩:=Kp hc.2
  obtain ⟨x,rfl⟩:∃x,ahead=[x]:=List.length_eq_one_iff.1 (by simpa using hal)
  obtain rfl:back=[]:=List.eq_nil_of_length_eq_zero (by simpa using hbl)
  have hb:J0 ⟨1,[],[c],[x],[]⟩=Fw c x:=by show Fc [Fw c x]=_;exact J1 _
  rw [hb] at hs ⊢
  have hp:=hgo (by decide) (c,x) (by simp)
  exact Nh (m:=⟨1,[],[],[],[]⟩) hp.1 hp.2.1 hp.2.2 hs (Iz _)
 rw [if_neg k1] at hc
 by_cases k2:(k==2)=true
 ·rw [if_pos k2,Bool.and_eq_true] at hc
  have e:k=2:=by simpa using k2
  subst e
  obtain ⟨s,rfl⟩:=Kp hc.1
  obtain rfl:=gw hc.2
  obtain rfl:ahead=[]:=List.eq_nil_of_length_eq_zero (by simpa using hal)
  have hb:J0 ⟨2,[s],[],[],back⟩=(1,s)::(2,backW)::Fc (back.map Aa):=by show Fc [[(1,s)]]++_=_;rw [J1];rfl
  rw [hb] at hs ⊢
  show ((Dt l i).bind fun s j=>Cz l (takeS ⟨2,[],[],[],[]⟩ s) j)=_
  rw [Iy hs]
  show Cz l ⟨2,[s],[],[],[]⟩ (i+1)=_
  rw [Ni (m:=⟨2,[s],[],[],[]⟩) hba hbl (fun e=>by rw [e] at hbl;simp at hbl) (Iz _) Q5 (Aq hs).2.2.1]
  simp only [List.nil_append,List.length_cons]
  congr 1
  omega
 rw [if_neg k2] at hc
 by_cases k3:(k==3)=true
 ·rw [if_pos (show ((k==3) || (k==6))=true by rw [k3];rfl),Bool.and_eq_true] at hc
  have e:k=3:=by simpa using k3
  subst e
  obtain ⟨s,rfl⟩:=Kp hc.1
  obtain ⟨c,rfl⟩:=Kp hc.2
  obtain ⟨x,rfl⟩:∃x,ahead=[x]:=List.length_eq_one_iff.1 (by simpa using hal)
  obtain ⟨y,rfl⟩:∃x,back=[x]:=List.length_eq_one_iff.1 (by simpa using hbl)
  have hc0:=hg0 rfl c (by simp)
  obtain ⟨t,q⟩:=c
  have e0:q=0:=hc0
  subst e0
  have hl':(eqE x (B7 s)&&eqE y (B7 t))=true:=hl
  rw [Bool.and_eq_true] at hl'
  obtain rfl:x=B7 s:=(Mo _ _).1 hl'.1
  obtain rfl:y=B7 t:=(Mo _ _).1 hl'.2
  have hb:J0 ⟨3,[s],[⟨t,0⟩],[B7 s],[B7 t]⟩=[(1,s),(2,toW),(1,t)]:=by show Fc [[(1,s)]]++_=_;rw [J1];rfl
  rw [hb] at hs ⊢
  show ((Dt l i).bind _)=_
  have s1:=(Aq hs).2.2.1
  have s2:=(Aq s1).2.2.1
  rw [Iy hs]
  show ((Be l toW (i+1)).bind _)=_
  rw [I3 (by decide) s1]
  show ((Dt l (i+1+1)).bind _)=_
  rw [Iy s2]
  rfl
 by_cases k6:(k==6)=true
 ·rw [if_pos (show ((k==3) || (k==6))=true by rw [k6];simp),Bool.and_eq_true] at hc
  have e:k=6:=by simpa using k6
  subst e
  obtain ⟨s,rfl⟩:=Kp hc.1
  obtain ⟨c,rfl⟩:=Kp hc.2
  obtain ⟨x,rfl⟩:∃x,ahead=[x]:=List.length_eq_one_iff.1 (by simpa using hal)
  have hsn:s=c.name:=by
   have hl':(s==c.name)=true:=hl
   simpa using hl'
  subst hsn
  have hb:J0 ⟨6,[c.name],[c],[x],back⟩=Fw c x++(2,backW)::Fc (back.map Aa):=by show Fc [Fw c x]++_=_;rw [J1];rfl
  rw [hb,List.append_assoc] at hs
  rw [hb]
  have hp:=hgo (by decide) (c,x) (by simp)
  show ((Cc l ⟨6,[],[],[],[]⟩ i).bind _)=_
  rw [Nh hp.1 hp.2.1 hp.2.2 hs (Ol _)]
  show Cz l ⟨6,[c.name],[c],[x],[]⟩ (i+(Fw c x).length)=_
  rw [Ni (m:=⟨6,[c.name],[c],[x],[]⟩) hba hbl (fun e=>by rw [e] at hbl;simp at hbl) (Iz _) Q5 (Cj hs)]
  simp only [List.nil_append,List.length_cons,List.length_append]
  congr 1
  omega
 rw [if_neg (show ¬((k==3) || (k==6))=true by rw [Bool.or_eq_true];rintro (h|h);exact k3 h;exact k6 h)] at hc
 have hz1:∀{n:Nat},give.length=n→(give.zip ahead).length=n:=fun e=>by rw [List.length_zip,hal,e];simp
 by_cases k4:(k==4)=true
 ·rw [if_pos k4,Bool.and_eq_true] at hc
  have e:k=4:=by simpa using k4
  subst e
  obtain ⟨s,rfl⟩:=Kp hc.1
  have hg2:2≤give.length:=by have:=hc.2;simp at this;omega
  have hb:J0 ⟨4,[s],give,ahead,back⟩=(1,s)::(2,intoW)::(Fc ((give.zip ahead).map fun p=>Fw p.1 p.2)++(2,backW)::Fc (back.map Aa)):=by show Fc [[(1,s)]]++_=_;rw [J1];rfl
  rw [hb] at hs ⊢
  simp only [List.cons_append,List.append_assoc] at hs
  have s1:=(Aq hs).2.2.1
  have s2:=(Aq s1).2.2.1
  show ((Dt l i).bind _)=_
  rw [Iy hs]
  show ((Be l intoW (i+1)).bind _)=_
  rw [I3 (by decide) s1]
  show ((Dz l 0 (Cc l) ⟨4,[s],[],[],[]⟩ (i+1+1)).bind _)=_
  rw [m0 (hgo (by decide)) (.inr ⟨rfl,by rw [hz1 rfl];exact hg2⟩) (fun e=>by have:=hz1 rfl;rw [e] at this;simp at this;omega) (Ol _) sr s2]
  show Cz l ⟨4,[s],[]++_,[]++_,[]⟩ _=_
  rw [Ni (m:=⟨4,[s],[]++(give.zip ahead).map (·.1),[]++(give.zip ahead).map (·.2),[]⟩) hba hbl (fun e=>by rw [e] at hbl;simp at hbl) (Iz _) Q5 (Cj s2)]
  simp only [List.nil_append,hz.1,hz.2,List.length_cons,List.length_append]
  congr 1
  omega
 rw [if_neg k4] at hc
 by_cases k5:(k==5)=true
 ·rw [if_pos k5,Bool.and_eq_true] at hc
  have e:k=5:=by simpa using k5
  subst e
  obtain ⟨c,rfl⟩:=Kp hc.2
  have ht2:2≤take.length:=by have:=hc.1;simp at this;omega
  obtain ⟨x,rfl⟩:∃x,ahead=[x]:=List.length_eq_one_iff.1 (by simpa using hal)
  have hb:J0 ⟨5,take,[c],[x],back⟩=Fc (take.map fun s=>[(1,s)])++(2,intoW)::(Fw c x++(2,backW)::Fc (back.map Aa)):=by show Fc _++(2,intoW)::(Fc [Fw c x]++_)=_;rw [J1];rfl
  rw [hb] at hs ⊢
  simp only [List.cons_append,List.append_assoc] at hs
  have s1:=Cj hs
  have s2:=(Aq s1).2.2.1
  have hp:=hgo (by decide) (c,x) (by simp)
  show ((Dz l 0 (Iv l) ⟨5,[],[],[],[]⟩ i).bind _)=_
  rw [m8 ht2 (lz _) xv hs]
  show ((Be l intoW _).bind _)=_
  rw [I3 (by decide) s1]
  show ((Cc l _ _).bind _)=_
  rw [Nh hp.1 hp.2.1 hp.2.2 s2 (Ol _)]
  show Cz l ⟨5,[]++take,[c],[x],[]⟩ _=_
  rw [Ni (m:=⟨5,[]++take,[c],[x],[]⟩) hba hbl (fun e=>by rw [e] at hbl;simp at hbl;omega) (Iz _) Q5 (Cj s2)]
  simp only [List.nil_append,List.length_cons,List.length_append]
  congr 1
  omega
 rw [if_neg k5] at hc
 cases hc
theorem sx {m:Mov} (h:PrM m):m.kind=1∨m.kind=2∨m.kind=3∨m.kind=4∨m.kind=5∨m.kind=6:=by
 have hc:=(Sk h).1
 unfold C9 at hc
 split at hc
 ·cases hc
 split at hc
 ·rename_i h;exact .inl (by simpa using h)
 split at hc
 ·rename_i h;exact .inr (.inl (by simpa using h))
 split at hc
 ·rename_i h
  rw [Bool.or_eq_true] at h
  rcases h with h|h
  ·exact .inr (.inr (.inl (by simpa using h)))
  exact .inr (.inr (.inr (.inr (.inr (by simpa using h)))))
 split at hc
 ·rename_i h;exact .inr (.inr (.inr (.inl (by simpa using h))))
 split at hc
 ·rename_i h;exact .inr (.inr (.inr (.inr (.inl (by simpa using h)))))
 cases hc
theorem m9 {k:Int} (h:k=1∨k=2∨k=3∨k=4∨k=5∨k=6):D7 (B9 k)=k∧(k==0)=false:=by
 rcases h with rfl|rfl|rfl|rfl|rfl|rfl<;>exact ⟨by kernel_rfl,rfl⟩
theorem sy {l:List Tok} {m:Mov} {i:Nat} {rest:List TK} (h:PrM m) (hs:seg l i=mvT m++rest):Fv l i=.ok m (i+(mvT m).length):=by
 rw [sq] at hs ⊢
 simp only [List.cons_append,List.append_assoc,List.nil_append] at hs
 obtain ⟨h1,h2,s1,_⟩:=Aq hs
 obtain ⟨w1,w2⟩:=m9 (sx h)
 unfold Fv
 rw [h1,h2,w1,w2,if_neg (by decide),sw h s1]
 show ((Be l [59] (i+1+(J0 m).length)).bind _)=_
 rw [I3 (by decide) (Cj s1)]
 show PR.ok m _=_
 rw [List.length_cons,List.length_append]
 congr 1
 simp
 omega
theorem Sl {l:List Tok}:∀(ms:List Mov) (f:Nat) (acc:List Mov) (i:Nat),(∀m∈ms,PrM m)→acc.length+ms.length≤8→acc.length+f=9→seg l i=ms.flatMap mvT++[(0,[])]→Dh l f acc i=.ok (acc++ms) (i+(ms.flatMap mvT).length)
 | [],0,acc,i,_,h8,hf,_=>by simp at h8;omega
 | [],f+1,acc,i,_,h8,hf,hs=>by
  rw [Dh,(Aq hs).1,if_neg (by decide),List.append_nil]
  rfl
 | m::ms,0,acc,i,_,h8,hf,_=>by simp at h8;omega
 | m::ms,f+1,acc,i,h,h8,hf,hs=>by
  rw [List.flatMap_cons,List.append_assoc] at hs
  have hs':=hs
  rw [sq] at hs'
  simp only [List.cons_append] at hs'
  simp only [List.length_cons] at h8
  rw [Dh,(Aq hs').1,if_pos (by decide),if_neg (by simp only [beq_iff_eq];omega),sy (h m List.mem_cons_self) hs]
  show Dh l f (acc++[m]) (i+(mvT m).length)=_
  rw [Sl ms f (acc++[m]) _ (fun x hx=>h x (.tail _ hx)) (by rw [List.length_append];simp;omega) (by rw [List.length_append];simp;omega) (Cj hs),List.append_assoc,List.flatMap_cons,List.length_append,Nat.add_assoc]
  rfl
/-- Moves that may be printed and read are parsed from their words. -/
theorem dq {s:Str} {ms:List Mov} {L:List Tok} {n:Nat} (hl:D5 s=(L++[⟨0,[],n⟩],0,0)) (hL:L.map ktT=ms.flatMap mvT) (h:∀m∈ms,PrM m) (h8:ms.length≤8):F0 s=(ms,0,0):=by
 have hs:seg (L++[⟨0,[],n⟩]) 0=ms.flatMap mvT++[(0,[])]:=by
  unfold seg
  rw [List.drop_zero,List.map_append,hL]
  rfl
 unfold F0
 rw [hl,if_neg (by show ¬(((0:Int) != 0)=true);decide)]
 show (match Ga (L++[⟨0,[],n⟩]) with|.ok l _=>(l,0,0)|.bad e a=>([],e,a))=_
 unfold Ga
 rw [Sl ms 9 [] 0 h (by simpa using h8) (by decide) hs]
 rfl
/-! The text of moves, and its words. -/
def Dj:List Str→Str
 | []=>[]
 | s::r=>s++r.flatMap fun u=>[44,32]++u
def Zk (c:Col) (x:Expr):Str:=c.name++([32]++(Ai c.kind++([32]++([61]++([32]++A9 x)))))
def Gb (m:Mov):Str:=Dj ((m.give.zip m.ahead).map fun p=>Zk p.1 p.2)
def Jn (m:Mov):Str:=Dj m.take
def I4 (m:Mov):Str:=[32]++(backW++([32]++Dj (m.back.map A9)))
def Lm (m:Mov):Str:=if m.kind==1 then Gb m else if m.kind==2 then Jn m++I4 m else if m.kind==3 then Jn m++([32]++(toW++([32]++(m.give.getD 0 ⟨[],0⟩).name))) else if m.kind==6 then Gb m++I4 m else Jn m++([32]++(intoW++([32]++(Gb m++I4 m))))
/-- A move's text. -/
def mvS (m:Mov):Str:=B9 m.kind++([32]++(Lm m++([59]++[10])))
theorem Lx.nl (R:Str):Lx [10] [] R:=fun f q hf=>⟨[],rfl,by
 have h:gapM (10::R)=1+gapM R:=by
  unfold gapM
  rw [Ds,if_pos (by decide)]
  have:=L0 R false
  simp only [List.length_cons]
  omega
 show Jr f q (10::R)=_
 unfold Jr
 rw [h,List.map_nil,List.nil_append,Nat.add_comm 1,List.drop_succ_cons,show q+(gapM R+1)=q+[(10:UInt8)].length+gapM R by simp;omega]⟩
theorem Tc {u R:Str} {T:List TK} (h:Lx u T R):Lx ([32]++u) T R:=Pw h
theorem xw {k:Int} (h1:1≤k) (h3:k≤3) {R:Str} (hR:Do R):Lx (Ai k) [(2,Ai k)] R:=by
 have:k=1∨k=2∨k=3:=by omega
 rcases this with rfl|rfl|rfl<;>exact S1 (by kernel_rfl) hR
theorem AFd (Z:Str):Lx [61] [(5,[61])] ([32]++Z):=Ji (by kernel_rfl) (fun d r e=>by injection e with e1 e2;rw [←e1];decide)
theorem AAs {c:Col} {x:Expr} (hn:Dr c.name=true) (h1:1≤c.kind) (h3:c.kind≤3) (hx:PL x) {R:Str} (hR:Do R):Lx (Zk c x) (Fw c x) R:=by
 have a1:=Tc (hx.1 R hR)
 have a2:Lx ([61]++([32]++A9 x)) ([(5,[61])]++Aa x) R:=Lx.app (by rw [List.append_assoc];exact AFd _) a1
 have a3:Lx (Ai c.kind++([32]++([61]++([32]++A9 x)))) ([(2,Ai c.kind)]++([(5,[61])]++Aa x)) R:=Lx.app (xw h1 h3 (Et _)) (Tc a2)
 have a4:Lx (Zk c x) ([(1,c.name)]++([(2,Ai c.kind)]++([(5,[61])]++Aa x))) R:=Lx.app (Rz hn (Et _)) (Tc a3)
 exact a4
theorem t6 {α:Type} {s:α→Str} {tk:α→List TK}:∀(its:List α),(∀it∈its,∀R,Do R→Lx (s it) (tk it) R)→∀R,Do R→Lx ((its.map s).flatMap fun u=>[44,32]++u) (its.flatMap fun it=>(5,[44])::tk it) R∧Do (((its.map s).flatMap fun u=>[44,32]++u)++R)
 | [],_,R,hR=>⟨Lx.nil R,hR⟩
 | a::r,h,R,hR=>by
  obtain ⟨h1,h2⟩:=t6 r (fun it hit=>h it (.tail _ hit)) R hR
  refine ⟨?_,?_⟩
  ·have b1:Lx (s a++(r.map s).flatMap fun u=>[44,32]++u) (tk a++r.flatMap fun it=>(5,[44])::tk it) R:=Lx.app (h a List.mem_cons_self _ h2) h1
   have b2:=Lx.app (fx _) b1
   rw [List.map_cons,List.flatMap_cons,List.flatMap_cons]
   simpa using b2
  rw [List.map_cons,List.flatMap_cons]
  exact fu _
theorem Wk {α:Type} {s:α→Str} {tk:α→List TK} {its:List α} (h:∀it∈its,∀R,Do R→Lx (s it) (tk it) R) {R:Str} (hR:Do R):Lx (Dj (its.map s)) (Fc (its.map tk)) R:=by
 cases its with
 | nil=>exact Lx.nil R
 | cons a r =>
  obtain ⟨h1,h2⟩:=t6 r (fun it hit=>h it (.tail _ hit)) R hR
  have:=Lx.app (h a List.mem_cons_self _ h2) h1
  rw [List.map_cons,List.map_cons,Dj,Fc,List.flatMap_map (f:=tk)]
  exact this
/-- A tree that may be printed. -/
structure PrT (x:Expr):Prop where
 node:Bx B3 x=true
 rng:Bx Ew x=true
theorem PrT.pl {x:Expr} (h:PrT x):PL x:=Yn (sizeE x) x (Nat.le_refl _) h.node h.rng
/-- What the text of a move needs. -/
structure PrS (m:Mov):Prop where
 kinds:m.kind=1∨m.kind=2∨m.kind=3∨m.kind=4∨m.kind=5∨m.kind=6
 takes:∀s∈m.take,Dr s=true
 gives:∀c∈m.give,Dr c.name=true
 cols:m.kind≠3→∀c∈m.give,1≤c.kind∧c.kind≤3
 one:m.kind=3→m.give≠[]
 ahead:∀x∈m.ahead,PrT x
 back:∀x∈m.back,PrT x
theorem gy {m:Mov} (h:PrS m) (hk:m.kind≠3) {R:Str} (hR:Do R):Lx (Gb m) (Jl m) R:=
 Wk (s:=fun p:Col×Expr=>Zk p.1 p.2) (tk:=fun p=>Fw p.1 p.2) (fun p hp R hR=>by
  have hc:=(List.of_mem_zip hp).1
  have hb:=h.cols hk p.1 hc
  exact AAs (h.gives _ hc) hb.1 hb.2 (h.ahead _ (List.of_mem_zip hp).2).pl hR) hR
theorem Wl {m:Mov} (h:PrS m) {R:Str} (hR:Do R):Lx (Jn m) (M4 m) R:=by
 have:=Wk (s:=fun s:Str=>s) (tk:=fun s=>[((1:Int),s)]) (its:=m.take) (fun s hs R hR=>Rz (h.takes s hs) hR) hR
 rw [List.map_id'] at this
 exact this
theorem gz {m:Mov} (h:PrS m) {R:Str} (hR:Do R):Lx (I4 m) (Jm m) R:=by
 have a:=Wk (s:=A9) (tk:=Aa) (its:=m.back) (fun x hx R hR=>(h.back x hx).pl.1 R hR) hR
 have b:Lx (backW++([32]++Dj (m.back.map A9))) ([(2,backW)]++Fc (m.back.map Aa)) R:=Lx.app (S1 (by kernel_rfl) (Et _)) (Tc a)
 exact Tc b
theorem Sm {m:Mov} {R:Str}:Do (I4 m++R):=Et _
theorem AAt {m:Mov} (h:PrS m) {R:Str} (hR:Do R):Lx (Lm m) (J0 m) R:=by
 unfold Lm J0
 by_cases k1:(m.kind==1)=true
 ·rw [if_pos k1,if_pos k1]
  exact gy h (by
   have:m.kind=1:=by simpa using k1
   omega) hR
 rw [if_neg k1,if_neg k1]
 by_cases k2:(m.kind==2)=true
 ·rw [if_pos k2,if_pos k2]
  exact Lx.app (Wl h Sm) (gz h hR)
 rw [if_neg k2,if_neg k2]
 by_cases k3:(m.kind==3)=true
 ·rw [if_pos k3,if_pos k3]
  have e:m.kind=3:=by simpa using k3
  have hn:Dr (m.give.getD 0 ⟨[],0⟩).name=true:=by
   have:=h.one e
   cases hg:m.give with
   | nil=>exact absurd hg this
   | cons c r=>exact h.gives c (by rw [hg];exact List.mem_cons_self)
  have a:Lx (toW++([32]++(m.give.getD 0 ⟨[],0⟩).name)) ([(2,toW)]++[(1,(m.give.getD 0 ⟨[],0⟩).name)]) R:=Lx.app (S1 (by kernel_rfl) (Et _)) (Tc (Rz hn hR))
  exact Lx.app (Wl h (Et _)) (Tc a)
 rw [if_neg k3,if_neg k3]
 have n3:m.kind≠3:=by simpa using k3
 have gb:Lx (Gb m++I4 m) (Jl m++Jm m) R:=Lx.app (gy h n3 Sm) (gz h hR)
 by_cases k6:(m.kind==6)=true
 ·rw [if_pos k6,if_pos k6]
  exact gb
 rw [if_neg k6,if_neg k6]
 have a:Lx (intoW++([32]++(Gb m++I4 m))) ([(2,intoW)]++(Jl m++Jm m)) R:=Lx.app (S1 (by kernel_rfl) (Et _)) (Tc gb)
 exact Lx.app (Wl h (Et _)) (Tc a)
theorem AFe {m:Mov} (h:PrS m) (R:Str):Lx (mvS m) (mvT m) R:=by
 have a:Lx ([59]++[10]) ([(5,[59])]++[]) R:=Lx.app (Ji (by kernel_rfl) (fun d r e=>by injection e with e1 e2;rw [←e1];decide)) (Lx.nl R)
 have b:Lx (Lm m++([59]++[10])) (J0 m++[(5,[59])]) R:=Lx.app (AAt h (wt _)) a
 have w:∀Z,Lx (B9 m.kind) [(2,B9 m.kind)] (32::Z):=fun Z=>by
  rcases h.kinds with e|e|e|e|e|e<;>rw [e]<;>exact S1 (by kernel_rfl) (Et _)
 exact Lx.app (w _) (Tc b)
theorem ym:∀(ms:List Mov),(∀m∈ms,PrS m)→∀R,Lx (ms.flatMap mvS) (ms.flatMap mvT) R
 | [],_,R=>Lx.nil R
 | m::ms,h,R=>by
  rw [List.flatMap_cons,List.flatMap_cons]
  exact Lx.app (AFe (h m List.mem_cons_self) _) (ym ms (fun x hx=>h x (.tail _ hx)) R)
/-- The words of what is printed. -/
theorem dr {ms:List Mov} (h:∀m∈ms,PrS m) (hl:(ms.flatMap mvS).length≤4000):∃(L:List Tok) (n:Nat),D5 (ms.flatMap mvS)=(L++[⟨0,[],n⟩],0,0)∧L.map ktT=ms.flatMap mvT:=by
 obtain ⟨M,hM,e⟩:=ym ms h [] ((ms.flatMap mvS).length+1) 0 (by simp)
 rw [List.append_nil] at e
 have e0:Jr ((ms.flatMap mvS).length+1) (0+(ms.flatMap mvS).length) []=[]:=by
  unfold Jr
  rw [List.drop_nil,E6]
  rfl
 rw [e0,List.append_nil] at e
 have hi:B1 (ms.flatMap mvS)=M.map (fun t=>(t,0)):=by rw [pc];exact e
 have:=vl hl (by rw [hi];intro it hit;obtain ⟨t,_,rfl⟩:=List.mem_map.1 hit;rfl)
 refine ⟨M,(ms.flatMap mvS).length,?_,hM⟩
 rw [this,hi,List.map_map]
 simp [Function.comp_def]
/-- What is printed is parsed, where brackets do not nest too deep. -/
theorem Zl {ms:List Mov} (h:∀m∈ms,PrS m) (h2:∀m∈ms,PrM m) (h8:ms.length≤8) (hl:(ms.flatMap mvS).length≤4000):F0 (ms.flatMap mvS)=(ms,0,0):=by
 obtain ⟨L,n,e,hL⟩:=dr h hl
 exact dq e hL h2 h8
/-! The same where brackets may nest too deep: then 18 is told. -/
theorem ma {m:Mov} (h1:Eu m=true):C9 m=true∧(m.kind≠3→∀c∈m.give,1≤c.kind∧c.kind≤3)∧(m.kind=3→∀c∈m.give,c.kind=0)∧Fb m=true:=by
 unfold Eu at h1
 simp only [Bool.and_eq_true,List.all_eq_true] at h1
 refine ⟨h1.1.1.1.1.1,fun hk c hc=>?_,fun hk c hc=>?_,h1.2⟩
 ·have:=h1.1.1.1.1.2 c hc
  unfold G9 at this
  simp only [Bool.and_eq_true] at this
  have e:(m.kind==3)=false:=by simpa using hk
  rw [e] at this
  exact Zj (by simpa using this.2.1)
 have:=h1.1.1.1.1.2 c hc
 unfold G9 at this
 simp only [Bool.and_eq_true] at this
 rw [hk] at this
 simpa using this.2.2
theorem mb {m:Mov} (h:Eu m=true):m.kind=1∨m.kind=2∨m.kind=3∨m.kind=4∨m.kind=5∨m.kind=6:=by
 have hc:=(ma h).1
 unfold C9 at hc
 split at hc
 ·cases hc
 split at hc
 ·rename_i h;exact .inl (by simpa using h)
 split at hc
 ·rename_i h;exact .inr (.inl (by simpa using h))
 split at hc
 ·rename_i h
  rw [Bool.or_eq_true] at h
  rcases h with h|h
  ·exact .inr (.inr (.inl (by simpa using h)))
  exact .inr (.inr (.inr (.inr (.inr (by simpa using h)))))
 split at hc
 ·rename_i h;exact .inr (.inr (.inr (.inl (by simpa using h))))
 split at hc
 ·rename_i h;exact .inr (.inr (.inr (.inr (.inl (by simpa using h)))))
 cases hc
end Go.SX.Nb
namespace Go.SX
variable [GI:GlobInv]
open Classical Go.RowKit
section
variable {P:Program} {g:FuncId} {Hp:List AObj}
/-- Where a slice of plain values lies. -/
def AD7 (w:World) (u:Value) (l:List Value):Prop:=
 (u=.slice none 0 0∧l=[])∨∃(ad:Addr) (c:Nat),u=.slice (some ad) l.length c∧l.length≤c∧(l≠[]→ad.spot=none)∧(∀(j:Nat) (x:Value),l[j]? = some x→w.cell? ⟨ad.block,ad.off+j,none⟩=some x)
theorem AFun.libSl {l xs:List Value} {o:Bool} {r:AV} {v:Value} (hr:∀G w,Rep G w none r v) (h:∀w u,H4 w→AD7 w u l→Calls P g (u::xs).toArray w (fun e w'=>e=.returned v∧Below w.heap.size w w')):AFun P g (.slice o 1 (l.map .v)::xs.map .v) Hp r:=by
 intro d G w vs hn hv hH hT hTop
 have hn':vs.size=xs.length+1:=by simpa using hn
 have h0:vs[0]? = some (vs[0]'(by omega)):=Array.getElem?_eq_getElem (by omega)
 have hvs:vs=((vs[0]'(by omega))::xs).toArray:=by
  apply Array.ext
  ·simpa using hn'
  intro i h1 h2
  cases i with
  | zero=>rfl
  | succ i =>
   have hi:i<xs.length:=by omega
   have hrp:=hv (i+1) (.v xs[i]) vs[i+1] (by simp [hi]) (Array.getElem?_eq_getElem h1)
   have:=Ip hrp
   simpa using this
 have hsl:AD7 w (vs[0]'(by omega)) l:=by
  have hrp:=hv 0 _ _ rfl h0
  rcases F4 (.inl rfl) hrp with ⟨e,hl⟩|⟨ad,c,f,e,hc,hF,_⟩
  ·exact .inl ⟨e,by simpa using hl⟩
  rw [List.length_map] at e hc
  refine .inr ⟨ad,c,e,hc,fun hne=>hF.spot (by simpa using hne),fun j x hj=>?_⟩
  have hx:(l.map AV.v)[j]? = some (.v x):=by rw [List.getElem?_map,hj];rfl
  have h1:=(hF.cell j _ 0 _ hx rfl).2
  have h2:=Ip (hF.rep j _ 0 _ hx rfl)
  rw [h2] at h1
  simpa using h1
 rw [hvs]
 refine (callsIn_wide.2 (h w _ (fun x hx=>let ⟨_,u,a,b⟩:=hT.glob x hx;⟨u,a,b⟩) hsl)).mono ?_
 rintro e w' ⟨rfl,hb⟩
 obtain ⟨h1,h2⟩:=Qj hH hT hb
 exact ⟨v,G,r,Hp,rfl,(hr G w').lift,h1,h2,(Lr hT hb).keep _,rfl,rfl,rfl⟩
end
end Go.SX
