/- On the way (part 10). -/
import Derived.Below
import Derived.Test.YtlafnblklafbkaaGreatDoorMigParsesCardSaidPart9
set_option linter.all false
namespace Go.SX.Nb
open Go Go.SX Go.Proofs
variable [ErrAt]
set_option maxRecDepth 4000
abbrev pmO (L:List Tok) (i:Nat):AObj:=.cells 53 [Us L,A7 (i:Int)]
abbrev mvF (a b c d:Bool) (m:Mov):List AV:=[A7 m.kind,.slice a 1 (m.take.map Ac),.slice b 2 (m.give.map Hz),.slice c 6 (m.ahead.map Aj),.slice d 6 (m.back.map Aj)]
abbrev mvC (m:Mov):List AV:=[A7 m.kind,.slice true 1 (m.take.map Ac),.slice true 2 (m.give.map Hz),.slice true 6 (m.ahead.map Aj),.slice true 6 (m.back.map Aj)]
abbrev mvO (m:Mov):AObj:=.cells 47 (mvC m)
abbrev wt (e a:Int):Value:=.iface 26 (.agg [Value.int .i64 e,Value.int .i64 a].toArray)
abbrev Ks:AV:=.v (.tuple #[])
theorem C3 {n:Nat} {L:List Tok} {i:Nat}:ObjLow n (pmO L i):=by
 show ∀y∈[AV.slice false 3 (L.map En),A7 (i:Int)],Low n y
 intro y hy
 simp only [C9,Hc,or_false] at hy
 rcases hy with rfl|rfl
 ·simp [or_imp,forall_and]
 simp
/-- A contract of the parser: it comes to what the model comes to, or the model's fault is Jl. -/
def CP (g:FuncId) (args:List AV) (H:List AObj) {α:Type} (X:PR α) (Q:α→Nat→AV→List AObj→Prop) (R:List AObj→Prop):Prop:=
 ACallP Tryz.prog g args H (fun r H'=>∃c j,X=.ok c j∧Q c j r H') (fun v H'=>∃e a,X=.bad e a∧v=wt e a∧R H')
theorem CP.ok {g:FuncId} {args:List AV} {H:List AObj} {α:Type} {X:PR α} {Q:α→Nat→AV→List AObj→Prop} {R:List AObj→Prop} {c:α} {j:Nat} (h:CP g args H X Q R) (hX:X=.ok c j):ACall Tryz.prog g args H (fun r H'=>Q c j r H'):=
 ACall.ofP (h.mono (fun r H' ⟨c',j',e,hq⟩=>by rw [hX] at e;injection e with e1 e2;subst e1;subst e2;exact hq) (fun v H' ⟨e,a,he,_⟩=>by rw [hX] at he;cases he))
theorem CP.bad {g:FuncId} {args:List AV} {H:List AObj} {α:Type} {X:PR α} {Q:α→Nat→AV→List AObj→Prop} {R:List AObj→Prop} {e a:Int} (h:CP g args H X Q R) (hX:X=.bad e a):ACallP Tryz.prog g args H (fun _ _=>False) (fun v H'=>v=wt e a∧R H'):=
 h.mono (fun r H' ⟨c',j',he,hq⟩=>by rw [hX] at he;cases he) (fun v H' ⟨e',a',he,hv,hR⟩=>by rw [hX] at he;injection he with e1 e2;subst e1;subst e2;exact ⟨hv,hR⟩)
/-- The parser's object alone has turned. -/
def W1 (L:List Tok) (o:Nat) (Hp H':List AObj):Prop:=∃j,H'=Hp.set o (pmO L j)
theorem W1.refl {L:List Tok} {o i:Nat} {Hp:List AObj} (ho:Hp[o]? = some (pmO L i)):W1 L o Hp Hp:=⟨i,(E8 ho).symm⟩
theorem c48 (L:List Tok) (i o:Nat) (Hp:List AObj) (ho:Hp[o]? = some (pmO L i)) (hi:i<L.length):AFun Tryz.prog 48 [.ptr o 0] Hp (En (A4 L i)):=by
 refine B0 [.cell 2 59] [0] Tryz.func48 Tryz.ntmps48 (fun d=>?_)
 refine AP5 ?_;refine Z19 ?_
 refine Am (h:=An ho) (hr:=?_)
 refine Z19 ?_
 refine Am (h:=An ho) (hr:=?_)
 refine Er ?_
 refine A3 (h:=B2 (i) (En (A4 L i)) (fun _=>Ez hi)) (hr:=?_)
 refine A3 ?_;exact AMb

theorem c49 (L:List Tok) (i o:Nat) (e:Int) (Hp:List AObj) (ho:Hp[o]? = some (pmO L i)) (hi:i<L.length):ACallP Tryz.prog 49 [.ptr o 0,A7 e] Hp (fun _ _=>False) (fun v H'=>v=wt e (A4 L i).at_∧H'=Hp):=by
 refine P2 [] [0,1] Tryz.func49 Tryz.ntmps49 (fun d=>?_)
 refine Me [0,0,2,6,14,0,32,96,224,510,1022,2046,4095,8191,16383] [14] [.q 14 [] [],.s [] (some 0) [] []] (fun _=>Hp) (fun B=>[]++bot (B 0)) Af (by kernel_rfl) rfl rfl (fun _=>rfl) ?_
 apply Y.q
 ·intro B hT hF
  refine Z85 ?_
  refine Am (h:=An ho) (hr:=?_)
  refine Z19 ?_
  refine Am (h:=An ho) (hr:=?_)
  refine Am (h:=B2 (i) (En (A4 L i)) (fun _=>Ez hi)) (hr:=?_)
  refine Z5 ?_;refine AMo ?_;refine D.makeIface (.of jU) ?_;exact Tu
 case hTF=>decide
 refine Y.panic (vs:=[.int .i64 e,.int .i64 ((A4 L i).at_:Int)]) (fun B hB f=>?_) ?_
 ·exact Dx ⟨rfl,rfl⟩
 exact AIv

theorem AQu (L:List Tok) (s:Str) (i o:Nat) (Hp:List AObj) (ho:Hp[o]? = some (pmO L i)) (hi:i<L.length):AFun Tryz.prog 130 [.ptr o 0,Ac s] Hp (Bz (isP L s i)):=by
 refine B0 [.tmp 4] [0,1] Tryz.func130 Tryz.ntmps130 (fun d=>?_)
 refine Z63 ?_;refine AMc ?_;refine Z11 ?_;refine A2 [1,5] ?_;refine Z1 ?_;refine Z30 ?_;refine We ?_;exact AIi

theorem c92 (L:List Tok) (s:Str) (i o:Nat) (Hp:List AObj) (ho:Hp[o]? = some (pmO L i)) (hi:i<L.length) (hll:L.length≤500000):CP 92 [.ptr o 0,Ac s] Hp (Cm L s i) (fun _ j r H'=>r=Ks∧H'=Hp.set o (pmO L j)) (W1 L o Hp):=by
 refine P2 [] [0,1] Tryz.func92 Tryz.ntmps92 (fun d=>?_)
 refine Z9 ?_;refine Ap Tryz.call130 (AQu L s i o _ (A8 ho) hi) ?_;refine A3 ?_;refine A2 [0,7] ?_
 refine A6 (fun ht7=>?_) (fun ht7=>?_)
 ·have hq:isP L s i=false:=by simpa using ht7
  have e:Cm L s i=.bad 8 (A4 L i).at_:=if_neg (by rw [hq];simp)
  refine Kb ?_
  refine Cg (A3 (Dt ?_))
  refine AMp ?_
  rintro x U O hU hl' ⟨rfl,hH⟩
  obtain ⟨rfl,rfl⟩:=Mx hU hH
  refine ⟨fun h=>h,fun o h=>(by cases h),?_⟩
  exact AIh
 have hq:isP L s i=true:=by simpa using ht7
 have e:Cm L s i=.ok () (i+1):=if_pos hq
 refine Z4 ?_;refine Z15 ?_
 refine A3 (h:=An ho) (hr:=?_)
 refine Z7 ?_
 refine Cv jS ho ?_ ?_
 ·simp
 refine Nf ?_;exact Kc .nores (hp:=⟨(),i+1,e,rfl,rfl⟩)

theorem Yc (L:List Tok) (i o:Nat) (Hp:List AObj) (ho:Hp[o]? = some (pmO L i)) (hi:i<L.length) (hll:L.length≤500000):CP 124 [.ptr o 0] Hp (Fh L i) (fun s j r H'=>r=Ac s∧H'=Hp.set o (pmO L j)) (W1 L o Hp):=by
 refine P2 [.tmp 2] [0] Tryz.func124 Tryz.ntmps124 (fun d=>?_)
 refine Z59 ?_;refine AMc ?_;refine Z11 ?_;refine Qm ?_;refine Z50 ?_;refine A2 [0,3,8] ?_
 refine A6 (fun ht8=>?_) (fun ht8=>?_)
 ·have e:Fh L i=.bad 8 (A4 L i).at_:=if_pos ht8
  refine Kb ?_
  refine Cg (A3 (Dt ?_))
  refine AMp ?_
  rintro x U O hU hl' ⟨rfl,hH⟩
  obtain ⟨rfl,rfl⟩:=Mx hU hH
  refine ⟨fun h=>h,fun o h=>(by cases h),?_⟩
  exact AIh
 have e:Fh L i=.ok (A4 L i).text (i+1):=if_neg (by rw [ht8];simp)
 refine Y9 ?_
 refine A3 (h:=An ho) (hr:=?_)
 refine Z7 ?_
 refine Cv jS ho ?_ ?_
 ·simp
 refine A2 [3] ?_;refine Z16 ?_;refine Z3 ?_;exact K.finP (Ao Ag) (hp:=⟨_,i+1,e,rfl,rfl⟩)

theorem getset {Hp:List AObj} {o:Nat} {A B:AObj} (h:Hp[o]? = some A):(Hp.set o B)[o]? = some B:=by
 have:=(Aa.1 h).1
 simp [this]
theorem W1.set {L:List Tok} {o i:Nat} {Hp:List AObj}:W1 L o Hp (Hp.set o (pmO L i)):=⟨i,rfl⟩
theorem Ci {l:List AObj} {i:Nat} {x:AObj} (h:∀y∈l,ObjLow (l.set i x).length y) (hx:∀n,ObjLow n x):∀y∈l.set i x,ObjLow (l.set i x).length y:=Hg h (hx _)
theorem AQv (L:List Tok) (i o:Nat) (Hp:List AObj) (ho:Hp[o]? = some (pmO L i)) (hi:i<L.length) (hl:TokEnd L) (hll:L.length≤500000):CP 159 [.ptr o 0] Hp (Jd L i) (fun c j r H'=>r=Hz c∧H'=Hp.set o (pmO L j)) (W1 L o Hp):=by
 refine P2 [.cell 2 64] [0] Tryz.func159 Tryz.ntmps159 (fun d=>?_)
 refine Z43 ?_
 rcases hN:Fh L i with ⟨s,j⟩|⟨e,a⟩
 rotate_left
 ·refine Jm ?_
  refine Cg (A3 (Dt ?_))
  refine Fs Tryz.call124 ((Yc L i o _ (A8 ho) hi hll).bad hN) ?_
  rintro x U O hU hl' ⟨rfl,j',hH⟩
  obtain ⟨rfl,rfl⟩:=Ch hU (Aa.1 ho).1 hH
  refine ⟨fun h=>Ci h (fun n=>C3),fun o h=>(by cases h),?_⟩
  refine Jn ?_;exact Dx ⟨_,_,by unfold Jd;rw [hN];rfl,rfl,j',rfl⟩
 have hj:j<L.length:=(Gx hl hi _ _ hN).2
 have e0:Jd L i=Tf L s j:=by unfold Jd;rw [hN];rfl
 refine Z2 ?_;refine B4 (x:=pmO L j) Tryz.call124 ho (by simp) C3 ((Yc L i o _ (A8 ho) hi hll).ok hN) ?_;refine ef ?_;refine Z92 ?_;refine Z2 ?_;refine Ap Tryz.call48 (c48 L j o _ (A8 (getset ho)) hj) ?_;refine Z11 ?_;refine lb ?_;refine Z9 ?_;refine Ap Tryz.call191 (ASb (A4 L j).text _) ?_;refine Z45 ?_;refine lb ?_;refine Z1 ?_;refine Z30 ?_;refine Z55 ?_;refine A2 [0,2,3,21] ?_
 refine A6 (fun ht21=>?_) (fun ht21=>?_)
 ·have e:Jd L i=.bad 8 (A4 L j).at_:=by rw [e0];exact if_pos ht21
  refine Kb ?_
  refine Cg (A3 (Dt ?_))
  refine Fs Tryz.call49 (c49 L j o 8 _ (A8 (getset ho)) hj) ?_
  rintro x U O hU hl' ⟨rfl,hH⟩
  obtain ⟨rfl,rfl⟩:=Mx hU hH
  refine ⟨fun h=>h,fun o h=>(by cases h),?_⟩
  refine Jn ?_;exact Dx ⟨_,_,e,rfl,W1.set⟩
 have e:Jd L i=.ok ⟨s,Kd (A4 L j).text⟩ (j+1):=by rw [e0];exact if_neg (by rw [ht21];simp)
 refine Y9 ?_
 refine A3 (h:=An (getset ho)) (hr:=?_)
 refine Z7 ?_
 refine Cv jS (getset ho) ?_ ?_
 ·simp
 refine ue ?_;exact K.finP (Ao (B5 jA jS)) (hp:=⟨_,j+1,e,rfl,by rw [Bc];rfl⟩)

theorem AGs (L:List Tok) (i o:Nat) (Hp:List AObj) (ho:Hp[o]? = some (pmO L i)) (hi:i<L.length) (hl:TokEnd L) (hll:L.length≤500000):CP 160 [.ptr o 0] Hp (K0 L i) (fun c j r H'=>r=Aj c∧H'=Hp.set o (pmO L j)) (W1 L o Hp):=by
 refine P2 [.cell 2 69] [0] Tryz.func160 Tryz.ntmps160 (fun d=>?_)
 refine Z43 ?_;refine APv ?_
 apply Y.q
 ·intro B hT hF
  refine Z19 ?_
  refine Am (h:=An ho) (hr:=?_)
  refine Z19 ?_
  refine Am (h:=An ho) (hr:=?_)
  refine Pq Tryz.call192 (ASq L i hi hl hll (fun n Dv h1 h2=>ACm hl (by omega) n Dv h1 h2) _) ?_;exact nq
 case hTF=>decide
 refine X2 Tryz.zeroValue69 ?_;refine X2 Tryz.zeroValue26 ?_;refine Sy Tryz.sizeOf69 ?_
 apply Y.q
 ·intro B hT hF
  exact Z29
 case hTF=>decide
 refine Sy Tryz.sizeOf26 ?_;refine Dj (tn:=[])  ?_;refine A2 [0,2,3,4,5] ?_;refine Z50 ?_;refine A2 [0,2,3,4,5,21] ?_
 refine A6 (fun ht21=>?_) (fun ht21=>?_)
 ·have e:K0 L i=.bad (atM L i).2.2.1 (atM L i).2.2.2:=if_pos ht21
  refine Kb ?_
  refine Cg (A3 (Dt ?_))
  refine Cg (R.makeIface (.of Tryz.underlying26) (Dt ?_))
  refine RK.panic (vs:=[.int .i64 (atM L i).2.2.1,.int .i64 (atM L i).2.2.2]) ?_;exact AIh
 obtain ⟨k,hk,hkl⟩:=lv hl (by omega) hi (by simpa using ht21)
 have e:K0 L i=.ok (atM L i).1 k:=(if_neg (by rw [ht21];simp)).trans (by rw [hk];rfl)
 rw [hk]
 refine Z4 ?_;refine Z33 ?_
 refine Cv jS ho ?_ ?_
 ·simp
 refine ue ?_;exact K.finP (Ao (B5 jA jS)) (hp:=⟨_,k,e,(Ad _).symm,rfl⟩) (hlow:=by have:=At Hp.length (atM L i).1;rw [Ad] at this;exact this)

/-- The parser's object and the move's, turned. -/
def U2 (L:List Tok) (Hp:List AObj) (o om i:Nat) (x:AObj):List AObj:=(Hp.set o (pmO L i)).set om x
theorem U2_len {L:List Tok} {Hp:List AObj} {o om i:Nat} {x:AObj}:(U2 L Hp o om i x).length=Hp.length:=by simp [U2]
theorem Et {L:List Tok} {Hp:List AObj} {o om i:Nat} {x z:AObj} (hm:Hp[om]? = some z):(U2 L Hp o om i x)[om]? = some x:=gB hm
theorem Ck {L:List Tok} {Hp:List AObj} {o om i:Nat} {x z:AObj} (ho:Hp[o]? = some z) (hne:om≠o):(U2 L Hp o om i x)[o]? = some (pmO L i):=gA ho hne
theorem Dm {L:List Tok} {Hp:List AObj} {o om i j:Nat} {x:AObj} (hne:om≠o):(U2 L Hp o om i x).set o (pmO L j)=U2 L Hp o om j x:=ACl hne
theorem U2_setm {L:List Tok} {Hp:List AObj} {o om i:Nat} {x y:AObj}:(U2 L Hp o om i x).set om y=U2 L Hp o om i y:=Bc ..
theorem Vs {L:List Tok} {Hp:List AObj} {o om i:Nat} {x:AObj} (ho:Hp[o]? = some (pmO L i)) (hm:Hp[om]? = some x):U2 L Hp o om i x=Hp:=by unfold U2;rw [E8 ho,E8 hm]
theorem wu {L:List Tok} {Hp:List AObj} {o om i:Nat} {x:AObj} (hne:om≠o) (hm:Hp[om]? = some x):Hp.set o (pmO L i)=U2 L Hp o om i x:=(E8 (by rw [Gj (Ne.symm hne)];exact hm)).symm
theorem I0 {L:List Tok} {Hp:List AObj} {o om i q:Nat} {x:AObj} (h1:q≠o) (h2:q≠om):(U2 L Hp o om i x)[q]? = Hp[q]? := by unfold U2;rw [Gj (Ne.symm h2),Gj (Ne.symm h1)]
def W2 (L:List Tok) (o om:Nat) (Hp H':List AObj):Prop:=∃j m,H'=U2 L Hp o om j (mvO m)
theorem Nt {n k:Nat} {o:Bool} {l:List Expr} {x:Expr}:Low n (.slice o k (l.map Aj++[.agg (E3 x)])):=by
 rw [show AV.agg (E3 x)=Aj x from (Ad x).symm];exact wn
theorem Dc {n:Nat} {m:Mov}:ObjLow n (mvO m):=by
 show ∀y∈mvC m,Low n y
 intro y hy
 simp only [mvC,C9,Hc,or_false] at hy
 rcases hy with rfl|rfl|rfl|rfl|rfl
 all_goals first|exact H4|simp [or_imp,forall_and]
theorem ACo {L:List Tok} {Hp:List AObj} {o om i:Nat} {m:Mov} {c:Col} {x:AObj}:(U2 L Hp o om i x).set om (.cells 47 [A7 m.kind,.slice true 1 (m.take.map Ac),.slice true 2 (m.give.map Hz++[Hz c]),.slice true 6 (m.ahead.map Aj),.slice true 6 (m.back.map Aj)])=U2 L Hp o om i (mvO (Ek m c)):=by
 rw [U2_setm];simp only [mvO,mvC,Ek,Cu,Bs,Gu]
theorem ACp {L:List Tok} {Hp:List AObj} {o om i:Nat} {m:Mov} {e:Expr} {x:AObj}:(U2 L Hp o om i x).set om (.cells 47 [A7 m.kind,.slice true 1 (m.take.map Ac),.slice true 2 (m.give.map Hz),.slice true 6 (m.ahead.map Aj++[.agg (E3 e)]),.slice true 6 (m.back.map Aj)])=U2 L Hp o om i (mvO (Ml m e)):=by
 rw [U2_setm,show AV.agg (E3 e)=Aj e from (Ad e).symm];simp only [mvO,mvC,Ml,Cu,Bs,Gu]
theorem ACq {L:List Tok} {Hp:List AObj} {o om i:Nat} {m:Mov} {e:Expr} {x:AObj}:(U2 L Hp o om i x).set om (.cells 47 [A7 m.kind,.slice true 1 (m.take.map Ac),.slice true 2 (m.give.map Hz),.slice true 6 (m.ahead.map Aj),.slice true 6 (m.back.map Aj++[.agg (E3 e)])])=U2 L Hp o om i (mvO (M0 m e)):=by
 rw [U2_setm,show AV.agg (E3 e)=Aj e from (Ad e).symm];simp only [mvO,mvC,M0,Cu,Bs,Gu]
theorem ACr {L:List Tok} {Hp:List AObj} {o om i:Nat} {m:Mov} {s:Str} {x:AObj}:(U2 L Hp o om i x).set om (.cells 47 [A7 m.kind,.slice true 1 (m.take.map Ac++[Ac s]),.slice true 2 (m.give.map Hz),.slice true 6 (m.ahead.map Aj),.slice true 6 (m.back.map Aj)])=U2 L Hp o om i (mvO (Tg m s)):=by
 rw [U2_setm];simp only [mvO,mvC,Tg,Cu,Bs,Gu]

theorem wv (L:List Tok) (m:Mov) (i o om:Nat) (Hp:List AObj) (hne:om≠o) (ho:Hp[o]? = some (pmO L i)) (hm:Hp[om]? = some (mvO m)) (hi:i<L.length) (hl:TokEnd L) (hll:L.length≤500000) (hb:MvLe m (2*i-1)):CP 123 [.ptr o 0,.ptr om 0] Hp (Eb L m i) (fun m' j r H'=>r=Ks∧H'=U2 L Hp o om j (mvO m')) (W2 L o om Hp):=by
 have:=hb.take;have:=hb.give;have:=hb.ahead;have:=hb.back
 refine P2 [] [0,1] Tryz.func123 Tryz.ntmps123 (fun d=>?_)
 rcases hC:Jd L i with ⟨c,j⟩|⟨e,a⟩
 rotate_left
 ·refine Fe [0,0,2,6,14,0,32,96,254,511,1023,2047] [6] [.q 6 [] [],.s [10] (some 0) [] [],.s [] none [0] [],.s [] none [0] [],.s [] none [0] [],.s [] none [0] [],.s [] none [0] []] (fun _=>Hp) (fun B=>[]++bot (B 0)) Af (by kernel_rfl) rfl rfl (fun _=>rfl) ?_
  apply Y.q
  ·intro B hT hF
   refine Z85 ?_
   refine Am (h:=An hm) (hr:=?_)
   exact Z29
  case hTF=>decide
  refine Rv (own0:=[]) Tryz.call159 (fun B hB=>⟨rfl,by simp [bot,hB]⟩) ((AQv L i o _ (A8 ho) hi hl hll).bad hC) ?_ ?_
  ·rintro x U O f hU hl' ⟨rfl,j',hH⟩
   obtain ⟨rfl,rfl⟩:=Ch hU (Aa.1 ho).1 hH
   refine ⟨fun h=>Ci h (fun n=>C3),fun o h=>(by cases h),?_⟩
   exact Dx ⟨_,_,by unfold Eb;rw [hC];rfl,rfl,j',m,wu hne hm⟩
  refine Z13 ?_;exact AIq
 have hj:=Wv hl hi _ _ hC
 refine Fe [0,0,2,6,14,0,32,96,254,511,1023,2047] [4,6] [.q 4 [] [],.s [8] (some 0) [] [],.q 1 [] [1],.s [10] (some 1) [] [],.q 1 [1] [],.s [8,12] none [0,1] []] (fun B=>U2 L Hp o om (if B 1=true then j else i) (if B 0=true then .cells 47 (mvF true false true true m) else .cells 47 (mvF true true true true m))) (fun _=>[]) Af (by kernel_rfl) (Vs ho hm) rfl (fun B=>U2_len) ?_
 apply Y.q
 ·intro B hT hF
  exact nq
 case hTF=>decide
 refine O7 (o:=om) (t':=47) (cs:=(mvF true true true true m)) (cs':=(mvF true false true true m)) Tryz.isAgg40 (fun B hB=>⟨by simp only [hB];exact Et hm,U2_setm.symm,rfl⟩) ?_
 apply Y.q
 ·intro B hT hF
  exact Z29
 case hTF=>decide
 refine Jk (r:=Hz c) (o:=o) (x0:=pmO L i) (x:=pmO L j) Tryz.call159 (fun B hB1 hB2 hB=>⟨by simp only [hB];exact Ck ho hne,(Dm hne).symm,rfl,C3,?_⟩) ?_
 ·simp only [hB]
  exact (AQv L i o _ (A8 (Ck ho hne)) hi hl hll).ok hC
 apply Y.q
 ·intro B hT hF
  exact Z28
 case hTF=>decide
 refine Y.append jU Tryz.type64 ?_ ?_ ?_
 ·simp [Tryz.t64];omega
 ·simp [Tryz.t64];omega
 refine Dj (tn:=[4,6]) (U:=U2 L Hp o om j (.cells 47 (mvF true false true true m))) ?_;refine Z0 ?_
 refine Iy jS (Et hm) ?_ ?_
 ·simp [or_imp,forall_and]
 refine A2 [0,1] ?_;refine Ns (ACo (m:=m) (c:=c)) ?_
 rcases hW:Cm L [61] j with ⟨u,j2⟩|⟨e,a⟩
 rotate_left
 ·refine Jm ?_
  refine Cg (A3 (Dt ?_))
  refine Fs Tryz.call92 ((c92 L [61] j o _ (A8 (Ck ho hne)) hj.2 hll).bad hW) ?_
  rintro x U O hU hl' ⟨rfl,j',hH⟩
  obtain ⟨rfl,rfl⟩:=Ch hU (Aa.1 (Ck (L:=L) (i:=j) (x:=mvO (Ek m c)) ho hne)).1 hH
  refine ⟨fun h=>Ci h (fun n=>C3),fun o h=>(by cases h),?_⟩
  refine Jn ?_;exact Dx ⟨_,_,by unfold Eb;rw [hC];show (Cm L [61] j).bind _=_;rw [hW];rfl,rfl,j',Ek m c,Dm hne⟩
 have hj2:=El hl hj.2 _ _ hW
 refine Z2 ?_;refine B4 (x:=pmO L j2) Tryz.call92 (Ck ho hne) (by simp) C3 ((c92 L [61] j o _ (A8 (Ck ho hne)) hj.2 hll).ok hW) ?_
 rw [Dm hne]
 refine A2 [0,1] ?_
 rcases hT:K0 L j2 with ⟨x,k⟩|⟨e,a⟩
 rotate_left
 ·refine Me [0,1,3,7,0,16,15,0,255,511,1023,511,2559,6655] [5] [.q 5 [] [],.s [22] (some 0) [] [],.q 2 [] [],.s [] none [0] [],.s [] none [0] [],.s [] none [0] [],.s [] none [0] [],.s [] none [0] [],.s [] none [0] []] (fun _=>U2 L Hp o om j2 (mvO (Ek m c))) (fun B=>[]++bot (B 0)) Af (by kernel_rfl) rfl rfl (fun _=>rfl) ?_
  apply Y.q
  ·intro B hT hF
   refine Z19 ?_
   refine Am (h:=An (Et hm)) (hr:=?_)
   exact Z29
  case hTF=>decide
  refine Rv (own0:=[]) Tryz.call160 (fun B hB=>⟨rfl,by simp [bot,hB]⟩) ((AGs L j2 o _ (A8 (Ck ho hne)) hj2.2 hl hll).bad hT) ?_ ?_
  ·rintro x U O f hU hl' ⟨rfl,j',hH⟩
   obtain ⟨rfl,rfl⟩:=Ch hU (Aa.1 (Ck (L:=L) (i:=j2) (x:=mvO (Ek m c)) ho hne)).1 hH
   refine ⟨fun h=>Ci h (fun n=>C3),fun o h=>(by cases h),?_⟩
   exact Dx ⟨_,_,by unfold Eb;rw [hC];show (Cm L [61] j).bind _=_;rw [hW];show (K0 L j2).bind _=_;rw [hT];rfl,rfl,j',Ek m c,Dm hne⟩
  apply Y.q
  ·intro B hT hF
   exact l8
  case hTF=>decide
  refine Z13 ?_;exact AIn
 have hk:=Li hl hll hj2.2 hT
 refine W.drawT0 [0,1,3,7,0,16,15,0,255,511,1023,511,2559,6655] [3,5] [.q 3 [] [0],.s [20] (some 0) [] [],.q 1 [] [1],.s [22] (some 1) [] [],.q 2 [] []] (fun B=>U2 L Hp o om (if B 1=true then k else j2) (if B 0=true then .cells 47 (mvF true true false true (Ek m c)) else .cells 47 (mvF true true true true (Ek m c)))) (fun _=>[]) Af (by kernel_rfl) rfl rfl (fun B=>by rw [U2_len];exact U2_len.symm) ?_
 apply Y.q
 ·intro B hT hF
  exact AMh
 case hTF=>decide
 refine O7 (o:=om) (t':=47) (cs:=(mvF true true true true (Ek m c))) (cs':=(mvF true true false true (Ek m c))) Tryz.isAgg45 (fun B hB=>⟨by simp only [hB];exact Et hm,U2_setm.symm,rfl⟩) ?_
 apply Y.q
 ·intro B hT hF
  exact Z29
 case hTF=>decide
 refine Jk (r:=Aj x) (o:=o) (x0:=pmO L j2) (x:=pmO L k) Tryz.call160 (fun B hB1 hB2 hB=>⟨by simp only [hB];exact Ck ho hne,(Dm hne).symm,rfl,C3,?_⟩) ?_
 ·simp only [hB]
  exact (AGs L j2 o _ (A8 (Ck ho hne)) hj2.2 hl hll).ok hT
 apply Y.q
 ·intro B hT hF
  exact l8
 case hTF=>decide
 refine ub (tn:=[3,5]) (U:=U2 L Hp o om k (.cells 47 (mvF true true false true (Ek m c)))) (O:=[]) (o:=om) (t':=47) (cs:=(mvF true true false true (Ek m c))) (by kernel_rfl) jU Tryz.type69 Tryz.sizeOf69 Tryz.sizeOf45 jU (A8 (Et hm)) ?_ ?_ ?_ (hfsz:=Tryz.sizeOf45)
 ·simp [Tryz.t69,Ek];omega
 ·simp [Tryz.t69,Ek];omega
 refine Z0 ?_
 refine Iy jS (Et hm) ?_ ?_
 ·exact Nt
 refine Nf ?_;exact Kc .nores (hp:=⟨Ml (Ek m c) x,k,by unfold Eb;rw [hC];show (Cm L [61] j).bind _=_;rw [hW];show (K0 L j2).bind _=_;rw [hT];rfl,rfl,by exact ACp (m:=Ek m c)⟩)

/-- What is asked of a part of a move that is a closure. -/
def zm (L:List Tok) (o om g:Nat) (caps:List AV) (Hp:List AObj) (one:Mov→Nat→PR Mov):Prop:=
 ∀m i,MvLe m (2*i-1)→0<i→i<L.length→CP g caps (U2 L Hp o om i (mvO m)) (one m i) (fun m' j r H'=>r=Ks∧H'=U2 L Hp o om j (mvO m')) (W2 L o om Hp)
theorem M2 {L:List Tok} {Hp:List AObj} {o om i j:Nat} {x y:AObj} (hne:om≠o):U2 L (U2 L Hp o om i x) o om j y=U2 L Hp o om j y:=by
 unfold U2
 rw [ACl hne,Bc]
theorem AGt {L:List Tok} {Hp H':List AObj} {o om i:Nat} {x:AObj} (hne:om≠o) (h:W2 L o om (U2 L Hp o om i x) H'):W2 L o om Hp H':=by
 obtain ⟨j,m,e⟩:=h
 exact ⟨j,m,by rw [e,M2 hne]⟩
theorem AT4 (L:List Tok) (m:Mov) (i o om bp bm:Nat) (Hp:List AObj) (hne:om≠o) (ho:Hp[o]? = some (pmO L i)) (hm:Hp[om]? = some (mvO m)) (hbp:Hp[bp]? = some (.cells 51 [.ptr o 0])) (hbm:Hp[bm]? = some (.cells 102 [.ptr om 0])) (hi:i<L.length) (hl:TokEnd L) (hll:L.length≤500000) (hb:MvLe m (2*i-1)):CP 161 [.ptr bm 0,.ptr bp 0] Hp (Nm L m i) (fun m' j r H'=>r=Ks∧H'=U2 L Hp o om j (mvO m')) (W2 L o om Hp):=by
 have n1:bp≠o:=fun e=>by rw [e,ho] at hbp;simp at hbp
 have n2:bp≠om:=fun e=>by rw [e,hm] at hbp;simp at hbp
 have n3:bm≠o:=fun e=>by rw [e,ho] at hbm;simp at hbm
 have n4:bm≠om:=fun e=>by rw [e,hm] at hbm;simp at hbm
 have:=hb.take;have:=hb.give;have:=hb.ahead;have:=hb.back
 refine P2 [] [0,1] Tryz.func161 Tryz.ntmps161 (fun d=>?_)
 refine W.flip Af (by kernel_rfl) Tryz.zeroValue4 Tryz.sizeOf4 Tryz.isAgg4 (fun fb=>?_)
 refine To [0,1,3] (by simp only [go_sem,↓reduceIte,Nat.reduceEqDiff,Nat.reduceAdd]<;>rfl) ?_
 refine A6 (fun ht3=>?_) (fun ht3=>?_)
 ·rcases hT:K0 L i with ⟨x,k⟩|⟨e,a⟩
  rotate_left
  ·refine Fe [0,1,3,7,0,16,15,0,255,511,1023,2047] [5] [.q 5 [] [],.s [9] (some 0) [] [],.q 2 [] [],.s [] none [0] [],.s [] none [0] [],.s [] none [0] [],.s [] none [0] []] (fun _=>Hp) (fun B=>[.cells 4 [.v (.bool fb)]]++bot (B 0)) Af (by kernel_rfl) rfl rfl (fun _=>rfl) ?_
   apply Y.q
   ·intro B hT hF
    refine Am (h:=An hbm) (hr:=?_)
    refine Z5 ?_
    refine Am (h:=An hm) (hr:=?_)
    refine Am (h:=An hbp) (hr:=?_)
    exact Tu
   case hTF=>decide
   refine Rv (own0:=[.cells 4 [.v (.bool fb)]]) Tryz.call160 (fun B hB=>⟨rfl,by simp [bot,hB]⟩) ((AGs L i o _ (A8 ho) hi hl hll).bad hT) ?_ ?_
   ·rintro x U O f hU hl' ⟨rfl,j',hH⟩
    obtain ⟨rfl,rfl⟩:=Ch hU (Aa.1 ho).1 hH
    refine ⟨fun h=>Ci h (fun n=>C3),fun o h=>(by cases h),?_⟩
    exact APw
   apply Y.q
   ·intro B hT hF
    exact l8
   case hTF=>decide
   exact AIn
  have hk:=Li hl hll hi hT
  refine W.drawZ0 [0,1,3,7,0,16,15,0,255,511,1023,2047] [3,5] [.q 3 [] [0],.s [7] (some 0) [] [],.q 1 [] [1],.s [9] (some 1) [] [],.q 2 [] []] (fun B=>U2 L Hp o om (if B 1=true then k else i) (if B 0=true then .cells 47 (mvF true true true false m) else .cells 47 (mvF true true true true m))) (fun _=>[.cells 4 [.v (.bool fb)]]) Af (by kernel_rfl) (Vs ho hm) rfl (fun B=>U2_len) ?_
  apply Y.q
  ·intro B hT hF
   refine Am (h:=An ((I0 n3 n4).trans hbm)) (hr:=?_)
   exact Z38
  case hTF=>decide
  refine O7 (o:=om) (t':=47) (cs:=(mvF true true true true m)) (cs':=(mvF true true true false m)) Tryz.isAgg45 (fun B hB=>⟨by simp only [hB];exact Et hm,U2_setm.symm,rfl⟩) ?_
  apply Y.q
  ·intro B hT hF
   refine Am (h:=An ((I0 n1 n2).trans hbp)) (hr:=?_)
   exact Tu
  case hTF=>decide
  refine Jk (r:=Aj x) (o:=o) (x0:=pmO L i) (x:=pmO L k) Tryz.call160 (fun B hB1 hB2 hB=>⟨by simp only [hB];exact Ck ho hne,(Dm hne).symm,rfl,C3,?_⟩) ?_
  ·simp only [hB]
   exact APx
  apply Y.q
  ·intro B hT hF
   exact l8
  case hTF=>decide
  refine Y.put2 (tn:=[3,5]) (U:=U2 L Hp o om k (.cells 47 (mvF true true true false m))) (O:=[.cells 4 [.v (.bool fb)]]) (o:=om) (t':=47) (cs:=(mvF true true true false m)) jU Tryz.type69 Tryz.sizeOf69 Tryz.sizeOf45 jU (A8 (Et hm)) ?_ ?_ ?_ (hfsz:=Tryz.sizeOf45)
  ·simp [Tryz.t69];omega
  ·simp [Tryz.t69];omega
  refine Z0 ?_
  refine Iy jS (Et hm) ?_ ?_
  ·exact Nt
  exact AOe
 rcases hT:K0 L i with ⟨x,k⟩|⟨e,a⟩
 rotate_left
 ·refine Me [0,0,2,6,14,0,32,96,254,511,1023,2047] [6] [.q 6 [] [],.s [22] (some 0) [] [],.s [] none [0] [],.s [] none [0] [],.s [] none [0] [],.s [] none [0] [],.s [] none [0] []] (fun _=>Hp) (fun B=>[.cells 4 [.v (.bool fb)]]++bot (B 0)) Af (by kernel_rfl) rfl rfl (fun _=>rfl) ?_
  apply Y.q
  ·intro B hT hF
   refine Am (h:=An hbm) (hr:=?_)
   refine Am (h:=An hbm) (hr:=?_)
   refine Z5 ?_
   refine Am (h:=An hm) (hr:=?_)
   refine Am (h:=An hbp) (hr:=?_)
   exact Tu
  case hTF=>decide
  refine Rv (own0:=[.cells 4 [.v (.bool fb)]]) Tryz.call160 (fun B hB=>⟨rfl,by simp [bot,hB]⟩) ((AGs L i o _ (A8 ho) hi hl hll).bad hT) ?_ ?_
  ·rintro x U O f hU hl' ⟨rfl,j',hH⟩
   obtain ⟨rfl,rfl⟩:=Ch hU (Aa.1 ho).1 hH
   refine ⟨fun h=>Ci h (fun n=>C3),fun o h=>(by cases h),?_⟩
   exact APw
  refine Z13 ?_;exact AIq
 have hk:=Li hl hll hi hT
 refine Me [0,0,2,6,14,0,32,96,254,511,1023,2047] [4,6] [.q 4 [] [],.s [20] (some 0) [] [],.q 1 [] [1],.s [22] (some 1) [] [],.q 1 [1] [],.s [20,24] none [0,1] []] (fun B=>U2 L Hp o om (if B 1=true then k else i) (if B 0=true then .cells 47 (mvF true true true false m) else .cells 47 (mvF true true true true m))) (fun _=>[.cells 4 [.v (.bool fb)]]) Af (by kernel_rfl) (Vs ho hm) rfl (fun B=>U2_len) ?_
 apply Y.q
 ·intro B hT hF
  refine Am (h:=An ((I0 n3 n4).trans hbm)) (hr:=?_)
  refine Am (h:=An ((I0 n3 n4).trans hbm)) (hr:=?_)
  exact Z38
 case hTF=>decide
 refine O7 (o:=om) (t':=47) (cs:=(mvF true true true true m)) (cs':=(mvF true true true false m)) Tryz.isAgg45 (fun B hB=>⟨by simp only [hB];exact Et hm,U2_setm.symm,rfl⟩) ?_
 apply Y.q
 ·intro B hT hF
  refine Am (h:=An ((I0 n1 n2).trans hbp)) (hr:=?_)
  exact Tu
 case hTF=>decide
 refine Jk (r:=Aj x) (o:=o) (x0:=pmO L i) (x:=pmO L k) Tryz.call160 (fun B hB1 hB2 hB=>⟨by simp only [hB];exact Ck ho hne,(Dm hne).symm,rfl,C3,?_⟩) ?_
 ·simp only [hB]
  exact APx
 apply Y.q
 ·intro B hT hF
  exact Z28
 case hTF=>decide
 refine Y.append jU Tryz.type69 ?_ ?_ ?_
 ·simp [Tryz.t69];omega
 ·simp [Tryz.t69];omega
 refine Dj (tn:=[4,6]) (U:=U2 L Hp o om k (.cells 47 (mvF true true true false m))) ?_;refine Z0 ?_
 refine Iy jS (Et hm) ?_ ?_
 ·exact Nt
 exact AOe

theorem Eu {L:List Tok} {Hp:List AObj} {o om i j n:Nat} {x y:AObj} (hne:om≠o) (hy:ObjLow n y) (h:∀z∈U2 L Hp o om i x,ObjLow n z):∀z∈U2 L Hp o om j y,ObjLow n z:=by
 intro z hz
 rw [show U2 L Hp o om j y=((U2 L Hp o om i x).set o (pmO L j)).set om y by rw [Dm hne,U2_setm]] at hz
 rcases K8 hz with hz|rfl
 ·rcases K8 hz with hz|rfl
  ·exact h z hz
  exact C3
 exact hy
theorem Ft {L:List Tok} {Hp own:List AObj} {o om i:Nat} {x:AObj} (h1:o<Hp.length) (h2:om<Hp.length):U2 L (Hp++own) o om i x=U2 L Hp o om i x++own:=by
 unfold U2
 rw [Ir _ _ h1,Ir _ _ (by simpa using h2)]
theorem Hr {L:List Tok} {Hp own U O:List AObj} {o om i:Nat} {x:AObj} (hne:om≠o) (h1:o<Hp.length) (h2:om<Hp.length) (hU:U.length=(U2 L Hp o om i x).length) (h:W2 L o om (U2 L Hp o om i x++own) (U++O)):W2 L o om Hp U∧own=O:=by
 obtain ⟨j,m,e⟩:=h
 rw [Ft (by rw [U2_len];exact h1) (by rw [U2_len];exact h2),M2 hne] at e
 obtain ⟨rfl,rfl⟩:=Mx (by rw [hU,U2_len,U2_len]) e
 exact ⟨⟨j,m,rfl⟩,rfl⟩
/-- Where the loop of things with commas between stands. -/
structure ListAt (L:List Tok) (n:Int) (one:Mov→Nat→PR Mov) (X:PR Mov) (x:Nat×Mov×Nat):Prop where
 lt:x.2.2<L.length
 pos:0<x.2.2
 le:MvLe x.2.1 (2*x.2.2)
 k:x.1≤x.2.2
 fuel:∃f,X=Ip L n one f x.1 x.2.1 x.2.2∧L.length-x.2.2<f
theorem ListAt.step {L:List Tok} {n:Int} {one:Mov→Nat→PR Mov} {X:PR Mov} {x:Nat×Mov×Nat} (h:ListAt L n one X x) (hq:Kr L n x.1 x.2.2=true):∃f,X=((Cm L [44] x.2.2).bind fun _ j=>(one x.2.1 j).bind fun m j=>Ip L n one f (x.1+1) m j)∧L.length-x.2.2<f+1:=by
 obtain ⟨f,e,hf⟩:=h.fuel
 obtain ⟨f,rfl⟩:∃g,f=g+1:=⟨f-1,by omega⟩
 refine ⟨f,?_,hf⟩
 rw [e,Ip,if_pos hq]
theorem ListAt.on {L:List Tok} (hl:TokEnd L) {n:Int} {one:Mov→Nat→PR Mov} (hP:ey L one) {X:PR Mov} {x:Nat×Mov×Nat} (h:ListAt L n one X x) (hq:Kr L n x.1 x.2.2=true) {u:Unit} {j:Nat} (hW:Cm L [44] x.2.2=.ok u j) {m2:Mov} {j2:Nat} (hO:one x.2.1 j=.ok m2 j2):ListAt L n one X (x.1+1,m2,j2)∧x.2.2<j2:=by
 obtain ⟨f,e,hf⟩:=h.step hq
 have h1:=El hl h.lt _ _ hW
 have hj:j=x.2.2+1:=by
  unfold Cm at hW
  split at hW
  ·injection hW with _ h;exact h.symm
  cases hW
 obtain ⟨a1,a2,a3⟩:=hP x.2.1 j (h.le.mono (by omega)) (by omega) h1.2 _ _ hO
 have:=h.k
 refine ⟨⟨a2,by show 0<j2;omega,a3,by show x.1+1≤j2;omega,f,?_,by show L.length-j2<f;omega⟩,by omega⟩
 rw [e,hW]
 show (one x.2.1 j).bind _=_
 rw [hO];rfl
theorem ListAt.bad1 {L:List Tok} {n:Int} {one:Mov→Nat→PR Mov} {X:PR Mov} {x:Nat×Mov×Nat} (h:ListAt L n one X x) (hq:Kr L n x.1 x.2.2=true) {e a:Int} (hW:Cm L [44] x.2.2=.bad e a):X=.bad e a:=by
 obtain ⟨f,e,_⟩:=h.step hq
 rw [e,hW];rfl
theorem ListAt.bad2 {L:List Tok} {n:Int} {one:Mov→Nat→PR Mov} {X:PR Mov} {x:Nat×Mov×Nat} (h:ListAt L n one X x) (hq:Kr L n x.1 x.2.2=true) {u:Unit} {j:Nat} (hW:Cm L [44] x.2.2=.ok u j) {e a:Int} (hO:one x.2.1 j=.bad e a):X=.bad e a:=by
 obtain ⟨f,e,_⟩:=h.step hq
 rw [e,hW]
 show (one x.2.1 j).bind _=_
 rw [hO];rfl
theorem ListAt.out {L:List Tok} {n:Int} {one:Mov→Nat→PR Mov} {X:PR Mov} {x:Nat×Mov×Nat} (h:ListAt L n one X x) (hq:Kr L n x.1 x.2.2=false):X=.ok x.2.1 x.2.2:=by
 obtain ⟨f,e,hf⟩:=h.fuel
 obtain ⟨f,rfl⟩:∃g,f=g+1:=⟨f-1,by omega⟩
 rw [e,Ip,if_neg (by rw [hq];simp)]
theorem AT5 (L:List Tok) (m:Mov) (i o om bp bm:Nat) (Hp:List AObj) (hne:om≠o) (ho:Hp[o]? = some (pmO L i)) (hm:Hp[om]? = some (mvO m)) (hbp:Hp[bp]? = some (.cells 51 [.ptr o 0])) (hbm:Hp[bm]? = some (.cells 102 [.ptr om 0])) (hi:i<L.length) (hl:TokEnd L) (hll:L.length≤500000) (hb:MvLe m (2*i-1)):CP 129 [.ptr bm 0,.ptr bp 0] Hp (Nn L m i) (fun m' j r H'=>r=Ks∧H'=U2 L Hp o om j (mvO m')) (W2 L o om Hp):=by
 have n1:bp≠o:=fun e=>by rw [e,ho] at hbp;simp at hbp
 have n2:bp≠om:=fun e=>by rw [e,hm] at hbp;simp at hbp
 have n3:bm≠o:=fun e=>by rw [e,ho] at hbm;simp at hbm
 have n4:bm≠om:=fun e=>by rw [e,hm] at hbm;simp at hbm
 have:=hb.take;have:=hb.give;have:=hb.ahead;have:=hb.back
 refine P2 [] [0,1] Tryz.func129 Tryz.ntmps129 (fun d=>?_)
 rcases hT:Fh L i with ⟨s,k⟩|⟨e,a⟩
 rotate_left
 ·refine Me [0,0,2,6,14,0,32,96,254,511,1023,2047] [6] [.q 6 [] [],.s [8] (some 0) [] [],.s [] none [0] [],.s [] none [0] [],.s [] none [0] [],.s [] none [0] [],.s [] none [0] []] (fun _=>Hp) (fun B=>[]++bot (B 0)) Af (by kernel_rfl) rfl rfl (fun _=>rfl) ?_
  apply Y.q
  ·intro B hT hF
   refine Am (h:=An hbm) (hr:=?_)
   refine Am (h:=An hbm) (hr:=?_)
   refine Z5 ?_
   refine Am (h:=An hm) (hr:=?_)
   refine Am (h:=An hbp) (hr:=?_)
   exact Tu
  case hTF=>decide
  refine Rv (own0:=[]) Tryz.call124 (fun B hB=>⟨rfl,by simp [bot,hB]⟩) ((Yc L i o _ (A8 ho) hi hll).bad hT) ?_ ?_
  ·rintro x U O f hU hl' ⟨rfl,j',hH⟩
   obtain ⟨rfl,rfl⟩:=Ch hU (Aa.1 ho).1 hH
   refine ⟨fun h=>Ci h (fun n=>C3),fun o h=>(by cases h),?_⟩
   exact Dx ⟨_,_,by unfold Nn;rw [hT];rfl,rfl,j',m,wu hne hm⟩
  refine Z13 ?_;exact AIq
 have hk:=Gx hl hi _ _ hT
 refine Me [0,0,2,6,14,0,32,96,254,511,1023,2047] [4,6] [.q 4 [] [],.s [6] (some 0) [] [],.q 1 [] [1],.s [8] (some 1) [] [],.q 1 [1] [],.s [6,10] none [0,1] []] (fun B=>U2 L Hp o om (if B 1=true then k else i) (if B 0=true then .cells 47 (mvF false true true true m) else .cells 47 (mvF true true true true m))) (fun _=>[]) Af (by kernel_rfl) (Vs ho hm) rfl (fun B=>U2_len) ?_
 apply Y.q
 ·intro B hT hF
  refine Am (h:=An ((I0 n3 n4).trans hbm)) (hr:=?_)
  refine Am (h:=An ((I0 n3 n4).trans hbm)) (hr:=?_)
  exact Z38
 case hTF=>decide
 refine O7 (o:=om) (t':=47) (cs:=(mvF true true true true m)) (cs':=(mvF false true true true m)) Tryz.isAgg29 (fun B hB=>⟨by simp only [hB];exact Et hm,U2_setm.symm,rfl⟩) ?_
 apply Y.q
 ·intro B hT hF
  refine Am (h:=An ((I0 n1 n2).trans hbp)) (hr:=?_)
  exact Tu
 case hTF=>decide
 refine Jk (r:=Ac s) (o:=o) (x0:=pmO L i) (x:=pmO L k) Tryz.call124 (fun B hB1 hB2 hB=>⟨by simp only [hB];exact Ck ho hne,(Dm hne).symm,rfl,C3,?_⟩) ?_
 ·simp only [hB]
  exact (Yc L i o _ (A8 (Ck ho hne)) hi hll).ok hT
 apply Y.q
 ·intro B hT hF
  exact Z28
 case hTF=>decide
 refine Y.append jU Tryz.type9 ?_ ?_ ?_
 ·simp [Tryz.t9];omega
 ·simp [Tryz.t9];omega
 refine Dj (tn:=[4,6]) (U:=U2 L Hp o om k (.cells 47 (mvF false true true true m))) ?_;refine Z0 ?_
 refine Iy jS (Et hm) ?_ ?_
 ·simp [or_imp,forall_and]
 refine Nf ?_;exact Kc .nores (hp:=⟨Tg m s,k,by unfold Nn;rw [hT];rfl,rfl,by exact ACr⟩)

theorem AT6 (L:List Tok) (m:Mov) (i o om bp bm:Nat) (Hp:List AObj) (hne:om≠o) (ho:Hp[o]? = some (pmO L i)) (hm:Hp[om]? = some (mvO m)) (hbp:Hp[bp]? = some (.cells 51 [.ptr o 0])) (hbm:Hp[bm]? = some (.cells 102 [.ptr om 0])) (hi:i<L.length) (hl:TokEnd L) (hll:L.length≤500000) (hb:MvLe m (2*i-1)):CP 128 [.ptr bp 0,.ptr bm 0] Hp (Eb L m i) (fun m' j r H'=>r=Ks∧H'=U2 L Hp o om j (mvO m')) (W2 L o om Hp):=by
 have hol:=(Aa.1 ho).1
 have hml:=(Aa.1 hm).1
 have n1:bp≠o:=fun e=>by rw [e,ho] at hbp;simp at hbp
 have n2:bp≠om:=fun e=>by rw [e,hm] at hbp;simp at hbp
 have n3:bm≠o:=fun e=>by rw [e,ho] at hbm;simp at hbm
 have n4:bm≠om:=fun e=>by rw [e,hm] at hbm;simp at hbm
 have:=hb.take;have:=hb.give;have:=hb.ahead;have:=hb.back
 refine P2 [] [0,1] Tryz.func128 Tryz.ntmps128 (fun d=>?_)
 refine AEs ?_
 rcases hT:Eb L m i with ⟨m2,k⟩|⟨e,a⟩
 rotate_left
 ·refine Kb ?_
  refine Cg (A3 (h:=An ((I0 n1 n2).trans hbp)) (hr:=Dt ?_))
  refine Cg (A3 (h:=An ((I0 n3 n4).trans hbm)) (hr:=Dt ?_))
  refine Fs Tryz.call123 ((wv L m i o om _ hne (A8 (Ck ho hne)) (A8 (Et hm)) hi hl hll hb).bad hT) ?_
  rintro x U O hU hl' ⟨rfl,hW2⟩
  obtain ⟨⟨j',m',rfl⟩,rfl⟩:=Hr hne hol hml hU hW2
  refine ⟨fun h=>Eu hne Dc h,fun o h=>(by cases h),?_⟩
  exact Dx ⟨_,_,rfl,rfl,j',m',rfl⟩
 refine Ky ?_
 refine A3 (h:=An ((I0 n1 n2).trans hbp)) (hr:=?_)
 refine A3 (h:=An ((I0 n3 n4).trans hbm)) (hr:=?_)
 refine Gm (up':=U2 L Hp o om k (mvO m2)) (own':=[]) Tryz.call123 (((wv L m i o om _ hne (A8 (Ck ho hne)) (A8 (Et hm)) hi hl hll hb).ok hT).mono (fun r H' e=>⟨e.1,e.2.trans (by rw [Ep,Ep,M2 hne])⟩)) (by rw [U2_len,U2_len]) (fun h=>Eu hne Dc h) ?_;refine Nf ?_;exact Kc .nores (hp:=⟨m2,k,rfl,rfl,rfl⟩)

theorem c127 (L:List Tok) (n:Int) (m:Mov) (i o om g:Nat) (caps:List AV) (one:Mov→Nat→PR Mov) (Hp:List AObj) (hne:om≠o) (ho:Hp[o]? = some (pmO L i)) (hm:Hp[om]? = some (mvO m)) (h0:0<i) (hi:i<L.length) (hl:TokEnd L) (hll:L.length≤500000) (hb:MvLe m (2*i-1)) (hcall:∀args w,(callFunc g args).run Tryz.prog w=.ok (.enter g args) w) (hC:zm L o om g caps Hp one) (hP:ey L one):CP 127 [.ptr o 0,A7 n,.fn (.func g) [] caps] Hp (Gq L n one m i) (fun m' j r H'=>r=Ks∧H'=U2 L Hp o om j (mvO m')) (W2 L o om Hp):=by
 have hol:=(Aa.1 ho).1
 have hml:=(Aa.1 hm).1
 refine P2 [] [0,1,2] Tryz.func127 Tryz.ntmps127 (fun d=>?_)
 refine AEs ?_
 rcases h1:one m i with ⟨m1,j1⟩|⟨e,a⟩
 rotate_left
 ·refine Jm ?_
  refine Cg (A3 (Dt ?_))
  refine Fs hcall (by rw [Ep];exact (hC m i hb h0 hi).bad h1) ?_
  rintro z U O hU hl' ⟨rfl,j',m',hH⟩
  obtain ⟨rfl,rfl⟩:=Mx (A:=U2 L Hp o om j' (mvO m')) (B:=[]) (by rw [hU,U2_len,U2_len]) (hH.trans (Ep _).symm)
  refine ⟨fun h=>Eu hne Dc h,fun o h=>(by cases h),?_⟩
  refine Jn ?_;exact Dx ⟨_,_,by unfold Gq;rw [h1];rfl,rfl,j',m',rfl⟩
 have g1:=hP m i hb h0 hi _ _ h1
 have e0:Gq L n one m i=Ip L n one (L.length+1) 1 m1 j1:=by unfold Gq;rw [h1];rfl
 refine Z2 ?_
 refine R.callVX (up':=U2 L Hp o om j1 (mvO m1)) (own':=[]) hcall (by rw [Ep,Ep];exact (hC m i hb h0 hi).ok h1) (by rw [U2_len,U2_len]) (fun h=>Eu hne Dc h) ?_
 refine A2 [0,1,2] ?_;refine Z2 ?_;refine A2 [0,1,2,6] ?_
 refine Bo (α:=Nat×Mov×Nat) (fun x=>⟨30,A9 0 (.ptr o 0) (A9 1 (A7 n) (A9 2 (.fn (.func g) [] caps) (A9 6 (A7 (x.1:Int)) (fun _=>.any)))),U2 L Hp o om x.2.2 (mvO x.2.1),[],[],none⟩) (fun x=>ListAt L n one (Gq L n one m i) x) (fun x=>L.length-x.2.2) ((1,m1,j1)) ⟨g1.2.1,by show 0<j1;omega,g1.2.2,by show 1≤j1;omega,_,e0,by show L.length-j1<_;omega⟩ (Gk _) rfl (fun x hx=>?_)
 refine Z9 ?_;refine Z48 ?_;refine Z6 ?_;refine Bk ?_;refine D9 Tryz.call130 (fun hB=>AQu L [44] x.2.2 o _ (A8 (Ck ho hne)) hx.lt) ?_;refine Z77 ?_;refine A2 [0,1,2,6,23] ?_
 refine A6 (fun ht23=>?_) (fun ht23=>?_)
 ·have hq:Kr L n x.1 x.2.2=true:=ht23
  refine Z56 ?_
  rcases hW:Cm L [44] x.2.2 with ⟨u,j⟩|⟨e,a⟩
  rotate_left
  ·refine Jm ?_
   refine Cg (A3 (Dt ?_))
   refine Fs Tryz.call92 ((c92 L [44] x.2.2 o _ (A8 (Ck ho hne)) hx.lt hll).bad hW) ?_
   rintro z U O hU hl' ⟨rfl,j',hH⟩
   obtain ⟨rfl,rfl⟩:=Ch hU (Aa.1 (Ck (L:=L) (i:=x.2.2) (x:=mvO x.2.1) ho hne)).1 hH
   refine ⟨fun h=>Ci h (fun n=>C3),fun o h=>(by cases h),?_⟩
   refine nu ?_;refine Jn ?_;refine K.lpP ?_;exact Dx ⟨_,_,hx.bad1 hq hW,rfl,j',x.2.1,Dm hne⟩
  have hj:=El hl hx.lt _ _ hW
  have hpos:=hx.pos
  refine Z2 ?_;refine B4 (x:=pmO L j) Tryz.call92 (Ck ho hne) (by simp) C3 ((c92 L [44] x.2.2 o _ (A8 (Ck ho hne)) hx.lt hll).ok hW) ?_
  rw [Dm hne]
  refine A2 [0,1,2,6] ?_
  rcases hO:one x.2.1 j with ⟨m2,j2⟩|⟨e,a⟩
  rotate_left
  ·refine Kb ?_
   refine Cg (A3 (Dt ?_))
   refine Fs hcall (by rw [Ep];exact (hC x.2.1 j (hx.le.mono (by omega)) (by omega) hj.2).bad hO) ?_
   rintro z U O hU hl' ⟨rfl,j',m',hH⟩
   obtain ⟨rfl,rfl⟩:=Mx (A:=U2 L Hp o om j' (mvO m')) (B:=[]) (by rw [hU,U2_len,U2_len]) (hH.trans (Ep _).symm)
   refine ⟨fun h=>Eu hne Dc h,fun o h=>(by cases h),?_⟩
   refine Nd ?_;refine Jn ?_;refine K.lpP ?_;exact Dx ⟨_,_,hx.bad2 hq hW hO,rfl,j',m',rfl⟩
  have hon:=hx.on hl hP hq hW hO
  refine Z32 ?_
  refine R.callVX (up':=U2 L Hp o om j2 (mvO m2)) (own':=[]) hcall (by rw [Ep,Ep];exact (hC x.2.1 j (hx.le.mono (by omega)) (by omega) hj.2).ok hO) (by rw [U2_len,U2_len]) (fun h=>Eu hne Dc h) ?_
  refine A2 [0,1,2,6] ?_;refine Z12 ?_;refine Z32 ?_
  refine A3 (h:=Q.add64 (h2:=fun _=>by have:=hx.k;have:=hx.lt;omega)) (hr:=?_)
  refine A3 ?_;refine A2 [0,1,2,6] ?_
  refine Be (x.1+1,m2,j2) hon.1 (by have:=hx.lt;have:=hon.2;show L.length-j2<L.length-x.2.2;omega) (Bp rfl)
 have hq:Kr L n x.1 x.2.2=false:=ht23
 have e:=hx.out hq
 refine AB8 ?_;exact Kc .nores (hp:=⟨_,_,e,rfl,rfl⟩)

theorem CP.mono {g:FuncId} {args:List AV} {H:List AObj} {α:Type} {X:PR α} {Q Q':α→Nat→AV→List AObj→Prop} {R R':List AObj→Prop} (h:CP g args H X Q R) (hQ:∀c j r H',Q c j r H'→Q' c j r H') (hR:∀H',R H'→R' H'):CP g args H X Q' R':=
 ACallP.mono h (fun r H' ⟨c,j,e,hq⟩=>⟨c,j,e,hQ _ _ _ _ hq⟩) (fun v H' ⟨e,a,e1,e2,h⟩=>⟨e,a,e1,e2,hR _ h⟩)
section
variable {L:List Tok} {o om bp bm:Nat} {X:List AObj} {z z':AObj}
theorem iv (hne:om≠o) (ho:X[o]? = some z) (hm:X[om]? = some z') (hbp:X[bp]? = some (.cells 51 [.ptr o 0])) (hbm:X[bm]? = some (.cells 102 [.ptr om 0])) (n1:bp≠o) (n2:bp≠om) (n3:bm≠o) (n4:bm≠om) (hl:TokEnd L) (hll:L.length≤500000):zm L o om 161 [.ptr bm 0,.ptr bp 0] X (Nm L):=
 fun m i hb _ hi=>(AT4 L m i o om bp bm (U2 L X o om i (mvO m)) hne (Ck ho hne) (Et hm) ((I0 n1 n2).trans hbp) ((I0 n3 n4).trans hbm) hi hl hll hb).mono (fun c j r H' e=>⟨e.1,e.2.trans (M2 hne)⟩) (fun H' h=>AGt hne h)
theorem iw (hne:om≠o) (ho:X[o]? = some z) (hm:X[om]? = some z') (hbp:X[bp]? = some (.cells 51 [.ptr o 0])) (hbm:X[bm]? = some (.cells 102 [.ptr om 0])) (n1:bp≠o) (n2:bp≠om) (n3:bm≠o) (n4:bm≠om) (hl:TokEnd L) (hll:L.length≤500000):zm L o om 129 [.ptr bm 0,.ptr bp 0] X (Nn L):=
 fun m i hb _ hi=>(AT5 L m i o om bp bm (U2 L X o om i (mvO m)) hne (Ck ho hne) (Et hm) ((I0 n1 n2).trans hbp) ((I0 n3 n4).trans hbm) hi hl hll hb).mono (fun c j r H' e=>⟨e.1,e.2.trans (M2 hne)⟩) (fun H' h=>AGt hne h)
theorem ix (hne:om≠o) (ho:X[o]? = some z) (hm:X[om]? = some z') (hbp:X[bp]? = some (.cells 51 [.ptr o 0])) (hbm:X[bm]? = some (.cells 102 [.ptr om 0])) (n1:bp≠o) (n2:bp≠om) (n3:bm≠o) (n4:bm≠om) (hl:TokEnd L) (hll:L.length≤500000):zm L o om 128 [.ptr bp 0,.ptr bm 0] X (Eb L):=
 fun m i hb _ hi=>(AT6 L m i o om bp bm (U2 L X o om i (mvO m)) hne (Ck ho hne) (Et hm) ((I0 n1 n2).trans hbp) ((I0 n3 n4).trans hbm) hi hl hll hb).mono (fun c j r H' e=>⟨e.1,e.2.trans (M2 hne)⟩) (fun H' h=>AGt hne h)
end
attribute [go_sem] U2_len
theorem Yd {L:List Tok} {Hp own:List AObj} {o om i n:Nat} {x z:AObj} (h:own[n]? = some z):(U2 L Hp o om i x++own)[oid Hp.length n]? = some z:=by
 unfold oid
 rw [List.getElem?_append_right (by rw [U2_len];omega),U2_len,Nat.add_sub_cancel_left]
 exact h
theorem Fm {n k o:Nat} (h:o<n):oid n k≠o:=by unfold oid;omega
theorem qx (L:List Tok) (m:Mov) (i o om:Nat) (Hp:List AObj) (hne:om≠o) (ho:Hp[o]? = some (pmO L i)) (hm:Hp[om]? = some (mvO m)) (hi:i<L.length) (hl:TokEnd L) (hll:L.length≤500000) (hb:MvLe m (2*i)):CP 125 [.ptr o 0,.ptr om 0] Hp (Fc L m i) (fun m' j r H'=>r=Ks∧H'=U2 L Hp o om j (mvO m')) (W2 L o om Hp):=by
 have hol:=(List.getElem?_eq_some_iff.1 ho).1
 have hml:=(List.getElem?_eq_some_iff.1 hm).1
 refine ACallP.body [] [0,1] Tryz.func125 Tryz.ntmps125 (fun d=>?_)
 refine Ei ?_;refine R.box ?_;refine R.box ?_;refine P3 ?_;refine AEs ?_
 rcases hW:Cm L backW i with ⟨u,j⟩|⟨e,a⟩
 rotate_left
 ·refine AW.seqRK ?_
  refine ARunK.one (R.go (ARun.nil ?_))
  refine RK.callBad Tryz.call92 (c92 L backW i o _ (A8 (Ck ho hne)) hi hll |>.bad hW) ?_
  rintro x U O hU hl' ⟨rfl,j',hH⟩
  obtain ⟨rfl,rfl⟩:=Ch hU (List.getElem?_eq_some_iff.1 (Ck (L:=L) (i:=i) (x:=mvO m) ho hne)).1 hH
  refine ⟨fun h=>Ci h (fun n=>C3),fun o h=>(by cases h),?_⟩
  refine K.thP ?_;exact K.finPP ⟨_,_,by unfold Fc;rw [hW];rfl,rfl,j',m,Dm hne⟩
 have hj:=El hl hi _ _ hW
 refine Z2 ?_;refine R.callUp (x:=pmO L j) Tryz.call92 (Ck ho hne) (by simp) C3 ((c92 L backW i o _ (A8 (Ck ho hne)) hi hll).ok hW) ?_
 rw [Dm hne]
 refine P3 ?_
 rcases hP:Gq L ((m.take.map Ac).length:Int) (Nm L) m j with ⟨m2,k⟩|⟨e,a⟩
 rotate_left
 ·refine W.drawY0 [0,0,2,6,14,30,0,127] [7] [.q 7 [] [],.s [13] (some 0) [] []] (fun _=>U2 L Hp o om j (mvO m)) (fun B=>[.cells 51 [.ptr o 0],.cells 102 [.ptr om 0]]++bot (B 0)) Af (by kernel_rfl) rfl rfl (fun _=>rfl) ?_
  apply Y.q
  ·intro B hT hF
   refine Z85 ?_
   refine D.go (h:=Q.loadUp (Et hm)) (hr:=?_)
   refine D.go ?_;refine D.makeFunc ?_;exact Tu
  case hTF=>decide
  refine Y.callBad (own0:=[.cells 51 [.ptr o 0],.cells 102 [.ptr om 0]]) Tryz.call127 (fun B hB=>⟨rfl,by simp [bot,hB]⟩) ((c127 L (((m.take.map Ac).length:Int)) m j o om 161 [.ptr (oid Hp.length 1) 0,.ptr (oid Hp.length 0) 0] (Nm L) (U2 L Hp o om j (mvO m)++[.cells 51 [.ptr o 0],.cells 102 [.ptr om 0]]) hne (A8 (Ck ho hne)) (A8 (Et hm)) (by omega) hj.2 hl hll (hb.mono (by omega)) Tryz.call161 (iv (z:=pmO L j) (z':=mvO m) hne (A8 (Ck ho hne)) (A8 (Et hm)) (Yd rfl) (Yd rfl) (Fm hol) (Fm hml) (Fm hol) (Fm hml) hl hll) (cm hl hll)).bad hP) ?_ ?_
  ·rintro x U O f hU hl' ⟨rfl,hW2⟩
   obtain ⟨⟨j',m',rfl⟩,rfl⟩:=Hr hne hol hml hU hW2
   refine ⟨fun h=>Eu hne Dc h,fun o h=>(by cases h),?_⟩
   exact K.finPP ⟨_,_,by unfold Fc;rw [hW];show Gq L _ _ m j=_;rw [←hP,List.length_map],rfl,j',m',rfl⟩
  exact AIv
 refine W.drawQ0 [0,0,2,6,14,30,0,127] 7 Af (by kernel_rfl) ?_;refine Z85 ?_
 refine D.go (h:=Q.loadUp (Et hm)) (hr:=?_)
 refine D.go ?_;refine D.makeFunc ?_;refine D.tail ?_
 refine R.callX (up':=U2 L Hp o om k (mvO m2)) (own':=[.cells 51 [.ptr o 0],.cells 102 [.ptr om 0]]) Tryz.call127 (((c127 L (((m.take.map Ac).length:Int)) m j o om 161 [.ptr (oid Hp.length 1) 0,.ptr (oid Hp.length 0) 0] (Nm L) (U2 L Hp o om j (mvO m)++[.cells 51 [.ptr o 0],.cells 102 [.ptr om 0]]) hne (A8 (Ck ho hne)) (A8 (Et hm)) (by omega) hj.2 hl hll (hb.mono (by omega)) Tryz.call161 (iv (z:=pmO L j) (z':=mvO m) hne (A8 (Ck ho hne)) (A8 (Et hm)) (Yd rfl) (Yd rfl) (Fm hol) (Fm hml) (Fm hol) (Fm hml) hl hll) (cm hl hll)).ok hP).mono (fun r H' e=>⟨e.1,e.2.trans (by first|rw [Ft (by rw [U2_len];exact hol) (by rw [U2_len];exact hml),M2 hne]|rw [Ft hol hml])⟩)) (by first|rfl|rw [U2_len,U2_len]|rw [U2_len]) (fun h=>Eu hne Dc h) ?_
 refine Nf ?_;exact K.finPN .nores (hp:=⟨m2,k,by unfold Fc;rw [hW];show Gq L _ _ m j=_;rw [←hP,List.length_map],rfl,rfl⟩)

theorem iy {L:List Tok} {Hp:List AObj} {o om i:Nat} {m:Mov} {s:Str} {x:AObj}:(U2 L Hp o om i x).set om (.cells 47 [A7 m.kind,.slice true 1 [Ac s],.slice true 2 (m.give.map Hz),.slice true 6 (m.ahead.map Aj),.slice true 6 (m.back.map Aj)])=U2 L Hp o om i (mvO (takeS m s)):=U2_setm
theorem zn {n:Nat} {x:Expr}:Low n (.slice true 6 [.agg (E3 x)]):=by
 have:=H4 (n:=n) (k:=6) (o:=true) (l:=[x])
 simp only [Bs,Gu] at this
 rw [Ad] at this
 exact this
theorem qy {n:Nat} {x:Expr}:Low n (.slice true 6 [Aj x]):=H4 (l:=[x])
theorem AGu {L:List Tok} {m m1:Mov} {i k:Nat} (h:Eb L m i=.ok m1 k):(m1.give.map Hz)[0]? = some (Hz (m1.give.getD 0 ⟨[],0⟩)):=by
 obtain ⟨c,j,h1,h2⟩:=Cc h
 obtain ⟨u,j2,h3,h4⟩:=Cc h2
 obtain ⟨x,j3,h5,h6⟩:=Cc h4
 injection h6 with h6 h7
 subst h6
 show ((m.give++[c]).map Hz)[0]? = some (Hz ((m.give++[c]).getD 0 ⟨[],0⟩))
 cases m.give<;>rfl
section
variable {L:List Tok} {m:Mov} {i:Nat}
theorem AGv (h1:(m.kind==1)=true):I8 L m i=Eb L m i:=if_pos h1
theorem ww (h1:(m.kind==1)=false) (h2:(m.kind==2)=true):I8 L m i=(Fh L i).bind fun s j=>Fc L (takeS m s) j:=by
 unfold I8;rw [if_neg (by rw [h1];simp),if_pos h2]
theorem AGw (h1:(m.kind==1)=false) (h2:(m.kind==2)=false) (h3:(m.kind==3)=true):I8 L m i=Mw L m i:=by
 unfold I8;rw [if_neg (by rw [h1];simp),if_neg (by rw [h2];simp),if_pos h3]
theorem dc (h1:(m.kind==1)=false) (h2:(m.kind==2)=false) (h3:(m.kind==3)=false) (h4:(m.kind==4)=true):I8 L m i=(Fh L i).bind fun s j=>(Cm L intoW j).bind fun _ j=>(Gq L 0 (Eb L) (takeS m s) j).bind fun m j=>Fc L m j:=by
 unfold I8;rw [if_neg (by rw [h1];simp),if_neg (by rw [h2];simp),if_neg (by rw [h3];simp),if_pos h4]
theorem dd (h1:(m.kind==1)=false) (h2:(m.kind==2)=false) (h3:(m.kind==3)=false) (h4:(m.kind==4)=false) (h5:(m.kind==5)=true):I8 L m i=(Gq L 0 (Nn L) m i).bind fun m j=>(Cm L intoW j).bind fun _ j=>(Eb L m j).bind fun m j=>Fc L m j:=by
 unfold I8;rw [if_neg (by rw [h1];simp),if_neg (by rw [h2];simp),if_neg (by rw [h3];simp),if_neg (by rw [h4];simp),if_pos h5]
theorem wx (h1:(m.kind==1)=false) (h2:(m.kind==2)=false) (h3:(m.kind==3)=false) (h4:(m.kind==4)=false) (h5:(m.kind==5)=false) (h6:(m.kind==6)=true):I8 L m i=(Eb L m i).bind fun m j=>Fc L (takeS m (m.give.getD 0 ⟨[],0⟩).name) j:=by
 unfold I8;rw [if_neg (by rw [h1];simp),if_neg (by rw [h2];simp),if_neg (by rw [h3];simp),if_neg (by rw [h4];simp),if_neg (by rw [h5];simp),if_pos h6]
theorem ANp (h1:(m.kind==1)=false) (h2:(m.kind==2)=false) (h3:(m.kind==3)=false) (h4:(m.kind==4)=false) (h5:(m.kind==5)=false) (h6:(m.kind==6)=false):I8 L m i=.ok m i:=by
 unfold I8;rw [if_neg (by rw [h1];simp),if_neg (by rw [h2];simp),if_neg (by rw [h3];simp),if_neg (by rw [h4];simp),if_neg (by rw [h5];simp),if_neg (by rw [h6];simp)]
end
theorem AQw (L:List Tok) (m:Mov) (i o om:Nat) (Hp:List AObj) (hne:om≠o) (ho:Hp[o]? = some (pmO L i)) (hm:Hp[om]? = some (mvO m)) (hi:i<L.length) (hl:TokEnd L) (hll:L.length≤500000) (hb:MvLe m (2*i-1)):CP 126 [.ptr o 0,.ptr om 0] Hp (Mw L m i) (fun m' j r H'=>r=Ks∧H'=U2 L Hp o om j (mvO m')) (W2 L o om Hp):=by
 refine P2 [] [0,1] Tryz.func126 Tryz.ntmps126 (fun d=>?_)
 refine AEs ?_
 rcases h1:Fh L i with ⟨s,j⟩|⟨e,a⟩
 rotate_left
 ·refine Jm ?_
  refine Cg (A3 (Dt ?_))
  refine Cg (A3 (Dt ?_))
  refine Fs Tryz.call124 ((Yc L i o _ (A8 (Ck ho hne)) hi hll).bad h1) ?_
  rintro x U O hU hl' ⟨rfl,j',hH⟩
  obtain ⟨rfl,rfl⟩:=Ch hU (Aa.1 (Ck (L:=L) (i:=i) (x:=mvO m) ho hne)).1 hH
  refine ⟨fun h=>Ci h (fun n=>C3),fun o h=>(by cases h),?_⟩
  refine Jn ?_;exact Dx ⟨_,_,by unfold Mw;rw [h1];rfl,rfl,j',m,Dm hne⟩
 have hj:=Gx hl hi _ _ h1
 refine Z1 ?_;refine B4 (x:=pmO L j) Tryz.call124 (Ck ho hne) (by simp) C3 ((Yc L i o _ (A8 (Ck ho hne)) hi hll).ok h1) ?_
 rw [Dm hne]
 refine Rg ?_;refine Z0 ?_
 refine Iy jS (Et hm) ?_ ?_
 ·simp [or_imp,forall_and]
 refine A2 [0,1] ?_;refine Ns (U2_setm (y:=.cells 47 [A7 m.kind,.slice true 1 ([Ac s]),.slice true 2 (m.give.map Hz),.slice true 6 (m.ahead.map Aj),.slice true 6 (m.back.map Aj)])) ?_
 rcases h2:Cm L toW j with ⟨u,j2⟩|⟨e,a⟩
 rotate_left
 ·refine Jm ?_
  refine Cg (A3 (Dt ?_))
  refine Fs Tryz.call92 ((c92 L toW j o _ (A8 (Ck ho hne)) hj.2 hll).bad h2) ?_
  rintro x U O hU hl' ⟨rfl,j',hH⟩
  obtain ⟨rfl,rfl⟩:=Ch hU (Aa.1 (Ck (L:=L) (i:=j) (x:=.cells 47 [A7 m.kind,.slice true 1 ([Ac s]),.slice true 2 (m.give.map Hz),.slice true 6 (m.ahead.map Aj),.slice true 6 (m.back.map Aj)]) ho hne)).1 hH
  refine ⟨fun h=>Ci h (fun n=>C3),fun o h=>(by cases h),?_⟩
  refine Jn ?_;exact Dx ⟨_,_,by unfold Mw;rw [h1];show (Cm L toW j).bind _=_;rw [h2];rfl,rfl,j',(⟨m.kind,[s],m.give,m.ahead,m.back⟩:Mov),Dm hne⟩
 have hj2:=El hl hj.2 _ _ h2
 refine Z2 ?_;refine B4 (x:=pmO L j2) Tryz.call92 (Ck ho hne) (by simp) C3 ((c92 L toW j o _ (A8 (Ck ho hne)) hj.2 hll).ok h2) ?_
 rw [Dm hne]
 refine A2 [0,1] ?_
 rcases h3:Fh L j2 with ⟨t,k⟩|⟨e,a⟩
 rotate_left
 ·refine Jm ?_
  refine Cg (A3 (Dt ?_))
  refine Fs Tryz.call124 ((Yc L j2 o _ (A8 (Ck ho hne)) hj2.2 hll).bad h3) ?_
  rintro x U O hU hl' ⟨rfl,j',hH⟩
  obtain ⟨rfl,rfl⟩:=Ch hU (Aa.1 (Ck (L:=L) (i:=j2) (x:=.cells 47 [A7 m.kind,.slice true 1 ([Ac s]),.slice true 2 (m.give.map Hz),.slice true 6 (m.ahead.map Aj),.slice true 6 (m.back.map Aj)]) ho hne)).1 hH
  refine ⟨fun h=>Ci h (fun n=>C3),fun o h=>(by cases h),?_⟩
  refine Jn ?_;exact Dx ⟨_,_,by unfold Mw;rw [h1];show (Cm L toW j).bind _=_;rw [h2];show (Fh L j2).bind _=_;rw [h3];rfl,rfl,j',(⟨m.kind,[s],m.give,m.ahead,m.back⟩:Mov),Dm hne⟩
 refine Z2 ?_;refine B4 (x:=pmO L k) Tryz.call124 (Ck ho hne) (by simp) C3 ((Yc L j2 o _ (A8 (Ck ho hne)) hj2.2 hll).ok h3) ?_
 rw [Dm hne]
 refine A3 ?_;refine A2 [1,4] ?_;refine Z1 ?_;refine ef ?_;refine Rg ?_;refine Z0 ?_
 refine Iy jS (Et hm) ?_ ?_
 ·simp [or_imp,forall_and]
 refine A2 [1,4] ?_;refine Ns (U2_setm (y:=.cells 47 [A7 m.kind,.slice true 1 ([Ac s]),.slice true 2 ([Hz ⟨t,0⟩]),.slice true 6 (m.ahead.map Aj),.slice true 6 (m.back.map Aj)])) ?_;refine Z21 ?_;refine Z7 ?_
 refine A3 (h:=An (Et hm)) (hr:=?_)
 refine A3 (h:=B2 (0) (Ac s) (fun _=>rfl)) (hr:=?_)
 refine A3 ?_;refine Ap Tryz.call75 (c75 s _) ?_;refine Z73 ?_;refine Ap Tryz.call75 (c75 t _) ?_;refine Rg ?_;refine Z0 ?_
 refine Iy jS (Et hm) ?_ ?_
 ·first|exact zn|exact qy
 rw [U2_setm]
 refine Z0 ?_
 refine Iy jS (Et hm) ?_ ?_
 ·first|exact zn|exact qy
 rw [U2_setm]
 refine Nf ?_;exact Kc .nores (hp:=⟨⟨m.kind,[s],[⟨t,0⟩],[Bj s],[Bj t]⟩,k,by unfold Mw;rw [h1];show (Cm L toW j).bind _=_;rw [h2];show (Fh L j2).bind _=_;rw [h3];rfl,rfl,by simp only [mvO,mvC,Bs,Gu,Ad]⟩)

theorem ACs {L:List Tok} {Hp:List AObj} {o om i:Nat} {m:Mov} {c:Col} {x:AObj}:(U2 L Hp o om i x).set om (.cells 47 [A7 m.kind,.slice true 1 [Ac c.name],.slice true 2 (m.give.map Hz),.slice true 6 (m.ahead.map Aj),.slice true 6 (m.back.map Aj)])=U2 L Hp o om i (mvO (takeS m c.name)):=U2_setm
theorem c91 (L:List Tok) (m:Mov) (i o om:Nat) (Hp:List AObj) (hne:om≠o) (ho:Hp[o]? = some (pmO L i)) (hm:Hp[om]? = some (mvO m)) (hi:i<L.length) (hl:TokEnd L) (hll:L.length≤500000) (hb:MvLe m (2*i-1)) (h0:0<i):CP 91 [.ptr o 0,.ptr om 0] Hp (I8 L m i) (fun m' j r H'=>r=Ks∧H'=U2 L Hp o om j (mvO m')) (W2 L o om Hp):=by
 have hol:=(Aa.1 ho).1
 have hml:=(Aa.1 hm).1
 refine P2 [] [0,1] Tryz.func91 Tryz.ntmps91 (fun d=>?_)
 refine Ei ?_;refine Ps ?_;refine Ps ?_;refine P3 ?_;refine AEs ?_;refine Z16 ?_
 refine A3 (h:=An (Et hm)) (hr:=?_)
 refine A2 [2,3,7] ?_;refine Z84 ?_;refine A2 [2,3,7,8] ?_
 refine A6 (fun ht8=>?_) (fun ht8=>?_)
 ·rcases h1:Eb L m i with ⟨m1,k⟩|⟨e,a⟩
  rotate_left
  ·refine Kb ?_
   refine Cg (A3 (Dt ?_))
   refine Cg (A3 (Dt ?_))
   refine APy ?_
   rintro x U O hU hl' ⟨rfl,hW2⟩
   obtain ⟨⟨j',m',rfl⟩,rfl⟩:=Hr hne hol hml hU hW2
   refine ⟨fun h=>Eu hne Dc h,fun o h=>(by cases h),?_⟩
   refine Nd ?_;exact Dx ⟨_,_,by rw [AGv ht8];rw [h1],rfl,j',m',rfl⟩
  refine Z21 ?_
  refine Gm (up':=U2 L Hp o om k (mvO m1)) (own':=[.cells 51 [.ptr o 0],.cells 102 [.ptr om 0]]) Tryz.call123 (((wv L m i o om (U2 L Hp o om i (mvO m)++[.cells 51 [.ptr o 0],.cells 102 [.ptr om 0]]) hne (A8 (Ck ho hne)) (A8 (Et hm)) hi hl hll hb).ok h1).mono (fun r H' e=>⟨e.1,e.2.trans (by first|rw [Ft (by rw [U2_len];exact hol) (by rw [U2_len];exact hml),M2 hne]|rw [Ft hol hml])⟩)) (by first|rfl|rw [U2_len,U2_len]|rw [U2_len]) (fun h=>Eu hne Dc h) ?_
  refine Z96 ?_;exact Kc .nores (hp:=⟨m1,k,by rw [AGv ht8];rw [h1],rfl,rfl⟩)
 refine Z1 ?_;refine A2 [2,3,7,13] ?_
 refine A6 (fun ht13=>?_) (fun ht13=>?_)
 ·rcases h1:Fh L i with ⟨s,j⟩|⟨e,a⟩
  rotate_left
  ·refine Fe [0,0,2,6,15,31,63] [2] [.q 2 [] [],.s [17] (some 0) [] [],.s [] none [0] [],.s [] none [0] [],.s [] none [0] [],.s [] none [0] []] (fun _=>U2 L Hp o om i (mvO m)) (fun B=>[.cells 51 [.ptr o 0],.cells 102 [.ptr om 0]]++bot (B 0)) Af (by kernel_rfl) rfl rfl (fun _=>rfl) ?_
   apply Y.q
   ·intro B hT hF
    exact Z38
   case hTF=>decide
   refine Rv (own0:=[.cells 51 [.ptr o 0],.cells 102 [.ptr om 0]]) Tryz.call124 (fun B hB=>⟨rfl,by simp [bot,hB]⟩) ((Yc L i o _ (A8 (Ck ho hne)) hi hll).bad h1) ?_ ?_
   ·rintro x U O f hU hl' ⟨rfl,j',hH⟩
    obtain ⟨rfl,rfl⟩:=Ch hU (Aa.1 (Ck (L:=L) (i:=i) (x:=mvO m) ho hne)).1 hH
    refine ⟨fun h=>Ci h (fun n=>C3),fun o h=>(by cases h),?_⟩
    refine Nd ?_;exact Dx ⟨_,_,by rw [ww ht8 ht13];rw [h1];rfl,rfl,j',m,Dm hne⟩
   exact AIn
  have hj:=Gx hl hi _ _ h1
  refine Fe [0,0,2,6,15,31,63] [2] [.q 2 [] [],.s [17] (some 0) [] [],.s [18] none [0] []] (fun B=>U2 L Hp o om (if B 0=true then j else i) (mvO m)) (fun _=>[.cells 51 [.ptr o 0],.cells 102 [.ptr om 0]]) Af (by kernel_rfl) rfl rfl (fun B=>by rw [U2_len];exact U2_len.symm) ?_
  apply Y.q
  ·intro B hT hF
   exact Z38
  case hTF=>decide
  refine Jk (r:=Ac s) (o:=o) (x0:=pmO L i) (x:=pmO L j) Tryz.call124 (fun B hB1 hB2 hB=>⟨by simp only [hB];exact Ck ho hne,(Dm hne).symm,rfl,C3,?_⟩) ?_
  ·simp only [hB]
   exact (Yc L i o _ (A8 (Ck ho hne)) hi hll).ok h1
  refine AOq ?_;refine Z0 ?_
  refine Iy jS (Et hm) ?_ ?_
  ·simp [or_imp,forall_and]
  refine P3 ?_;refine Ns (iy (m:=m) (s:=s)) ?_
  rcases h2:Fc L (takeS m s) j with ⟨m2,k⟩|⟨e,a⟩
  rotate_left
  ·refine Kb ?_
   refine Cg (A3 (Dt ?_))
   refine Cg (A3 (Dt ?_))
   refine Fs Tryz.call125 ((qx L (takeS m s) j o om (U2 L Hp o om j (mvO (takeS m s))++[.cells 51 [.ptr o 0],.cells 102 [.ptr om 0]]) hne (A8 (Ck ho hne)) (A8 (Et hm)) hj.2 hl hll ((hb.mono (by omega:2*i-1≤2*j)).takeS (by omega))).bad h2) ?_
   rintro x U O hU hl' ⟨rfl,hW2⟩
   obtain ⟨⟨j',m',rfl⟩,rfl⟩:=Hr hne hol hml hU hW2
   refine ⟨fun h=>Eu hne Dc h,fun o h=>(by cases h),?_⟩
   refine Nd ?_;exact Dx ⟨_,_,by rw [ww ht8 ht13];rw [h1];show Fc L (takeS m s) j=_;rw [h2],rfl,j',m',rfl⟩
  refine Z21 ?_
  refine Gm (up':=U2 L Hp o om k (mvO m2)) (own':=[.cells 51 [.ptr o 0],.cells 102 [.ptr om 0]]) Tryz.call125 (((qx L (takeS m s) j o om (U2 L Hp o om j (mvO (takeS m s))++[.cells 51 [.ptr o 0],.cells 102 [.ptr om 0]]) hne (A8 (Ck ho hne)) (A8 (Et hm)) hj.2 hl hll ((hb.mono (by omega:2*i-1≤2*j)).takeS (by omega))).ok h2).mono (fun r H' e=>⟨e.1,e.2.trans (by first|rw [Ft (by rw [U2_len];exact hol) (by rw [U2_len];exact hml),M2 hne]|rw [Ft hol hml])⟩)) (by first|rfl|rw [U2_len,U2_len]|rw [U2_len]) (fun h=>Eu hne Dc h) ?_
  refine Z96 ?_;exact Kc .nores (hp:=⟨m2,k,by rw [ww ht8 ht13];rw [h1];show Fc L (takeS m s) j=_;rw [h2],rfl,rfl⟩)
 refine Z1 ?_;refine A2 [2,3,7,24] ?_
 refine A6 (fun ht24=>?_) (fun ht24=>?_)
 ·rcases h1:Mw L m i with ⟨m1,k⟩|⟨e,a⟩
  rotate_left
  ·refine Kb ?_
   refine Cg (A3 (Dt ?_))
   refine Cg (A3 (Dt ?_))
   refine Fs Tryz.call126 ((AQw L m i o om (U2 L Hp o om i (mvO m)++[.cells 51 [.ptr o 0],.cells 102 [.ptr om 0]]) hne (A8 (Ck ho hne)) (A8 (Et hm)) hi hl hll hb).bad h1) ?_
   rintro x U O hU hl' ⟨rfl,hW2⟩
   obtain ⟨⟨j',m',rfl⟩,rfl⟩:=Hr hne hol hml hU hW2
   refine ⟨fun h=>Eu hne Dc h,fun o h=>(by cases h),?_⟩
   refine Nd ?_;exact Dx ⟨_,_,by rw [AGw ht8 ht13 ht24];rw [h1],rfl,j',m',rfl⟩
  refine Z21 ?_
  refine Gm (up':=U2 L Hp o om k (mvO m1)) (own':=[.cells 51 [.ptr o 0],.cells 102 [.ptr om 0]]) Tryz.call126 (((AQw L m i o om (U2 L Hp o om i (mvO m)++[.cells 51 [.ptr o 0],.cells 102 [.ptr om 0]]) hne (A8 (Ck ho hne)) (A8 (Et hm)) hi hl hll hb).ok h1).mono (fun r H' e=>⟨e.1,e.2.trans (by first|rw [Ft (by rw [U2_len];exact hol) (by rw [U2_len];exact hml),M2 hne]|rw [Ft hol hml])⟩)) (by first|rfl|rw [U2_len,U2_len]|rw [U2_len]) (fun h=>Eu hne Dc h) ?_
  refine Z96 ?_;exact Kc .nores (hp:=⟨m1,k,by rw [AGw ht8 ht13 ht24];rw [h1],rfl,rfl⟩)
 refine Z1 ?_;refine A2 [2,3,7,29] ?_
 refine A6 (fun ht29=>?_) (fun ht29=>?_)
 ·rcases h1:Fh L i with ⟨s,j⟩|⟨e,a⟩
  rotate_left
  ·refine Fe [0,0,2,6,15,31,63] [2] [.q 2 [] [],.s [33] (some 0) [] [],.s [] none [0] [],.s [] none [0] [],.s [] none [0] [],.s [] none [0] []] (fun _=>U2 L Hp o om i (mvO m)) (fun B=>[.cells 51 [.ptr o 0],.cells 102 [.ptr om 0]]++bot (B 0)) Af (by kernel_rfl) rfl rfl (fun _=>rfl) ?_
   apply Y.q
   ·intro B hT hF
    exact Z38
   case hTF=>decide
   refine Rv (own0:=[.cells 51 [.ptr o 0],.cells 102 [.ptr om 0]]) Tryz.call124 (fun B hB=>⟨rfl,by simp [bot,hB]⟩) ((Yc L i o _ (A8 (Ck ho hne)) hi hll).bad h1) ?_ ?_
   ·rintro x U O f hU hl' ⟨rfl,j',hH⟩
    obtain ⟨rfl,rfl⟩:=Ch hU (Aa.1 (Ck (L:=L) (i:=i) (x:=mvO m) ho hne)).1 hH
    refine ⟨fun h=>Ci h (fun n=>C3),fun o h=>(by cases h),?_⟩
    refine Nd ?_;exact Dx ⟨_,_,by rw [dc ht8 ht13 ht24 ht29];rw [h1];rfl,rfl,j',m,Dm hne⟩
   exact AIn
  have hj:=Gx hl hi _ _ h1
  refine Fe [0,0,2,6,15,31,63] [2] [.q 2 [] [],.s [33] (some 0) [] [],.s [34] none [0] []] (fun B=>U2 L Hp o om (if B 0=true then j else i) (mvO m)) (fun _=>[.cells 51 [.ptr o 0],.cells 102 [.ptr om 0]]) Af (by kernel_rfl) rfl rfl (fun B=>by rw [U2_len];exact U2_len.symm) ?_
  apply Y.q
  ·intro B hT hF
   exact Z38
  case hTF=>decide
  refine Jk (r:=Ac s) (o:=o) (x0:=pmO L i) (x:=pmO L j) Tryz.call124 (fun B hB1 hB2 hB=>⟨by simp only [hB];exact Ck ho hne,(Dm hne).symm,rfl,C3,?_⟩) ?_
  ·simp only [hB]
   exact (Yc L i o _ (A8 (Ck ho hne)) hi hll).ok h1
  refine AOq ?_;refine Z0 ?_
  refine Iy jS (Et hm) ?_ ?_
  ·simp [or_imp,forall_and]
  refine P3 ?_;refine Ns (iy (m:=m) (s:=s)) ?_
  rcases h2:Cm L intoW j with ⟨u,j2⟩|⟨e,a⟩
  rotate_left
  ·refine Jm ?_
   refine Cg (A3 (Dt ?_))
   refine Fs Tryz.call92 ((c92 L intoW j o _ (A8 (Ck ho hne)) hj.2 hll).bad h2) ?_
   rintro x U O hU hl' ⟨rfl,j',hH⟩
   obtain ⟨rfl,rfl⟩:=Ch hU (Aa.1 (Ck (L:=L) (i:=j) (x:=mvO (takeS m s)) ho hne)).1 hH
   refine ⟨fun h=>Ci h (fun n=>C3),fun o h=>(by cases h),?_⟩
   refine nu ?_;exact Dx ⟨_,_,by rw [dc ht8 ht13 ht24 ht29];rw [h1];show (Cm L intoW j).bind _=_;rw [h2];rfl,rfl,j',(takeS m s),Dm hne⟩
  have hj2:=El hl hj.2 _ _ h2
  refine Z2 ?_;refine B4 (x:=pmO L j2) Tryz.call92 (Ck ho hne) (by simp) C3 ((c92 L intoW j o _ (A8 (Ck ho hne)) hj.2 hll).ok h2) ?_
  rw [Dm hne]
  refine P3 ?_
  rcases h3:Gq L 0 (Eb L) (takeS m s) j2 with ⟨m1,j3⟩|⟨e,a⟩
  rotate_left
  ·refine Jm ?_
   refine Cg (A3 (Dt ?_))
   refine Cg (Jj (Dt ?_))
   refine Fs Tryz.call127 ((c127 L (0) (takeS m s) j2 o om 128 [.ptr (oid Hp.length 0) 0,.ptr (oid Hp.length 1) 0] (Eb L) (U2 L Hp o om j2 (mvO (takeS m s))++[.cells 51 [.ptr o 0],.cells 102 [.ptr om 0]]) hne (A8 (Ck ho hne)) (A8 (Et hm)) (by omega) hj2.2 hl hll ((hb.mono (by omega:2*i-1≤2*j2-1)).takeS (by omega)) Tryz.call128 (ix (z:=pmO L j2) (z':=mvO (takeS m s)) hne (A8 (Ck ho hne)) (A8 (Et hm)) (Yd rfl) (Yd rfl) (Fm hol) (Fm hml) (Fm hol) (Fm hml) hl hll) (Je hl hll)).bad h3) ?_
   rintro x U O hU hl' ⟨rfl,hW2⟩
   obtain ⟨⟨j',m',rfl⟩,rfl⟩:=Hr hne hol hml hU hW2
   refine ⟨fun h=>Eu hne Dc h,fun o h=>(by cases h),?_⟩
   refine nu ?_;exact Dx ⟨_,_,by rw [dc ht8 ht13 ht24 ht29];rw [h1];show (Cm L intoW j).bind _=_;rw [h2];show (Gq L 0 (Eb L) (takeS m s) j2).bind _=_;rw [h3];rfl,rfl,j',m',rfl⟩
  have hj3:=Q6 hl (Je hl hll) (takeS m s) j2 ((hb.mono (by omega:2*i-1≤2*j2-1)).takeS (by omega)) (by omega) hj2.2 _ _ h3
  refine Z2 ?_;refine Jj ?_
  refine Gm (up':=U2 L Hp o om j3 (mvO m1)) (own':=[.cells 51 [.ptr o 0],.cells 102 [.ptr om 0]]) Tryz.call127 (((c127 L (0) (takeS m s) j2 o om 128 [.ptr (oid Hp.length 0) 0,.ptr (oid Hp.length 1) 0] (Eb L) (U2 L Hp o om j2 (mvO (takeS m s))++[.cells 51 [.ptr o 0],.cells 102 [.ptr om 0]]) hne (A8 (Ck ho hne)) (A8 (Et hm)) (by omega) hj2.2 hl hll ((hb.mono (by omega:2*i-1≤2*j2-1)).takeS (by omega)) Tryz.call128 (ix (z:=pmO L j2) (z':=mvO (takeS m s)) hne (A8 (Ck ho hne)) (A8 (Et hm)) (Yd rfl) (Yd rfl) (Fm hol) (Fm hml) (Fm hol) (Fm hml) hl hll) (Je hl hll)).ok h3).mono (fun r H' e=>⟨e.1,e.2.trans (by first|rw [Ft (by rw [U2_len];exact hol) (by rw [U2_len];exact hml),M2 hne]|rw [Ft hol hml])⟩)) (by first|rfl|rw [U2_len,U2_len]|rw [U2_len]) (fun h=>Eu hne Dc h) ?_
  refine P3 ?_
  rcases h4:Fc L m1 j3 with ⟨m2,k⟩|⟨e,a⟩
  rotate_left
  ·refine Kb ?_
   refine Cg (A3 (Dt ?_))
   refine Cg (A3 (Dt ?_))
   refine Fs Tryz.call125 ((qx L m1 j3 o om (U2 L Hp o om j3 (mvO m1)++[.cells 51 [.ptr o 0],.cells 102 [.ptr om 0]]) hne (A8 (Ck ho hne)) (A8 (Et hm)) hj3.2.1 hl hll hj3.2.2).bad h4) ?_
   rintro x U O hU hl' ⟨rfl,hW2⟩
   obtain ⟨⟨j',m',rfl⟩,rfl⟩:=Hr hne hol hml hU hW2
   refine ⟨fun h=>Eu hne Dc h,fun o h=>(by cases h),?_⟩
   refine Nd ?_;exact Dx ⟨_,_,by rw [dc ht8 ht13 ht24 ht29];rw [h1];show (Cm L intoW j).bind _=_;rw [h2];show (Gq L 0 (Eb L) (takeS m s) j2).bind _=_;rw [h3];show Fc L m1 j3=_;rw [h4],rfl,j',m',rfl⟩
  refine Z21 ?_
  refine Gm (up':=U2 L Hp o om k (mvO m2)) (own':=[.cells 51 [.ptr o 0],.cells 102 [.ptr om 0]]) Tryz.call125 (((qx L m1 j3 o om (U2 L Hp o om j3 (mvO m1)++[.cells 51 [.ptr o 0],.cells 102 [.ptr om 0]]) hne (A8 (Ck ho hne)) (A8 (Et hm)) hj3.2.1 hl hll hj3.2.2).ok h4).mono (fun r H' e=>⟨e.1,e.2.trans (by first|rw [Ft (by rw [U2_len];exact hol) (by rw [U2_len];exact hml),M2 hne]|rw [Ft hol hml])⟩)) (by first|rfl|rw [U2_len,U2_len]|rw [U2_len]) (fun h=>Eu hne Dc h) ?_
  refine Z96 ?_;exact Kc .nores (hp:=⟨m2,k,by rw [dc ht8 ht13 ht24 ht29];rw [h1];show (Cm L intoW j).bind _=_;rw [h2];show (Gq L 0 (Eb L) (takeS m s) j2).bind _=_;rw [h3];show Fc L m1 j3=_;rw [h4],rfl,rfl⟩)
 refine Z1 ?_;refine A2 [2,3,7,45] ?_
 refine A6 (fun ht45=>?_) (fun ht45=>?_)
 ·rcases h1:Gq L 0 (Nn L) m i with ⟨m1,j⟩|⟨e,a⟩
  rotate_left
  ·refine Jm ?_
   refine Cg (A3 (Dt ?_))
   refine Cg (Jj (Dt ?_))
   refine Fs Tryz.call127 ((c127 L (0) m i o om 129 [.ptr (oid Hp.length 1) 0,.ptr (oid Hp.length 0) 0] (Nn L) (U2 L Hp o om i (mvO m)++[.cells 51 [.ptr o 0],.cells 102 [.ptr om 0]]) hne (A8 (Ck ho hne)) (A8 (Et hm)) h0 hi hl hll hb Tryz.call129 (iw (z:=pmO L i) (z':=mvO m) hne (A8 (Ck ho hne)) (A8 (Et hm)) (Yd rfl) (Yd rfl) (Fm hol) (Fm hml) (Fm hol) (Fm hml) hl hll) (Rq hl)).bad h1) ?_
   rintro x U O hU hl' ⟨rfl,hW2⟩
   obtain ⟨⟨j',m',rfl⟩,rfl⟩:=Hr hne hol hml hU hW2
   refine ⟨fun h=>Eu hne Dc h,fun o h=>(by cases h),?_⟩
   refine nu ?_;exact Dx ⟨_,_,by rw [dd ht8 ht13 ht24 ht29 ht45];rw [h1];rfl,rfl,j',m',rfl⟩
  have hj:=Q6 hl (Rq hl) m i hb h0 hi _ _ h1
  refine Z2 ?_;refine Jj ?_
  refine Gm (up':=U2 L Hp o om j (mvO m1)) (own':=[.cells 51 [.ptr o 0],.cells 102 [.ptr om 0]]) Tryz.call127 (((c127 L (0) m i o om 129 [.ptr (oid Hp.length 1) 0,.ptr (oid Hp.length 0) 0] (Nn L) (U2 L Hp o om i (mvO m)++[.cells 51 [.ptr o 0],.cells 102 [.ptr om 0]]) hne (A8 (Ck ho hne)) (A8 (Et hm)) h0 hi hl hll hb Tryz.call129 (iw (z:=pmO L i) (z':=mvO m) hne (A8 (Ck ho hne)) (A8 (Et hm)) (Yd rfl) (Yd rfl) (Fm hol) (Fm hml) (Fm hol) (Fm hml) hl hll) (Rq hl)).ok h1).mono (fun r H' e=>⟨e.1,e.2.trans (by first|rw [Ft (by rw [U2_len];exact hol) (by rw [U2_len];exact hml),M2 hne]|rw [Ft hol hml])⟩)) (by first|rfl|rw [U2_len,U2_len]|rw [U2_len]) (fun h=>Eu hne Dc h) ?_
  refine P3 ?_
  rcases h2:Cm L intoW j with ⟨u,j2⟩|⟨e,a⟩
  rotate_left
  ·refine Jm ?_
   refine Cg (A3 (Dt ?_))
   refine Fs Tryz.call92 ((c92 L intoW j o _ (A8 (Ck ho hne)) hj.2.1 hll).bad h2) ?_
   rintro x U O hU hl' ⟨rfl,j',hH⟩
   obtain ⟨rfl,rfl⟩:=Ch hU (Aa.1 (Ck (L:=L) (i:=j) (x:=mvO m1) ho hne)).1 hH
   refine ⟨fun h=>Ci h (fun n=>C3),fun o h=>(by cases h),?_⟩
   refine nu ?_;exact Dx ⟨_,_,by rw [dd ht8 ht13 ht24 ht29 ht45];rw [h1];show (Cm L intoW j).bind _=_;rw [h2];rfl,rfl,j',m1,Dm hne⟩
  have hj2:=El hl hj.2.1 _ _ h2
  have hj2e:=Jq h2
  refine Z2 ?_;refine B4 (x:=pmO L j2) Tryz.call92 (Ck ho hne) (by simp) C3 ((c92 L intoW j o _ (A8 (Ck ho hne)) hj.2.1 hll).ok h2) ?_
  rw [Dm hne]
  refine P3 ?_
  rcases h3:Eb L m1 j2 with ⟨m2,j3⟩|⟨e,a⟩
  rotate_left
  ·refine Jm ?_
   refine Cg (A3 (Dt ?_))
   refine Cg (A3 (Dt ?_))
   refine Fs Tryz.call123 ((wv L m1 j2 o om (U2 L Hp o om j2 (mvO m1)++[.cells 51 [.ptr o 0],.cells 102 [.ptr om 0]]) hne (A8 (Ck ho hne)) (A8 (Et hm)) hj2.2 hl hll (hj.2.2.mono (by omega))).bad h3) ?_
   rintro x U O hU hl' ⟨rfl,hW2⟩
   obtain ⟨⟨j',m',rfl⟩,rfl⟩:=Hr hne hol hml hU hW2
   refine ⟨fun h=>Eu hne Dc h,fun o h=>(by cases h),?_⟩
   refine nu ?_;exact Dx ⟨_,_,by rw [dd ht8 ht13 ht24 ht29 ht45];rw [h1];show (Cm L intoW j).bind _=_;rw [h2];show (Eb L m1 j2).bind _=_;rw [h3];rfl,rfl,j',m',rfl⟩
  have hj3:=Je hl hll m1 j2 (hj.2.2.mono (by omega)) (by omega) hj2.2 _ _ h3
  refine Z1 ?_
  refine Gm (up':=U2 L Hp o om j3 (mvO m2)) (own':=[.cells 51 [.ptr o 0],.cells 102 [.ptr om 0]]) Tryz.call123 (((wv L m1 j2 o om (U2 L Hp o om j2 (mvO m1)++[.cells 51 [.ptr o 0],.cells 102 [.ptr om 0]]) hne (A8 (Ck ho hne)) (A8 (Et hm)) hj2.2 hl hll (hj.2.2.mono (by omega))).ok h3).mono (fun r H' e=>⟨e.1,e.2.trans (by first|rw [Ft (by rw [U2_len];exact hol) (by rw [U2_len];exact hml),M2 hne]|rw [Ft hol hml])⟩)) (by first|rfl|rw [U2_len,U2_len]|rw [U2_len]) (fun h=>Eu hne Dc h) ?_
  refine P3 ?_
  rcases h4:Fc L m2 j3 with ⟨m3,k⟩|⟨e,a⟩
  rotate_left
  ·refine Kb ?_
   refine Cg (A3 (Dt ?_))
   refine Cg (A3 (Dt ?_))
   refine Fs Tryz.call125 ((qx L m2 j3 o om (U2 L Hp o om j3 (mvO m2)++[.cells 51 [.ptr o 0],.cells 102 [.ptr om 0]]) hne (A8 (Ck ho hne)) (A8 (Et hm)) hj3.2.1 hl hll hj3.2.2).bad h4) ?_
   rintro x U O hU hl' ⟨rfl,hW2⟩
   obtain ⟨⟨j',m',rfl⟩,rfl⟩:=Hr hne hol hml hU hW2
   refine ⟨fun h=>Eu hne Dc h,fun o h=>(by cases h),?_⟩
   refine Nd ?_;exact Dx ⟨_,_,by rw [dd ht8 ht13 ht24 ht29 ht45];rw [h1];show (Cm L intoW j).bind _=_;rw [h2];show (Eb L m1 j2).bind _=_;rw [h3];show Fc L m2 j3=_;rw [h4],rfl,j',m',rfl⟩
  refine Z21 ?_
  refine Gm (up':=U2 L Hp o om k (mvO m3)) (own':=[.cells 51 [.ptr o 0],.cells 102 [.ptr om 0]]) Tryz.call125 (((qx L m2 j3 o om (U2 L Hp o om j3 (mvO m2)++[.cells 51 [.ptr o 0],.cells 102 [.ptr om 0]]) hne (A8 (Ck ho hne)) (A8 (Et hm)) hj3.2.1 hl hll hj3.2.2).ok h4).mono (fun r H' e=>⟨e.1,e.2.trans (by first|rw [Ft (by rw [U2_len];exact hol) (by rw [U2_len];exact hml),M2 hne]|rw [Ft hol hml])⟩)) (by first|rfl|rw [U2_len,U2_len]|rw [U2_len]) (fun h=>Eu hne Dc h) ?_
  refine Z96 ?_;exact Kc .nores (hp:=⟨m3,k,by rw [dd ht8 ht13 ht24 ht29 ht45];rw [h1];show (Cm L intoW j).bind _=_;rw [h2];show (Eb L m1 j2).bind _=_;rw [h3];show Fc L m2 j3=_;rw [h4],rfl,rfl⟩)
 refine Z1 ?_;refine A2 [2,3,58] ?_
 refine A6 (fun ht58=>?_) (fun ht58=>?_)
 ·rcases h1:Eb L m i with ⟨m1,j⟩|⟨e,a⟩
  rotate_left
  ·refine Jm ?_
   refine Cg (A3 (Dt ?_))
   refine Cg (A3 (Dt ?_))
   refine APy ?_
   rintro x U O hU hl' ⟨rfl,hW2⟩
   obtain ⟨⟨j',m',rfl⟩,rfl⟩:=Hr hne hol hml hU hW2
   refine ⟨fun h=>Eu hne Dc h,fun o h=>(by cases h),?_⟩
   refine nu ?_;exact Dx ⟨_,_,by rw [wx ht8 ht13 ht24 ht29 ht45 ht58];rw [h1];rfl,rfl,j',m',rfl⟩
  have hj:=Je hl hll m i hb h0 hi _ _ h1
  refine Z1 ?_
  refine Gm (up':=U2 L Hp o om j (mvO m1)) (own':=[.cells 51 [.ptr o 0],.cells 102 [.ptr om 0]]) Tryz.call123 (((wv L m i o om (U2 L Hp o om i (mvO m)++[.cells 51 [.ptr o 0],.cells 102 [.ptr om 0]]) hne (A8 (Ck ho hne)) (A8 (Et hm)) hi hl hll hb).ok h1).mono (fun r H' e=>⟨e.1,e.2.trans (by first|rw [Ft (by rw [U2_len];exact hol) (by rw [U2_len];exact hml),M2 hne]|rw [Ft hol hml])⟩)) (by first|rfl|rw [U2_len,U2_len]|rw [U2_len]) (fun h=>Eu hne Dc h) ?_
  refine P3 ?_;refine Fe [0,0,2,6,14,30,62,126,254,511,1023,2047] [] [.q 8 [] [],.s [71] none [] []] (fun _=>U2 L Hp o om j (mvO m1)) (fun _=>[.cells 51 [.ptr o 0],.cells 102 [.ptr om 0]]) Af (by kernel_rfl) rfl rfl (fun B=>rfl) ?_
  apply Y.q
  ·intro B hT hF
   refine Z85 ?_
   refine Am (h:=An (Et hm)) (hr:=?_)
   refine Am (h:=B2 (0) (Hz (m1.give.getD 0 ⟨[],0⟩)) (fun _=>AGu h1)) (hr:=?_)
   exact Z38
  case hTF=>decide
  refine Y.buildSlice jU Tryz.sizeOf9 Tryz.zeroValue9 ?_;refine Dj (tn:=[]) (U:=U2 L Hp o om j (mvO m1)) ?_;refine Z0 ?_
  refine Iy jS (Et hm) ?_ ?_
  ·simp [or_imp,forall_and]
  refine P3 ?_;refine Ns (ACs (m:=m1) (c:=m1.give.getD 0 ⟨[],0⟩)) ?_
  rcases h2:Fc L (takeS m1 (m1.give.getD 0 ⟨[],0⟩).name) j with ⟨m2,k⟩|⟨e,a⟩
  rotate_left
  ·refine Kb ?_
   refine Cg (A3 (Dt ?_))
   refine Cg (A3 (Dt ?_))
   refine Fs Tryz.call125 ((qx L (takeS m1 (m1.give.getD 0 ⟨[],0⟩).name) j o om (U2 L Hp o om j (mvO (takeS m1 (m1.give.getD 0 ⟨[],0⟩).name))++[.cells 51 [.ptr o 0],.cells 102 [.ptr om 0]]) hne (A8 (Ck ho hne)) (A8 (Et hm)) hj.2.1 hl hll (hj.2.2.takeS (by omega))).bad h2) ?_
   rintro x U O hU hl' ⟨rfl,hW2⟩
   obtain ⟨⟨j',m',rfl⟩,rfl⟩:=Hr hne hol hml hU hW2
   refine ⟨fun h=>Eu hne Dc h,fun o h=>(by cases h),?_⟩
   refine Nd ?_;exact Dx ⟨_,_,by rw [wx ht8 ht13 ht24 ht29 ht45 ht58];rw [h1];show Fc L (takeS m1 (m1.give.getD 0 ⟨[],0⟩).name) j=_;rw [h2],rfl,j',m',rfl⟩
  refine Z21 ?_
  refine Gm (up':=U2 L Hp o om k (mvO m2)) (own':=[.cells 51 [.ptr o 0],.cells 102 [.ptr om 0]]) Tryz.call125 (((qx L (takeS m1 (m1.give.getD 0 ⟨[],0⟩).name) j o om (U2 L Hp o om j (mvO (takeS m1 (m1.give.getD 0 ⟨[],0⟩).name))++[.cells 51 [.ptr o 0],.cells 102 [.ptr om 0]]) hne (A8 (Ck ho hne)) (A8 (Et hm)) hj.2.1 hl hll (hj.2.2.takeS (by omega))).ok h2).mono (fun r H' e=>⟨e.1,e.2.trans (by first|rw [Ft (by rw [U2_len];exact hol) (by rw [U2_len];exact hml),M2 hne]|rw [Ft hol hml])⟩)) (by first|rfl|rw [U2_len,U2_len]|rw [U2_len]) (fun h=>Eu hne Dc h) ?_
  refine Z96 ?_;exact Kc .nores (hp:=⟨m2,k,by rw [wx ht8 ht13 ht24 ht29 ht45 ht58];rw [h1];show Fc L (takeS m1 (m1.give.getD 0 ⟨[],0⟩).name) j=_;rw [h2],rfl,rfl⟩)
 refine He ?_;refine Hh ?_;exact Kc .nores (hp:=⟨m,i,ANp ht8 ht13 ht24 ht29 ht45 ht58,rfl,rfl⟩)

def AQx:Str:=[32,97,100,100,32,100,114,111,112,32,114,101,110,97,109,101,32,115,112,108,105,116,32,109,101,114,103,101,32,114,101,116,121,112,101]
theorem ACt:Rh AQx [32]=migWords:=by kernel_rfl
theorem c12 (k:Int) (Hp:List AObj):AFun Tryz.prog 12 [A7 k] Hp (Ac (B3 k)):=by
 refine B0 [.tmp 2] [0] Tryz.func12 Tryz.ntmps12 (fun d=>?_)
 refine Z59 ?_;refine Z50 ?_;refine Z77 ?_;refine A2 [0,8] ?_
 refine A6 (fun ht8=>?_) (fun ht8=>?_)
 ·have hm:B3 k=[]:=if_pos ht8
  refine Z20 ?_;exact Z36
 have hm:B3 k=migWords.getD k.toNat []:=if_neg (by rw [ht8];simp)
 refine Y8 ?_;refine Ap Tryz.call29 (c29 AQx [32] (by decide) (by decide) _) ?_
 rw [ACt]
 refine A3 ?_
 have hk:1≤k∧k≤6:=by simp at ht8;omega
 have hget:(migWords.map Ac)[k.toNat]? = some (Ac (migWords.getD k.toNat [])):=by
  have hlt:k.toNat<migWords.length:=by show k.toNat<7;omega
  rw [D3,Ak hlt,F7,Ak hlt]
  rfl
 refine A3 (h:=B2 (k.toNat) (Ac (migWords.getD k.toNat [])) (fun _=>hget)) (hr:=?_)
 refine Z54 ?_;exact AEr

theorem ACu {s:Str} {x:Nat} (h:∀j:Nat,j<x→(B3 ((j:Int)+1)==s)=false) (hx:x<6) (he:(B3 ((x:Int)+1)==s)=true):E9 s=(x:Int)+1:=by
 have a:∀j:Nat,j<x→∀k:Int,k=(j:Int)+1→(B3 k==s)=false:=fun j hj k e=>by rw [e];exact h j hj
 have b:∀k:Int,k=(x:Int)+1→(B3 k==s)=true:=fun k e=>by rw [e];exact he
 have h6:x=0∨x=1∨x=2∨x=3∨x=4∨x=5:=by omega
 unfold E9
 rcases h6 with rfl|rfl|rfl|rfl|rfl|rfl
 ·rw [if_pos (b 1 rfl)];rfl
 ·rw [if_neg (by rw [a 0 (by omega) 1 rfl];simp),if_pos (b 2 rfl)];rfl
 ·rw [if_neg (by rw [a 0 (by omega) 1 rfl];simp),if_neg (by rw [a 1 (by omega) 2 rfl];simp),if_pos (b 3 rfl)];rfl
 ·rw [if_neg (by rw [a 0 (by omega) 1 rfl];simp),if_neg (by rw [a 1 (by omega) 2 rfl];simp),if_neg (by rw [a 2 (by omega) 3 rfl];simp),if_pos (b 4 rfl)];rfl
 ·rw [if_neg (by rw [a 0 (by omega) 1 rfl];simp),if_neg (by rw [a 1 (by omega) 2 rfl];simp),if_neg (by rw [a 2 (by omega) 3 rfl];simp),if_neg (by rw [a 3 (by omega) 4 rfl];simp),if_pos (b 5 rfl)];rfl
 rw [if_neg (by rw [a 0 (by omega) 1 rfl];simp),if_neg (by rw [a 1 (by omega) 2 rfl];simp),if_neg (by rw [a 2 (by omega) 3 rfl];simp),if_neg (by rw [a 3 (by omega) 4 rfl];simp),if_neg (by rw [a 4 (by omega) 5 rfl];simp),if_pos (b 6 rfl)];rfl
theorem qz {s:Str} {x:Nat} (h:∀j:Nat,j<x→(B3 ((j:Int)+1)==s)=false) (he:(B3 ((x:Int)+1)==s)=false):∀j:Nat,j<x+1→(B3 ((j:Int)+1)==s)=false:=fun j hj=>by
 rcases Aw j x with h1|h1
 ·exact h j h1
 rw [show j=x by omega];exact he
theorem ACv {s:Str} {x:Nat} (h:∀j:Nat,j<x→(B3 ((j:Int)+1)==s)=false) (hx:6≤x):E9 s=0:=by
 have a:∀j:Nat,j<6→∀k:Int,k=(j:Int)+1→(B3 k==s)=false:=fun j hj k e=>by rw [e];exact h j (by omega)
 unfold E9
 rw [if_neg (by rw [a 0 (by omega) 1 rfl];simp),if_neg (by rw [a 1 (by omega) 2 rfl];simp),if_neg (by rw [a 2 (by omega) 3 rfl];simp),if_neg (by rw [a 3 (by omega) 4 rfl];simp),if_neg (by rw [a 4 (by omega) 5 rfl];simp),if_neg (by rw [a 5 (by omega) 6 rfl];simp)]
theorem c90 (s:Str) (Hp:List AObj):AFun Tryz.prog 90 [Ac s] Hp (A7 (E9 s)):=by
 refine B0 [.tmp 2] [0] Tryz.func90 Tryz.ntmps90 (fun d=>?_)
 refine Z59 ?_;refine Z35 ?_;refine Qm ?_
 refine Bo (α:=Nat) (fun x=>⟨13,A9 0 (Ac s) (A9 3 (A7 ((x:Nat)+1)) (fun _=>.any)),Hp,[],[],none⟩) (fun x=>∀j:Nat,j<x→(B3 ((j:Int)+1)==s)=false) (fun x=>6-x) (0) (fun j h=>by omega) (Gk _) rfl (fun x hx=>?_)
 refine Z9 ?_;refine A2 [0,3,5] ?_
 refine A6 (fun ht5=>?_) (fun ht5=>?_)
 ·have hx6:x<6:=by simp at ht5;omega
  refine Z56 ?_;refine Z2 ?_;refine Ap Tryz.call12 (c12 _ _) ?_;refine Z0 ?_;refine A2 [0,3,11] ?_
  refine A6 (fun ht11=>?_) (fun ht11=>?_)
  ·refine Z1 ?_;refine Z3 ?_;refine Z66 ?_;exact Ab (Ao Ag) ⟨by rw [ACu hx hx6 ht11],rfl⟩
  refine Wf ?_;refine Qm ?_
  refine Be (x+1) (qz hx ht11) (by omega) (Bp rfl)
 have hx6:6≤x:=by simp at ht5;omega
 refine Z41 ?_;refine Z20 ?_;exact Ab (Ao Ag) ⟨by rw [ACv hx hx6],rfl⟩

theorem AGx {L:List Tok} {Hp own:List AObj} {o i n:Nat} {x:AObj} (h1:o<Hp.length):U2 L (Hp++own) o (oid Hp.length n) i x=Hp.set o (pmO L i)++own.set n x:=by
 unfold U2 oid
 rw [Ir _ _ h1,Yk,if_neg (by simp),Bg,Pj]
theorem r6 {L:List Tok} {Hp:List AObj} {o i j n:Nat} (h:∀z∈Hp.set o (pmO L i),ObjLow n z):∀z∈Hp.set o (pmO L j),ObjLow n z:=by
 intro z hz
 rw [show Hp.set o (pmO L j)=(Hp.set o (pmO L i)).set o (pmO L j) by rw [Bc]] at hz
 rcases K8 hz with hz|rfl
 ·exact h z hz
 exact C3
theorem c50 (L:List Tok) (i o:Nat) (Hp:List AObj) (ho:Hp[o]? = some (pmO L i)) (hi:i<L.length) (hl:TokEnd L) (hll:L.length≤500000):CP 50 [.ptr o 0] Hp (J3 L i) (fun m j r H'=>r=K5 m∧H'=Hp.set o (pmO L j)) (W1 L o Hp):=by
 have hol:=(Aa.1 ho).1
 have hne:oid Hp.length 2≠o:=by unfold oid;omega
 refine P2 [.cell 2 47] [0] Tryz.func50 Tryz.ntmps50 (fun d=>?_)
 refine Z43 ?_;refine AMc ?_;refine Z92 ?_;refine Z1 ?_;refine Ap Tryz.call90 (c90 (A4 L i).text _) ?_;refine APz ?_;refine Z11 ?_;refine lb ?_;refine Z71 ?_;refine Mg 2 1 1 ?_;refine Mg 2 2 2 ?_;refine Mg 2 3 6 ?_;refine Mg 2 4 6 ?_;refine Z0 ?_;refine Z30 ?_;refine Z55 ?_;refine A2 [0,2,4,18] ?_
 refine A6 (fun ht18=>?_) (fun ht18=>?_)
 ·have e:J3 L i=.bad 8 (A4 L i).at_:=if_pos ht18
  refine Kb ?_
  refine Cg (A3 (Dt ?_))
  refine AMp ?_
  rintro x U O hU hl' ⟨rfl,hH⟩
  obtain ⟨rfl,rfl⟩:=Mx hU hH
  refine ⟨fun h=>h,fun o h=>(by cases h),?_⟩
  exact AIh
 have e0:J3 L i=(I8 L (⟨E9 (A4 L i).text,[],[],[],[]⟩:Mov) (i+1)).bind fun m j=>(Cm L [59] j).bind fun _ j=>.ok m j:=if_neg (by rw [ht18];simp)
 have hi1:i+1<L.length:=hl.step hi (by simp only [Hb,bne_eq_false_iff_eq] at ht18;rw [ht18.1];decide)
 refine Y9 ?_
 refine A3 (h:=An ho) (hr:=?_)
 refine Z7 ?_
 refine Cv jS ho ?_ ?_
 ·simp
 refine A2 [0,2,4] ?_
 rcases hR:I8 L (⟨E9 (A4 L i).text,[],[],[],[]⟩:Mov) (i+1) with ⟨m1,k⟩|⟨e,a⟩
 rotate_left
 ·refine Jm ?_
  refine Cg (A3 (Dt ?_))
  refine Fs Tryz.call91 ((c91 L (⟨E9 (A4 L i).text,[],[],[],[]⟩:Mov) (i+1) o (oid Hp.length 2) (Hp.set o (pmO L (i+1))++[.cells 47 [A7 0,.nil,.nil,.nil,.nil],.cells 59 [.v (.int .i64 (A4 L i).kind),.v (sv (A4 L i).text),.v (.int .i64 ((A4 L i).at_:Int))],mvO (⟨E9 (A4 L i).text,[],[],[],[]⟩:Mov)]) hne (by rw [Do (by simpa using hol)];exact getset ho) (by unfold oid;rw [Dg (by simp)];simp) hi1 hl hll ⟨Al _,Al _,Al _,Al _⟩ (by omega)).bad hR) ?_
  rintro x U O hU hl' ⟨rfl,j',m',hH⟩
  rw [show oid Hp.length 2=oid (Hp.set o (pmO L (i+1))).length 2 by simp,AGx (by simpa using hol),Bc] at hH
  obtain ⟨rfl,rfl⟩:=Mx (by rw [hU];simp) hH
  refine ⟨fun h=>r6 h,fun o h=>(by cases h),?_⟩
  refine Jn ?_;exact Dx ⟨_,_,by rw [e0];rw [hR];rfl,rfl,j',rfl⟩
 have hk:=ly hl hll (⟨E9 (A4 L i).text,[],[],[],[]⟩:Mov) (i+1) ⟨Al _,Al _,Al _,Al _⟩ (by omega) hi1 _ _ hR
 refine Z2 ?_
 refine Gm (up':=Hp.set o (pmO L k)) (own':=[.cells 47 [A7 0,.nil,.nil,.nil,.nil],.cells 59 [.v (.int .i64 (A4 L i).kind),.v (sv (A4 L i).text),.v (.int .i64 ((A4 L i).at_:Int))],mvO m1]) Tryz.call91 (((c91 L (⟨E9 (A4 L i).text,[],[],[],[]⟩:Mov) (i+1) o (oid Hp.length 2) (Hp.set o (pmO L (i+1))++[.cells 47 [A7 0,.nil,.nil,.nil,.nil],.cells 59 [.v (.int .i64 (A4 L i).kind),.v (sv (A4 L i).text),.v (.int .i64 ((A4 L i).at_:Int))],mvO (⟨E9 (A4 L i).text,[],[],[],[]⟩:Mov)]) hne (by rw [Do (by simpa using hol)];exact getset ho) (by unfold oid;rw [Dg (by simp)];simp) hi1 hl hll ⟨Al _,Al _,Al _,Al _⟩ (by omega)).ok hR).mono (fun r H' e=>⟨e.1,e.2.trans (by rw [show oid Hp.length 2=oid (Hp.set o (pmO L (i+1))).length 2 by simp];rw [AGx (by simpa using hol),Bc];rfl)⟩)) (by simp) (fun h=>by simpa using r6 h) ?_
 refine A2 [0,2,4] ?_
 rcases hW:Cm L [59] k with ⟨u,j2⟩|⟨e,a⟩
 rotate_left
 ·refine Jm ?_
  refine Cg (A3 (Dt ?_))
  refine Fs Tryz.call92 ((c92 L [59] k o _ (A8 (getset ho)) hk.2.1 hll).bad hW) ?_
  rintro x U O hU hl' ⟨rfl,j',hH⟩
  obtain ⟨rfl,rfl⟩:=Ch hU (Aa.1 (getset (B:=pmO L k) ho)).1 hH
  refine ⟨fun h=>Ci h (fun n=>C3),fun o h=>(by cases h),?_⟩
  refine Jn ?_;exact Dx ⟨_,_,by rw [e0];rw [hR];show (Cm L [59] k).bind _=_;rw [hW];rfl,rfl,j',by rw [Bc]⟩
 refine Z2 ?_;refine B4 (x:=pmO L j2) Tryz.call92 (getset ho) (by simp) C3 ((c92 L [59] k o _ (A8 (getset ho)) hk.2.1 hll).ok hW) ?_
 rw [Bc]
 refine A2 [2,4] ?_;refine Z91 ?_;exact K.finP (Ao (B5 jA jS)) (hp:=⟨m1,j2,by rw [e0];rw [hR];show (Cm L [59] k).bind _=_;rw [hW];rfl,rfl,rfl⟩) (hlow:=Vo)

/-- What mig.parser.moves comes to: the moves, or none and the fault. -/
def Rw (L:List Tok):List Mov×Int×Int:=match L7 L with
 | .ok l _=>(l,0,0)
 | .bad e a=>([],e,a)
abbrev X3 (L:List Tok):AV:=.tup [Io (Rw L).1,.agg [A7 (Rw L).2.1,A7 (Rw L).2.2]]
theorem r7 {up:List AObj} {n:Nat} {x y z:AObj} (hn:up.length=n):(up++[x,y]).set (oid n 0) z=up++[z,y]:=by
 subst hn
 rw [show oid up.length 0=up.length+0 from rfl,Bn];rfl
theorem AGy {up:List AObj} {n:Nat} {x y z:AObj} (hn:up.length=n):(up++[x,y]).set (oid n 1) z=up++[x,z]:=by
 subst hn
 rw [show oid up.length 1=up.length+1 from rfl,Bn];rfl
theorem r9 {up:List AObj} {n:Nat} {x y:AObj} (hn:up.length=n):(up++[x,y])[oid n 0]? = some x:=by
 subst hn
 rw [show oid up.length 0=up.length+0 from rfl,E2];rfl
theorem AGz {up:List AObj} {n:Nat} {x y:AObj} (hn:up.length=n):(up++[x,y])[oid n 1]? = some y:=by
 subst hn
 rw [show oid up.length 1=up.length+1 from rfl,E2];rfl
theorem AKh {fc:Func} {r0 crest:Code} (hf:Tryz.prog.funcs[47]? = some fc) (hb:fc.body=some (.seq r0 crest)) (d a b:Nat) (H:List AObj):AW Tryz.prog (d+1) crest ⟨8,A9 2 (.v .nilIface) (A9 3 (.v .nilIface) (Go.SX.argsF [.ptr a 0,.ptr b 0])),H,[],[],none⟩ (fun e s2=>(e=.normal∨e=.ret)∧s2.defs=[]∧s2.up=H):=by
 have e:=Tryz.func47.symm.trans hf
 injection e with e
 subst e
 injection hb with hb
 injection hb with h1 h2
 subst h2
 refine To [0,1,2] (by simp only [go_sem,↓reduceIte,Nat.reduceEqDiff,Nat.reduceAdd]<;>rfl) ?_
 refine Z2 ?_;refine R.neqNil0 jU ?_;refine A2 [0,1,2,5] ?_
 refine A6 (fun ht5=>?_) (fun ht5=>?_)
 ·cases ht5
 refine He ?_;exact ⟨.inl rfl,rfl,rfl⟩

theorem zo {fc:Func} {r0 crest:Code} (hf:Tryz.prog.funcs[47]? = some fc) (hb:fc.body=some (.seq r0 crest)) {n:Nat} {up:List AObj} {x0 y1 y2:AV} (e a:Int) (hn:up.length=n) (d:Nat):AW Tryz.prog (d+1) crest ⟨8,A9 2 (.iface 26 (.agg ([Value.int .i64 e,Value.int .i64 a].map .v))) (A9 3 (.iface 26 (.agg ([Value.int .i64 e,Value.int .i64 a].map .v))) (Go.SX.argsF [.ptr (oid n 0) 0,.ptr (oid n 1) 0])),(up++[.cells 23 [x0],.cells 26 [y1,y2]]),[],[],none⟩ (fun e' s2=>(e'=.normal∨e'=.ret)∧s2.defs=[]∧s2.up=up++[.cells 23 [.slice true 5 []],.cells 26 [A7 e,A7 a]]):=by
 have e':=Tryz.func47.symm.trans hf
 injection e' with e'
 subst e'
 injection hb with hb
 injection hb with h1 h2
 subst h2
 refine To [0,1,2] (by simp only [go_sem,↓reduceIte,Nat.reduceEqDiff,Nat.reduceAdd]<;>rfl) ?_
 refine Z2 ?_;refine R.neqNil jU ?_;refine A2 [0,1,2,5] ?_
 refine A6 (fun ht5=>?_) (fun ht5=>?_)
 ·refine Me [0,1,0,7] [2] [.q 2 [] [],.s [] (some 0) [] []] (fun B=>if B 0=true then (up++[.cells 23 [.nil],.cells 26 [y1,y2]]) else (up++[.cells 23 [x0],.cells 26 [y1,y2]])) (fun _=>[]) Af (by kernel_rfl) rfl rfl (fun B=>by split<;>simp) ?_
  apply Y.q
  ·intro B hT hF
   refine Am ?_;refine D.typeAssert (.of jU) ?_;exact Tu
  case hTF=>decide
  refine Y.storeUp (o:=oid n 0) (t':=23) (ys:=[.nil]) (cs:=[x0]) (cs':=[.nil]) Tryz.sizeOf23 (fun B hB=>⟨by simp only [hB];exact r9 hn,by simp [upd,hB];exact (r7 hn).symm,rfl,by simp⟩) ?_
  refine Dj (tn:=[2]) (U:=(up++[.cells 23 [.nil],.cells 26 [y1,y2]])) ?_
  refine Cv jS (AGz hn) ?_ ?_
  ·simp
  rw [AGy hn]
  refine R.nilUp (oid n 0) 0 5 (r9 hn) (r7 hn) ?_;refine Nf ?_;exact ⟨.inl rfl,rfl,rfl⟩
 cases ht5

/-- Where the loop of moves stands. -/
structure MovAt (L:List Tok) (x:List Mov×Nat):Prop where
 lt:x.2<L.length
 le:x.1.length≤8
 at_:L7 L=F1 L (9-x.1.length) x.1 x.2
theorem md {L:List Tok} (hl:TokEnd L) (hll:L.length≤500000) {i:Nat} (hi:i<L.length) {m:Mov} {j:Nat} (h:J3 L i=.ok m j):i<j∧j<L.length:=by
 unfold J3 at h
 split at h
 ·cases h
 rename_i h0
 have hi1:i+1<L.length:=hl.step hi (by
  simp only [Cz,not_or,Tk,bne_eq_false_iff_eq] at h0
  rw [h0.1];decide)
 obtain ⟨m1,k,h1,h2⟩:=Cc h
 obtain ⟨u,j2,h3,h4⟩:=Cc h2
 injection h4 with h5 h6
 subst h6
 obtain ⟨a1,a2,_⟩:=ly hl hll _ (i+1) ⟨Al _,Al _,Al _,Al _⟩ (by omega) hi1 _ _ h1
 obtain ⟨b1,b2⟩:=El hl a2 _ _ h3
 exact ⟨by omega,b2⟩
theorem Rx {L:List Tok} {l:List Mov} {i:Nat} (hl:l.length≤8):F1 L (9-l.length) l i=if (A4 L i).kind != 0 then (if (l.length:Int)==8 then cl L i 3 else (J3 L i).bind fun m j=>F1 L (8-l.length) (l++[m]) j) else .ok l i:=by
 rw [show 9-l.length=(8-l.length)+1 by omega,F1]
theorem MovAt.out {L:List Tok} {x:List Mov×Nat} (h:MovAt L x) (hk:((A4 L x.2).kind != 0)=false):L7 L=.ok x.1 x.2:=by
 rw [h.at_,Rx h.le,if_neg (by rw [hk];simp)]
theorem MovAt.long {L:List Tok} {x:List Mov×Nat} (h:MovAt L x) (hk:((A4 L x.2).kind != 0)=true) (h8:((x.1.length:Int)==8)=true):L7 L=.bad 3 (A4 L x.2).at_:=by
 rw [h.at_,Rx h.le,if_pos hk,if_pos h8];rfl
theorem MovAt.step {L:List Tok} {x:List Mov×Nat} (h:MovAt L x) (hk:((A4 L x.2).kind != 0)=true) (h8:((x.1.length:Int)==8)=false):L7 L=(J3 L x.2).bind fun m j=>F1 L (8-x.1.length) (x.1++[m]) j:=by
 rw [h.at_,Rx h.le,if_pos hk,if_neg (by rw [h8];simp)]
theorem MovAt.bad {L:List Tok} {x:List Mov×Nat} (h:MovAt L x) (hk:((A4 L x.2).kind != 0)=true) (h8:((x.1.length:Int)==8)=false) {e a:Int} (hM:J3 L x.2=.bad e a):L7 L=.bad e a:=by
 rw [h.step hk h8,hM];rfl
theorem MovAt.on {L:List Tok} (hl:TokEnd L) (hll:L.length≤500000) {x:List Mov×Nat} (h:MovAt L x) (hk:((A4 L x.2).kind != 0)=true) (h8:((x.1.length:Int)==8)=false) {m:Mov} {j:Nat} (hM:J3 L x.2=.ok m j):MovAt L (x.1++[m],j)∧x.2<j:=by
 obtain ⟨a1,a2⟩:=md hl hll h.lt hM
 have h1:x.1.length≤7:=by
  have:=h.le
  simp only [beq_eq_false_iff_ne,ne_eq] at h8
  omega
 refine ⟨⟨a2,by show (x.1++[m]).length≤8;simp;omega,?_⟩,a1⟩
 rw [h.step hk h8,hM]
 show F1 L (8-x.1.length) (x.1++[m]) j=F1 L (9-(x.1++[m]).length) (x.1++[m]) j
 rw [show 9-(x.1++[m]).length=8-x.1.length by rw [Ai,Gt];omega]
theorem zp (e a:Int):∀v∈[Value.int .i64 e,Value.int .i64 a],(AV.v v).one=true:=by
 intro v hv
 simp only [C9,Hc,or_false] at hv
 rcases hv with rfl|rfl<;>rfl
theorem ACw {L:List Tok} {l:List Mov} {i:Nat} (h:L7 L=.ok l i):X3 L=.tup [Io l,.agg [A7 0,A7 0]]:=by unfold X3 Rw;rw [h]
theorem de {L:List Tok} {e a:Int} (h:L7 L=.bad e a):X3 L=.tup [.slice false 5 [],.agg [A7 e,A7 a]]:=by unfold X3 Rw;rw [h];rfl
theorem AKi {fn fc:Func} {x0 r1 y r0 crest:Code} (hf:Tryz.prog.funcs[23]? = some fn) (hb:fn.body=some (.seq x0 (.seq r1 y))) (hf2:Tryz.prog.funcs[47]? = some fc) (hb2:fc.body=some (.seq r0 crest)) (L:List Tok) (o:Nat) (Hp:List AObj) (ho:Hp[o]? = some (pmO L 0)) (hl:TokEnd L) (hll:L.length≤500000) (d:Nat):
  AW Tryz.prog (d+1) y ⟨21,A9 0 (.ptr o 0) (A9 2 (.ptr (oid Hp.length 0) 0) (A9 3 (.ptr (oid Hp.length 1) 0) (A9 4 (.fn (.func 47) [] [.ptr (oid Hp.length 0) 0,.ptr (oid Hp.length 1) 0]) fun _=>.any))),Hp,[.cells 23 [.nil],.cells 26 [A7 0,A7 0]],[],none⟩ (KG Tryz.prog crest 8 3 2 [.ptr (oid Hp.length 0) 0,.ptr (oid Hp.length 1) 0] [.cell 2 23,.cell 3 26] Hp.length (fun r H'=>r=X3 L∧∃i,H'=Hp.set o (pmO L i))):=by
 have e:=Tryz.func23.symm.trans hf
 injection e with e
 subst e
 injection hb with hb
 injection hb with h1 h2
 injection h2 with h2 h3
 subst h3
 refine To [0,2,3] (by simp only [go_sem,↓reduceIte,Nat.reduceEqDiff,Nat.reduceAdd]<;>rfl) ?_
 refine Ns (E8 ho).symm ?_;refine Hw ?_
 refine Bo (α:=List Mov×Nat) (fun x=>⟨21,A9 0 (.ptr o 0) (A9 2 (.ptr (oid Hp.length 0) 0) (A9 3 (.ptr (oid Hp.length 1) 0) (fun _=>.any))),Hp.set o (pmO L x.2),[.cells 23 [.slice true 5 (x.1.map K5)],.cells 26 [A7 0,A7 0]],[],none⟩) (fun x=>MovAt L x) (fun x=>L.length-x.2) (([],0)) ⟨hl.pos,by decide,rfl⟩ (StLe.nilCell (own:=[.cells 23 [.nil],.cells 26 [A7 0,A7 0]]) (n:=0) (j0:=0) (k:=5) (t:=23) (cs:=[.nil]) rfl rfl) rfl (fun x hx=>?_)
 refine Z35 ?_;refine Ap Tryz.call48 (c48 L x.2 o _ (A8 (getset ho)) hx.lt) ?_;refine Z0 ?_;refine A2 [0,2,3,8] ?_
 refine A6 (fun ht8=>?_) (fun ht8=>?_)
 ·have hk:((A4 L x.2).kind != 0)=true:=ht8
  refine ec ?_;refine Z50 ?_;refine A2 [0,2,3,11] ?_
  refine A6 (fun ht11=>?_) (fun ht11=>?_)
  ·have h8:((x.1.length:Int)==8)=true:=by rw [Bh] at ht11;exact ht11
   refine Kb ?_
   refine Cg (A3 (Dt ?_))
   refine Fs Tryz.call49 (c49 L x.2 o 3 _ (A8 (getset ho)) hx.lt) ?_
   rintro z U O hU hl' ⟨rfl,hH⟩
   obtain ⟨rfl,rfl⟩:=Mx hU hH
   refine ⟨fun h=>h,fun o h=>(by cases h),?_⟩
   refine nu ?_;refine K.lpP ?_;refine Jn ?_;exact KG.finP (vs:=[.int .i64 3,.int .i64 ((A4 L x.2).at_:Int)]) (zp _ _) (Es (R9 Tryz.isAgg23) (B5 Tryz.isAgg26 Tryz.sizeOf26)) (fun d=>zo hf2 hb2 3 ((A4 L x.2).at_:Int) (by simp) d) ⟨(de (hx.long hk h8)).symm,x.2,rfl⟩
  have h8:((x.1.length:Int)==8)=false:=by rw [Bh] at ht11;exact ht11
  refine Z4 ?_
  rcases hM:J3 L x.2 with ⟨m,j⟩|⟨e,a⟩
  rotate_left
  ·refine W.drawYP0 [2,3] [0,0,2,6,15,31] [2] [.q 2 [] [],.s [16] (some 0) [] [],.s [] none [0] [],.s [] none [0] [],.s [] none [0] []] (fun _=>Hp.set o (pmO L x.2)) (fun B=>[.cells 23 [.slice true 5 (x.1.map K5)],.cells 26 [A7 0,A7 0]]++bot (B 0)) Af (by kernel_rfl) (by kernel_rfl) rfl rfl (fun _=>rfl) ?_
   apply Y.q
   ·intro B hT hF
    exact Z38
   case hTF=>decide
   refine Rv (own0:=[.cells 23 [.slice true 5 (x.1.map K5)],.cells 26 [A7 0,A7 0]]) Tryz.call50 (fun B hB=>⟨rfl,by simp [bot,hB]⟩) ((c50 L x.2 o _ (A8 (getset ho)) hx.lt hl hll).bad hM) ?_ ?_
   ·rintro z U O f hU hl' ⟨rfl,j',hH⟩
    obtain ⟨rfl,rfl⟩:=Ch hU (Aa.1 (getset (B:=pmO L x.2) ho)).1 hH
    refine ⟨fun h=>Ci h (fun n=>C3),fun o h=>(by cases h),?_⟩
    intro hts
    have h2:=hts 2 (by simp)
    have h3:=hts 3 (by simp)
    simp only [go_sem,↓reduceIte,Nat.reduceEqDiff,Nat.reduceAdd] at h2 h3
    refine Nd ?_;refine K.lpP ?_;refine Jn ?_;exact KG.finP (vs:=[.int .i64 e,.int .i64 a]) (zp _ _) (Es (R9 (n:=0) (off:=0) Tryz.isAgg23 (hp:=by rw [h2];simp only [Bg];rfl)) (B5 (n:=1) (off:=0) Tryz.isAgg26 Tryz.sizeOf26 (hp:=by rw [h3];simp only [Bg];rfl))) (fun d=>zo hf2 hb2 e a (by simp) d) ⟨(de (hx.bad hk h8 hM)).symm,j',Bc ..⟩
   exact AIq
  have hon:=hx.on hl hll hk h8 hM
  refine Me [0,0,2,6,15,31] [0,2] [.s [14] (some 0) [] [],.q 1 [] [1],.s [16] (some 1) [] [],.q 1 [1] []] (fun B=>Hp.set o (pmO L (if B 1=true then j else x.2))) (fun B=>if B 0=true then [.cells 23 [.slice false 5 (x.1.map K5)],.cells 26 [A7 0,A7 0]] else [.cells 23 [.slice true 5 (x.1.map K5)],.cells 26 [A7 0,A7 0]]) Af (by kernel_rfl) rfl rfl (fun B=>by simp) ?_
  refine Y.loadOwnT (u:=Hp.length) (n:=0) (t':=23) (cs:=[.slice true 5 (x.1.map K5)]) (cs':=[.slice false 5 (x.1.map K5)]) Tryz.isAgg23 (fun B hB=>⟨by simp,by simp only [hB];rfl,by simp only [hB];rfl,rfl⟩) ?_
  apply Y.q
  ·intro B hT hF
   exact Z29
  case hTF=>decide
  refine Jk (r:=K5 m) (o:=o) (x0:=pmO L x.2) (x:=pmO L j) Tryz.call50 (fun B hB1 hB2 hB=>⟨by simp only [hB];exact getset ho,by simp only [hB];exact (Bc ..).symm,rfl,C3,?_⟩) ?_
  ·simp only [hB]
   exact ((c50 L x.2 o _ (A8 (getset ho)) hx.lt hl hll).ok hM)
  apply Y.q
  ·intro B hT hF
   exact Z28
  case hTF=>decide
  refine Dj (tn:=[0,2]) (U:=Hp.set o (pmO L j)) (O:=[.cells 23 [.slice false 5 (x.1.map K5)],.cells 26 [A7 0,A7 0]]) ?_
  refine N9 jU Tryz.type47 ?_ ?_ ?_
  ·simp [Tryz.t47];have:=hx.le;omega
  ·simp [Tryz.t47];have:=hx.le;omega
  refine AB2 ?_;refine Hh ?_
  refine Be (x.1++[m],j) hon.1 (by have:=hx.lt;have:=hon.2;show L.length-j<L.length-x.2;omega) (Bp (by simp [Cu,show Tryz.t47.size=5 from rfl]))
 have hk:((A4 L x.2).kind != 0)=false:=ht8
 have e:=hx.out hk
 refine Z41 ?_;refine Z87 ?_;refine Ho ?_;refine Ho ?_;refine Z14 ?_;exact KG.fin .ret (Es (R9 Tryz.isAgg23) (B5 Tryz.isAgg26 Tryz.sizeOf26)) (fun d=>AKh hf2 hb2 d _ _ _) ⟨(ACw e).symm,x.2,rfl⟩ (hlow:=by simpa using (Vp (n:=Hp.length) (k:=5) (o:=false) (l:=x.1)))

theorem c23 (L:List Tok) (o:Nat) (Hp:List AObj) (ho:Hp[o]? = some (pmO L 0)) (hl:TokEnd L) (hll:L.length≤500000):ACall Tryz.prog 23 [.ptr o 0] Hp (fun r H'=>r=X3 L∧∃i,H'=Hp.set o (pmO L i)):=by
 refine ACall.guarded (n:=21) (nc:=8) (a:=3) (b:=2) (os:=[oid Hp.length 0,oid Hp.length 1]) (own0:=[.cells 23 [.nil],.cells 26 [A7 0,A7 0]]) (rs:=[.cell 2 23,.cell 3 26])
  (fr0:=A9 0 (.ptr o 0) (A9 2 (.ptr (oid Hp.length 0) 0) (A9 3 (.ptr (oid Hp.length 1) 0) fun _=>.any))) (fr1:=A9 0 (.ptr o 0) (A9 2 (.ptr (oid Hp.length 0) 0) (A9 3 (.ptr (oid Hp.length 1) 0) (A9 4 (.fn (.func 47) [] [.ptr (oid Hp.length 0) 0,.ptr (oid Hp.length 1) 0]) fun _=>.any))))
  Tryz.func23 rfl rfl Tryz.ntmps23 (by simp) Tryz.func47 rfl Tryz.ntmps47 rfl (by simp) (by decide) (by decide) Tryz.call47 (fun d=>?_) (fun d=>?_) rfl (fun d l=>?_)
 ·refine To [0] (by simp only [go_sem,↓reduceIte,Nat.reduceEqDiff,Nat.reduceAdd]<;>rfl) ?_
  refine Ky ?_;refine Ka jZ ?_;refine Ka jZ ?_;refine T9 ?_;exact ⟨rfl,rfl⟩
 ·refine Jj ?_;refine lb ?_
  rfl
 exact @AKi { b:=ErrAt.b,bd:=d+1,bl:=l } _ _ _ _ _ _ _ Tryz.func23 rfl Tryz.func47 rfl L o Hp ho hl hll d
theorem zq {s:Str} (h:((C4 s).2.1 != 0)=true):M1 s=([],(C4 s).2.1,((C4 s).2.2:Int)):=if_pos h
theorem ANq {s:Str} (h:((C4 s).2.1 != 0)=false):M1 s=Rw (C4 s).1:=by
 unfold M1 Rw
 rw [if_neg (by rw [h];simp)]
 cases L7 (C4 s).1<;>rfl
theorem c8 (s:Str) (hs:s.length≤1048576) (Hp:List AObj):AFun Tryz.prog 8 [Ac s] Hp (.tup [Io (M1 s).1,.agg [A7 (M1 s).2.1,A7 (M1 s).2.2]]):=by
 refine B0 [.tmp 2,.cell 3 26] [0] Tryz.func8 Tryz.ntmps8 (fun d=>?_)
 refine AEn ?_;refine Qm ?_;refine Z2 ?_;refine Ap Tryz.call22 (c22 s hs _) ?_;refine Z7 ?_;refine nr ?_;refine A2 [3,4,5] ?_;refine Z50 ?_;refine A2 [3,4,5,13] ?_
 refine A6 (fun ht13=>?_) (fun ht13=>?_)
 ·have e:=zq ht13
  refine Gb [0,0,3] 2 Af (by kernel_rfl) ?_;refine Z5 ?_;refine Er ?_;refine AMd ?_;exact AM2
 have hz:(C4 s).2.1=0:=by simpa using ht13
 have hle:=Za hz
 have hlen:=Zh hz
 have e:=ANq ht13
 refine Z4 ?_;refine Z87 ?_;refine Ps ?_
 refine R.callEx (fun _=>Hp) (fun i=>[.cells 26 [A7 0,A7 0],.cells 26 [A7 (C4 s).2.1,A7 ((C4 s).2.2:Nat)],pmO (C4 s).1 i]) Tryz.call23 ((c23 (C4 s).1 (oid Hp.length 2) _ (by rw [Cj];rfl) hle (by omega)).mono (fun r H' ⟨e,i,h⟩=>⟨e,i,h.trans (by rw [O8];rfl)⟩)) (fun _=>rfl) (fun _ h=>h) (fun i=>?_)
 refine Z7 ?_;refine Ho ?_;refine Z14 ?_;exact Ab (Es Ag (B5 jA jS)) ⟨by rw [e],rfl⟩ (hlow:=by simpa using (Vp (n:=Hp.length) (k:=5) (o:=false) (l:=(Rw (C4 s).1).1)))

end Go.SX.Nb
namespace Go.SX
variable [GI:GlobInv]
open Classical Go.RowKit
section
variable {P:Program} {g:FuncId} {Hp:List AObj}
/-- Where a slice of plain values lies. -/
def AQy (w:World) (u:Value) (l:List Value):Prop:=
 (u=.slice none 0 0∧l=[])∨∃(ad:Addr) (c:Nat),u=.slice (some ad) l.length c∧l.length≤c∧(l≠[]→ad.spot=none)∧(∀(j:Nat) (x:Value),l[j]? = some x→w.cell? ⟨ad.block,ad.off+j,none⟩=some x)
theorem AFun.libSl {l xs:List Value} {o:Bool} {r:AV} {v:Value} (hr:∀G w,Rep G w none r v) (h:∀w u,Mh w→AQy w u l→Calls P g (u::xs).toArray w (fun e w'=>e=.returned v∧Below w.heap.size w w')):AFun P g (.slice o 1 (l.map .v)::xs.map .v) Hp r:=by
 intro d G w vs hn hv hH hT hTop
 have hn':vs.size=xs.length+1:=by simpa using hn
 have h0:vs[0]? = some (vs[0]'(by omega)):=F3 (by omega)
 have hvs:vs=((vs[0]'(by omega))::xs).toArray:=by
  apply mn
  ·simpa using hn'
  intro i h1 h2
  cases i with
  | zero=>rfl
  | succ i =>
   have hi:i<xs.length:=by omega
   have hrp:=hv (i+1) (.v xs[i]) vs[i+1] (by simp [hi]) (F3 h1)
   have:=O4 hrp
   simpa using this
 have hsl:AQy w (vs[0]'(by omega)) l:=by
  have hrp:=hv 0 _ _ rfl h0
  rcases Jh (.inl rfl) hrp with ⟨e,hl⟩|⟨ad,c,f,e,hc,hF,_⟩
  ·exact .inl ⟨e,by simpa using hl⟩
  rw [Bh] at e hc
  refine .inr ⟨ad,c,e,hc,fun hne=>hF.spot (by simpa using hne),fun j x hj=>?_⟩
  have hx:(l.map AV.v)[j]? = some (.v x):=by rw [D3,hj];rfl
  have h1:=(hF.cell j _ 0 _ hx rfl).2
  have h2:=O4 (hF.rep j _ 0 _ hx rfl)
  rw [h2] at h1
  simpa using h1
 rw [hvs]
 refine (callsIn_wide.2 (h w _ (fun x hx=>let ⟨_,u,a,b⟩:=hT.glob x hx;⟨u,a,b⟩) hsl)).mono ?_
 rintro e w' ⟨rfl,hb⟩
 obtain ⟨h1,h2⟩:=au hH hT hb
 exact ⟨v,G,r,Hp,rfl,(hr G w').lift,h1,h2,(Tv hT hb).keep _,rfl,rfl,rfl⟩
end
end Go.SX
