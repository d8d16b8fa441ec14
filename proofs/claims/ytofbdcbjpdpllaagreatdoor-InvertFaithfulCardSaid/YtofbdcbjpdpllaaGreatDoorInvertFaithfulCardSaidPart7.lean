/- On the way (part 7). -/
import Derived.Lib.ItoaLen
import Derived.Test.YtofbdcbjpdpllaaGreatDoorInvertFaithfulCardSaidPart6
set_option linter.all false
namespace Go.SX.Nb
open Go Go.SX Go.Proofs
variable [ErrAt]
set_option maxRecDepth 4000
abbrev xo (own:Bool) (t:Str) (ks:List Expr):AObj:=.cells 26 [A4 6,Ah t,A4 0,A4 0,Ah [],.slice own 6 (ks.map Aa)]
theorem AFt {n:Nat} {own:Bool} {t:Str} {ks:List Expr}:ObjLow n (xo own t ks):=by
 show ∀z∈[A4 6,Ah t,A4 0,A4 0,Ah [],AV.slice own 6 (ks.map Aa)],Low n z
 intro z hz
 simp only [Bj,Hy,or_false] at hz
 rcases hz with rfl|rfl|rfl|rfl|rfl|rfl
 all_goals first|exact E2|simp
theorem ACh:Ej (.agg #[.int .i64 0,.string ⟨#[]⟩,.int .i64 0,.int .i64 0,.string ⟨#[]⟩,.slice none 0 0])=.agg [A4 0,Ah [],A4 0,A4 0,Ah [],.nil]:=rfl
attribute [go_sem] ACh
theorem gA {Hp:List AObj} {o ox:Nat} {z A B:AObj} (ho:Hp[o]? = some z) (hne:ox≠o):((Hp.set o A).set ox B)[o]? = some A:=by rw [List.getElem?_set_ne hne];exact getset ho
theorem gB {Hp:List AObj} {o ox:Nat} {z A B:AObj} (hox:Hp[ox]? = some z):((Hp.set o A).set ox B)[ox]? = some B:=by
 have:=(List.getElem?_eq_some_iff.1 hox).1
 simp [this]
theorem AFu {Hp:List AObj} {o ox:Nat} {A A' B:AObj} (hne:ox≠o):((Hp.set o A).set ox B).set o A'=(Hp.set o A').set ox B:=by rw [List.set_comm _ _ hne,List.set_set]
theorem Py (ks:List Expr) (x:Expr):ks.map Aa++[.agg [.v (.int .i64 x.op),.v (sv x.text),.v (.int .i64 x.val.kind),.v (.int .i64 x.val.n),.v (sv x.val.s),.slice false 6 (x.kids.map Aa)]]=(ks++[x]).map Aa:=by rw [List.map_append,List.map_cons,List.map_nil,Ad x]
theorem ALo (l:List Tok) (S:PS) (t:Str) (Dv:Fam) (o ox:Nat) (Hp:List AObj) (hne:ox≠o) (ho:Hp[o]? = some (pr l S)) (hox:Hp[ox]? = some (xo true t [])) (hi:S.i<l.length) (hl:TokEnd l) (hll:l.length≤1048576) (hf:Ey l S.nest Dv.ei) (hcf:PC 114 l Dv.ei S.nest):ACall Tryz.prog 351 [.ptr ox 0,.ro [.ptr o 0]] Hp (fun r H'=>r=Aa (.mk 6 t noV (Id l Dv.ei S).1)∧H'=(Hp.set o (pr l (Id l Dv.ei S).2)).set ox (xo true t (Id l Dv.ei S).1)):=by
 have hoxl:=(List.getElem?_eq_some_iff.1 hox).1
 have hol:=(List.getElem?_eq_some_iff.1 ho).1
 refine ACall.body [.cell 2 26] [0,1] Tryz.func351 Tryz.ntmps351 (fun d=>?_)
 refine Z27 ?_;refine Xv ?_
 refine W.drawT [0,1,0,4,3,0,63,127,255,127,639] [1,3] [.q 1 [] [0],.s [4] (some 0) [] [],.q 1 [] [1],.s [6] (some 1) [] [],.q 2 [] []] (fun B=>(Hp.set o (if B 1=true then pr l (Dv.ei S).2 else pr l S)).set ox (if B 0=true then xo false t [] else xo true t [])) (fun _=>[Lg]) Ar (by kernel_rfl) (by simp only [Bool.false_eq_true,if_false];rw [J8 ho,J8 hox]) rfl (fun B=>by simp) ?_
 apply Y.q
 ·intro B hT hF
  exact Z70
 case hTF=>decide
 refine Y.loadUpT (o:=ox) (t':=26) (cs:=[A4 6,Ah t,A4 0,A4 0,Ah [],.slice true 6 ([].map Aa)]) (cs':=[A4 6,Ah t,A4 0,A4 0,Ah [],.slice false 6 ([].map Aa)]) Tryz.isAgg24 (fun B hB=>⟨by simp only [hB];exact gB hox,by simp [upd,List.set_set]<;>rfl,rfl⟩) ?_
 apply Y.q
 ·intro B hT hF
  exact Z70
 case hTF=>decide
 refine Y.callUp (r:=Aa (Dv.ei S).1) (o:=o) (x0:=pr l S) (x:=pr l (Dv.ei S).2) Tryz.call114 (fun B hT hF hB=>⟨by simp only [hB];exact gA ho hne,?_,rfl,Dg,?_⟩) ?_
 ·simp only [upd,hB,Nat.reduceEqDiff,if_false,if_true,Bool.false_eq_true]
  exact (AFu hne).symm
 ·simp only [hB]
  exact hcf o _ S (Ay (gA ho hne)) hi rfl
 apply Y.q
 ·intro B hT hF
  refine D.go ?_;exact vj
 case hTF=>decide
 refine Y.appendPut (tn:=[1,3]) (U:=(Hp.set o (pr l (Dv.ei S).2)).set ox (xo false t [])) (O:=[Lg]) (o:=ox) (t':=26) (cs:=[A4 6,Ah t,A4 0,A4 0,Ah [],.slice false 6 ([].map Aa)]) (by kernel_rfl) jU Tryz.type26 Tryz.sizeOf26 Tryz.sizeOf24 jU (Ay (gB hox)) ?_ ?_ ?_ (hfsz:=Tryz.sizeOf24)
 ·simp [Tryz.t26]
 ·simp [Tryz.t26]
 refine R.go ?_
 refine R.storeUpT jS (gB hox) ?_ ?_
 ·first|(rw [Py];exact E2)|(have:=E2 (n:=((Hp.set o (pr l (Dv.ei S).2)).set ox (xo false t [])).length) (k:=6) (o:=true) (l:=[(Dv.ei S).1]);simp only [List.map_cons,List.map_nil,Ad] at this;exact this)
 refine Xv ?_;refine W.seq ?_
 refine AW.loopC (α:=List Expr×PS) (fun r=>⟨34,Af 0 (.ptr ox 0) (Af 1 (.ro [.ptr o 0]) (Af 2 (.ptr (oid Hp.length 0) 0) (fun _=>.any))),(Hp.set o (pr l r.2)).set ox (xo true t r.1),[Lg],[],none⟩) (fun r=>ArgsAt l Dv.ei S r) (fun r=>l.length-r.2.i) (([(Dv.ei S).1],(Dv.ei S).2)) (.start (hf S hi rfl)) (StLe.of_eq (by simp [List.set_set,xo,Ad])) rfl (fun r hx=>?_)
 refine Z59 ?_
 refine R.go (h:=Q.loadUp (gA ho hne)) (hr:=?_)
 refine dw ?_;refine G.call Tryz.call203 (fun hB=>fm l r.2 Wi o _ (Ay (gA ho hne)) hx.fact.lt hl (by decide)) ?_;refine R.go ?_;refine R.fin [0,1,2,21] ?_
 refine W.cond (fun ht21=>?_) (fun ht21=>?_)
 ·have hon:=hx.on hl ht21 hf
  have hle:=hon.2.1.le
  have hlt0:=hx.fact.lt
  refine Z6 ?_;refine Ia ?_;refine Z2 ?_;refine R.callUp Tryz.call204 (gA ho hne) (by simp) Dg (xy l r.2 o _ (Ay (gA ho hne)) hx.fact.lt hll) ?_;refine Xv ?_
  refine W.drawT0 [0,1,0,4,3,0,63,127,255,127,639] [1,3] [.q 1 [] [0],.s [25] (some 0) [] [],.q 1 [] [1],.s [27] (some 1) [] [],.q 2 [] []] (fun B=>(Hp.set o (if B 1=true then pr l (Dv.ei (Aq r.2)).2 else pr l (Aq r.2))).set ox (if B 0=true then xo false t r.1 else xo true t r.1)) (fun _=>[Lg]) Ar (by kernel_rfl) (by simp only [Bool.false_eq_true,if_false];exact (AFu hne).symm) rfl (fun B=>by simp) ?_
  apply Y.q
  ·intro B hT hF
   exact Z70
  case hTF=>decide
  refine Y.loadUpT (o:=ox) (t':=26) (cs:=[A4 6,Ah t,A4 0,A4 0,Ah [],.slice true 6 (r.1.map Aa)]) (cs':=[A4 6,Ah t,A4 0,A4 0,Ah [],.slice false 6 (r.1.map Aa)]) Tryz.isAgg24 (fun B hB=>⟨by simp only [hB];exact gB hox,by simp [upd,List.set_set]<;>rfl,rfl⟩) ?_
  apply Y.q
  ·intro B hT hF
   exact Z70
  case hTF=>decide
  refine Y.callUp (r:=Aa (Dv.ei (Aq r.2)).1) (o:=o) (x0:=pr l (Aq r.2)) (x:=pr l (Dv.ei (Aq r.2)).2) Tryz.call114 (fun B hT hF hB=>⟨by simp only [hB];exact gA ho hne,?_,rfl,Dg,?_⟩) ?_
  ·simp only [upd,hB,Nat.reduceEqDiff,if_false,if_true,Bool.false_eq_true]
   exact (AFu hne).symm
  ·simp only [hB]
   exact hcf o _ (Aq r.2) (Ay (gA ho hne)) hon.1 hx.fact.nest
  apply Y.q
  ·intro B hT hF
   refine D.go ?_;exact vj
  case hTF=>decide
  refine Y.appendPut (tn:=[1,3]) (U:=(Hp.set o (pr l (Dv.ei (Aq r.2)).2)).set ox (xo false t r.1)) (O:=[Lg]) (o:=ox) (t':=26) (cs:=[A4 6,Ah t,A4 0,A4 0,Ah [],.slice false 6 (r.1.map Aa)]) (by kernel_rfl) jU Tryz.type26 Tryz.sizeOf26 Tryz.sizeOf24 jU (Ay (gB hox)) ?_ ?_ ?_ (hfsz:=Tryz.sizeOf24)
  ·have:=hx.fact.len;have:=hx.fact.lt;simp only [List.length_map,Tryz.t26];omega
  ·have:=hx.fact.len;have:=hx.fact.lt;simp only [List.length_map,Tryz.t26];omega
  refine R.go ?_
  refine R.storeUpT jS (gB hox) ?_ ?_
  ·first|(rw [Py];exact E2)|(have:=E2 (n:=((Hp.set o (pr l (Dv.ei S).2)).set ox (xo false t [])).length) (k:=6) (o:=true) (l:=[(Dv.ei S).1]);simp only [List.map_cons,List.map_nil,Ad] at this;exact this)
  refine Xv ?_;refine K.blN ?_
  refine K.lpN (r.1++[(Dv.ei (Aq r.2)).1],(Dv.ei (Aq r.2)).2) hon.2.2 (by show l.length-(Dv.ei (Aq r.2)).2.i<l.length-r.2.i;have:r.2.i+1≤(Dv.ei (Aq r.2)).2.i:=hle;omega) (StCut.of_eq ?_)
  simp only [show Tryz.t26.size=6 from rfl,Py,List.set_set]
 have hout:=hx.out (by rw [ht21];simp)
 refine py ?_;refine Es ?_
 refine R.go (h:=Q.loadUpN (gB hox)) (hr:=?_)
 refine Z11 ?_;exact K.fin (V.one (V.cellN jA jS)) ⟨by rw [hout,Wx];rfl,by rw [hout]⟩ (hlow:=by have:=Ab Hp.length (.mk 6 t noV r.1);rw [Wx] at this;simpa using this)

/-- within, with the function that gathers a call's kids. -/
theorem AJa (l:List Tok) (S:PS) (a:Int) (t:Str) (Dv:Fam) (o:Nat) (Hp:List AObj) (A0 A1:AObj) (l0:ObjLow 0 A0) (ho:Hp[o]? = some (pr l S)) (hi:S.i<l.length) (hl:TokEnd l) (hll:l.length≤1048576) (hnl:S.nest≤30) (hd:DeepC l Dv S.nest):
  ACall Tryz.prog 256 [.ptr o 0,A4 a,.fn (.func 351) [] [.ptr (oid Hp.length 2) 0,.ro [.ptr o 0]]] (Hp++[A0,A1,xo true t []]) (fun r H'=>r=Aa (if S.nest=30 then A9 else .mk 6 t noV (To l a Dv.ei S).1)∧H'=Hp.set o (pr l (To l a Dv.ei S).2)++[A0,A1,xo true t (To l a Dv.ei S).1]):=by
 have hlt:=(Ac.1 ho).1
 have ho':(Hp++[A0,A1,xo true t []])[o]? = some (pr l S):=Ay ho
 by_cases h30:S.nest=30
 ·refine (AC1 l S a 351 [] [.ptr (oid Hp.length 2) 0,.ro [.ptr o 0]] A9 (Dq S) o (Hp++[A0,A1,xo true t []]) ((Hp++[A0,A1,xo true t []]).set o (pr l (Dq S))) ho' (by omega) Tryz.call351 (by simp) (getset ho') rfl (fun h=>h) (fun h=>absurd h30 h)).mono fun r H' h=>?_
  have e:To l a Dv.ei S=([],Eo 18 a S):=if_pos (by rw [h30];rfl)
  rw [e,if_pos h30]
  obtain ⟨h1,h2⟩:=h.1 h30
  exact ⟨h1,by rw [h2,Oa _ _ hlt]⟩
 have hq:=Wk (S:=Dq S) hl hi (hd.ei h30).1
 refine (AC1 l S a 351 [] [.ptr (oid Hp.length 2) 0,.ro [.ptr o 0]] (.mk 6 t noV (Id l Dv.ei (Dq S)).1) (Id l Dv.ei (Dq S)).2 o (Hp++[A0,A1,xo true t []]) (Hp.set o (pr l (Id l Dv.ei (Dq S)).2)++[A0,A1,xo true t (Id l Dv.ei (Dq S)).1]) ho' (by omega) Tryz.call351 (by simp) (Ay (getset ho)) hq.nest (fun h y hy=>?_) (fun _ own=>?_)).mono fun r H' h=>?_
 ·rw [Oa _ _ hlt] at h
  rcases Ds.1 hy with hy|hy
  ·rcases Qb hy with h1|h1
   ·obtain ⟨i,hi',rfl⟩:=Rq h1
    by_cases hio:i=o
    ·subst hio
     have:Hp[i]=pr l S:=by rw [Ae hi'] at ho;injection ho
     rw [this];exact Dg
    refine h _ (ac _ ?_)
    rw [lz]
    exact ⟨i,by rw [D7 (Ne.symm hio),Ae hi']⟩
   rw [h1];exact Dg
  simp only [Bj,Hy,or_false] at hy
  rcases hy with rfl|rfl|rfl
  ·exact h _ (Qa _ (by simp))
  ·exact h _ (Qa _ (by simp))
  exact AFt
 ·have hoid:oid Hp.length 2≠o:=by unfold oid;omega
  have e1:(Hp++[A0,A1,xo true t []]).set o (pr l (Dq S))++own=(Hp.set o (pr l (Dq S))++[A0,A1,xo true t []])++own:=by rw [Oa _ _ hlt]
  rw [e1]
  have g1:((Hp.set o (pr l (Dq S))++[A0,A1,xo true t []])++own)[o]? = some (pr l (Dq S)):=Ay (Ay (getset ho))
  have g2:((Hp.set o (pr l (Dq S))++[A0,A1,xo true t []])++own)[oid Hp.length 2]? = some (xo true t []):=Ay (by
   have:=B0 (U:=Hp.set o (pr l (Dq S))) (O:=[A0,A1,xo true t []]) (n:=2)
   rw [Dm] at this
   exact this)
  refine (ALo l (Dq S) t Dv o (oid Hp.length 2) _ hoid g1 g2 hi hl hll (hd.ei h30).1 (hd.ei h30).2).mono fun r H' h=>⟨h.1,h.2.trans ?_⟩
  rw [B9,Oa _ _ (by simpa using hlt),Eb]
  have:=Dy (U:=Hp.set o (pr l (Id l Dv.ei (Dq S)).2)) (O:=[A0,A1,xo true t []]++own) (n:=2) (x:=xo true t (Id l Dv.ei (Dq S)).1)
  rw [Dm] at this
  rw [this]
  simp
 have e:To l a Dv.ei S=((Id l Dv.ei (Dq S)).1,Yv (Id l Dv.ei (Dq S)).2):=if_neg (by
  show ¬(((S.nest:Int)==30)=true)
  simp
  omega)
 rw [e,if_neg h30]
 obtain ⟨h1,h2⟩:=h.2 h30
 exact ⟨h1,by rw [h2,Oa _ _ (by simpa using hlt),Eb]⟩
theorem ALp (l:List Tok) (S:PS) (Dv:Fam) (t:Tok) (o:Nat) (Hp:List AObj) (ho:Hp[o]? = some (pr l S)) (hi:(Aq S).i<l.length) (hl:TokEnd l) (hll:l.length≤1048576) (hnl:S.nest≤30) (hd:DeepC l Dv S.nest):ACall Tryz.prog 349 [.ptr o 0,Ko t] Hp (fun r H'=>r=Aa (Ie l Dv t S).1∧H'=Hp.set o (pr l (Ie l Dv t S).2)):=by
 have hi0:S.i<l.length:=by have:S.i+1<l.length:=hi;omega
 have hol:=(Ac.1 ho).1
 have hkf:KFact l (Aq S) (E1 l Dv S):=Wl hl _ hi (fun h=>(hd.ei h).1)
 refine Ak [.cell 4 26] [0,1] Tryz.func349 Tryz.ntmps349 (fun d=>?_)
 refine Z1 ?_;refine Ka jZ ?_;refine A2 [2,3,4] ?_;refine Z1 ?_;refine A8 Tryz.call126 (AF4 t.text _) ?_;refine A5 ?_;refine bf ?_;refine Z31 ?_;refine A2 [2,3,4,5,12] ?_
 refine A3 (fun ht12=>?_) (fun ht12=>?_)
 ·have hlt0:C8 t.text<0:=by simpa using ht12
  have e:Ie l Dv t S=(A9,Eo 9 t.at_ S):=if_pos hlt0
  refine Z13 ?_;refine C5 Tryz.call116 ho (by simp) Dg (rj l S 9 t.at_ o _ (Ay ho)) ?_;refine I2 ?_;refine Z21 ?_;exact Z71
 have hge:¬C8 t.text<0:=by simpa using ht12
 refine Z74 ?_;refine C5 Tryz.call204 ho (by simp) Dg (xy l S o _ (Ay ho) hi0 hll) ?_;refine Z16 ?_;refine A2 [2,3,4,5,6] ?_;refine AEf ?_;refine Z16 ?_;refine A2 [2,3,4,5,6,7] ?_;refine Es ?_;refine S1 2 5 6 ?_;refine Z29 ?_;refine La ?_
 refine R.callX (up':=(Hp.set o (pr l (Aq S))).set o (pr l (E1 l Dv S).2)) (own':=[Lg,.cells 113 [A4 (Av l S.i).kind,Ah (Av l S.i).text,A4 (Av l S.i).at_],xo true t.text (E1 l Dv S).1]) Tryz.call256 (by have:=AJa l (Aq S) (Av l S.i).at_ t.text Dv o (Hp.set o (pr l (Aq S))) Lg (.cells 113 [A4 (Av l S.i).kind,Ah (Av l S.i).text,A4 (Av l S.i).at_]) Qz (getset ho) hi hl hll hnl hd;rw [Dm] at this;exact this) (by simp) (fun h=>AC3 h Dg) ?_
 refine A2 [2,3,4,5,7] ?_;refine Z2 ?_;refine C5 Tryz.call350 (getset (getset ho)) (by simp) Dg (AIu l (E1 l Dv S).2 Fw o _ (Ay (getset (getset ho))) hkf.lt hll) ?_;refine A2 [2,3,4,5,7] ?_;refine Z59 ?_
 refine A5 (h:=Dz (getset (getset (getset ho)))) (hr:=?_)
 refine Z0 ?_;refine Z47 ?_;refine Z64 ?_;refine A2 [2,3,4,7,41] ?_
 refine A3 (fun ht41=>?_) (fun ht41=>?_)
 ·have e:Ie l Dv t S=(A9,Eo 8 t.at_ (Fz l Fw (E1 l Dv S).2)):=by
   unfold Ie
   rw [if_neg hge,if_pos (by have:=ht41;simp only [Au] at this;exact this)]
  refine Z13 ?_;refine C5 Tryz.call116 (getset (getset (getset ho))) (by simp) Dg (rj l (Fz l Fw (E1 l Dv S).2) 8 t.at_ o _ (Ay (getset (getset (getset ho))))) ?_;refine I2 ?_;refine Z21 ?_;refine Cu ?_;exact A7 (An (As jA jS)) ⟨by rw [e,Ad],by rw [e,Eb,Eb,Eb]⟩ (hlow:=low_agg _)
 have e:Ie l Dv t S=(.mk 6 t.text noV (E1 l Dv S).1,(Fz l Fw (E1 l Dv S).2)):=by
  unfold Ie
  rw [if_neg hge,if_neg (by have:=ht41;simp only [Au] at this;rw [L4] at this;exact this)]
 refine Z74 ?_;refine I2 ?_;refine Z21 ?_;exact A7 (An (As jA jS)) ⟨by rw [e,Wx];rfl,by rw [e,Eb,Eb]⟩ (hlow:=by have:=Ab Hp.length (.mk 6 t.text noV (E1 l Dv S).1);rw [Wx] at this;simpa using this)

theorem s8 {l:List Tok} (hl:TokEnd l) (hll:l.length≤1048576) (n:Nat) (Dv:Fam) (hn:n≤30) (hd:DeepC l Dv n):Z8 l Dv n:=fun o Hp S t ho hi hS _ _=>by
 subst hS
 exact ALp l S Dv t o Hp ho hi hl hll hn hd
def P7 (l:List Val):Bool:=decide ((50:Int)<(l.length:Int)) || l.any fun v=>decide ((400:Int)<(v.s.length:Int))
theorem c11 (l:List Val) (Hp:List AObj):AFun Tryz.prog 11 [Cf l] Hp (B6 (P7 l)):=by
 refine Ak [.tmp 2] [0] Tryz.func11 Tryz.ntmps11 (fun d=>?_)
 refine Z57 ?_;refine Z34 ?_;refine A2 [0,6] ?_
 refine A3 (fun ht6=>?_) (fun ht6=>?_)
 ·rw [Au] at ht6
  have hm:P7 l=true:=by unfold P7;rw [ht6];rfl
  refine Z98 ?_;exact Z32
 rw [Au] at ht6
 have hl50:l.length≤50:=by simp at ht6;omega
 refine bc ?_;refine S4 ?_
 refine Dp (α:=Nat) (fun x=>⟨20,Af 0 (Cf l) (Af 3 (A4 (x:Nat)) (fun _=>.any)),Hp,[],[],none⟩) (fun x=>x≤l.length∧∀(j:Nat) (v:Val),j<x→l[j]? = some v→decide ((400:Int)<(v.s.length:Int))=false) (fun x=>l.length-x) (0) ⟨Bc _,fun j v h=>by omega⟩ (Co (by simp)) rfl (fun x hx=>?_)
 refine Z59 ?_;refine A2 [0,3,10] ?_
 refine A3 (fun ht10=>?_) (fun ht10=>?_)
 ·have hlt:x<l.length:=by simpa using ht10
  refine Z6 ?_;refine vo ?_
  refine A5 (h:=Ap (x) (Bp l[x]) (fun _=>Bv hlt)) (hr:=?_)
  refine Z69 ?_;refine A2 [0,3,19] ?_
  refine A3 (fun ht19=>?_) (fun ht19=>?_)
  ·have hm:P7 l=true:=by unfold P7;rw [Di];exact .inr (L5.2 ⟨l[x],C4 hlt,ht19⟩)
   refine dv ?_;exact AAv
  refine Z20 ?_;refine Z93 ?_
  refine A5 (h:=Q.add64 (h1:=fun _=>by omega) (h2:=fun _=>by omega)) (hr:=?_)
  refine A5 ?_;refine S4 ?_;exact AGz
 have hxe:l.length≤x:=by simpa using ht10
 have hm:P7 l=false:=by
  unfold P7
  rw [ht6,Fd,Pa]
  intro v hv
  obtain ⟨j,hj⟩:=Ct hv
  have:=hx.2 j v (by have:=(Ac.1 hj).1;omega) hj
  rw [this]
  simp
 refine py ?_;exact AHo

structure RowAt (c:List Col) (l:List Val) (x:Nat):Prop where
 le:x≤l.length
 ok:∀(i:Nat) (v:Val) (y:Col),i<x→l[i]? = some v→c[i]? = some y→Cv v=true∧(v.kind=0∨v.kind=y.kind)
theorem RowAt.next {c:List Col} {l:List Val} {x:Nat} (h:RowAt c l x) (hl:x<l.length) (hc:x<c.length) (hb:((!(Cv l[x])) || ((l[x].kind != 0)&&(l[x].kind != c[x].kind)))=false):RowAt c l (x+1):=⟨hl,fun i v y hi hv hy=>by
 rcases Bo i x with h'|h'
 ·exact h.ok i v y h' hv hy
 have e:i=x:=by omega
 subst e
 rw [Ae hl] at hv
 rw [Ae hc] at hy
 injection hv with hv
 injection hy with hy
 subst hv
 subst hy
 simp only [Fe,K1,uc,bne_eq_false_iff_eq] at hb
 exact ⟨hb.1,hb.2⟩⟩
theorem RowAt.bad {c:List Col} {l:List Val} {x:Nat} (hl:x<l.length) (hc:x<c.length) (hb:((!(Cv l[x])) || ((l[x].kind != 0)&&(l[x].kind != c[x].kind)))=true):Gl c l=false:=by
 cases h:Gl c l with
 | false=>rfl
 | true =>
  obtain ⟨h1,h2⟩:=(row_iff.1 h).2.2 x l[x] c[x] (Ae hl) (Ae hc)
  rw [h1] at hb
  simp only [K2,Fd,Ai,bne_iff_ne] at hb
  omega
theorem c12 (c:List Col) (hc:OkCols c) (l:List Val) (hll:l.length≤1048576) (Hp:List AObj):AFun Tryz.prog 12 [Ax c,Cf l] Hp (B6 (Gl c l)):=by
 refine Ak [.tmp 4] [0,1] Tryz.func12 Tryz.ntmps12 (fun d=>?_)
 refine Z49 ?_;refine Z36 ?_;refine A8 Tryz.call36 (c36 c hc _) ?_;refine Z0 ?_;refine Z47 ?_;refine Z64 ?_;refine A2 [0,1,16] ?_
 refine A3 (fun ht16=>?_) (fun ht16=>?_)
 ·have hm:Gl c l=false:=by
   simp only [Au,Di,If,bne_iff_ne,ne_eq] at ht16
   unfold Gl
   rcases ht16 with h|h
   ·rw [h];rfl
   rw [show (l.length==c.length)=false by simpa using (show l.length≠c.length by omega)];simp
  exact pk
 have hcl:Qr c=true∧l.length=c.length:=by
  simp only [Au,Fe,K1,bne_eq_false_iff_eq] at ht16
  exact ⟨ht16.1,by omega⟩
 refine jl ?_;refine A2 [0,17,18,19] ?_
 refine Dp (α:=Nat) (fun x=>⟨43,Af 0 (Ax c) (Af 17 (Cf l) (Af 18 (A4 (l.length:Nat)) (Af 19 (A4 (x:Nat)) (fun _=>.any)))),Hp,[],[],none⟩) (fun x=>RowAt c l x) (fun x=>l.length-x) (0) ⟨Bc _,fun i v y h=>by omega⟩ (Co (by simp)) rfl (fun x hx=>?_)
 refine Z2 ?_;refine A2 [0,17,18,19,20] ?_
 refine Dn (fun ht20=>?_) (fun ht20=>?_)
 ·have hlt:x<l.length:=by simpa using ht20
  have hlc:x<c.length:=by omega
  refine Pk ?_
  refine A5 (h:=Ap (x) (Bp l[x]) (fun _=>Bv hlt)) (hr:=?_)
  refine dr ?_;refine A2 [0,5,6,17,18,19] ?_;refine Ed [0,1,3,7,15,31,63,127,255,511,255,255,3327,7423,15615,32767,65535,131071] 15 Ar (by kernel_rfl) ?_;refine B1 ?_;refine D0 Tryz.call37 (c37 _ _) ?_;refine Z14 ?_;refine Z67 ?_;refine Z67 ?_;refine Z67 ?_;refine Z67 ?_
  refine H.go (h:=Ap (x) (El c[x]) (fun _=>Bv hlc)) (hr:=?_)
  refine Z67 ?_;refine Er ?_;refine ji ?_;refine A2 [0,17,18,19,41] ?_
  refine A3 (fun ht41=>?_) (fun ht41=>?_)
  ·have hm:=RowAt.bad hlt hlc ht41
   refine Z65 ?_;exact AB4
  refine Z68 ?_;refine A2 [0,17,18,19] ?_;refine Cd (x+1) (hx.next hlt hlc ht41) (by omega) ?_
  exact Dk (own:=[]) (fun _=>.refl _) (by repeat (first|exact Bg|refine Bf (by first|exact ga|exact low_cols|(simp [or_imp,forall_and];done)) ?_)) (by simp) (by simp)
 have hxe:l.length≤x:=by simpa using ht20
 have hm:Gl c l=true:=row_iff.2 ⟨by rw [←Mh];exact hcl.1,hcl.2,fun i v y hv hy=>hx.ok i v y (by have:=(Ac.1 hv).1;omega) hv hy⟩
 refine Z39 ?_;exact AAt

theorem gc {e:Expr} (h:Cb e=true):Kz e=true:=by
 unfold Kz
 cases Hh h with
 | val v hp h0=>simpa [Dl,Expr.op,Expr.val] using hp
 | name t ht=>rfl
 | neg a=>rfl
 | no a=>rfl
 | bin t a b ht=>rfl
 | call t k ht=>rfl
mutual
theorem Mj:∀e:Expr,Be Cb e=true→Be Kz e=true
 | .mk o t v k,h=>by
  rw [Be,Ai] at h ⊢
  exact ⟨gc h.1,ge k h.2⟩
theorem ge:∀k:List Expr,Lr Cb k=true→Lr Kz k=true
  | [],_=>rfl
  | e::r,h=>by
    rw [Lr,Ai] at h ⊢
    exact ⟨Mj e h.1,ge r h.2⟩
 end
theorem gg {c:List Col} {l:List Val} (h:Gl c l=true) (hr:∀v∈l, -9223372036854775808≤v.n∧v.n≤9223372036854775807):∀v∈l,Fine v:=fun v hv=>by
 obtain ⟨i,hi⟩:=Ct hv
 obtain ⟨_,h2,h3⟩:=row_iff.1 h
 have hil:=(Ac.1 hi).1
 exact ⟨(h3 i v _ hi (Ae (show i<c.length by omega))).1,(hr v hv).1,(hr v hv).2⟩
theorem c15 (n:Nat) (x:Expr) (hok:okE n x) (hn:n≤1048576) (hrg:Be Ci x=true) (c:List Col) (hc:OkCols c) (l:List Val) (hll:l.length≤1048576) (hlr:∀v∈l, -9223372036854775808≤v.n∧v.n≤9223372036854775807) (Hp:List AObj):AFun Tryz.prog 15 [Aa x,Ax c,Cf l] Hp (R1 (C6 x c l)):=by
 refine Ak [.cell 6 23,.tmp 7] [0,1,2] Tryz.func15 Tryz.ntmps15 (fun d=>?_)
 refine ph ?_;refine A2 [1,2,3,6] ?_;refine Z36 ?_;refine A8 Tryz.call38 (c38 n x hok hn _) ?_;refine S3 ?_;refine C7 Tryz.call12 (fun hB=>c12 c hc l hll _) ?_;refine Z64 ?_;refine A2 [1,2,3,6,16] ?_
 refine A3 (fun ht16=>?_) (fun ht16=>?_)
 ·have hm:C6 x c l=C3 1:=if_pos ht16
  refine Xs ?_;refine Z78 ?_;exact Z26
 have hm:C6 x c l=Ag c l x:=if_neg (by rw [ht16];simp)
 have hrr:Am x=true∧Gl c l=true:=by simpa using ht16
 obtain ⟨hr,hrow⟩:=hrr
 refine U5 ?_;refine jn ?_;refine A5 ?_;refine A8 Tryz.call44 (c44 c l hc (row_iff.1 hrow).2.1 (gg hrow hlr) n x hok (Jb hr) hrg (Mj x (Jb hr)) _) ?_;refine Z0 ?_;exact AH5

theorem ACall.argLeE {P:Program} {g:FuncId} {args args':List AV} {H:List AObj} {post:AV→List AObj→Prop} (h:ACall P g args' H post) (hl:args.length=args'.length) (hle:∀(i:Nat) (y y':AV),args[i]? = some y→args'[i]? = some y'→Le y y'):ACall P g args H post:=
 fun d G w vs h1 h2 h3 h4=>h d G w vs (by rw [h1,hl]) (fun i y' u hy' hu=>by
  have hlt:i<args.length:=by rw [hl];exact (Ac.1 hy').1
  exact (h2 i args[i] u (Ae hlt) hu).le (hle i args[i] y' (Ae hlt) hy')) h3 h4
theorem s9 {x:Expr} {c:List Col} {l:List Val} (hk:(Hq x c).2=0) (hrow:Gl c l=true):KOk (Hq x c).1 (C6 x c l):=by
 obtain ⟨h1,h2,h3⟩:=yt hk
 rw [h3] at hk ⊢
 rw [Uq h1 hrow]
 exact cm hrow (sizeE x) x (Al _) (Jb h1) hk
theorem yw {l:List Val} (h:P7 l=false):l.length≤1048576:=by
 unfold P7 at h
 simp only [Fe,decide_eq_false_iff_not] at h
 omega
set_option maxRecDepth 8000
/-! Trees that are trimmed. -/
/-- The kid that is all there is to a node, by its first one. -/
def Ec (o:Int) (t:Str) (ks:List Expr):Option Expr:=
 if ((o==6)&&(t==ifW))&&((ks.getD 0 A9).val==Cp true) then some (ks.getD 1 A9)
 else if ((o==6)&&(t==ifW))&&(((ks.getD 0 A9).val==Cp false) || ((ks.getD 0 A9).val==noV)) then some (ks.getD 2 A9)
 else if ((o==6)&&(t==Gy))&&((ks.getD 0 A9).val==noV) then some (ks.getD 1 A9)
 else if (o==6)&&(t==Gy) then some (ks.getD 0 A9)
 else if (o==5)&&(((t==orW)&&((ks.getD 0 A9).val==Cp true)) || ((t==Sv)&&((ks.getD 0 A9).val==Cp false))) then some (ks.getD 0 A9)
 else none
/-- A node of values. -/
def I8 (y:Expr):Option Expr:=
 if y.kids.any (fun k => !(k.op==1)) then none
 else if ((C6 y [] []).2 != 0) || (((C6 y [] []).1.kind==1)&&decide ((C6 y [] []).1.n<0)) then none else some (Dl (C6 y [] []).1)
def Kl (o:Int) (t:Str) (ks:List Expr):Expr:=
 match (if (ks.getD 0 A9).op==1 then Ec o t ks else none) with
 | some z=>z
 | none=>match I8 (.mk o t noV ks) with
  | some z=>z
  | none=>.mk o t noV ks
mutual
def Bm:Expr→Expr
 | .mk o t v k=>if (k.length:Int)==0 then .mk o t v k else Kl o t (nb k)
def nb:List Expr→List Expr
  | []=>[]
  | e::r=>Bm e::nb r
 end
theorem Zd:∀k,nb k=k.map Bm
 | []=>rfl
 | e::r=>by rw [nb,Zd r];rfl
theorem Wy (e:Expr):Bm e=if (e.kids.length:Int)==0 then e else Kl e.op e.text (e.kids.map Bm):=by
 cases e with
 | mk o t v k=>rw [Bm,Zd];rfl
/-- What a trimmed tree keeps. -/
structure TrimOk (c:List Col) (l:List Val) (x y:Expr):Prop where
 ev:Ag c l y=Ag c l x
 node:Be Cb y=true
 rng:Be Ci y=true
 size:sizeE y≤sizeE x
 depth:depthE y≤depthE x
theorem TrimOk.of {c:List Col} {l:List Val} {x y z:Expr} (h:TrimOk c l x y) (he:Ag c l z=Ag c l y) (hn:Be Cb z=true) (hr:Be Ci z=true) (hs:sizeE z≤sizeE y) (hd:depthE z≤depthE y):TrimOk c l x z:=
 ⟨he.trans h.ev,hn,hr,Jr hs h.size,Jr hd h.depth⟩
theorem Km {v:Val} (hp:Cv v=true) (h:v.kind=0):v=noV:=by
 obtain ⟨k,n,s⟩:=v
 simp only at h
 subst h
 simp [Cv] at hp
 rw [hp.1,hp.2];rfl
theorem Wz:∀{l:List Expr} {y:Expr},y∈l→depthE y≤F6 l
 | a::r,y,h=>by
  rw [F6]
  rcases Bj.1 h with rfl|h
  ·omega
  have:=Wz h
  omega
theorem Us {l:List Expr} {y:Expr} (h:y∈l):sizeE y≤Cg l:=by
 obtain ⟨i,hi⟩:=Ct h
 obtain ⟨hlt,rfl⟩:=Ac.1 hi
 exact Ol l hlt
theorem ACi {k:List Expr} {i:Nat} (h:i<k.length):k.getD i A9∈k:=by
 rw [Ch,Ae h]
 exact C4 h
theorem R4 {f:Expr→Rs} {k:List Expr} {i:Nat} {d:Rs} (h:i<k.length):(k.map f).getD i d=f (k.getD i A9):=by
 rw [Ch,Ch,Cm,Ae h]
 rfl
theorem Mk {c:List Col} {l:List Val} {k:Expr} (h:(k.op==1)=true):Ag c l k=(k.val,0):=by
 rw [Ag,Eh]
 unfold F8
 rw [if_pos h]
theorem yx {v:Val} (h:Cv v=true) (h0:0≤v.n):Cb (Dl v)=true:=by rw [I4,Dl,Gu];simp [h,h0]
theorem l5 {k:Expr} (h:Cb k=true) (h1:(k.op==1)=true):Cv k.val=true:=by
 have:=gc h
 unfold Kz at this
 rw [h1] at this
 simpa using this
/-- A node whose kids are trimmed. -/
theorem sa {c:List Col} {l:List Val} (hl:∀v∈l,Fine v) {o:Int} {t:Str} {k:List Expr} (hn:Be Cb (.mk o t noV k)=true) (hr:Be Ci (.mk o t noV k)=true) (hk:k≠[]):TrimOk c l (.mk o t noV k) (Kl o t k):=by
 have hself:TrimOk c l (.mk o t noV k) (.mk o t noV k):=⟨rfl,hn,hr,Al _,Al _⟩
 have hn0:=hn
 rw [Be,Ai] at hn0
 have hr0:=hr
 rw [Be,Ai] at hr0
 obtain ⟨q5,q34,q6,qall⟩:=Lw hn0.1
 have hkl:0<k.length:=List.length_pos_iff.2 hk
 have hkid:∀i,i<k.length→TrimOk c l (k.getD i A9) (k.getD i A9)∧sizeE (k.getD i A9)≤sizeE (.mk o t noV k)∧depthE (k.getD i A9)≤depthE (.mk o t noV k):=fun i hi=>by
  have hm:=ACi hi
  refine ⟨⟨rfl,(Bk _ _).1 hn0.2 _ hm,(Bk _ _).1 hr0.2 _ hm,Al _,Al _⟩,?_,?_⟩
  ·rw [sizeE];have:=Us hm;omega
  rw [depthE];have:=Wz hm;omega
 -- a kid that AJe to the same is as good
 have hpick:∀i,i<k.length→Ag c l (.mk o t noV k)=Ag c l (k.getD i A9)→TrimOk c l (.mk o t noV k) (k.getD i A9):=fun i hi he=>by
  obtain ⟨h1,h2,h3⟩:=hkid i hi
  exact ⟨he.symm,h1.node,h1.rng,h2,h3⟩
 have hev:Ag c l (.mk o t noV k)=F8 Aj c l o t noV (k.map (Ag c l)):=by rw [Ag,Eh];rfl
 have hreck:TrimOk c l (.mk o t noV k) (match I8 (.mk o t noV k) with|some z=>z|none=>.mk o t noV k):=by
  unfold I8
  split
  ·rename_i z hz
   split at hz
   ·cases hz
   rename_i hc
   split at hz
   ·cases hz
   rename_i h2
   injection hz with hz
   subst hz
   have hconst:∀y∈k,(y.op==1)=true:=fun y hy=>by
    cases h:y.op==1 with
    | true=>rfl
    | false=>exact absurd (L5.2 ⟨y,hy,by rw [h];rfl⟩) hc
   simp only [Di,Ai,decide_eq_true_eq,not_or,bne_iff_ne,ne_eq,Decidable.not_not] at h2
   obtain ⟨he0,hneg⟩:=h2
   have hright:Am (.mk o t noV k)=true:=by
    cases h:Am (.mk o t noV k) with
    | true=>rfl
    | false=>unfold C6 P6 at he0;rw [h] at he0;cases he0
   have hrow:Gl [] []=true:=by kernel_rfl
   have hm:C6 (.mk o t noV k) [] []=Ag [] [] (.mk o t noV k):=Uq hright hrow
   have hfine:Fine (C6 (.mk o t noV k) [] []).1:=by
    rw [hm]
    exact Hs (fun v hv=>by cases hv) _ (Mj _ hn) hr
   have ho2:(o==2)=false:=by
    have hnn:=hn0.1
    rw [I4,Gu] at hnn
    cases h:o==2 with
    | false=>rfl
    | true =>
     have:o=2:=by simpa using h
     subst this
     simp at hnn
     exact absurd hnn.2.2 (by intro e;exact hk e)
   have hsame:Ag c l (.mk o t noV k)=Ag [] [] (.mk o t noV k):=by
    have e1:k.map (Ag c l)=k.map (Ag [] []):=Q8 fun y hy=>by rw [Mk (hconst y hy),Mk (hconst y hy)]
    rw [hev,e1,Ag,Eh]
    show F8 Aj c l o t noV _=F8 Aj [] [] o t noV _
    unfold F8
    rw [ho2]
    rfl
   have hp:=hfine.plain
   refine ⟨?_,?_,?_,?_,?_⟩
   ·rw [hsame,←hm,Mk (k:=Dl _) rfl]
    show ((C6 (.mk o t noV k) [] []).1,(0:Int))=_
    rw [←he0]
   ·rw [Db,Ai]
    refine ⟨?_,rfl⟩
    refine yx hp ?_
    by_cases hk1:(C6 (.mk o t noV k) [] []).1.kind=1
    ·have:¬(C6 (.mk o t noV k) [] []).1.n<0:=fun h=>hneg ⟨by simpa using hk1,h⟩
     omega
    generalize (C6 (.mk o t noV k) [] []).1=v at hp hk1
    unfold Cv at hp
    split at hp
    ·simp at hp;omega
    split at hp
    ·rename_i h;exact absurd (by simpa using h) hk1
    split at hp
    ·simp at hp;omega
    simp at hp;omega
   ·rw [Db,Ai]
    refine ⟨?_,rfl⟩
    show Ci (Dl _)=true
    unfold Ci
    simp only [Ai,decide_eq_true_eq]
    exact ⟨hfine.lo,hfine.hi⟩
   ·rw [sizeE];show 1≤_;omega
   rw [depthE];show 1≤_;omega
  exact hself
 unfold Kl
 split
 ·rename_i z hz
  split at hz
  ·rename_i h1
   have hc0:=Mk (c:=c) (l:=l) h1
   have hp:=l5 (by have:=(hkid 0 hkl).1.node;rw [Db,Ai] at this;exact this.1) h1
   have hg0:(k.map (Ag c l)).getD 0 (noV,0)=((k.getD 0 A9).val,0):=by rw [R4 hkl,hc0]
   have tr:∀{v:Val},(v=Cp true∨v=Cp false∨v=noV)→B7 (v,0)=(v,0):=fun {v} h=>by
    rcases h with rfl|rfl|rfl<;>rfl
   unfold Ec at hz
   split at hz
   ·rename_i h
    injection hz with hz
    subst hz
    simp only [Ai,beq_iff_eq] at h
    obtain ⟨⟨rfl,rfl⟩,hv⟩:=h
    have h3:k.length=3:=by
     rcases F7 (q6 rfl) with ⟨e,_⟩|⟨e,_⟩|⟨e,_⟩|⟨e,_⟩|⟨e,_⟩|⟨e,_⟩|⟨e,_⟩|⟨_,e⟩
     all_goals first|exact e|exact absurd (show ifW=_ from e) (by decide)
    refine hpick 1 (by omega) ?_
    rw [hev]
    show Ea ifW _ _ _=_
    rw [hg0,hv,R4 (show 1<k.length by omega)]
    rfl
   split at hz
   ·rename_i h
    injection hz with hz
    subst hz
    simp only [Ai,Di,beq_iff_eq] at h
    obtain ⟨⟨rfl,rfl⟩,hv⟩:=h
    have h3:k.length=3:=by
     rcases F7 (q6 rfl) with ⟨e,_⟩|⟨e,_⟩|⟨e,_⟩|⟨e,_⟩|⟨e,_⟩|⟨e,_⟩|⟨e,_⟩|⟨_,e⟩
     all_goals first|exact e|exact absurd (show ifW=_ from e) (by decide)
    refine hpick 2 (by omega) ?_
    rw [hev]
    show Ea ifW _ _ _=_
    rw [hg0,R4 (show 2<k.length by omega)]
    rcases hv with hv|hv<;>rw [hv]<;>rfl
   split at hz
   ·rename_i h
    injection hz with hz
    subst hz
    simp only [Ai,beq_iff_eq] at h
    obtain ⟨⟨rfl,rfl⟩,hv⟩:=h
    have h3:k.length=2:=by
     rcases F7 (q6 rfl) with ⟨e,_⟩|⟨e,_⟩|⟨e,_⟩|⟨e,_⟩|⟨_,e⟩|⟨e,_⟩|⟨e,_⟩|⟨e,_⟩
     all_goals first|exact e|exact absurd (show Gy=_ from e) (by decide)
    refine hpick 1 (by omega) ?_
    rw [hev]
    show Ea Gy ((k.map (Ag c l)).getD 0 (noV,0)) ((k.map (Ag c l)).getD 1 (noV,0)) ((k.map (Ag c l)).getD 2 (noV,0))=_
    rw [hg0,hv,R4 (show 1<k.length by omega)]
    rfl
   rename_i hnull
   split at hz
   ·rename_i h
    injection hz with hz
    subst hz
    have h':=h
    simp only [Ai,beq_iff_eq] at h
    obtain ⟨rfl,rfl⟩:=h
    have hv:¬(k.getD 0 A9).val.kind=0:=fun e=>hnull (by rw [Km hp e];rfl)
    refine hpick 0 hkl ?_
    rw [hev]
    show Ea Gy ((k.map (Ag c l)).getD 0 (noV,0)) ((k.map (Ag c l)).getD 1 (noV,0)) ((k.map (Ag c l)).getD 2 (noV,0))=_
    rw [hg0,hc0]
    unfold Ea
    simp only [show (Gy==ifW)=false from rfl,show (Gy==C0)=false from rfl,Bd,if_false]
    rw [if_neg (by simp),if_pos (by simpa using hv)]
   split at hz
   ·rename_i h
    injection hz with hz
    subst hz
    simp only [Ai,Di,beq_iff_eq] at h
    obtain ⟨rfl,h⟩:=h
    refine hpick 0 hkl ?_
    rcases h with ⟨rfl,hv⟩|⟨rfl,hv⟩
    ·rw [hev]
     show H5 (Cp true) _ _=_
     rw [hg0,hc0,hv]
     rfl
    rw [hev]
    show H5 (Cp false) _ _=_
    rw [hg0,hc0,hv]
    rfl
   cases hz
  cases hz
 exact hreck
theorem co {c:List Col} {l:List Val} (hl:∀v∈l,Fine v):∀(n:Nat) (x:Expr),sizeE x≤n→Be Cb x=true→Be Ci x=true→TrimOk c l x (Bm x)
 | 0,x,h,_,_=>by rw [Gt] at h;omega
 | n+1,x,h,hn,hr=>by
  rw [Wy]
  split
  ·exact ⟨rfl,hn,hr,Al _,Al _⟩
  rename_i h0
  have hk0:x.kids≠[]:=fun e=>h0 (by rw [e];rfl)
  have hn0:=hn
  rw [Db,Ai] at hn0
  have hr0:=hr
  rw [Db,Ai] at hr0
  have ih:∀y∈x.kids,TrimOk c l y (Bm y):=fun y hy=>by
   obtain ⟨i,hi⟩:=Ct hy
   obtain ⟨hlt,rfl⟩:=Ac.1 hi
   exact co hl n _ (by have:=ek x hlt;omega) ((Bk _ _).1 hn0.2 _ hy) ((Bk _ _).1 hr0.2 _ hy)
  obtain ⟨o,t,v,k⟩:=x
  simp only [Expr.op,Expr.text,Expr.kids] at *
  -- it has kids, so its own value is none
  have hv:v=noV:=by
   have hnn:=hn0.1
   rw [I4,Gu] at hnn
   split at hnn
   ·rename_i h1
    simp only [Ai,beq_iff_eq] at hnn
    exact absurd (Pb (by have:=hnn.2;omega)) hk0
   split at hnn
   ·cases hnn
   rename_i hb;exact cf (by simpa using hb)
  subst hv
  have hmem:∀y∈k.map Bm,∃z∈k,y=Bm z:=fun y hy=>by
   obtain ⟨z,hz,rfl⟩:=Cw.1 hy
   exact ⟨z,hz,rfl⟩
  have hn1:Be Cb (.mk o t noV (k.map Bm))=true:=by
   rw [Be,Ai]
   refine ⟨?_,(Bk _ _).2 fun y hy=>?_⟩
   ·have hnn:=hn0.1
    rw [I4,Gu] at hnn ⊢
    rw [Au]
    exact hnn
   obtain ⟨z,hz,rfl⟩:=hmem y hy
   exact (ih z hz).node
  have hr1:Be Ci (.mk o t noV (k.map Bm))=true:=by
   rw [Be,Ai]
   refine ⟨hr0.1,(Bk _ _).2 fun y hy=>?_⟩
   obtain ⟨z,hz,rfl⟩:=hmem y hy
   exact (ih z hz).rng
  have hT:TrimOk c l (.mk o t noV k) (.mk o t noV (k.map Bm)):=by
   refine ⟨?_,hn1,hr1,?_,?_⟩
   ·rw [Ag,Ag,Eh,Eh]
    show F8 Aj c l o t noV ((k.map Bm).map (Ag c l))=F8 Aj c l o t noV (k.map (Ag c l))
    have e2:k.map (Ag c l ∘ Bm)=k.map (Ag c l):=Q8 fun y hy=>(ih y hy).ev
    rw [Hv,e2]
   ·rw [sizeE,sizeE]
    have:∀r:List Expr,(∀y∈r,y∈k)→Cg (r.map Bm)≤Cg r:=fun r=>by
     induction r with
     | nil=>intro _;exact Al _
     | cons y r ihr =>
      intro hs
      rw [C9,Cg,Cg]
      have h1:=(ih y (hs y Hw)).size
      have h2:=ihr fun z hz=>hs z (Jo _ hz)
      omega
    have:=this k fun _ h=>h
    omega
   rw [depthE,depthE]
   have:∀r:List Expr,(∀y∈r,y∈k)→F6 (r.map Bm)≤F6 r:=fun r=>by
    induction r with
    | nil=>intro _;exact Al _
    | cons y r ihr =>
     intro hs
     rw [C9,F6,F6]
     have h1:=(ih y (hs y Hw)).depth
     have h2:=ihr fun z hz=>hs z (Jo _ hz)
     omega
   have:=this k fun _ h=>h
   omega
  have h2:=sa (c:=c) hl hn1 hr1 (by simpa using hk0)
  exact hT.of h2.ev h2.node h2.rng h2.size h2.depth
/-! What the signs of bits tell. -/
theorem X0 (x:BitVec 64):IntKind.i64.wrap (x.toNat:Int)=x.toInt:=by
 rw [IntKind.wrap_i64,BitVec.toInt_eq_toNat_cond]
 have:=x.isLt
 split<;>omega
theorem Ot {m:Int} (h0 : -9223372036854775808≤m) (h1:m≤9223372036854775807):(BitVec.ofInt 64 m).msb=decide (m<0):=by
 rw [BitVec.msb_eq_toInt,BitVec.toInt_ofInt]
 congr 1
 have:m.bmod (2 ^ 64)=m:=by
  rw [Int.bmod_eq_of_le]<;>omega
 rw [this]
theorem gh {m n:Int} (m0 : -9223372036854775808≤m) (m1:m≤9223372036854775807) (n0 : -9223372036854775808≤n) (n1:n≤9223372036854775807):decide (T9 .i64 m n<0)=(decide (m<0)&&decide (n<0)):=by
 have e:T9 .i64 m n=(BitVec.ofInt 64 m &&& BitVec.ofInt 64 n).toInt:=X0 _
 rw [e,←BitVec.msb_eq_toInt,BitVec.msb_and,Ot m0 m1,Ot n0 n1]
theorem R5 {m n:Int} (m0 : -9223372036854775808≤m) (m1:m≤9223372036854775807) (n0 : -9223372036854775808≤n) (n1:n≤9223372036854775807):decide (Mr .i64 m n<0)=(decide (m<0) ^^ decide (n<0)):=by
 have e:Mr .i64 m n=(BitVec.ofInt 64 m ^^^ BitVec.ofInt 64 n).toInt:=X0 _
 rw [e,←BitVec.msb_eq_toInt,BitVec.msb_xor,Ot m0 m1,Ot n0 n1]
theorem Jc (m n:Int) : -9223372036854775808≤Mr .i64 m n∧Mr .i64 m n≤9223372036854775807:=J3 _
/-- num.Add: the sum, where 64 bits hold it. -/
theorem nc {a b:Int} (a0 : -9223372036854775808≤a) (a1:a≤9223372036854775807) (b0 : -9223372036854775808≤b) (b1:b≤9223372036854775807):Y5 a b=if -9223372036854775808≤a+b∧a+b≤9223372036854775807 then (a+b,0) else (0,4):=by
 have hw:=IntKind.wrap_i64 (a+b)
 have hc:=J3 (a+b)
 unfold Y5
 generalize IntKind.i64.wrap (a+b)=c at hw hc ⊢
 rw [gh (Jc _ _).1 (Jc _ _).2 (Jc _ _).1 (Jc _ _).2,R5 a0 a1 hc.1 hc.2,R5 b0 b1 hc.1 hc.2]
 by_cases ha:a<0<;>by_cases hb:b<0<;>by_cases hcn:c<0<;>simp [ha,hb,hcn]<;>(try split)<;>(try simp)<;>omega
/-- num.Sub. -/
theorem Ut {a b:Int} (a0 : -9223372036854775808≤a) (a1:a≤9223372036854775807) (b0 : -9223372036854775808≤b) (b1:b≤9223372036854775807):Jw a b=if -9223372036854775808≤a-b∧a-b≤9223372036854775807 then (a-b,0) else (0,4):=by
 have hw:=IntKind.wrap_i64 (a-b)
 have hc:=J3 (a-b)
 unfold Jw
 generalize IntKind.i64.wrap (a-b)=c at hw hc ⊢
 rw [gh (Jc _ _).1 (Jc _ _).2 (Jc _ _).1 (Jc _ _).2,R5 a0 a1 b0 b1,R5 a0 a1 hc.1 hc.2]
 by_cases ha:a<0<;>by_cases hb:b<0<;>by_cases hcn:c<0<;>simp [ha,hb,hcn]<;>(try split)<;>(try simp)<;>omega
set_option maxRecDepth 4000
/-! Every number that is printed is read. -/
theorem ACj {u:Nat} (hu:1≤u):((Lib.decDigits u).headD 0==48)=false:=by
 by_cases h:u<10
 ·rw [Lib.decDigits_one h]
  have h9:u=1∨u=2∨u=3∨u=4∨u=5∨u=6∨u=7∨u=8∨u=9:=by omega
  rcases h9 with rfl|rfl|rfl|rfl|rfl|rfl|rfl|rfl|rfl<;>rfl
 obtain ⟨c,r,e,h0⟩:=Wo u
 rw [e]
 have:(c==48)=false:=by simpa using h0 (by omega)
 simp [this]
theorem ACk {u:Nat} (h1:1≤u) (h2:u≤9223372036854775808):C1 (45::Lib.decDigits u)=(-(u:Int),0):=by
 obtain ⟨c,r,e,_⟩:=Wo u
 have hd:Ms (45::Lib.decDigits u)=Lib.decDigits u:=by
  unfold Ms Lib.trimPrefix;simp [Lib.hasPrefix]
 have hb:Hf (45::Lib.decDigits u)=false:=by
  unfold Hf
  rw [hd,ACj h1]
  have a1:(Lib.decDigits u==[])=false:=by rw [e];rfl
  have a2:Lib.trimS (Lib.decDigits u) digs=[]:=by
   unfold Lib.trimS Lib.trimRightS
   have:(Lib.decDigits u).reverse.dropWhile (fun x=>digs.contains x)=[]:=by
    rw [bi]
    intro b hb
    exact cg u b (by simpa using hb)
   rw [this]
   rfl
  rw [a1,a2]
  rfl
 have hp:Lib.parseIntB 64 (45::Lib.decDigits u)=.ok (-(u:Int)):=by
  have hu:Lib.parseUintB 64 (Lib.decDigits u)=.ok u:=by
   unfold Lib.parseUintB
   rw [if_neg (by rw [e];simp)]
   exact Wp (by decide) u (by
    have:(2:Nat) ^ 64-1=18446744073709551615:=by decide
    omega)
  have e63:(2:Nat) ^ (64-1)=9223372036854775808:=by decide
  have e45:(45:UInt8).toNat=45:=rfl
  simp only [Lib.parseIntB,e45,or_true,if_true,hu,e63]
  simp
  omega
 unfold C1
 rw [hb,hp]
 rfl
theorem ACl {n:Int} (h0 : -9223372036854775808≤n) (h1:n≤9223372036854775807):C1 (Lib.itoa n)=(n,0):=by
 by_cases h:0≤n
 ·obtain ⟨u,rfl⟩:∃u:Nat,n=(u:Int):=⟨n.toNat,by omega⟩
  have e0:Lib.itoa (u:Int)=Lib.decDigits u:=by unfold Lib.itoa;rw [if_neg (by omega)];simp
  rw [e0,AC9 u (by omega)]
 obtain ⟨u,rfl⟩:∃u:Nat,n = -(u:Int):=⟨n.natAbs,by omega⟩
 have e0:Lib.itoa (-(u:Int))=45::Lib.decDigits u:=by unfold Lib.itoa;rw [if_pos (by omega)];simp
 rw [e0,ACk (by omega) (by omega)]
set_option maxRecDepth 8000
/-! The tree back: invert's model. -/
def Ml:Str:=[115,116,114]
def cp:Str:=[110,117,109]
def Lh:Str:=[108,101,110]
def Tt:Str:=[108,101,102,116]
def Nz:Str:=[114,105,103,104,116]
def Ha (x:Expr) (t:Str) (y:Expr):Expr:=.mk 5 t noV [x,y]
def E4 (t:Str) (l:List Expr):Expr:=.mk 6 t noV l
def Li (x:Expr):Bool:=decide (0<(Mi x).length)
/-- The kid with the name, the other one, and whether that AJe first. -/
structure Sd where
 e:Expr
 c:Expr
 first:Bool
def Jm (x:Expr):Option Sd:=match x.kids with
 | [a]=>if Li a then some ⟨a,A9,false⟩ else none
 | [a,b]=>if Li a==Li b then none else if Li a then some ⟨a,b,false⟩ else some ⟨b,a,true⟩
 | _=>none
def O0 (x:Expr) (k:Int):Option Val:=if (Am x&&((Bm x).op==1))&&((Bm x).val.kind==k) then some (Bm x).val else none
def yy (t:Str) (s:Sd) (y:Expr):Option Expr:=match O0 s.c 1 with
 | none=>none
 | some v=>some (if t==[43] then Ha y [45] (Dl v) else if s.first then Ha (Dl v) [45] y else Ha y [43] (Dl v))
def gi (s:Sd) (y:Expr):Option Expr:=match O0 s.c 2 with
 | none=>none
 | some v=>some (E4 (if s.first then Nz else Tt) [y,Ha (E4 Lh [y]) [45] (Dl ⟨1,(v.s.length:Int),[]⟩)])
def R6 (x:Expr) (s:Sd) (y:Expr):Option Expr:=
 if (x.op==3) || (x.op==4) then some (.mk x.op [] noV [y])
 else if (x.op==6)&&(x.text==Ml) then some (E4 cp [y])
 else if (x.op==5)&&((x.text==[43]) || (x.text==[45])) then yy x.text s y
 else if (x.op==5)&&(x.text==[38]) then gi s y
 else none
def Fi (x y:Expr):Option (Expr×Expr):=match Jm x with
 | none=>none
 | some s=>match R6 x s y with
  | none=>none
  | some z=>if Am z then some (s.e,z) else none
/-- The last that peel yields. -/
def Eu:Nat→Expr→Expr→Expr×Expr
 | 0,x,y=>(x,y)
 | n+1,x,y=>if x.op==2 then (x,y) else match Fi x y with
  | none=>(x,y)
  | some p=>Eu n p.1 p.2
/-! Values by their kinds. -/
theorem gj {v:Val} (h:Fine v) (hk:v.kind=1):v=⟨1,v.n,[]⟩:=by
 obtain ⟨k,n,s⟩:=v
 simp only at hk;subst hk
 have:=h.plain
 simp [Cv] at this
 rw [this]
theorem Tu {v:Val} (h:Fine v) (hk:v.kind=2):v=⟨2,0,v.s⟩∧v.s.length≤200:=by
 obtain ⟨k,n,s⟩:=v
 simp only at hk;subst hk
 have:=h.plain
 simp [Cv] at this
 exact ⟨by rw [this.1],by show s.length≤200;have:=this.2;omega⟩
theorem AJb {v:Val} (h:Fine v) (hk:v.kind=3):Cp ((Cp (v.n==0)).n==0)=v:=by
 obtain ⟨k,n,s⟩:=v
 simp only at hk;subst hk
 have:=h.plain
 simp [Cv] at this
 obtain ⟨⟨rfl,h0⟩,h1⟩:=this
 have:n=0∨n=1:=by omega
 rcases this with rfl|rfl<;>rfl
/-! zy of one kid, and of two. -/
theorem AFv {f:List Val→Rs} {r:Rs} {v:Val} (h:E9 f [r]=(v,0)) (hr:Fine r.1):r.2=0∧((r.1=noV∧v=noV)∨(r.1.kind≠0∧f [r.1]=(v,0))):=by
 unfold E9 at h
 by_cases h2:r.2=0
 ·refine ⟨h2,?_⟩
  by_cases hk:r.1.kind=0
  ·simp [h2,hk] at h
   exact .inl ⟨Km hr.plain hk,h.symm⟩
  simp [h2,hk] at h
  exact .inr ⟨hk,h⟩
 simp [h2,C3] at h
theorem sb {f:List Val→Rs} {a b:Rs} {v:Val} (h:E9 f [a,b]=(v,0)):a.2=0∧b.2=0∧(((a.1.kind=0∨b.1.kind=0)∧v=noV)∨(a.1.kind≠0∧b.1.kind≠0∧f [a.1,b.1]=(v,0))):=by
 unfold E9 at h
 by_cases ha:a.2=0
 ·by_cases hb:b.2=0
  ·refine ⟨ha,hb,?_⟩
   by_cases hk:a.1.kind=0
   ·simp [ha,hb,hk] at h
    exact .inl ⟨.inl hk,h.symm⟩
   by_cases hk2:b.1.kind=0
   ·simp [ha,hb,hk2] at h
    exact .inl ⟨.inr hk2,h.symm⟩
   simp [ha,hb,hk,hk2] at h
   exact .inr ⟨hk,hk2,h⟩
  simp [ha,hb,C3] at h
 simp [ha,C3] at h
theorem mk1 {f:List Val→Rs} {v:Val} (hk:v.kind≠0):E9 f [(v,0)]=f [v]:=by unfold E9;simp [hk]
theorem AJc {f:List Val→Rs}:E9 f [(noV,0)]=(noV,0):=by unfold E9;simp [noV]
theorem mk2 {f:List Val→Rs} {a b:Val} (ha:a.kind≠0) (hb:b.kind≠0):E9 f [(a,0),(b,0)]=f [a,b]:=by unfold E9;simp [ha,hb]
theorem ACm {f:List Val→Rs} {b:Val}:E9 f [(noV,0),(b,0)]=(noV,0):=by unfold E9;simp [noV]
theorem ALq {f:List Val→Rs} {a:Val}:E9 f [(a,0),(noV,0)]=(noV,0):=by unfold E9;simp [noV]
theorem nd {c:List Col} {l:List Val} {o:Int} {t:Str} {w:Val} {k:List Expr} (ho:o=3∨o=4):Ag c l (.mk o t w k)=E9 (Aj o t) (k.map (Ag c l)):=by
 show Dx Aj c l _=_
 rw [Eh]
 unfold F8
 rcases ho with rfl|rfl<;>rfl
theorem Uu {c:List Col} {l:List Val} {t:Str} {w:Val} {k:List Expr} (ht:(((t==ifW) || (t==Gy)) || (t==C0))=false):Ag c l (.mk 6 t w k)=E9 (Aj 6 t) (k.map (Ag c l)):=by
 show Dx Aj c l _=_
 rw [Eh]
 show F8 Aj c l 6 t w (k.map _)=_
 unfold F8
 rw [if_neg (by decide),if_neg (by decide),if_neg (by simp),if_neg (by simp),if_neg (by rw [ht];simp)]
theorem Lj {c:List Col} {l:List Val} {t:Str} {w:Val} {k:List Expr} (h1:(t==orW)=false) (h2:(t==Sv)=false):Ag c l (.mk 5 t w k)=E9 (Aj 5 t) (k.map (Ag c l)):=by
 show Dx Aj c l _=_
 rw [Eh]
 show F8 Aj c l 5 t w (k.map _)=_
 unfold F8
 rw [if_neg (by decide),if_neg (by decide),if_neg (by rw [h1];simp),if_neg (by rw [h2];simp),if_neg (by simp)]
theorem cq {c:List Col} {l:List Val} {v:Val}:Ag c l (Dl v)=(v,0):=by
 show Dx Aj c l _=_
 rw [Eh];rfl
/-! A node of a value: what its kid is, of what it AJe to. -/
theorem X1 {x:Int×Int} {v:Val} (h:Ez x=(v,0)):x.2=0∧v=⟨1,x.1,[]⟩:=by
 unfold Ez at h
 by_cases h2:x.2=0
 ·simp [h2] at h;exact ⟨h2,h.symm⟩
 simp [h2,C3] at h
theorem nf (a b:Val):Hi [43] a b=if !Bx [a,b] [1,1] then C3 10 else Ez (Y5 a.n b.n):=rfl
theorem ng (a b:Val):Hi [45] a b=if !Bx [a,b] [1,1] then C3 10 else Ez (Jw a.n b.n):=rfl
theorem yz (a b:Val):Hi [38] a b=Lu a b:=rfl
theorem Ou {a b:Val} {x y:Int} (h:Bx [a,b] [x,y]=true):a.kind=x∧b.kind=y:=by
 simp [Bx] at h;exact h
theorem z6 {a b v:Val} (fa:Fine a) (fb:Fine b) (h:Hi [43] a b=(v,0)):a.kind=1∧b.kind=1∧v=⟨1,a.n+b.n,[]⟩:=by
 rw [nf] at h
 cases hk:Bx [a,b] [1,1] with
 | false=>rw [hk] at h;simp [C3] at h
 | true =>
  rw [hk] at h
  obtain ⟨h1,h2⟩:=X1 (by simpa using h)
  rw [nc fa.lo fa.hi fb.lo fb.hi] at h1 h2
  split at h1
  ·rename_i hr;rw [if_pos hr] at h2;exact ⟨(Ou hk).1,(Ou hk).2,h2⟩
  cases h1
theorem z7 {a b v:Val} (fa:Fine a) (fb:Fine b) (h:Hi [45] a b=(v,0)):a.kind=1∧b.kind=1∧v=⟨1,a.n-b.n,[]⟩:=by
 rw [ng] at h
 cases hk:Bx [a,b] [1,1] with
 | false=>rw [hk] at h;simp [C3] at h
 | true =>
  rw [hk] at h
  obtain ⟨h1,h2⟩:=X1 (by simpa using h)
  rw [Ut fa.lo fa.hi fb.lo fb.hi] at h1 h2
  split at h1
  ·rename_i hr;rw [if_pos hr] at h2;exact ⟨(Ou hk).1,(Ou hk).2,h2⟩
  cases h1
theorem AFw {a b:Val} (fa:Fine a) (fb:Fine b) (ha:a.kind=1) (hb:b.kind=1) (h0 : -9223372036854775808≤a.n+b.n) (h1:a.n+b.n≤9223372036854775807):Hi [43] a b=(⟨1,a.n+b.n,[]⟩,0):=by
 have hk:Bx [a,b] [1,1]=true:=by simp [Bx,ha,hb]
 rw [nf,hk,nc fa.lo fa.hi fb.lo fb.hi,if_neg (by simp),if_pos ⟨h0,h1⟩];rfl
theorem l6 {a b:Val} (fa:Fine a) (fb:Fine b) (ha:a.kind=1) (hb:b.kind=1) (h0 : -9223372036854775808≤a.n-b.n) (h1:a.n-b.n≤9223372036854775807):Hi [45] a b=(⟨1,a.n-b.n,[]⟩,0):=by
 have hk:Bx [a,b] [1,1]=true:=by simp [Bx,ha,hb]
 rw [ng,hk,Ut fa.lo fa.hi fb.lo fb.hi,if_neg (by simp),if_pos ⟨h0,h1⟩];rfl
theorem cr {s:Str} (h:s.length≤200):Su s=⟨2,0,s⟩:=by unfold Su;rw [Fa h]
theorem nh {a b v:Val} (h:Hi [38] a b=(v,0)):a.kind=2∧b.kind=2∧a.s.length+b.s.length≤200∧v=⟨2,0,a.s++b.s⟩:=by
 rw [yz] at h
 unfold Lu at h
 cases hk:Bx [a,b] [2,2] with
 | false=>rw [hk] at h;simp [C3] at h
 | true =>
  rw [hk] at h
  by_cases hl:(200:Int)<(a.s.length:Int)+(b.s.length:Int)
  ·simp [hl,C3] at h
  have hl2:a.s.length+b.s.length≤200:=by omega
  simp [hl] at h
  exact ⟨(Ou hk).1,(Ou hk).2,hl2,by rw [←h,cr (by simpa using hl2)]⟩
/-! The constants. -/
theorem X2 {c:List Col} {l:List Val} (hl:∀v∈l,Fine v) {x:Expr} {k:Int} {w:Val} (hn:Be Cb x=true) (hr:Be Ci x=true) (h:O0 x k=some w):Ag c l x=(w,0)∧w.kind=k∧Fine w:=by
 unfold O0 at h
 split at h
 ·rename_i hc
  simp only [Ai,beq_iff_eq] at hc
  injection h with h
  have ht:=co (c:=c) hl _ x (Al _) hn hr
  have e:Ag c l (Bm x)=((Bm x).val,0):=by
   show Dx Aj c l _=_
   rw [Eh]
   unfold F8
   rw [hc.1.2];rfl
  have e2:Ag c l x=(w,0):=by rw [←ht.ev,e,h]
  have hf:=Hs (c:=c) hl x (Mj x hn) hr
  rw [e2] at hf
  exact ⟨e2,by rw [←h];exact hc.2,hf⟩
 cases h
theorem L0 {x:Expr} {s:Sd} (h:Jm x=some s):x.kids=[s.e]∨(x.kids=[s.e,s.c]∧s.first=false)∨(x.kids=[s.c,s.e]∧s.first=true):=by
 unfold Jm at h
 split at h
 ·rename_i a hk
  split at h
  ·injection h with h;subst h;exact .inl hk
  cases h
 ·rename_i a b hk
  split at h
  ·cases h
  split at h
  ·injection h with h;subst h;exact .inr (.inl ⟨hk,rfl⟩)
  injection h with h;subst h;exact .inr (.inr ⟨hk,rfl⟩)
 cases h
/-! The words of a print. -/
/-! A text between marks. -/
/-! The print of a tree, and its words. -/
def My (least:Nat) (x:Expr) (s:Str):Str:=if least≤levE x then s else 40::(s++[41])
def Ht:List Str→Str
 | []=>[]
 | s::r=>44::32::(s++Ht r)
def R7 (o:Int) (t:Str) (v:Val) (k:List Expr) (ss:List Str):Str:=
 if o==1 then Gs v else if o==2 then t
 else if o==3 then 45::My 6 (k.getD 0 A9) (ss.getD 0 [])
 else if o==4 then rl++32::My 2 (k.getD 0 A9) (ss.getD 0 [])
 else if o==5 then My (I6 (Bz t).toNat) (k.getD 0 A9) (ss.getD 0 [])++32::(t++32::My ((Bz t).toNat+1) (k.getD 1 A9) (ss.getD 1 []))
 else t++40::((Ht ss).drop 2++[41])
mutual
def B8:Expr→Str
 | .mk o t v k=>R7 o t v k (O1 k)
def O1:List Expr→List Str
  | []=>[]
  | e::r=>B8 e::O1 r
 end
theorem Pz:∀l,O1 l=l.map B8
 | []=>rfl
 | e::r=>by rw [O1,Pz r];rfl
theorem AFx (v:Val):B8 (Dl v)=Gs v:=by simp [Dl,B8,R7]
theorem ACn (t:Str):B8 (Bb t)=t:=by simp [Bb,B8,R7]
theorem AFy (a:Expr):B8 (G4 3 a)=45::My 6 a (B8 a):=by simp [G4,B8,O1,R7]
theorem AJd (a:Expr):B8 (G4 4 a)=rl++32::My 2 a (B8 a):=by simp [G4,B8,O1,R7]
theorem AFz (t:Str) (a b:Expr):B8 (Ib t a b)=My (I6 (Bz t).toNat) a (B8 a)++32::(t++32::My ((Bz t).toNat+1) b (B8 b)):=by simp [Ib,B8,O1,R7]
theorem ACo (t:Str) (k:List Expr):B8 (.mk 6 t noV k)=t++40::((Ht (O1 k)).drop 2++[41]):=by simp [B8,R7]
/-! What was parsed nests no deeper than may be. -/
/-! What nests too deep is told to be too deep. -/
def F2 (l:List Tok) (x:Expr):Prop:=∀(k:Nat) (S:PS) (rest:List TK),(k=0∨k=1∨k=4∨k=5)→k≤levE x→S.code=0→S.nest≤30→30<S.nest+n6 x→seg l S.i=Wm x++rest→y8 (k+1) rest→(Gi l (ofL k) (pf l (fam l S.nest) (k+1)) S).2.code=18
/-! What was parsed is right, where the words are the lexer's. -/
/-! The lexer's words. -/
/-! The parse laws where nothing is too deep. -/
/-! The parser from a word on, and of a source. -/
/-! Other trees have other words, and other prints. -/
/-! The laws of printing. -/
/-- show.Print. -/
def Tv (x:Expr):Str×Int:=if !(Am x) then ([],1) else if decide ((4000:Int)<((B8 x).length:Int)) then ([],3) else (B8 x,0)
theorem Ip {x:Expr} (h:Fh x=true):Be Cb x=true:=by
 unfold Fh at h
 rw [Ai] at h
 exact h.2
/-! How long a print is. -/
theorem l7 {v:Val} (hp:Cv v=true) (hi:ABe v.n):(Gs v).length≤402:=by
 unfold Gs
 rw [hp]
 simp only [K2,Bd,if_false]
 split
 ·have:=Lib.itoa_length_le v.n hi.1 hi.2
  omega
 split
 ·rename_i h1 h2
  rw [Tn]
  have h3:=fe v.s
  have h4:v.s.length≤200:=by
   have k2:v.kind=2:=by simpa using h2
   simp [Cv,k2] at hp
   omega
  simp
  omega
 split
 ·simp
 split<;>simp
theorem Uv (k:Nat) (x:Expr) (s:Str):(My k x s).length≤s.length+2:=by
 unfold My
 split<;>simp
theorem gk {t:Str} (h:0≤Bz t):t.length≤3:=by
 rcases Ja t with hm|⟨hm,_⟩
 ·have h3:(levels.flatten.all fun s=>decide (s.length≤3))=true:=by kernel_rfl
  exact of_decide_eq_true (B5.1 h3 t hm)
 omega
theorem X3 {t:Str} {n:Nat} (h:C8 t=(n:Int)):t.length≤6:=by
 rcases F7 h with ⟨e,_⟩|⟨e,_⟩|⟨e,_⟩|⟨e,_⟩|⟨e,_⟩|⟨e,_⟩|⟨e,_⟩|⟨e,_⟩<;>rw [e]<;>decide
theorem z8 {k:List Expr} (h:∀y∈k,(B8 y).length+10≤440*sizeE y):(Ht (k.map B8)).length≤440*Cg k:=by
 induction k with
 | nil=>simp [Ht]
 | cons y r ih =>
  have h1:=h y Hw
  have h2:=ih (fun z hz=>h z (Jo _ hz))
  simp only [C9,Ht,Cg,At,Ao]
  omega
theorem Ze:∀(n:Nat) (e:Expr),sizeE e≤n→Be Cb e=true→Be Ci e=true→(B8 e).length+10≤440*sizeE e
 | 0,e,h,_,_=>by rw [Gt] at h;omega
 | n+1,e,h,hn,hr=>by
  rw [Db,Ai] at hn hr
  have hk:∀y∈e.kids,(B8 y).length+10≤440*sizeE y:=fun y hy=>by
   obtain ⟨i,hi⟩:=Ct hy
   obtain ⟨hlt,rfl⟩:=Ac.1 hi
   exact Ze n _ (by have:=ek e hlt;omega) ((Bk _ _).1 hn.2 _ hy) ((Bk _ _).1 hr.2 _ hy)
  have hi:ABe e.val.n:=by
   have:=hr.1
   simp only [Ci,Ai,decide_eq_true_eq] at this
   exact this
  rw [Gt]
  cases Hh hn.1 with
  | val v hp h0 =>
   rw [AFx]
   have:=l7 hp (v:=v) hi
   simp only [Dl,Expr.kids,Cg]
   omega
  | name t ht =>
   rw [ACn]
   have:t.length≤16:=by
    cases t with
    | nil=>simp
    | cons c r =>
     simp only [Kh,Ai,decide_eq_true_eq] at ht
     exact ht.1.1.1
   simp only [Bb,Expr.kids,Cg]
   omega
  | neg a =>
   rw [AFy]
   have h1:=Uv 6 a (B8 a)
   have h2:=hk a (by simp [G4,Expr.kids])
   simp only [G4,Expr.kids,Cg,At]
   omega
  | no a =>
   rw [AJd]
   have h1:=Uv 2 a (B8 a)
   have h2:=hk a (by simp [G4,Expr.kids])
   simp only [G4,Expr.kids,Cg,At,Ao,rl,B3]
   omega
  | bin t a b ht =>
   rw [AFz]
   have h1:=Uv (I6 (Bz t).toNat) a (B8 a)
   have h2:=Uv ((Bz t).toNat+1) b (B8 b)
   have h3:=hk a (by simp [Ib,Expr.kids])
   have h4:=hk b (by simp [Ib,Expr.kids])
   have h5:=gk ht
   simp only [Ib,Expr.kids,Cg,At,Ao]
   omega
  | call t k ha =>
   rw [ACo]
   have h1:=X3 ha
   have h2:=z8 (k:=k) hk
   rw [←Pz] at h2
   simp only [Expr.kids,At,Ao,Gm,B3]
   omega
theorem gm {e:Expr} (hr:Fh e=true) (hg:Be Ci e=true):(B8 e).length≤132000:=by
 have h1:=Ip hr
 have h2:sizeE e≤300:=by
  unfold Fh at hr
  simp only [Ai,decide_eq_true_eq] at hr
  exact hr.1.2
 have:=Ze _ e (Al _) h1 hg
 omega
/-! One step of peel keeps what the trees come to. -/
/-- What a node's value says of its kid's, and back. -/
def Mw (c c':List Col) (l l':List Val) (e z:Expr):Prop:=∃w,Ag c l e=(w,0)∧Ag c' l' z=(w,0)
variable {c c':List Col} {l l':List Val}
theorem Gj {r:Rs} {w:Val} (h1:r.1=w) (h2:r.2=0):r=(w,0):=by rw [←h1,←h2]
theorem za {e y:Expr} {t:Str} {w0 v:Val} (hf:Fine (Ag c l e).1) (hv:Ag c l (.mk 3 t w0 [e])=(v,0)) (hy:Ag c' l' y=(v,0)):Mw c c' l l' e (.mk 3 [] noV [y]):=by
 rw [nd (.inl rfl)] at hv
 have hz:Ag c' l' (.mk 3 [] noV [y])=E9 (Aj 3 []) [Ag c' l' y]:=nd (.inl rfl)
 obtain ⟨h2,h|h⟩:=AFv hv hf
 ·exact AEx
 obtain ⟨hk,hs⟩:=h
 generalize hr:(Ag c l e).1=r at hf hk hs
 by_cases h1:r.kind=1
 ·have e1:Aj 3 t [r]=Ez (Jw 0 r.n):=by
   unfold Aj
   rw [if_neg (by decide),if_pos (by simp [Bx,h1])];rfl
  rw [e1] at hs
  obtain ⟨g1,g2⟩:=X1 hs
  rw [Ut (by decide) (by decide) hf.lo hf.hi] at g1 g2
  split at g1
  ·rename_i hrg
   rw [if_pos hrg] at g2
   refine ⟨r,Gj hr h2,?_⟩
   have hv1:v.kind≠0:=by rw [g2];show (1:Int)≠0;decide
   have hn:v.n=0-r.n:=by rw [g2]
   rw [hz,hy,mk1 hv1]
   have e2:Aj 3 [] [v]=Ez (Jw 0 v.n):=by
    unfold Aj
    rw [if_neg (by decide),if_pos (by rw [g2];rfl)];rfl
   rw [e2,Ut (by decide) (by decide) (by omega) (by omega),if_pos (by rw [hn];have:=hf.lo;have:=hf.hi;omega),hn]
   show (⟨1,0-(0-r.n),[]⟩,0)=(r,(0:Int))
   rw [show (0:Int)-(0-r.n)=r.n by omega,←gj hf h1]
  cases g1
 have e1:Aj 3 t [r]=C3 10:=by
  unfold Aj
  rw [if_neg (by decide),if_neg (by simp [Bx,h1]),if_neg (by simp),if_pos (by decide)]
 rw [e1] at hs;cases hs
theorem zb {e y:Expr} {t:Str} {w0 v:Val} (hf:Fine (Ag c l e).1) (hv:Ag c l (.mk 4 t w0 [e])=(v,0)) (hy:Ag c' l' y=(v,0)):Mw c c' l l' e (.mk 4 [] noV [y]):=by
 rw [nd (.inr rfl)] at hv
 have hz:Ag c' l' (.mk 4 [] noV [y])=E9 (Aj 4 []) [Ag c' l' y]:=nd (.inr rfl)
 obtain ⟨h2,h|h⟩:=AFv hv hf
 ·exact AEx
 obtain ⟨hk,hs⟩:=h
 generalize hr:(Ag c l e).1=r at hf hk hs
 by_cases h1:r.kind=3
 ·have e1:Aj 4 t [r]=(Cp (r.n==0),0):=by
   unfold Aj
   rw [if_neg (by decide),if_neg (by simp),if_pos (by simp [Bx,h1])];rfl
  rw [e1] at hs
  injection hs with hs
  refine ⟨r,Gj hr h2,?_⟩
  rw [hz,hy,←hs,mk1 (by show (3:Int)≠0;decide)]
  have e2:Aj 4 [] [Cp (r.n==0)]=(Cp ((Cp (r.n==0)).n==0),0):=by
   unfold Aj
   rw [if_neg (by decide),if_neg (by simp),if_pos (by rfl)];rfl
  rw [e2,AJb hf h1]
 have e1:Aj 4 t [r]=C3 10:=by
  unfold Aj
  rw [if_neg (by decide),if_neg (by simp),if_neg (by simp [Bx,h1]),if_pos (by decide)]
 rw [e1] at hs;cases hs
theorem zc {e y:Expr} {w0 v:Val} (hf:Fine (Ag c l e).1) (hv:Ag c l (.mk 6 Ml w0 [e])=(v,0)) (hy:Ag c' l' y=(v,0)):Mw c c' l l' e (E4 cp [y]):=by
 rw [Uu (by decide)] at hv
 have hz:Ag c' l' (E4 cp [y])=E9 (Aj 6 cp) [Ag c' l' y]:=Uu (by decide)
 obtain ⟨h2,h|h⟩:=AFv hv hf
 ·exact AEx
 obtain ⟨hk,hs⟩:=h
 generalize hr:(Ag c l e).1=r at hf hk hs
 have e1:Aj 6 Ml [r]=G7 Ml r:=rfl
 rw [e1] at hs
 by_cases h1:r.kind=1
 ·have hlen:=Lib.itoa_length_le r.n hf.lo hf.hi
  have e2:G7 Ml r=(Su (Lib.itoa r.n),0):=by
   unfold G7;rw [if_pos (by simp [Ml,h1])]
  rw [e2,cr (by omega)] at hs
  injection hs with hs
  refine ⟨r,Gj hr h2,?_⟩
  rw [hz,hy,←hs,mk1 (by show (2:Int)≠0;decide)]
  have e3:Aj 6 cp [⟨2,0,Lib.itoa r.n⟩]=Ez (C1 (Lib.itoa r.n)):=rfl
  rw [e3,ACl hf.lo hf.hi]
  show (⟨1,r.n,[]⟩,0)=(r,(0:Int))
  rw [←gj hf h1]
 have e2:G7 Ml r=C3 10:=by
  unfold G7
  rw [if_neg (by simp [h1]),if_neg (by simp [Ml]),if_neg (by simp [Ml])]
 rw [e2] at hs;cases hs
/-! Steps over nodes of two kids, one of them a constant. -/
variable {c c':List Col} {l l':List Val}
theorem ACp {t:Str} {a b:Val}:Aj 5 t [a,b]=Hi t a b:=rfl
/-- e + k -/
theorem zd {e k y:Expr} {w0 v w:Val} (hf:Fine (Ag c l e).1) (hw:Ag c l k=(w,0)) (hwk:w.kind=1) (fw:Fine w) (fv:Fine v) (hv:Ag c l (.mk 5 [43] w0 [e,k])=(v,0)∨Ag c l (.mk 5 [43] w0 [k,e])=(v,0)) (hy:Ag c' l' y=(v,0)):Mw c c' l l' e (Ha y [45] (Dl w)):=by
 have hz:Ag c' l' (Ha y [45] (Dl w))=E9 (Aj 5 [45]) [(v,0),(w,0)]:=by
  rw [←hy,←cq (c:=c') (l:=l') (v:=w)];exact Lj (by decide) (by decide)
 have key:(Ag c l e).2=0∧(((Ag c l e).1.kind=0∧v=noV)∨((Ag c l e).1.kind=1∧v=⟨1,(Ag c l e).1.n+w.n,[]⟩)):=by
  rcases hv with hv|hv
  ·have hv:E9 (Aj 5 [43]) [Ag c l e,Ag c l k]=(v,0):=(Lj (by decide) (by decide)).symm.trans hv
   rw [hw] at hv
   obtain ⟨a,_,b|b⟩:=sb hv
   ·refine ⟨a,.inl ⟨?_,b.2⟩⟩
    rcases b.1 with b|b
    ·exact b
    rw [hwk] at b;cases b
   obtain ⟨g1,g2,g3⟩:=z6 hf fw b.2.2
   exact ⟨a,.inr ⟨g1,g3⟩⟩
  have hv:E9 (Aj 5 [43]) [Ag c l k,Ag c l e]=(v,0):=(Lj (by decide) (by decide)).symm.trans hv
  rw [hw] at hv
  obtain ⟨_,a,b|b⟩:=sb hv
  ·refine ⟨a,.inl ⟨?_,b.2⟩⟩
   rcases b.1 with b|b
   ·rw [hwk] at b;cases b
   exact b
  obtain ⟨g1,g2,g3⟩:=z6 fw hf b.2.2
  exact ⟨a,.inr ⟨g2,by rw [g3,Int.add_comm]⟩⟩
 obtain ⟨h2,h|h⟩:=key
 ·refine ⟨noV,Gj (Km hf.plain h.1) h2,?_⟩
  rw [hz,h.2];exact ACm
 refine ⟨(Ag c l e).1,Gj rfl h2,?_⟩
 generalize (Ag c l e).1=r at hf h
 have hv1:v.kind=1:=by rw [h.2]
 have hn:v.n=r.n+w.n:=by rw [h.2]
 have:=hf.lo
 have:=hf.hi
 rw [hz,mk2 (by rw [hv1];decide) (by rw [hwk];decide),ACp,l6 fv fw hv1 hwk (by omega) (by omega),hn,show r.n+w.n-w.n=r.n by omega,←gj hf h.1]
/-- e - k -/
theorem ze {e k y:Expr} {w0 v w:Val} (hf:Fine (Ag c l e).1) (hw:Ag c l k=(w,0)) (hwk:w.kind=1) (fw:Fine w) (fv:Fine v) (hv:Ag c l (.mk 5 [45] w0 [e,k])=(v,0)) (hy:Ag c' l' y=(v,0)):Mw c c' l l' e (Ha y [43] (Dl w)):=by
 have hz:Ag c' l' (Ha y [43] (Dl w))=E9 (Aj 5 [43]) [(v,0),(w,0)]:=by
  rw [←hy,←cq (c:=c') (l:=l') (v:=w)];exact Lj (by decide) (by decide)
 have hv:E9 (Aj 5 [45]) [Ag c l e,Ag c l k]=(v,0):=(Lj (by decide) (by decide)).symm.trans hv
 rw [hw] at hv
 obtain ⟨h2,_,b|b⟩:=sb hv
 ·have h0:(Ag c l e).1.kind=0:=by
   rcases b.1 with b|b
   ·exact b
   rw [hwk] at b;cases b
  refine ⟨noV,Gj (Km hf.plain h0) h2,?_⟩
  rw [hz,b.2];exact ACm
 obtain ⟨g1,g2,g3⟩:=z7 hf fw b.2.2
 refine ⟨(Ag c l e).1,Gj rfl h2,?_⟩
 generalize (Ag c l e).1=r at hf g1 g3
 have hv1:v.kind=1:=by rw [g3]
 have hn:v.n=r.n-w.n:=by rw [g3]
 have:=hf.lo
 have:=hf.hi
 rw [hz,mk2 (by rw [hv1];decide) (by rw [hwk];decide),ACp,AFw fv fw hv1 hwk (by omega) (by omega),hn,show r.n-w.n+w.n=r.n by omega,←gj hf g1]
/-- k - e -/
theorem zf {e k y:Expr} {w0 v w:Val} (hf:Fine (Ag c l e).1) (hw:Ag c l k=(w,0)) (hwk:w.kind=1) (fw:Fine w) (fv:Fine v) (hv:Ag c l (.mk 5 [45] w0 [k,e])=(v,0)) (hy:Ag c' l' y=(v,0)):Mw c c' l l' e (Ha (Dl w) [45] y):=by
 have hz:Ag c' l' (Ha (Dl w) [45] y)=E9 (Aj 5 [45]) [(w,0),(v,0)]:=by
  rw [←hy,←cq (c:=c') (l:=l') (v:=w)];exact Lj (by decide) (by decide)
 have hv:E9 (Aj 5 [45]) [Ag c l k,Ag c l e]=(v,0):=(Lj (by decide) (by decide)).symm.trans hv
 rw [hw] at hv
 obtain ⟨_,h2,b|b⟩:=sb hv
 ·have h0:(Ag c l e).1.kind=0:=by
   rcases b.1 with b|b
   ·rw [hwk] at b;cases b
   exact b
  refine ⟨noV,Gj (Km hf.plain h0) h2,?_⟩
  rw [hz,b.2];exact ALq
 obtain ⟨g1,g2,g3⟩:=z7 fw hf b.2.2
 refine ⟨(Ag c l e).1,Gj rfl h2,?_⟩
 generalize (Ag c l e).1=r at hf g2 g3
 have hv1:v.kind=1:=by rw [g3]
 have hn:v.n=w.n-r.n:=by rw [g3]
 have:=hf.lo
 have:=hf.hi
 rw [hz,mk2 (by rw [hwk];decide) (by rw [hv1];decide),ACp,l6 fw fv hwk hv1 (by omega) (by omega),hn,show w.n-(w.n-r.n)=r.n by omega,←gj hf g2]
/-! Texts put together, and a step of whatever kind. -/
variable {c c':List Col} {l l':List Val}
theorem R8 {t:Str} (ht:t=Tt∨t=Nz) {y:Expr} {m:Nat} {v:Val} (hm:m≤200) (hy:Ag c' l' y=(v,0)) (hv:v=noV∨(v.kind=2∧v.s.length≤200)):
  Ag c' l' (E4 t [y,Ha (E4 Lh [y]) [45] (Dl ⟨1,(m:Int),[]⟩)])=if v.kind==0 then (noV,0) else (Hj t v.s ((v.s.length:Int)-m),0):=by
 have h1:Ag c' l' (E4 Lh [y])=E9 (Aj 6 Lh) [(v,0)]:=by rw [←hy];exact Uu (by decide)
 have h2:Ag c' l' (Ha (E4 Lh [y]) [45] (Dl ⟨1,(m:Int),[]⟩))=E9 (Aj 5 [45]) [Ag c' l' (E4 Lh [y]),(⟨1,(m:Int),[]⟩,0)]:=by
  rw [←cq (c:=c') (l:=l') (v:=⟨1,(m:Int),[]⟩)];exact Lj (by decide) (by decide)
 have h3:Ag c' l' (E4 t [y,Ha (E4 Lh [y]) [45] (Dl ⟨1,(m:Int),[]⟩)])=E9 (Aj 6 t) [Ag c' l' y,Ag c' l' (Ha (E4 Lh [y]) [45] (Dl ⟨1,(m:Int),[]⟩))]:=by
  rcases ht with rfl|rfl<;>exact Uu (by decide)
 rw [h3,h2,h1,hy]
 rcases hv with rfl|⟨hk,hl⟩
 ·rw [AJc,ACm,ACm];rfl
 have hk0:v.kind≠0:=by rw [hk];decide
 have e1:Aj 6 Lh [v]=(⟨1,(v.s.length:Int),[]⟩,0):=by
  show G7 Lh v=_
  unfold G7
  rw [if_neg (by simp [Lh]),if_pos (by simp [Lh,hk])]
 have f1:Fine ⟨1,(v.s.length:Int),[]⟩:=R0 (by omega) (by omega)
 have f2:Fine ⟨1,(m:Int),[]⟩:=R0 (by omega) (by omega)
 have e2:E9 (Aj 5 [45]) [((⟨1,(v.s.length:Int),[]⟩:Val),(0:Int)),(⟨1,(m:Int),[]⟩,0)]=(⟨1,(v.s.length:Int)-m,[]⟩,0):=by
  rw [mk2 (by show (1:Int)≠0;decide) (by show (1:Int)≠0;decide),ACp]
  exact l6 f1 f2 rfl rfl (by show _≤(v.s.length:Int)-m;omega) (by show (v.s.length:Int)-m≤_;omega)
 rw [mk1 hk0,e1,e2,mk2 hk0 (by show (1:Int)≠0;decide),if_neg (by simpa using hk0)]
 have e3:Bx [v,⟨1,(v.s.length:Int)-m,[]⟩] [2,1]=true:=by simp [Bx,hk]
 unfold Aj
 rw [if_neg (by decide),if_neg (by simp),if_neg (by simp),if_neg (by decide),if_neg (by simp),if_neg (by rw [e3];simp)]
 rfl
theorem l8 (a b:Str) (h:a.length≤200):Hj Tt (a++b) (((a++b).length:Int)-b.length)=⟨2,0,a⟩:=by
 have e:(max 0 (min (((a++b).length:Int)-b.length) ((a++b).length:Int))).toNat=a.length:=by
  rw [Ao];omega
 unfold Hj
 rw [if_pos (by decide),e,List.take_left',cr h];rfl
theorem gn (a b:Str) (h:b.length≤200):Hj Nz (a++b) (((a++b).length:Int)-a.length)=⟨2,0,b⟩:=by
 have e:(max 0 (min (((a++b).length:Int)-a.length) ((a++b).length:Int))).toNat=b.length:=by
  rw [Ao];omega
 unfold Hj
 rw [if_neg (by decide),e,Ao,Nat.add_sub_cancel,List.drop_left',cr h];rfl
/-- e & k -/
theorem sc {e k y:Expr} {w0 v w:Val} (hf:Fine (Ag c l e).1) (hw:Ag c l k=(w,0)) (hwk:w.kind=2) (fw:Fine w) (hv:Ag c l (.mk 5 [38] w0 [e,k])=(v,0)) (hy:Ag c' l' y=(v,0)):Mw c c' l l' e (E4 Tt [y,Ha (E4 Lh [y]) [45] (Dl ⟨1,(w.s.length:Int),[]⟩)]):=by
 have hv:E9 (Aj 5 [38]) [Ag c l e,Ag c l k]=(v,0):=(Lj (by decide) (by decide)).symm.trans hv
 rw [hw] at hv
 obtain ⟨h2,_,b|b⟩:=sb hv
 ·have h0:(Ag c l e).1.kind=0:=by
   rcases b.1 with b|b
   ·exact b
   rw [hwk] at b;cases b
  refine ⟨noV,Gj (Km hf.plain h0) h2,?_⟩
  rw [R8 (.inl rfl) (Tu fw hwk).2 hy (.inl b.2),b.2];rfl
 obtain ⟨g1,g2,g3,g4⟩:=nh (show Hi [38] (Ag c l e).1 w=(v,0) from b.2.2)
 refine ⟨(Ag c l e).1,Gj rfl h2,?_⟩
 generalize (Ag c l e).1=r at hf g1 g3 g4
 rw [R8 (.inl rfl) (Tu fw hwk).2 hy (.inr (by rw [g4];exact ⟨rfl,by simpa using g3⟩)),g4,if_neg (by simp)]
 show (Hj Tt (r.s++w.s) (((r.s++w.s).length:Int)-w.s.length),(0:Int))=_
 rw [l8 _ _ (Tu hf g1).2,←(Tu hf g1).1]
/-- k & e -/
theorem l9 {e k y:Expr} {w0 v w:Val} (hf:Fine (Ag c l e).1) (hw:Ag c l k=(w,0)) (hwk:w.kind=2) (fw:Fine w) (hv:Ag c l (.mk 5 [38] w0 [k,e])=(v,0)) (hy:Ag c' l' y=(v,0)):Mw c c' l l' e (E4 Nz [y,Ha (E4 Lh [y]) [45] (Dl ⟨1,(w.s.length:Int),[]⟩)]):=by
 have hv:E9 (Aj 5 [38]) [Ag c l k,Ag c l e]=(v,0):=(Lj (by decide) (by decide)).symm.trans hv
 rw [hw] at hv
 obtain ⟨_,h2,b|b⟩:=sb hv
 ·have h0:(Ag c l e).1.kind=0:=by
   rcases b.1 with b|b
   ·rw [hwk] at b;cases b
   exact b
  refine ⟨noV,Gj (Km hf.plain h0) h2,?_⟩
  rw [R8 (.inr rfl) (Tu fw hwk).2 hy (.inl b.2),b.2];rfl
 obtain ⟨g1,g2,g3,g4⟩:=nh (show Hi [38] w (Ag c l e).1=(v,0) from b.2.2)
 refine ⟨(Ag c l e).1,Gj rfl h2,?_⟩
 generalize (Ag c l e).1=r at hf g2 g3 g4
 rw [R8 (.inr rfl) (Tu fw hwk).2 hy (.inr (by rw [g4];exact ⟨rfl,by simpa using g3⟩)),g4,if_neg (by simp)]
 show (Hj Nz (w.s++r.s) (((w.s++r.s).length:Int)-w.s.length),(0:Int))=_
 rw [gn _ _ (Tu hf g2).2,←(Tu hf g2).1]
variable {c c':List Col} {l l':List Val}
theorem ni {x:Expr} {s:Sd} (h:Jm x=some s) (h1:x.kids.length=1):x.kids=[s.e]:=by
 rcases L0 h with e|⟨e,_⟩|⟨e,_⟩
 ·exact e
 ·rw [e] at h1;cases h1
 rw [e] at h1;cases h1
theorem gq {x:Expr} {s:Sd} (h:Jm x=some s) (h2:x.kids.length=2):(x.kids=[s.e,s.c]∧s.first=false)∨(x.kids=[s.c,s.e]∧s.first=true):=by
 rcases L0 h with e|h|h
 ·rw [e] at h2;cases h2
 ·exact .inl h
 exact .inr h
theorem ct {x:Expr} {s:Sd} (h:Jm x=some s):s.e∈x.kids:=by
 rcases L0 h with e|⟨e,_⟩|⟨e,_⟩<;>rw [e]<;>simp
theorem ACq (hl:∀v∈l,Fine v) {x y:Expr} {p:Expr×Expr} {v:Val} (hn:Be Cb x=true) (hr:Be Ci x=true) (hv:Ag c l x=(v,0)) (hy:Ag c' l' y=(v,0)) (h:Fi x y=some p):
  Be Cb p.1=true∧Be Ci p.1=true∧Mw c c' l l' p.1 p.2:=by
 have fv:Fine v:=by have:=Hs (c:=c) hl x (Mj x hn) hr;rw [hv] at this;exact this
 have hn0:=hn
 have hr0:=hr
 rw [Db,Ai] at hn0 hr0
 have hkn:∀e∈x.kids,Be Cb e=true:=(Bk _ _).1 hn0.2
 have hkr:∀e∈x.kids,Be Ci e=true:=(Bk _ _).1 hr0.2
 obtain ⟨hk5,hk34,hk6,_⟩:=Lw hn0.1
 unfold Fi at h
 split at h
 ·cases h
 rename_i s hs
 split at h
 ·cases h
 rename_i z hb
 split at h
 ·injection h with h
  subst h
  have he:=ct hs
  refine ⟨hkn _ he,hkr _ he,?_⟩
  show Mw c c' l l' s.e z
  have hf:Fine (Ag c l s.e).1:=Hs hl s.e (Mj _ (hkn _ he)) (hkr _ he)
  unfold R6 at hb
  split at hb
  ·rename_i ho
   have ho:x.op=3∨x.op=4:=by simpa using ho
   have hk:=ni hs (hk34 ho)
   injection hb with hb
   subst hb
   obtain ⟨o,t,w0,k⟩:=x
   have hk:k=[s.e]:=hk
   subst hk
   rcases ho with ho|ho
   ·have ho:o=3:=ho
    subst ho;exact za hf hv hy
   have ho:o=4:=ho
   subst ho;exact zb hf hv hy
  split at hb
  ·rename_i ho
   have ho:x.op=6∧x.text=Ml:=by simpa using ho
   have hlen:x.kids.length=1:=by
    have:=hk6 ho.1
    rw [ho.2,show C8 Ml=1 from by kernel_rfl] at this
    omega
   have hk:=ni hs hlen
   injection hb with hb
   subst hb
   obtain ⟨o,t,w0,k⟩:=x
   have hk:k=[s.e]:=hk
   have h6:o=6:=ho.1
   have ht:t=Ml:=ho.2
   subst hk;subst h6;subst ht
   exact zc hf hv hy
  split at hb
  ·rename_i ho
   have ho:x.op=5∧(x.text=[43]∨x.text=[45]):=by simpa using ho
   have hk:=gq hs (hk5 ho.1)
   obtain ⟨o,t,w0,k⟩:=x
   have h5:o=5:=ho.1
   have ht:t=[43]∨t=[45]:=ho.2
   subst h5
   unfold yy at hb
   split at hb
   ·cases hb
   rename_i w hc
   injection hb with hb
   subst hb
   have hk:(k=[s.e,s.c]∧s.first=false)∨(k=[s.c,s.e]∧s.first=true):=hk
   have hcin:s.c∈k:=by rcases hk with ⟨e,_⟩|⟨e,_⟩<;>rw [e]<;>simp
   obtain ⟨g1,g2,g3⟩:=X2 (c:=c) hl (hkn _ hcin) (hkr _ hcin) hc
   show Mw c c' l l' s.e (if t==[43] then _ else _)
   rcases ht with rfl|rfl
   ·rw [if_pos (by decide)]
    refine zd hf g1 g2 g3 fv ?_ hy (w0:=w0)
    rcases hk with ⟨e,_⟩|⟨e,_⟩
    ·exact .inl (by rw [←e];exact hv)
    exact .inr (by rw [←e];exact hv)
   rw [if_neg (by decide)]
   rcases hk with ⟨e,f⟩|⟨e,f⟩
   ·rw [f,if_neg (by decide)]
    exact ze hf g1 g2 g3 fv (by rw [←e];exact hv) hy (w0:=w0)
   rw [f,if_pos rfl]
   exact zf hf g1 g2 g3 fv (by rw [←e];exact hv) hy (w0:=w0)
  split at hb
  ·rename_i ho
   have ho:x.op=5∧x.text=[38]:=by simpa using ho
   have hk:=gq hs (hk5 ho.1)
   obtain ⟨o,t,w0,k⟩:=x
   have h5:o=5:=ho.1
   have ht:t=[38]:=ho.2
   subst h5;subst ht
   unfold gi at hb
   split at hb
   ·cases hb
   rename_i w hc
   injection hb with hb
   subst hb
   have hk:(k=[s.e,s.c]∧s.first=false)∨(k=[s.c,s.e]∧s.first=true):=hk
   have hcin:s.c∈k:=by rcases hk with ⟨e,_⟩|⟨e,_⟩<;>rw [e]<;>simp
   obtain ⟨g1,g2,g3⟩:=X2 (c:=c) hl (hkn _ hcin) (hkr _ hcin) hc
   rcases hk with ⟨e,f⟩|⟨e,f⟩
   ·rw [f,if_neg (by decide)]
    exact sc hf g1 g2 g3 (by rw [←e];exact hv) hy (w0:=w0)
   rw [f,if_pos rfl]
   exact l9 hf g1 g2 g3 (by rw [←e];exact hv) hy (w0:=w0)
  cases hb
 cases h
/-- What peel yields last: both trees come to one value. -/
theorem cu (hl:∀v∈l,Fine v):∀(n:Nat) (x y:Expr) (v:Val),Be Cb x=true→Be Ci x=true→Ag c l x=(v,0)→Ag c' l' y=(v,0)→Mw c c' l l' (Eu n x y).1 (Eu n x y).2
 | 0,_,_,v,_,_,hv,hy=>⟨v,hv,hy⟩
 | n+1,x,y,v,hn,hr,hv,hy=>by
  rw [Eu]
  split
  ·exact ⟨v,hv,hy⟩
  split
  ·exact ⟨v,hv,hy⟩
  rename_i p hp
  obtain ⟨a,b,w,g1,g2⟩:=ACq hl hn hr hv hy hp
  exact cu hl n p.1 p.2 w a b g1 g2
/-- invert.Of. -/
def ofI (x:Expr) (a b:Str):Option Expr:=
 if ((!Am x) || !Kh a) || !Kh b then none
 else if ((Eu (sizeE x) x (Bb b)).1.op==2)&&((Eu (sizeE x) x (Bb b)).1.text==a) then some (Eu (sizeE x) x (Bb b)).2 else none
theorem X4 {x y:Expr} {p:Expr×Expr} (h:Fi x y=some p):Am p.2=true:=by
 unfold Fi at h
 split at h
 ·cases h
 split at h
 ·cases h
 split at h
 ·rename_i hr;injection h with h;subst h;exact hr
 cases h
theorem Mm:∀(n:Nat) (x y:Expr),Am y=true→Am (Eu n x y).2=true
 | 0,_,_,h=>h
 | n+1,x,y,h=>by
  rw [Eu]
  split
  ·exact h
  split
  ·exact h
  rename_i p hp;exact Mm n p.1 p.2 (X4 hp)
theorem ACr {s:Sign} {ks:List Int} (h:(Pu s ks).2=0) (ho:(s.own == -1)=false):(Pu s ks).1=s.own:=by
 unfold Pu at h ⊢
 split
 ·rename_i e;rw [e] at h;cases h
 rw [ho];rfl
theorem Lx {c:List Col} {x:Expr} (h:(Bi c x).2=0) (h1:(x.op==1)=false) (h2:(x.op==2)=false) (ho:((J9 x.op x.text).own == -1)=false):(Bi c x).1=(J9 x.op x.text).own:=by
 rw [Lt] at h ⊢
 unfold Mv at h ⊢
 rw [h1,h2] at h ⊢
 simp only [Bd,if_false] at h ⊢
 split
 ·rename_i q e
  rw [e] at h
  have:=V5 e
  simp at this
  exact absurd h this
 rename_i e
 rw [e] at h
 exact ACr h ho
theorem sd {c:List Col} {x y:Expr} {p:Expr×Expr} (h:Fi x y=some p) (hk:(Bi c x).2=0):(Bi c x).1=1∨(Bi c x).1=2∨(Bi c x).1=3:=by
 unfold Fi at h
 split at h
 ·cases h
 split at h
 ·cases h
 rename_i s hs _ z hb
 unfold R6 at hb
 split at hb
 ·rename_i ho
  have ho:x.op=3∨x.op=4:=by simpa using ho
  rcases ho with ho|ho
  ·rw [Lx hk (by rw [ho];rfl) (by rw [ho];rfl) (by rw [ho];rfl),ho];exact .inl rfl
  rw [Lx hk (by rw [ho];rfl) (by rw [ho];rfl) (by rw [ho];rfl),ho];exact .inr (.inr rfl)
 split at hb
 ·rename_i ho
  have ho:x.op=6∧x.text=Ml:=by simpa using ho
  rw [Lx hk (by rw [ho.1];rfl) (by rw [ho.1];rfl) (by rw [ho.1,ho.2];rfl),ho.1,ho.2];exact .inr (.inl rfl)
 split at hb
 ·rename_i ho
  have ho:x.op=5∧(x.text=[43]∨x.text=[45]):=by simpa using ho
  rcases ho.2 with ht|ht
  ·rw [Lx hk (by rw [ho.1];rfl) (by rw [ho.1];rfl) (by rw [ho.1,ht];rfl),ho.1,ht];exact .inl rfl
  rw [Lx hk (by rw [ho.1];rfl) (by rw [ho.1];rfl) (by rw [ho.1,ht];rfl),ho.1,ht];exact .inl rfl
 split at hb
 ·rename_i ho
  have ho:x.op=5∧x.text=[38]:=by simpa using ho
  rw [Lx hk (by rw [ho.1];rfl) (by rw [ho.1];rfl) (by rw [ho.1,ho.2];rfl),ho.1,ho.2];exact .inr (.inl rfl)
 cases hb
theorem Zf (b:Str) (k:Int):Br b [⟨b,k⟩]=0:=by
 have:=Vr (nm:=b) (c:=[⟨b,k⟩]) (x:=0) (by simp) rfl (fun j y hj=>absurd hj (by omega))
 simpa using this
theorem zg {b:Str} {k:Int} (hb:Kh b=true) (hk:k=1∨k=2∨k=3):Ic [⟨b,k⟩]=true:=by
 rw [Vs]
 intro j y hj
 cases j with
 | zero =>
  simp at hj
  subst hj
  unfold dz
  rw [Zf]
  rcases hk with rfl|rfl|rfl<;>simp [hb]
 | succ j=>simp at hj
/-- BACK TO WHERE IT CAME FROM. -/
theorem AJe {x:Expr} {c:List Col} {l:List Val} (hx:Am x=true) (hg:Be Ci x=true) (hrow:Gl c l=true) (hl:∀v∈l, -9223372036854775808≤v.n∧v.n≤9223372036854775807) {i:Nat} {y0:Col} (hi:c[i]? = some y0) {b:Str} {k:Int} (hk:Hq x c=(k,0)) {y:Expr} (hO:ofI x y0.name b=some y) {v:Val} (hv:C6 x c l=(v,0)):C6 y [⟨b,k⟩] [v]=(l.getD i noV,0):=by
 have hfl:=gg hrow hl
 have hr':=hx
 rw [Em] at hr'
 unfold Fh at hr'
 simp only [Ai,decide_eq_true_eq] at hr'
 have hn:=hr'.2
 obtain ⟨hc,hlen,hrw⟩:=row_iff.1 hrow
 obtain ⟨hco,hnd⟩:=fg hc
 rw [Uq hx hrow] at hv
 have hkE:Bi c x=(k,0):=by
  unfold Hq at hk
  rw [hx,Mh,hc] at hk
  simpa using hk
 unfold ofI at hO
 split at hO
 ·cases hO
 rename_i h0
 simp only [Rk,Fe,K1] at h0
 split at hO
 ·rename_i hR
  injection hO with hO
  have hR:(Eu (sizeE x) x (Bb b)).1.op=2∧(Eu (sizeE x) x (Bb b)).1.text=y0.name:=by simpa using hR
  have hy:Ag [⟨b,k⟩] [v] (Bb b)=(v,0):=by
   show Dx Aj _ _ _=_
   rw [Eh]
   show Gv [⟨b,k⟩] [v] b=_
   unfold Gv
   rw [Zf];rfl
  obtain ⟨w,g1,g2⟩:=cu (c:=c) (c':=[⟨b,k⟩]) (l':=[v]) hfl (sizeE x) x (Bb b) v hn hg hv hy
  have e1:Ag c l (Eu (sizeE x) x (Bb b)).1=(l.getD i noV,0):=by
   show Dx Aj _ _ _=_
   rw [Eh]
   unfold F8
   rw [hR.1,hR.2]
   show Gv c l y0.name=_
   unfold Gv
   rw [Im hnd hi,if_neg (by omega)];rfl
  rw [g1] at e1
  injection e1 with e1
  have hkk:k=1∨k=2∨k=3:=by
   have hk2:(Bi c x).2=0:=by rw [hkE]
   have hk1:(Bi c x).1=k:=by rw [hkE]
   have hs:(x.op==2)=true∨∃p,Fi x (Bb b)=some p:=by
    cases ho:(x.op==2) with
    | true=>exact .inl rfl
    | false =>
     right
     cases hst:Fi x (Bb b) with
     | some p=>exact ⟨p,rfl⟩
     | none =>
      exfalso
      have hz:∀n,Eu n x (Bb b)=(x,Bb b):=fun n=>by
       cases n with
       | zero=>rfl
       | succ n=>rw [Eu,ho,hst];rfl
      rw [hz] at hR
      rw [show x.op=2 from hR.1] at ho;cases ho
   rcases hs with ho|⟨p,hp⟩
   ·have ho:x.op=2:=by simpa using ho
    have he:(Bi c x)=Qx c x.text:=by
     rw [Lt];unfold Mv;rw [ho];rfl
    rw [he] at hk1 hk2
    unfold Qx at hk1 hk2
    split at hk2
    ·cases hk2
    rename_i hf
    rw [if_neg hf] at hk1
    obtain ⟨j,z,hj,_,hfj⟩:=find_mem.1 hf
    rw [hfj] at hk1
    have hkz:z.kind=k:=by
     rw [←hk1,Int.toNat_natCast,Ch,hj];rfl
    have hz:=hco z (Az hj)
    have:=hz.lo
    have:=hz.hi
    omega
   rw [←hk1];exact sd hp hk2
  have hrow2:Gl [⟨b,k⟩] [v]=true:=by
   have hfv:Fine v:=by have:=Hs (c:=c) hfl x (Mj x hn) hg;rw [hv] at this;exact this
   rw [row_iff]
   refine ⟨zg h0.2 hkk,rfl,fun j u z hu hz=>?_⟩
   cases j with
   | zero =>
    simp at hu hz
    subst hu;subst hz
    have hK:=cm hrow (sizeE x) x (Al _) hn (by rw [hkE])
    rw [hv,hkE] at hK
    exact ⟨hfv.plain,(hK.kind rfl).symm⟩
   | succ j=>simp at hu
  rw [←hO,Uq (Mm _ _ _ (by rw [Mg];exact h0.2)) hrow2,g2,e1]
 cases hO
set_option maxRecDepth 4000
theorem ALr (n:Nat) (e:Expr) (hok:okE n e) (hn:n≤1048576) (hs:sizeE e≤1048576) (Hp:List AObj):AFun Tryz.prog 169 [Aa e] Hp (Ho (Mi e)):=by
 refine Ak [.tmp 2] [0,5] Tryz.func169 Tryz.ntmps169 (fun d=>?_)
 refine Z1 ?_;refine A2 [1,5] ?_;refine Z27 ?_;refine A2 [1,3,5] ?_;refine Z56 ?_;refine S1 0 0 1 ?_
 refine Ii (fun hlow=>?_)
 refine AAy ?_;refine A2 [3,5,7] ?_;refine Ia ?_
 refine Kf (m:=1) Tryz.call123 (fun FR as' bd' hFR has hbd=>?_)
 have hFRl:∀s,Low (Hp.length+3) (FR s):=by
  intro s
  rw [hFR]
  refine L7 ?_
  revert s
  repeat (first|exact Bg|refine Bf (by simp [oid,Ab]<;>try omega) ?_)
 have hOl:∀{k:Nat},∀x∈[AObj.cells 45 [.slice true 1 ((Fy (Ba 1 e) k).map Ah)],AObj.defs,AObj.loop LoopState.ready none FR 26 #[8,9] as' bd' (oid Hp.length 1)],ObjLow (Hp.length+3) x:=by
  intro k x hx
  simp only [Bj,Ev,or_false] at hx
  rcases hx with rfl|rfl|rfl
  ·intro y hy
   rw [B2.1 hy]
   first|exact Ss|simp
  ·trivial
  exact jo
 refine ⟨fun _ H'=>Ki (fun _=>true) (fun k=>Hp++[AObj.cells 45 [.slice true 1 ((Fy (Ba 1 e) k).map Ah)],AObj.defs,AObj.loop LoopState.ready none FR 26 #[8,9] as' bd' (oid Hp.length 1)]) (fun k=>Hp++[AObj.cells 45 [.slice true 1 ((Fy (Ba 1 e) k).map Ah)],AObj.defs,AObj.loop LoopState.ready none FR 26 #[8,9] as' bd' (oid Hp.length 1)]) (Ba 1 e).length H',ABh (l:=oid Hp.length 2) (go:=fun _=>true) (U:=fun k=>Hp++[AObj.cells 45 [.slice true 1 ((Fy (Ba 1 e) k).map Ah)],AObj.defs,AObj.loop LoopState.ready none FR 26 #[8,9] as' bd' (oid Hp.length 1)]) (F:=fun k=>Hp++[AObj.cells 45 [.slice true 1 ((Fy (Ba 1 e) k).map Ah)],AObj.defs,AObj.loop LoopState.ready none FR 26 #[8,9] as' bd' (oid Hp.length 1)]) (n0:=Hp.length+3) ⟨fun k=>by simp,fun k=>by simp,fun k x hx=>?_,fun k x hx=>?_,by simp [oid],fun X k it hit hgo=>?_⟩ n hok hn,?_⟩
 ·exact jp
 ·exact jp
 ·have hklt:k<sizeE e:=by rw [←Fv 1 e];exact (Ac.1 hit).1
  generalize hV:(Hp++[AObj.cells 45 [.slice true 1 ((Fy (Ba 1 e) k).map Ah)],AObj.defs,AObj.loop LoopState.ready none FR 26 #[8,9] as' bd' (oid Hp.length 1)]++X)=V
  have hL:V[oid Hp.length 2]? = some (AObj.loop LoopState.ready none FR 26 #[8,9] as' bd' (oid Hp.length 1)):=by rw [←hV,B9,B0];rfl
  have hA0:V[oid Hp.length 0]? = some (AObj.cells 45 [.slice true 1 ((Fy (Ba 1 e) k).map Ah)]):=by rw [←hV,B9,B0];rfl
  refine K8 (pd:=none) (fr:=FR) (sz:=26) (ps:=#[8,9]) (df:=oid Hp.length 1) (asg:=as') (bd:=bd') hL rfl (by decide) (fun d=>?_)
  subst hFR has hbd
  refine Fu [3,8,9] ?_;refine pq ?_;refine A2 [3,5] ?_
  refine ⟨rfl,none,hL,?_⟩
  generalize hbz:(AObj.loop LoopState.busy _ _ _ _ _ _ _)=bz
  have hA:(V.set (oid Hp.length 2) bz)[oid Hp.length 0]? = some (AObj.cells 45 [.slice true 1 ((Fy (Ba 1 e) k).map Ah)]):=by rw [D7 (By (by decide))];exact hA0
  refine Ia ?_;refine Z18 ?_
  refine Ca (h:=Dz hA) (hr:=?_)
  refine Z9 ?_
  refine C7 Tryz.call96 (fun hB=>c96 (Fy (Ba 1 e) k) it.2.text (by have:=Pv (Ba 1 e) k;omega) _) ?_
  refine Z64 ?_;refine A2 [3,5,19] ?_
  refine A3 (fun ht19=>?_) (fun ht19=>?_)
  ·have hno:=Zb hit
   have hadd:J2 (Fy (Ba 1 e) k) it.2=Fy (Ba 1 e) k++[it.2.text]:=if_pos ht19
   refine Mp ?_;refine ax jA hA ?_;refine Z0 ?_;refine U6 ?_
   refine Gq jU Tryz.type9 ?_ ?_ ?_
   ·have:=Pv (Ba 1 e) k;simp [Tryz.t9];omega
   ·have:=Pv (Ba 1 e) k;simp [Tryz.t9];omega
   refine Vi jS (getset hA) ?_ ?_
   ·exact rc
   refine Xr ?_
   subst hbz
   refine AI9 ?_
   refine ⟨rfl,?_⟩
   rw [if_pos rfl]
   subst hV
   simp only [B9,Dy,Dd,Cz,List.set_cons_succ,List.set_cons_zero]
   rw [hno,hadd]
   try simp only [Cr,C9,F9]
   try rfl
  have hno:=Zb hit
  have hadd:J2 (Fy (Ba 1 e) k) it.2=Fy (Ba 1 e) k:=if_neg (by rw [ht19];simp)
  refine L9 ?_;refine Kd ?_
  subst hbz
  refine AI9 ?_
  refine ⟨rfl,?_⟩
  rw [if_pos rfl]
  subst hV
  simp only [B9,Dy,Dd,Cz,List.set_cons_succ,List.set_cons_zero]
  rw [hno,hadd]
  try simp only [Cr,C9,F9]
  try rfl
 intro r H' hq
 obtain rfl:=ce hq
 refine ⟨Hp,_,_,_,rfl,rfl,fun h=>h,?_,rfl,by simp,?_⟩
 ·intro o ho
  have:o=oid Hp.length 1:=by simpa using ho
  subst this
  rw [B0]
  rfl
 refine Z15 ?_;refine Z1 ?_;refine Z4 ?_;exact A7 (An A6) ⟨by rw [f5,Fy,Ob],rfl⟩

theorem se {e:Expr} (h:Cb e=true):e.text.length≤1048576∧e.kids.length≤1048576:=by
 cases Hh h with
 | val v hp h0=>exact ⟨by simp [Dl,Expr.text],by simp [Dl,Expr.kids]⟩
 | name t ht =>
  refine ⟨?_,by simp [Bb,Expr.kids]⟩
  show t.length≤1048576
  cases t with
  | nil=>simp
  | cons c r =>
   simp only [Kh,Ai,decide_eq_true_eq] at ht
   have:=ht.1.1.1
   omega
 | neg a=>exact ⟨by simp [G4,Expr.text],by simp [G4,Expr.kids]⟩
 | no a=>exact ⟨by simp [G4,Expr.text],by simp [G4,Expr.kids]⟩
 | bin t a b ht =>
  refine ⟨?_,by simp [Ib,Expr.kids]⟩
  show t.length≤1048576
  rcases Ja t with hm|⟨hm,_⟩
  ·have h3:(levels.flatten.all fun s=>decide (s.length≤3))=true:=by kernel_rfl
   have:=of_decide_eq_true (B5.1 h3 t hm)
   omega
  omega
 | call t k ha =>
  rcases F7 ha with ⟨e1,e⟩|⟨e1,e⟩|⟨e1,e⟩|⟨e1,e⟩|⟨e1,e⟩|⟨e1,e⟩|⟨e1,e⟩|⟨e1,e⟩<;>subst e1<;>exact ⟨by simp [Expr.text,C0,Gy,ifW],by show k.length≤_;omega⟩
theorem la:∀{l:List Expr} {y:Expr},y∈l→depthE y≤F6 l:=Wz
theorem gr:∀(n:Nat) (e:Expr),depthE e≤n→Be Cb e=true→okE n e
 | 0,e,h,_=>by rw [Ls] at h;omega
 | n+1,e,h,hn=>by
  rw [Db,Ai] at hn
  rw [Ls] at h
  have hs:=se hn.1
  exact ⟨hs.1,hs.2,fun y hy=>gr n y (by have:=la hy;omega) ((Bk _ _).1 hn.2 y hy)⟩
theorem Fc {ks:List Expr} {i:Nat} (h:i<ks.length):(ks.map Aa)[i]? = some (Aa (ks.getD i A9)):=by
 rw [Cm,Ae h,Ch,Ae h]
 rfl
/-! trim: what is no value. -/
def noC (k:Expr):Bool := !(k.op==1)
def X5 (ks:List Expr):Int:=if ks.any noC then (ks.findIdx noC:Nat) else -1
theorem ACs {ks:List Expr} {x:Nat} (h:x<ks.length) (hx:noC ks[x]=true) (hp:∀(j:Nat) (y:Expr),j<x→ks[j]? = some y→¬noC y=true):X5 ks=(x:Int):=by
 unfold X5
 rw [if_pos (L5.2 ⟨_,C4 h,hx⟩)]
 congr 1
 rw [List.findIdx_eq h]
 exact ⟨hx,fun j hj=>by have:=hp j ks[j] hj (Ae (by omega));simpa using this⟩
theorem sg {ks:List Expr} (hp:∀(j:Nat) (y:Expr),ks[j]? = some y→¬noC y=true):X5 ks = -1:=by
 unfold X5
 rw [if_neg]
 intro h
 obtain ⟨y,hy,hn⟩:=L5.1 h
 obtain ⟨j,hj⟩:=Ct hy
 exact hp j y hj hn
theorem zh (ks:List Expr):decide (0≤X5 ks)=ks.any noC:=by
 unfold X5
 cases ks.any noC<;>simp
theorem lb (v:Val) (k n:Int) (s:Str):(v.kind==k&&v.n==n&&v.s==s)=(v==⟨k,n,s⟩):=by
 obtain ⟨a,b,c⟩:=v
 rw [Rj]
 simp [Val.mk.injEq,and_assoc]
theorem gt {n:Nat} {x:Expr} (h:okE n x):x.kids.length≤1048576:=by
 cases n with
 | zero=>exact h.elim
 | succ n=>exact h.2.1
theorem AG0 (x:Expr) (Hp:List AObj):AFun Tryz.prog 268 [Aa x] Hp (B6 (x.op==1)):=by
 refine Ak [.tmp 2] [0] Tryz.func268 Tryz.ntmps268 (fun d=>?_)
 refine Z84 ?_;refine Z18 ?_;exact Z80

theorem ALs (v:Val) (Hp:List AObj):AFun Tryz.prog 339 [Bp v] Hp (Aa (Dl v)):=by
 refine Ak [.cell 2 26] [0] Tryz.func339 Tryz.ntmps339 (fun d=>?_)
 refine w9 ?_;refine A2 [1,2] ?_;refine AEi ?_;refine Ek 4 _ (Nx 1 [] v) ?_;exact AH0

theorem ALt (k:Expr) (Hp:List AObj):AFun Tryz.prog 338 [Aa k] Hp (B6 (noC k)):=by
 refine Ak [.tmp 2] [0] Tryz.func338 Tryz.ntmps338 (fun d=>?_)
 refine Z84 ?_;refine Z2 ?_;refine A8 Tryz.call268 (AG0 k _) ?_;exact w6

theorem ALu (ks:List Expr) (hkl:ks.length≤1048576) (Hp:List AObj):AFun Tryz.prog 251 [.slice false 6 (ks.map Aa),.fn (.func 338) [] []] Hp (A4 (X5 ks)):=by
 refine Ak [.tmp 4] [0,1] Tryz.func251 Tryz.ntmps251 (fun d=>?_)
 refine pz ?_
 refine Dp (α:=Nat) (fun x=>⟨19,Af 0 (.slice false 6 (ks.map Aa)) (Af 1 (.fn (.func 338) [] []) (Af 7 (A4 ks.length) (Af 8 (A4 (x:Nat)) (fun _=>.any)))),Hp,[],[],none⟩) (fun x=>x≤ks.length∧∀(j:Nat) (y:Expr),j<x→ks[j]? = some y→¬noC y=true) (fun x=>ks.length-x) (0) (by simp) (Co (by simp)) rfl (fun x hx=>?_)
 refine pc ?_
 refine Dn (fun ht9=>?_) (fun ht9=>?_)
 ·have hlt:x<ks.length:=by simpa using ht9
  refine pv ?_
  refine A5 (h:=Ap (x) (Aa ks[x]) (fun _=>Bv hlt)) (hr:=?_)
  refine A5 ?_;refine Ry Tryz.call338 (ALt ks[x] _) ?_;refine qc ?_
  refine A3 (fun ht16=>?_) (fun ht16=>?_)
  ·refine jh ?_;refine Z97 ?_;exact A7 (An A6) ⟨by rw [ACs hlt ht16 hx.2],rfl⟩
  refine Z68 ?_;refine A2 [0,1,7,8] ?_;exact Cd (x+1) ⟨hlt,Fg hlt hx.2 (by rw [ht16];simp)⟩ (by omega) (H4 rfl)
 refine Z39 ?_;refine Z65 ?_;exact A7 (An A6) ⟨by rw [sg (Qm (by simp at ht9;omega) hx.2)],rfl⟩

theorem ALv (ks:List Expr) (hkl:ks.length≤1048576) (Hp:List AObj):AFun Tryz.prog 197 [.slice false 6 (ks.map Aa),.fn (.func 338) [] []] Hp (B6 (ks.any noC)):=by
 refine Ak [.tmp 4] [0,1] Tryz.func197 Tryz.ntmps197 (fun d=>?_)
 refine Z49 ?_;refine Z1 ?_;refine A8 Tryz.call251 (ALu ks hkl _) ?_;refine Z0 ?_;refine Z21 ?_;exact A7 (An A6) ⟨by rw [←zh];try rfl,rfl⟩

theorem AG1 {n:Nat} {x:Expr} (hok:okE n x) (hn:n≤1048576) (hrg:Be Ci x=true) (Hp:List AObj):AFun Tryz.prog 15 [Aa x,.nil,.nil] Hp (R1 (C6 x [] [])):=by
 have:=c15 n x hok hn hrg [] ⟨by decide,by decide⟩ [] (by decide) (fun v hv=>by cases hv) Hp
 refine ACall.argLeE this rfl fun i y y' h1 h2=>?_
 match i with
 | 0=>simp at h1 h2;subst h1;subst h2;exact .refl _
 | 1=>simp at h1 h2;subst h1;subst h2;exact .nil false 2
 | 2=>simp at h1 h2;subst h1;subst h2;exact .nil false 3
 | i+3=>simp at h1
def X6 (o:Option Expr):AV:=.tup [Aa (o.getD A9),B6 o.isSome]
theorem AG2 {x:Expr} (h:x.kids.any noC=true):I8 x=none:=if_pos h
theorem AG3 {x:Expr} (h:x.kids.any noC=false) (h2:(((C6 x [] []).2 != 0) || (((C6 x [] []).1.kind==1)&&decide ((C6 x [] []).1.n<0)))=true):I8 x=none:=by
 unfold I8
 rw [if_neg (fun e=>by rw [show (x.kids.any fun k => !(k.op==1))=x.kids.any noC from rfl,h] at e;cases e),if_pos h2]
theorem AG4 {x:Expr} (h:x.kids.any noC=false) (h2:(((C6 x [] []).2 != 0) || (((C6 x [] []).1.kind==1)&&decide ((C6 x [] []).1.n<0)))=false):I8 x=some (Dl (C6 x [] []).1):=by
 unfold I8
 rw [if_neg (fun e=>by rw [show (x.kids.any fun k => !(k.op==1))=x.kids.any noC from rfl,h] at e;cases e),if_neg (by rw [h2];simp)]
theorem ALw (n:Nat) (x:Expr) (hok:okE n x) (hn:n≤1048576) (hrg:Be Ci x=true) (Hp:List AObj):AFun Tryz.prog 326 [Aa x] Hp (X6 (I8 x)):=by
 have hkl:=(gt hok)
 refine Ak [.cell 2 26,.tmp 3] [0] Tryz.func326 Tryz.ntmps326 (fun d=>?_)
 refine vu ?_;refine Z31 ?_;refine A8 Tryz.call197 (ALv x.kids hkl _) ?_;refine A2 [1,2,8] ?_
 refine A3 (fun ht8=>?_) (fun ht8=>?_)
 ·refine Z28 ?_;refine Ek 9 _ G6 ?_;refine Z60 ?_;refine Cu ?_;exact A7 (Aw (As jA jS) A6) ⟨by rw [AG2 ht8];simp only [X6,Option.getD_some,Option.getD_none,Ad];try rfl,rfl⟩ (hlow:=by simp [Ab])
 refine Z74 ?_;refine A8 Tryz.call15 (AG1 hok hn hrg _) ?_;refine No ?_;refine A2 [2,4,5] ?_;refine Z34 ?_;refine Z47 ?_;refine Z47 ?_;refine A5 ?_;refine A2 [2,4,26] ?_
 refine A3 (fun ht26=>?_) (fun ht26=>?_)
 ·refine Z28 ?_;refine Ek 27 _ G6 ?_;refine Z60 ?_;refine Cu ?_;exact A7 (Aw (As jA jS) A6) ⟨by rw [AG3 ht8 ht26];simp only [X6,Option.getD_some,Option.getD_none,Ad];try rfl,rfl⟩ (hlow:=by simp [Ab])
 refine Z74 ?_;refine A8 Tryz.call339 (ALs (C6 x [] []).1 _) ?_;refine Z60 ?_;exact A7 (Aw (As jA jS) A6) ⟨by rw [AG4 ht8 ht26];simp only [X6,Option.getD_some,Option.getD_none,Ad];try rfl,rfl⟩ (hlow:=by simp [Ab])

section
variable {o:Int} {t:Str} {ks:List Expr}
theorem ALx (h:((((o==6)&&(t==ifW))&&((ks.getD 0 A9).val==Cp true)))=true):Ec o t ks=some (ks.getD 1 A9):=if_pos h
theorem ALy (h1:((((o==6)&&(t==ifW))&&((ks.getD 0 A9).val==Cp true)))=false) (h:(((o==6)&&(t==ifW))&&(((ks.getD 0 A9).val==Cp false) || ((ks.getD 0 A9).val==noV)))=true):Ec o t ks=some (ks.getD 2 A9):=by
 unfold Ec
 rw [if_neg (by rw [h1];simp),if_pos h]
theorem ALz (h1:((((o==6)&&(t==ifW))&&((ks.getD 0 A9).val==Cp true)))=false) (h2:(((o==6)&&(t==ifW))&&(((ks.getD 0 A9).val==Cp false) || ((ks.getD 0 A9).val==noV)))=false) (h:(((o==6)&&(t==Gy))&&((ks.getD 0 A9).val==noV))=true):Ec o t ks=some (ks.getD 1 A9):=by
 unfold Ec
 rw [if_neg (by rw [h1];simp),if_neg (by rw [h2];simp),if_pos h]
theorem AM0 (h1:((((o==6)&&(t==ifW))&&((ks.getD 0 A9).val==Cp true)))=false) (h2:(((o==6)&&(t==ifW))&&(((ks.getD 0 A9).val==Cp false) || ((ks.getD 0 A9).val==noV)))=false) (h3:(((o==6)&&(t==Gy))&&((ks.getD 0 A9).val==noV))=false) (h:((o==6)&&(t==Gy))=true):Ec o t ks=some (ks.getD 0 A9):=by
 unfold Ec
 rw [if_neg (by rw [h1];simp),if_neg (by rw [h2];simp),if_neg (by rw [h3];simp),if_pos h]
theorem AM1 (h1:((((o==6)&&(t==ifW))&&((ks.getD 0 A9).val==Cp true)))=false) (h2:(((o==6)&&(t==ifW))&&(((ks.getD 0 A9).val==Cp false) || ((ks.getD 0 A9).val==noV)))=false) (h3:(((o==6)&&(t==Gy))&&((ks.getD 0 A9).val==noV))=false) (h4:((o==6)&&(t==Gy))=false) (h:((o==5)&&(((t==orW)&&((ks.getD 0 A9).val==Cp true)) || ((t==Sv)&&((ks.getD 0 A9).val==Cp false))))=true):Ec o t ks=some (ks.getD 0 A9):=by
 unfold Ec
 rw [if_neg (by rw [h1];simp),if_neg (by rw [h2];simp),if_neg (by rw [h3];simp),if_neg (by rw [h4];simp),if_pos h]
theorem AM2 (h1:((((o==6)&&(t==ifW))&&((ks.getD 0 A9).val==Cp true)))=false) (h2:(((o==6)&&(t==ifW))&&(((ks.getD 0 A9).val==Cp false) || ((ks.getD 0 A9).val==noV)))=false) (h3:(((o==6)&&(t==Gy))&&((ks.getD 0 A9).val==noV))=false) (h4:((o==6)&&(t==Gy))=false) (h:((o==5)&&(((t==orW)&&((ks.getD 0 A9).val==Cp true)) || ((t==Sv)&&((ks.getD 0 A9).val==Cp false))))=false):Ec o t ks=none:=by
 unfold Ec
 rw [if_neg (by rw [h1];simp),if_neg (by rw [h2];simp),if_neg (by rw [h3];simp),if_neg (by rw [h4];simp),if_neg (by rw [h];simp)]
end
theorem X7 {a b c:Bool} (h:((a&&b)&&c)=true):(a&&b)=true:=by cases a<;>cases b<;>simp_all
theorem AM3 (x:Expr) (h0:0<x.kids.length) (h3:((x.op==6)&&(x.text==ifW))=true→x.kids.length=3) (h2:((x.op==6)&&(x.text==Gy))=true→x.kids.length=2) (Hp:List AObj):AFun Tryz.prog 325 [Aa x] Hp (X6 (Ec x.op x.text x.kids)):=by
 refine Ak [.cell 2 26,.tmp 3] [0] Tryz.func325 Tryz.ntmps325 (fun d=>?_)
 refine vu ?_;refine Z1 ?_
 refine A5 (h:=Ap (0) (Aa (x.kids.getD 0 A9)) (fun _=>Fc h0)) (hr:=?_)
 refine Z0 ?_;refine Z16 ?_;refine A2 [1,2,4] ?_;refine AEq ?_;refine D0 Tryz.call88 (c88 true _) ?_;refine Er ?_
 refine A5 (h:=Ni Xw (fun w=>Iy (x.kids.getD 0 A9).val.kind (x.kids.getD 0 A9).val.n 3 1 (x.kids.getD 0 A9).val.s [] w)) (hr:=?_)
 refine A5 ?_;refine A2 [1,2,4,5] ?_;refine AEq ?_;refine D0 Tryz.call88 (c88 false _) ?_;refine Er ?_
 refine A5 (h:=Ni Xw (fun w=>Iy (x.kids.getD 0 A9).val.kind (x.kids.getD 0 A9).val.n 3 0 (x.kids.getD 0 A9).val.s [] w)) (hr:=?_)
 refine A5 ?_;refine A2 [1,2,4,5,6] ?_;refine AEq ?_;refine D0 Tryz.call86 (c86 _) ?_;refine Er ?_
 refine A5 (h:=Ni Xw (fun w=>Iy (x.kids.getD 0 A9).val.kind (x.kids.getD 0 A9).val.n 0 0 (x.kids.getD 0 A9).val.s [] w)) (hr:=?_)
 refine A5 ?_;refine A2 [1,2,5,6,7] ?_;refine Z92 ?_
 rw [lb,lb,lb]
 refine Z69 ?_;refine Z73 ?_;refine Z38 ?_;refine A2 [1,2,5,6,7,22] ?_
 refine A3 (fun ht22=>?_) (fun ht22=>?_)
 ·have hq1:(((x.op==6)&&(x.text==ifW))&&((x.kids.getD 0 A9).val==Cp true))=true:=ht22
  refine Z1 ?_
  refine A5 (h:=Ap (1) (Aa (x.kids.getD 1 A9)) (fun _=>Fc (by have:=h3 (X7 hq1);omega))) (hr:=?_)
  refine pw ?_;exact A7 (Aw (As jA jS) A6) ⟨by rw [ALx hq1];simp only [X6,Option.getD_some,Ad];try rfl,rfl⟩ (hlow:=by simp [Ab])
 have hn1:(((x.op==6)&&(x.text==ifW))&&((x.kids.getD 0 A9).val==Cp true))=false:=ht22
 refine be ?_;refine dp ?_;refine A2 [1,2,5,6,7,38] ?_
 refine A3 (fun ht38=>?_) (fun ht38=>?_)
 ·have hq2:(((x.op==6)&&(x.text==ifW))&&(((x.kids.getD 0 A9).val==Cp false) || ((x.kids.getD 0 A9).val==noV)))=true:=ht38
  refine Z1 ?_
  refine A5 (h:=Ap (2) (Aa (x.kids.getD 2 A9)) (fun _=>Fc (by have:=h3 (X7 hq2);omega))) (hr:=?_)
  refine pw ?_;exact A7 (Aw (As jA jS) A6) ⟨by rw [ALy hn1 hq2];simp only [X6,Option.getD_some,Ad];try rfl,rfl⟩ (hlow:=by simp [Ab])
 have hn2:(((x.op==6)&&(x.text==ifW))&&(((x.kids.getD 0 A9).val==Cp false) || ((x.kids.getD 0 A9).val==noV)))=false:=ht38
 refine be ?_;refine Z38 ?_;refine A2 [1,2,5,6,57] ?_
 refine A3 (fun ht57=>?_) (fun ht57=>?_)
 ·have hq3:(((x.op==6)&&(x.text==Gy))&&((x.kids.getD 0 A9).val==noV))=true:=ht57
  refine Z1 ?_
  refine A5 (h:=Ap (1) (Aa (x.kids.getD 1 A9)) (fun _=>Fc (by have:=h2 (X7 hq3);omega))) (hr:=?_)
  refine pw ?_;exact A7 (Aw (As jA jS) A6) ⟨by rw [ALz hn1 hn2 hq3];simp only [X6,Option.getD_some,Ad];try rfl,rfl⟩ (hlow:=by simp [Ab])
 have hn3:(((x.op==6)&&(x.text==Gy))&&((x.kids.getD 0 A9).val==noV))=false:=ht57
 refine be ?_;refine A2 [1,2,5,6,73] ?_
 refine A3 (fun ht73=>?_) (fun ht73=>?_)
 ·refine Z1 ?_
  refine A5 (h:=Ap (0) (Aa (x.kids.getD 0 A9)) (fun _=>Fc h0)) (hr:=?_)
  refine pw ?_;exact A7 (Aw (As jA jS) A6) ⟨by rw [AM0 hn1 hn2 hn3 ht73];simp only [X6,Option.getD_some,Ad];try rfl,rfl⟩ (hlow:=by simp [Ab])
 refine Z18 ?_;refine Z47 ?_;refine Z47 ?_;refine Z47 ?_;refine Z9 ?_;refine Z0 ?_;refine A2 [1,2,86] ?_
 refine A3 (fun ht86=>?_) (fun ht86=>?_)
 ·refine Z1 ?_
  refine A5 (h:=Ap (0) (Aa (x.kids.getD 0 A9)) (fun _=>Fc h0)) (hr:=?_)
  refine pw ?_;exact A7 (Aw (As jA jS) A6) ⟨by rw [AM1 hn1 hn2 hn3 ht73 ht86];simp only [X6,Option.getD_some,Ad];try rfl,rfl⟩ (hlow:=by simp [Ab])
 refine Z20 ?_;refine Z28 ?_;refine Ek 110 _ G6 ?_;refine Z60 ?_;exact A7 (Aw (As jA jS) A6) ⟨by rw [AM2 hn1 hn2 hn3 ht73 ht86];simp only [X6,Option.getD_some,Option.getD_none,Ad];try rfl,rfl⟩ (hlow:=by simp [Ab])

/-- Who takes what kids yield: item k at U k, never an end. -/
structure Takes1 (P:Program) (l:Nat) (L:List Expr) (U:Nat→List AObj) (n0:Nat):Prop where
 lenU:∀k,(U k).length=n0
 lowU:∀k,∀x∈U k,ObjLow n0 x
 lt:l<n0
 y:∀(X:List AObj) (k:Nat) (z:Expr),L[k]? = some z→AYield P l [Aa z] (U k++X) (fun b H'=>b=true∧H'=U (k+1)++X)
abbrev yo (own:Bool) (o:Int) (t:Str) (ks:List Expr):AObj:=.cells 26 [A4 o,Ah t,A4 0,A4 0,Ah [],.slice own 6 (ks.map Aa)]
theorem AG5 {n:Nat} {own:Bool} {o:Int} {t:Str} {ks:List Expr}:ObjLow n (yo own o t ks):=by
 show ∀z∈[A4 o,Ah t,A4 0,A4 0,Ah [],AV.slice own 6 (ks.map Aa)],Low n z
 intro z hz
 simp only [Bj,Hy,or_false] at hz
 rcases hz with rfl|rfl|rfl|rfl|rfl|rfl
 all_goals first|exact E2|simp
theorem ADx (ks:List Expr) (x:Expr):ks.map Aa++[.agg [.v (.int .i64 x.op),.v (sv x.text),.v (.int .i64 x.val.kind),.v (.int .i64 x.val.n),.v (sv x.val.s),.slice false 6 (x.kids.map Aa)]]=(ks++[x]).map Aa:=by rw [Cr,C9,F9,Ad x]
theorem AM4 (x:Expr) (Hp:List AObj):AFun Tryz.prog 324 [Aa x] Hp (.fn (.func 337) [] [.ro (Bw x)]):=by
 refine Ak [.tmp 2] [0] Tryz.func324 Tryz.ntmps324 (fun d=>?_)
 refine Z84 ?_;refine wd ?_;refine Z4 ?_;exact A7 (An A6) (hlow:=by have:=Ab Hp.length x;rw [Ad] at this;simpa using this)

theorem AM5 {l:Nat} {x:Expr} {U:Nat→List AObj} {n0:Nat} (T:Takes1 Tryz.prog l (x.kids.map Bm) U n0) (hkl:x.kids.length≤1048576) (ih:∀y∈x.kids,∀Hp:List AObj,AFun Tryz.prog 300 [Aa y] Hp (Aa (Bm y))):ACall Tryz.prog 337 [.yield l,.ro (Bw x)] (U 0) (fun r H'=>H'=U x.kids.length):=by
 refine Ak [] [0,1] Tryz.func337 Tryz.ntmps337 (fun d=>?_)
 refine Z18 ?_;refine A2 [0,6,7,8] ?_
 refine Dp (α:=Nat) (fun k=>⟨18,Af 0 (.yield l) (Af 6 (.slice false 6 (x.kids.map Aa)) (Af 7 (A4 x.kids.length) (Af 8 (A4 (k:Nat)) (fun _=>.any)))),U k,[],[],none⟩) (fun k=>k≤x.kids.length) (fun k=>x.kids.length-k) (0) (Bc _) (Co (by simp)) rfl (fun k hx=>?_)
 refine Z2 ?_;refine A2 [0,6,7,8,9] ?_
 refine Dn (fun ht9=>?_) (fun ht9=>?_)
 ·have hlt:k<x.kids.length:=by simpa using ht9
  refine Z92 ?_
  refine A5 (h:=Ap (k) (Aa x.kids[k]) (fun _=>Bv hlt)) (hr:=?_)
  refine Vm ?_;refine A2 [0,4,6,7,8] ?_;refine Z1 ?_;refine A8 Tryz.call300 (ih x.kids[k] (C4 hlt) _) ?_
  refine R.yield (T.y _ k (Bm x.kids[k]) (by rw [Cm,Ae hlt];rfl)) ?_
  intro b Vv O hV hb
  obtain ⟨rfl,hH⟩:=hb
  obtain ⟨rfl,rfl⟩:=N1 hH (by rw [hV,T.lenU,T.lenU])
  refine ⟨fun _=>by rw [T.lenU];exact T.lowU _,fun o ho=>by simp at ho,?_⟩
  refine A5 ?_;refine A2 [0,6,7,8,16] ?_
  refine A3 (fun ht16=>?_) (fun ht16=>?_)
  ·cases ht16
  refine Z68 ?_;refine A2 [0,6,7,8] ?_;refine Cd (k+1) hlt (by omega) ?_
  exact Dk (own:=[]) (fun _=>.refl _) (by repeat (first|exact Bg|refine Bf (by first|exact E2|(simp;done)|(have:=T.lt;simp [T.lenU];omega)) ?_)) (by simp) (by simp)
 have hke:k=x.kids.length:=by simp at ht9;omega
 refine K.lpE ?_;exact Ke .nores (hp:=by rw [hke])

theorem ACt {x:Expr} (h:((x.kids.length:Int)==0)=true):Bm x=x:=by rw [Wy,if_pos h]
theorem ACu {x:Expr} (h:((x.kids.length:Int)==0)=false):Bm x=Kl x.op x.text (x.kids.map Bm):=by rw [Wy,if_neg (by rw [h];simp)]
section
variable {o:Int} {t:Str} {ks:List Expr}
theorem AM6 {z:Expr} (h:((ks.getD 0 A9).op==1)=true) (hc:Ec o t ks=some z):Kl o t ks=z:=by unfold Kl;rw [if_pos h,hc]
theorem AM7 {z:Expr} (h:((ks.getD 0 A9).op==1)=true) (hc:Ec o t ks=none) (hr:I8 (.mk o t noV ks)=some z):Kl o t ks=z:=by unfold Kl;rw [if_pos h,hc];simp only;rw [hr]
theorem AM8 (h:((ks.getD 0 A9).op==1)=true) (hc:Ec o t ks=none) (hr:I8 (.mk o t noV ks)=none):Kl o t ks=.mk o t noV ks:=by unfold Kl;rw [if_pos h,hc];simp only;rw [hr]
theorem AM9 {z:Expr} (h:((ks.getD 0 A9).op==1)=false) (hr:I8 (.mk o t noV ks)=some z):Kl o t ks=z:=by unfold Kl;rw [if_neg (by rw [h];simp)];simp only;rw [hr]
theorem AMa (h:((ks.getD 0 A9).op==1)=false) (hr:I8 (.mk o t noV ks)=none):Kl o t ks=.mk o t noV ks:=by unfold Kl;rw [if_neg (by rw [h];simp)];simp only;rw [hr]
end
theorem R9 {o:Option Expr} (h:o.isSome=true):o=some (o.getD A9):=by cases o<;>simp at h ⊢
theorem Ra {o:Option Expr} (h:o.isSome=false):o=none:=by cases o<;>simp at h ⊢
theorem sh {x:Expr} (hn:Be Cb x=true) (hr:Be Ci x=true) (hk:0<x.kids.length):Be Cb (.mk x.op x.text noV (x.kids.map Bm))=true∧Be Ci (.mk x.op x.text noV (x.kids.map Bm))=true∧sizeE (.mk x.op x.text noV (x.kids.map Bm))≤sizeE x∧depthE (.mk x.op x.text noV (x.kids.map Bm))≤depthE x:=by
 have h0:=hn
 rw [Db,Ai] at h0
 have h1:=hr
 rw [Db,Ai] at h1
 have ih:∀y∈x.kids,TrimOk [] [] y (Bm y):=fun y hy=>co (fun v hv=>by cases hv) _ y (Al _) ((Bk _ _).1 h0.2 y hy) ((Bk _ _).1 h1.2 y hy)
 obtain ⟨o,t,v,k⟩:=x
 simp only [Expr.op,Expr.text,Expr.kids] at *
 have hv:v=noV:=by
  have hnn:=h0.1
  rw [I4,Gu] at hnn
  split at hnn
  ·simp only [Ai,beq_iff_eq] at hnn
   have:=hnn.2
   omega
  split at hnn
  ·cases hnn
  rename_i hb;exact cf (by simpa using hb)
 subst hv
 have hmem:∀y∈k.map Bm,∃z∈k,y=Bm z:=fun y hy=>by
  obtain ⟨z,hz,rfl⟩:=Cw.1 hy
  exact ⟨z,hz,rfl⟩
 refine ⟨?_,?_,?_,?_⟩
 ·rw [Be,Ai]
  refine ⟨?_,(Bk _ _).2 fun y hy=>?_⟩
  ·have hnn:=h0.1
   rw [I4,Gu] at hnn ⊢
   rw [Au]
   exact hnn
  obtain ⟨z,hz,rfl⟩:=hmem y hy
  exact (ih z hz).node
 ·rw [Be,Ai]
  refine ⟨h1.1,(Bk _ _).2 fun y hy=>?_⟩
  obtain ⟨z,hz,rfl⟩:=hmem y hy
  exact (ih z hz).rng
 ·rw [sizeE,sizeE]
  have:∀r:List Expr,(∀y∈r,y∈k)→Cg (r.map Bm)≤Cg r:=fun r=>by
   induction r with
   | nil=>intro _;exact Al _
   | cons y r ihr =>
    intro hs
    rw [C9,Cg,Cg]
    have h1:=(ih y (hs y Hw)).size
    have h2:=ihr fun z hz=>hs z (Jo _ hz)
    omega
  have:=this k fun _ h=>h
  omega
 rw [depthE,depthE]
 have:∀r:List Expr,(∀y∈r,y∈k)→F6 (r.map Bm)≤F6 r:=fun r=>by
  induction r with
  | nil=>intro _;exact Al _
  | cons y r ihr =>
   intro hs
   rw [C9,F6,F6]
   have h1:=(ih y (hs y Hw)).depth
   have h2:=ihr fun z hz=>hs z (Jo _ hz)
   omega
 have:=this k fun _ h=>h
 omega
theorem si {o:Int} {t:Str} {ks:List Expr} (hn:Be Cb (.mk o t noV ks)=true):(((o==6)&&(t==ifW))=true→ks.length=3)∧(((o==6)&&(t==Gy))=true→ks.length=2):=by
 rw [Be,Ai] at hn
 obtain ⟨q5,q34,q6,qall⟩:=Lw hn.1
 refine ⟨fun h=>?_,fun h=>?_⟩
 ·simp only [Ai,beq_iff_eq] at h
  obtain ⟨rfl,rfl⟩:=h
  rcases F7 (q6 rfl) with ⟨e,_⟩|⟨e,_⟩|⟨e,_⟩|⟨e,_⟩|⟨e,_⟩|⟨e,_⟩|⟨e,_⟩|⟨_,e⟩
  all_goals first|exact e|exact absurd (show ifW=_ from e) (by decide)
 simp only [Ai,beq_iff_eq] at h
 obtain ⟨rfl,rfl⟩:=h
 rcases F7 (q6 rfl) with ⟨e,_⟩|⟨e,_⟩|⟨e,_⟩|⟨e,_⟩|⟨_,e⟩|⟨e,_⟩|⟨e,_⟩|⟨e,_⟩
 all_goals first|exact e|exact absurd (show Gy=_ from e) (by decide)
theorem AMb:∀(n:Nat) (x:Expr),okE n x→n≤1000000→Be Cb x=true→Be Ci x=true→∀Hp:List AObj,AFun Tryz.prog 300 [Aa x] Hp (Aa (Bm x)):=by
 intro n
 induction n with
 | zero=>exact fun x h=>h.elim
 | succ n ih =>
 intro x hok hn hnode hrng Hp
 have hih:∀y∈x.kids,∀Hp:List AObj,AFun Tryz.prog 300 [Aa y] Hp (Aa (Bm y)):=fun y hy=>ih y (hok.2.2 y hy) (by omega) (by rw [Db,Ai] at hnode;exact (Bk _ _).1 hnode.2 y hy) (by rw [Db,Ai] at hrng;exact (Bk _ _).1 hrng.2 y hy)
 refine Ak [.cell 2 26] [0,4] Tryz.func300 Tryz.ntmps300 (fun d=>?_)
 refine w9 ?_;refine A2 [1,2,4] ?_;refine Z59 ?_;refine A2 [1,2,4,12] ?_
 refine A3 (fun ht12=>?_) (fun ht12=>?_)
 ·rw [Au] at ht12
  refine Z2 ?_;refine pu ?_;exact A7 (An (As jA jS)) ⟨by rw [ACt ht12];simp only [Ad];try rfl,rfl⟩ (hlow:=by simp [Ab])
 rw [Au] at ht12
 have hte:=ACu ht12
 have hk1:0<x.kids.length:=by
  cases hk:x.kids with
  | nil=>rw [hk] at ht12;cases ht12
  | cons a r=>simp
 have hk0:0<(x.kids.map Bm).length:=by simpa using hk1
 obtain ⟨hyn,hyr,hys,hyd⟩:=sh hnode hrng hk1
 obtain ⟨hy3,hy2⟩:=si hyn
 have hyok:okE (n+1) (Expr.mk x.op x.text noV (x.kids.map Bm)):=gr (n+1) _ (Jr hyd (Za _ _ hok)) hyn
 refine Z6 ?_;refine Z18 ?_;refine dx ?_;refine Z16 ?_;refine A2 [1,2,3,4] ?_;refine Z56 ?_;refine S1 1 5 6 ?_
 refine Ii (fun hlow=>?_)
 refine A5 ?_;refine A8 Tryz.call324 (AM4 x _) ?_;refine A2 [2,3,4,20] ?_;refine Ia ?_
 refine Kf (m:=2) Tryz.call337 (fun FR as' bd' hFR has hbd=>?_)
 have hFRl:∀s,Low (Hp.length+4) (FR s):=by
  intro s
  rw [hFR]
  refine L7 ?_
  revert s
  repeat (first|exact Bg|refine Bf (by first|exact R2|(simp [oid,Ab]<;>try omega)) ?_)
 have hOl:∀{k:Nat},∀y∈[.cells 26 [A4 0,Ah [],A4 0,A4 0,Ah [],.nil],yo true x.op x.text ((x.kids.map Bm).take k),AObj.defs,AObj.loop LoopState.ready none FR 50 #[21] as' bd' (oid Hp.length 2)],ObjLow (Hp.length+4) y:=by
  intro k y hy
  simp only [Bj,Ev,or_false] at hy
  rcases hy with rfl|rfl|rfl|rfl
  ·exact Qz
  ·exact AG5
  ·trivial
  exact jo
 refine ⟨fun _ H'=>H'=Hp++[.cells 26 [A4 0,Ah [],A4 0,A4 0,Ah [],.nil],yo true x.op x.text ((x.kids.map Bm).take x.kids.length),AObj.defs,AObj.loop LoopState.ready none FR 50 #[21] as' bd' (oid Hp.length 2)],AM5 (x:=x) (l:=oid Hp.length 3) (U:=fun k=>Hp++[.cells 26 [A4 0,Ah [],A4 0,A4 0,Ah [],.nil],yo true x.op x.text ((x.kids.map Bm).take k),AObj.defs,AObj.loop LoopState.ready none FR 50 #[21] as' bd' (oid Hp.length 2)]) (n0:=Hp.length+4) ⟨fun k=>by simp,fun k y hy=>?_,by simp [oid],fun X k z hz=>?_⟩ hok.2.1 hih,?_⟩
 ·exact J1 (fun y hy=>Ld (by omega) (hlow y hy)) hOl y hy
 ·have hklt:k<x.kids.length:=by have:=(Ac.1 hz).1;simpa using this
  generalize hV:(Hp++[.cells 26 [A4 0,Ah [],A4 0,A4 0,Ah [],.nil],yo true x.op x.text ((x.kids.map Bm).take k),AObj.defs,AObj.loop LoopState.ready none FR 50 #[21] as' bd' (oid Hp.length 2)]++X)=V
  have hL:V[oid Hp.length 3]? = some (AObj.loop LoopState.ready none FR 50 #[21] as' bd' (oid Hp.length 2)):=by rw [←hV,B9,B0];rfl
  have hA0:V[oid Hp.length 1]? = some (yo true x.op x.text ((x.kids.map Bm).take k)):=by rw [←hV,B9,B0];rfl
  refine K8 (pd:=none) (fr:=FR) (sz:=50) (ps:=#[21]) (df:=oid Hp.length 2) (asg:=as') (bd:=bd') hL rfl (by decide) (fun d=>?_)
  subst hFR has hbd
  refine Fu [3,21] ?_;refine pq ?_;refine A2 [3,4] ?_
  refine ⟨rfl,none,hL,?_⟩
  generalize hbz:(AObj.loop LoopState.busy _ _ _ _ _ _ _)=bz
  have hA:(V.set (oid Hp.length 3) bz)[oid Hp.length 1]? = some (yo true x.op x.text ((x.kids.map Bm).take k)):=by rw [D7 (By (by decide))];exact hA0
  refine Ia ?_
  refine W.drawT0 [0,1,0,3,0,31,63,127,63,319] [1] [.q 1 [] [0],.s [23] (some 0) [] [],.q 3 [] []] (fun B=>(V.set (oid Hp.length 3) bz).set (oid Hp.length 1) (if B 0=true then yo false x.op x.text ((x.kids.map Bm).take k) else yo true x.op x.text ((x.kids.map Bm).take k))) (fun _=>[.cells 26 (Bw z)]) Ar (by kernel_rfl) (by simp only [Bd,if_false];exact J8 hA) rfl (fun B=>by simp) ?_
  apply Y.q
  ·intro B hT hF
   exact Z70
  case hTF=>decide
  refine Y.loadUpT (o:=oid Hp.length 1) (t':=26) (cs:=[A4 x.op,Ah x.text,A4 0,A4 0,Ah [],.slice true 6 (((x.kids.map Bm).take k).map Aa)]) (cs':=[A4 x.op,Ah x.text,A4 0,A4 0,Ah [],.slice false 6 (((x.kids.map Bm).take k).map Aa)]) Tryz.isAgg24 (fun B hB=>⟨by simp only [hB];exact getset hA,by simp only [upd,if_true,Eb],rfl⟩) ?_
  apply Y.q
  ·intro B hT hF
   refine Z14 ?_;exact vj
  case hTF=>decide
  refine Y.appendPut (tn:=[1]) (U:=(V.set (oid Hp.length 3) bz).set (oid Hp.length 1) (yo false x.op x.text ((x.kids.map Bm).take k))) (O:=[.cells 26 (Bw z)]) (o:=oid Hp.length 1) (t':=26) (cs:=[A4 x.op,Ah x.text,A4 0,A4 0,Ah [],.slice false 6 (((x.kids.map Bm).take k).map Aa)]) (by kernel_rfl) jU Tryz.type26 Tryz.sizeOf26 Tryz.sizeOf24 jU (Ay (getset hA)) ?_ ?_ ?_ (hfsz:=Tryz.sizeOf24)
  ·have:=hok.2.1;simp [Tryz.t26];omega
  ·have:=hok.2.1;simp [Tryz.t26];omega
  refine A5 ?_
  refine Vi jS (getset hA) ?_ ?_
  ·first|(rw [ADx];exact E2)|(simp only [Ad];exact E2)
  refine Xr ?_
  subst hbz
  refine qe ?_
  refine ⟨rfl,?_⟩
  subst hV
  simp only [B9,Dy,Dd,Cz,List.set_cons_succ,List.set_cons_zero]
  rw [Sr hz]
  try simp only [ADx]
  try rfl
 intro r H' hq
 subst hq
 refine ⟨Hp,_,_,_,rfl,rfl,fun h=>h,?_,rfl,by simp,?_⟩
 ·intro o ho
  have:o=oid Hp.length 2:=by simpa using ho
  subst this
  rw [B0]
  rfl
 rw [show (x.kids.map Bm).take x.kids.length=x.kids.map Bm from Fa (by simp)]
 refine Z15 ?_;refine Z31 ?_
 refine A5 (h:=Ap (0) (Aa ((x.kids.map Bm).getD 0 A9)) (fun _=>Fc hk0)) (hr:=?_)
 refine A5 ?_;refine A8 Tryz.call268 (AG0 ((x.kids.map Bm).getD 0 A9) _) ?_;refine A2 [2,3,34] ?_
 refine A3 (fun ht34=>?_) (fun ht34=>?_)
 ·refine Z2 ?_;refine A8 Tryz.call325 (AM3 (Expr.mk x.op x.text noV (x.kids.map Bm)) hk0 hy3 hy2 _) ?_;refine No ?_;refine A2 [2,3,5,6] ?_;refine Z2 ?_;refine A2 [2,3,5,40] ?_
  refine A3 (fun ht40=>?_) (fun ht40=>?_)
  ·have hc:(Ec x.op x.text (x.kids.map Bm))=some ((Ec x.op x.text (x.kids.map Bm)).getD A9):=R9 ht40
   refine Z2 ?_;refine pu ?_;exact A7 (An (As jA jS)) ⟨by rw [hte,AM6 ht34 hc];simp only [Ad];try rfl,rfl⟩ (hlow:=by simp [Ab])
  have hc:(Ec x.op x.text (x.kids.map Bm))=none:=Ra ht40
  refine AH3 ?_;refine No ?_;refine A2 [2,3,7,8] ?_;refine Z2 ?_;refine A2 [2,3,7,47] ?_
  refine A3 (fun ht47=>?_) (fun ht47=>?_)
  ·have hr:(I8 (Expr.mk x.op x.text noV (x.kids.map Bm)))=some ((I8 (Expr.mk x.op x.text noV (x.kids.map Bm))).getD A9):=R9 ht47
   refine Z2 ?_;refine pu ?_;exact A7 (An (As jA jS)) ⟨by rw [hte,AM7 ht34 hc hr];simp only [Ad];try rfl,rfl⟩ (hlow:=by simp [Ab])
  have hr:(I8 (Expr.mk x.op x.text noV (x.kids.map Bm)))=none:=Ra ht47
  refine Z74 ?_;refine Z11 ?_;exact A7 (An (As jA jS)) ⟨by rw [hte,AM8 ht34 hc hr];simp only [Ad];try rfl,rfl⟩ (hlow:=by simp [Ab])
 refine AH3 ?_;refine No ?_;refine A2 [2,3,7,8] ?_;refine Z2 ?_;refine A2 [2,3,7,47] ?_
 refine A3 (fun ht47=>?_) (fun ht47=>?_)
 ·have hr:(I8 (Expr.mk x.op x.text noV (x.kids.map Bm)))=some ((I8 (Expr.mk x.op x.text noV (x.kids.map Bm))).getD A9):=R9 ht47
  refine Z2 ?_;refine pu ?_;exact A7 (An (As jA jS)) ⟨by rw [hte,AM9 ht34 hr];simp only [Ad];try rfl,rfl⟩ (hlow:=by simp [Ab])
 have hr:(I8 (Expr.mk x.op x.text noV (x.kids.map Bm)))=none:=Ra ht47
 refine Z74 ?_;refine Z11 ?_;exact A7 (An (As jA jS)) ⟨by rw [hte,AMa ht34 hr];simp only [Ad];try rfl,rfl⟩ (hlow:=by simp [Ab])

/-- trim.Trim: the tree and the error. -/
def Rb (x:Expr):Expr×Int:=if Am x=true then (Bm x,0) else (A9,1)
theorem nj {x:Expr} (h:Am x=true):Rb x=(Bm x,0):=if_pos h
theorem nk {x:Expr} (h:Am x=false):Rb x=(A9,1):=if_neg (by rw [h];simp)
theorem AMc (n:Nat) (x:Expr) (hok:okE n x) (hn:n≤1000000) (hg:Be Ci x=true) (Hp:List AObj):AFun Tryz.prog 267 [Aa x] Hp (.tup [Aa (Rb x).1,A4 (Rb x).2]):=by
 refine Ak [.cell 2 26,.tmp 3] [0] Tryz.func267 Tryz.ntmps267 (fun d=>?_)
 refine vu ?_;refine Z36 ?_;refine A8 Tryz.call38 (c38 n x hok (by omega) _) ?_;refine A5 ?_;refine A2 [1,2,6] ?_
 refine A3 (fun ht6=>?_) (fun ht6=>?_)
 ·have hr:Am x=false:=by simpa using ht6
  refine Z28 ?_;refine Ek 7 _ G6 ?_;refine Z60 ?_;refine Cu ?_;exact A7 (Aw (As jA jS) A6) ⟨by rw [nk hr];simp only [Ad];try rfl,rfl⟩ (hlow:=by simp [Ab])
 have hr:Am x=true:=by simpa using ht6
 refine Z74 ?_;refine A8 Tryz.call300 (AMb n x hok hn (Jb hr) hg _) ?_;refine Z60 ?_;exact A7 (Aw (As jA jS) A6) ⟨by rw [nj hr];simp only [Ad];try rfl,rfl⟩ (hlow:=by simp [Ab])

/-- trim.Constant, trim.All. -/
def D8 (x:Expr):Val×Bool:=if (((Rb x).2 != 0) || !((Rb x).1.op==1))=true then (noV,false) else ((Rb x).1.val,true)
theorem AMd (n:Nat) (x:Expr) (hok:okE n x) (hn:n≤1000000) (hg:Be Ci x=true) (Hp:List AObj):AFun Tryz.prog 216 [Aa x] Hp (.tup [Bp (D8 x).1,B6 (D8 x).2]):=by
 refine Ak [.cell 2 23,.tmp 3] [0] Tryz.func216 Tryz.ntmps216 (fun d=>?_)
 refine vu ?_;refine Z2 ?_;refine A8 Tryz.call267 (AMc n x hok hn hg _) ?_;refine No ?_;refine A2 [2,4,5] ?_;refine Z34 ?_;refine Ca ?_;refine C7 Tryz.call268 (fun hB=>AG0 (Rb x).1 _) ?_;refine Z64 ?_;refine A2 [2,4,17] ?_
 refine A3 (fun ht17=>?_) (fun ht17=>?_)
 ·have hm:D8 x=(noV,false):=if_pos ht17
  refine Z55 ?_;refine Z60 ?_;exact Z26
 have hm:D8 x=((Rb x).1.val,true):=if_neg (by rw [ht17];simp)
 refine U5 ?_;exact AH4

/-! invert: nodes, and a node taken apart. -/
abbrev lc (l:List Expr):AV:=.slice false 6 (l.map Aa)
abbrev AJf (s:Sd):List AV:=[.v (.int .i64 s.e.op),.v (sv s.e.text),.v (.int .i64 s.e.val.kind),.v (.int .i64 s.e.val.n),.v (sv s.e.val.s),.slice false 6 (s.e.kids.map Aa),.v (.int .i64 s.c.op),.v (sv s.c.text),.v (.int .i64 s.c.val.kind),.v (.int .i64 s.c.val.n),.v (sv s.c.val.s),.slice false 6 (s.c.kids.map Aa),.v (.bool s.first)]
abbrev Zg (s:Sd):AV:=.agg (AJf s)
def sdZ:Sd:=⟨A9,A9,false⟩
theorem ACv (o:Int) (t:Str) (v:Val) (a:Expr):Aa (.mk o t v [a])=.agg [A4 o,.v (sv t),A4 v.kind,A4 v.n,.v (sv v.s),.slice false 6 [.agg (Bw a)]]:=by rw [Ad];show _=AV.agg [_,_,_,_,_,.slice false 6 [_]];rw [←Ad a];rfl
theorem ACw (o:Int) (t:Str) (v:Val) (a b:Expr):Aa (.mk o t v [a,b])=.agg [A4 o,.v (sv t),A4 v.kind,A4 v.n,.v (sv v.s),.slice false 6 [.agg (Bw a),.agg (Bw b)]]:=by rw [Ad];show _=AV.agg [_,_,_,_,_,.slice false 6 [_,_]];rw [←Ad a,←Ad b];rfl
theorem c42 (s:Str) (Hp:List AObj):AFun Tryz.prog 42 [Ah s] Hp (Aa (Bb s)):=by
 refine Ak [.cell 2 26] [0] Tryz.func42 Tryz.ntmps42 (fun d=>?_)
 refine Z61 ?_;refine AEi ?_;refine Ek 4 _ (Nx 2 s noV) ?_;refine Z11 ?_;exact A7 (An (As jA jS)) ⟨by rw [Ad];rfl,rfl⟩ (hlow:=Ab _ (Bb s))

theorem AMe (n:Int) (Hp:List AObj):AFun Tryz.prog 172 [A4 n] Hp (Aa (Dl ⟨1,n,[]⟩)):=by
 refine Ak [.cell 2 26] [0] Tryz.func172 Tryz.ntmps172 (fun d=>?_)
 refine Z61 ?_;refine AEk ?_;refine dx ?_;refine Ek 5 _ (Nx 1 [] ⟨1,n,[]⟩) ?_;refine Z11 ?_;exact A7 (An (As jA jS)) ⟨by rw [Ad];rfl,rfl⟩ (hlow:=Ab _ (Dl ⟨1,n,[]⟩))

theorem c171 (x:Expr) (t:Str) (y:Expr) (Hp:List AObj):AFun Tryz.prog 171 [Aa x,Ah t,Aa y] Hp (Aa (Ha x t y)):=by
 refine Ak [.cell 6 26] [0,1,2] Tryz.func171 Tryz.ntmps171 (fun d=>?_)
 refine Z1 ?_;refine Ka jZ ?_;refine A2 [1,3,5,6] ?_;refine Z13 ?_;refine U7 ?_;refine Z83 ?_;refine Z75 ?_;exact A7 (An (As jA jS)) ⟨by unfold Ha;rw [ACw];rfl,rfl⟩ (hlow:=by simp [or_imp,forall_and,Ab])

theorem AJg (t:Str) (l:List Expr) (Hp:List AObj):AFun Tryz.prog 133 [Ah t,lc l] Hp (Aa (E4 t l)):=by
 refine Ak [.cell 4 26] [0,1] Tryz.func133 Tryz.ntmps133 (fun d=>?_)
 refine Z27 ?_;refine A2 [0,1,4] ?_;refine Z1 ?_;refine Z83 ?_;refine Z21 ?_;exact A7 (An (As jA jS)) ⟨by unfold E4;rw [Wx];rfl,rfl⟩ (hlow:=by simp [or_imp,forall_and,Ab])

theorem ACx (n:Nat) (x:Expr) (hok:okE n x) (hn:n≤1048576) (hs:sizeE x≤1048576) (Hp:List AObj):AFun Tryz.prog 132 [Aa x] Hp (B6 (Li x)):=by
 refine Ak [.tmp 2] [0] Tryz.func132 Tryz.ntmps132 (fun d=>?_)
 refine Z84 ?_;refine Z2 ?_;refine A8 Tryz.call169 (ALr n x hok hn hs _) ?_;refine Z29 ?_;refine Z4 ?_;exact A7 (An A6) ⟨by unfold Li;simp,rfl⟩

/-- What invert.apart answers. -/
def apS (x:Expr):Sd×Bool:=
 if (x.kids.length:Int)==1 then (⟨(x.kids.getD 0 A9),A9,false⟩,Li (x.kids.getD 0 A9))
 else if ((x.kids.length:Int) != 2) || (Li (x.kids.getD 0 A9)==Li (x.kids.getD 1 A9)) then (sdZ,false)
 else if Li (x.kids.getD 0 A9) then (⟨(x.kids.getD 0 A9),(x.kids.getD 1 A9),false⟩,true) else (⟨(x.kids.getD 1 A9),(x.kids.getD 0 A9),true⟩,true)
theorem AMf {x:Expr} (h:((x.kids.length:Int)==1)=true):apS x=(⟨(x.kids.getD 0 A9),A9,false⟩,Li (x.kids.getD 0 A9)):=if_pos h
theorem AMg {x:Expr} (h:((x.kids.length:Int)==1)=false) (h2:(((x.kids.length:Int) != 2) || (Li (x.kids.getD 0 A9)==Li (x.kids.getD 1 A9)))=true):apS x=(sdZ,false):=by unfold apS;rw [h,h2];rfl
theorem AMh {x:Expr} (h:((x.kids.length:Int)==1)=false) (h2:(((x.kids.length:Int) != 2) || (Li (x.kids.getD 0 A9)==Li (x.kids.getD 1 A9)))=false) (h3:Li (x.kids.getD 0 A9)=true):apS x=(⟨(x.kids.getD 0 A9),(x.kids.getD 1 A9),false⟩,true):=by unfold apS;rw [h,h2,h3];rfl
theorem AMi {x:Expr} (h:((x.kids.length:Int)==1)=false) (h2:(((x.kids.length:Int) != 2) || (Li (x.kids.getD 0 A9)==Li (x.kids.getD 1 A9)))=false) (h3:Li (x.kids.getD 0 A9)=false):apS x=(⟨(x.kids.getD 1 A9),(x.kids.getD 0 A9),true⟩,true):=by unfold apS;rw [h,h2,h3];rfl
theorem zi (x:Expr):Jm x=if (apS x).2 then some (apS x).1 else none:=by
 unfold Jm apS
 cases h:x.kids with
 | nil=>rfl
 | cons a r=>cases r with
  | nil=>rfl
  | cons b r=>cases r with
   | nil =>
    cases h1:Li a<;>cases h2:Li b<;>simp [h1,h2]
   | cons d r =>
    have h1:((((a::b::d::r).length:Nat):Int)==1)=false:=by simp only [At];simp;omega
    have h2:((((a::b::d::r).length:Nat):Int) != 2)=true:=by simp only [At];simp;omega
    rw [h1,h2]
    rfl
theorem ACy (e:Expr):Le (.agg [.v (.int .i64 e.op),.v (sv e.text),.v (.int .i64 e.val.kind),.v (.int .i64 e.val.n),.v (sv e.val.s),.slice false 6 (e.kids.map Aa),A4 0,Ah [],A4 0,A4 0,Ah [],.nil,B6 false]) (Zg ⟨e,A9,false⟩):=by
 refine .agg _ _ rfl (by simp [AV.one,Value.oneCell',sv]) fun i y y' h1 h2=>?_
 match i with
 | 0|1|2|3|4|5|6|7|8|9|10|12=>simp at h1 h2;subst h1;subst h2;exact .inl rfl
 | 11=>simp at h1 h2;subst h1;subst h2;exact .inr ⟨rfl,6,rfl⟩
 | i+13=>simp at h1
theorem zj:Le (.agg [A4 0,Ah [],A4 0,A4 0,Ah [],.nil,A4 0,Ah [],A4 0,A4 0,Ah [],.nil,B6 false]) (Zg sdZ):=by
 refine .agg _ _ rfl (by simp [AV.one,Value.oneCell',sv]) fun i y y' h1 h2=>?_
 match i with
 | 0|1|2|3|4|6|7|8|9|10|12=>simp [sdZ] at h1 h2;subst h1;subst h2;exact .inl rfl
 | 5|11=>simp [sdZ] at h1 h2;subst h1;subst h2;exact .inr ⟨rfl,6,rfl⟩
 | i+13=>simp at h1
theorem Sy {n:Nat} {x:Expr} (h1:1≤n) (hok:okE (n+1) x) (i:Nat):okE n (x.kids.getD i A9):=by
 rw [Ch]
 cases h:x.kids[i]? with
 | none=>exact Nw h1
 | some e=>exact hok.2.2 _ (Az h)
theorem Rc {x:Expr} (hs:sizeE x≤1048576) (i:Nat):sizeE (x.kids.getD i A9)≤1048576:=by
 rw [Ch]
 cases h:x.kids[i]? with
 | none=>show sizeE A9≤_;decide
 | some e =>
  have:=Us (Az h)
  rw [Gt] at hs
  show sizeE e≤_
  omega
theorem c84 (n:Nat) (h1n:1≤n) (x:Expr) (hok:okE (n+1) x) (hn:n≤1048576) (hs:sizeE x≤1048576) (Hp:List AObj):AFun Tryz.prog 84 [Aa x] Hp (.tup [Zg (apS x).1,B6 (apS x).2]):=by
 have hkl:=gt hok
 refine Ak [.cell 2 135,.tmp 3] [0] Tryz.func84 Tryz.ntmps84 (fun d=>?_)
 refine vu ?_;refine Z22 ?_;refine Z18 ?_;refine A5 ?_;refine A2 [1,2,4] ?_
 refine A3 (fun ht4=>?_) (fun ht4=>?_)
 ·rw [Au] at ht4
  have h0:0<x.kids.length:=by simp at ht4;omega
  refine Nk [0,1,3,7,15,0,32,96,224,480,1023,2047] 10 Ar (by kernel_rfl) ?_;refine Z14 ?_
  refine B1 (h:=Ap (0) (Aa (x.kids.getD 0 A9)) (fun _=>Fc h0)) (hr:=?_)
  refine B1 ?_;refine D.build (places:=#[(0,6),(6,6),(12,1)]) jU (fun w=>by simp) jZ ?_;refine Z14 ?_
  refine B1 (h:=Ap (0) (Aa (x.kids.getD 0 A9)) (fun _=>Fc h0)) (hr:=?_)
  refine B1 ?_;refine D0 Tryz.call132 (ACx n (x.kids.getD 0 A9) (Sy h1n hok 0) hn (Rc hs 0) _) ?_;refine Er ?_;refine Ek 13 _ (ACy (x.kids.getD 0 A9)) ?_;refine dq ?_;exact A7 (Aw (As jA jS) A6) ⟨by rw [AMf ht4]<;>rfl,rfl⟩ (hlow:=by simp [or_imp,forall_and,Ab])
 rw [Au] at ht4
 have h20:x.kids.length=2→0<x.kids.length:=fun h=>by omega
 have h21:x.kids.length=2→1<x.kids.length:=fun h=>by omega
 refine Nk [0,1,3,7,15,31,63,127,255,511,31,1055,3103,7199,16383,32767,65535,131071] 14 Ar (by kernel_rfl) ?_;refine bb ?_;refine Z67 ?_
 refine H.go (h:=Ap (0) (Aa (x.kids.getD 0 A9)) (fun hB=>Fc (h20 (by simp at hB;omega)))) (hr:=?_)
 refine H.go ?_;refine H.call Tryz.call132 (fun hB=>ACx n (x.kids.getD 0 A9) (Sy h1n hok 0) hn (Rc hs 0) _) ?_;refine Z67 ?_
 refine H.go (h:=Ap (1) (Aa (x.kids.getD 1 A9)) (fun hB=>Fc (h21 (by simp at hB;omega)))) (hr:=?_)
 refine H.go ?_;refine Er ?_;refine C7 Tryz.call132 (fun hB=>ACx n (x.kids.getD 1 A9) (Sy h1n hok 1) hn (Rc hs 1) _) ?_;refine Z38 ?_;refine A2 [1,2,19] ?_
 refine A3 (fun ht19=>?_) (fun ht19=>?_)
 ·rw [Au] at ht19
  refine Es ?_;refine Nj (places:=#[(0,6),(6,6),(12,1)]) jU (fun w=>by simp) jZ ?_;refine Ek 37 _ zj ?_;refine dq ?_;exact A7 (Aw (As jA jS) A6) ⟨by rw [AMg ht4 ht19]<;>rfl,rfl⟩ (hlow:=by simp [or_imp,forall_and,Ab])
 rw [Au] at ht19
 have h2:x.kids.length=2:=by simp at ht19;omega
 have h0:=h20 h2
 have h1:=h21 h2
 refine Z1 ?_
 refine A5 (h:=Ap (0) (Aa (x.kids.getD 0 A9)) (fun _=>Fc h0)) (hr:=?_)
 refine A5 ?_;refine A8 Tryz.call132 (ACx n (x.kids.getD 0 A9) (Sy h1n hok 0) hn (Rc hs 0) _) ?_;refine A5 ?_;refine A2 [1,2,38] ?_
 refine A3 (fun ht38=>?_) (fun ht38=>?_)
 ·refine AHl ?_
  refine B1 (h:=Ap (0) (Aa (x.kids.getD 0 A9)) (fun _=>Fc h0)) (hr:=?_)
  refine Z35 ?_
  refine B1 (h:=Ap (1) (Aa (x.kids.getD 1 A9)) (fun _=>Fc h1)) (hr:=?_)
  refine AHq ?_;refine dq ?_;exact A7 (Aw (As jA jS) A6) ⟨by rw [AMh ht4 ht19 ht38]<;>rfl,rfl⟩ (hlow:=by simp [or_imp,forall_and,Ab])
 refine Z20 ?_;refine AHl ?_
 refine B1 (h:=Ap (1) (Aa (x.kids.getD 1 A9)) (fun _=>Fc h1)) (hr:=?_)
 refine Z35 ?_
 refine B1 (h:=Ap (0) (Aa (x.kids.getD 0 A9)) (fun _=>Fc h0)) (hr:=?_)
 refine AHq ?_;refine Z60 ?_;exact A7 (Aw (As jA jS) A6) ⟨by rw [AMi ht4 ht19 ht38]<;>rfl,rfl⟩ (hlow:=by simp [or_imp,forall_and,Ab])

/-- What invert.constant, sum, join and back answer. -/
def csS (x:Expr) (k:Int):Expr×Bool:=(Dl (D8 x).1,(D8 x).2&&((D8 x).1.kind==k))
def Q0 (t:Str) (s:Sd) (y:Expr):Expr×Bool:=if !(csS s.c 1).2 then (A9,false) else if t==[43] then (Ha y [45] (csS s.c 1).1,true) else if s.first then (Ha (csS s.c 1).1 [45] y,true) else (Ha y [43] (csS s.c 1).1,true)
def O2 (s:Sd) (y:Expr):Expr×Bool:=if !(csS s.c 2).2 then (A9,false) else (E4 (if s.first then Nz else Tt) [y,Ha (E4 Lh [y]) [45] (Dl ⟨1,((D8 s.c).1.s.length:Int),[]⟩)],true)
def Fm (x:Expr) (s:Sd) (y:Expr):Expr×Bool:=
 if (x.op==3) || (x.op==4) then (.mk x.op [] noV [y],true)
 else if (x.op==6)&&(x.text==Ml) then (E4 cp [y],true)
 else if (x.op==5)&&((x.text==[43]) || (x.text==[45])) then Q0 x.text s y
 else if (x.op==5)&&(x.text==[38]) then O2 s y
 else (A9,false)
theorem ACz (x:Expr):D8 x=if Am x&&((Bm x).op==1) then ((Bm x).val,true) else (noV,false):=by
 unfold D8
 cases h:Am x with
 | false=>rw [nk h];rfl
 | true =>
  rw [nj h]
  cases h1:((Bm x).op==1)<;>simp [h1]
theorem ADy (x:Expr) (k:Int):O0 x k=if (csS x k).2 then some (D8 x).1 else none:=by
 unfold O0 csS
 rw [ACz]
 cases h:(Am x&&((Bm x).op==1)) with
 | false=>rfl
 | true=>rfl
theorem AG6 (t:Str) (s:Sd) (y:Expr):yy t s y=if (Q0 t s y).2 then some (Q0 t s y).1 else none:=by
 unfold yy Q0
 rw [ADy]
 cases h:(csS s.c 1).2 with
 | false=>rfl
 | true =>
  show some _=_
  cases h1:(t==[43])<;>cases h2:s.first<;>rfl
theorem AD0 (s:Sd) (y:Expr):gi s y=if (O2 s y).2 then some (O2 s y).1 else none:=by
 unfold gi O2
 rw [ADy]
 cases h:(csS s.c 2).2 with
 | false=>rfl
 | true=>rfl
theorem nl (x:Expr) (s:Sd) (y:Expr):R6 x s y=if (Fm x s y).2 then some (Fm x s y).1 else none:=by
 unfold R6 Fm
 split
 ·rfl
 split
 ·rfl
 split
 ·exact AG6 _ _ _
 split
 ·exact AD0 _ _
 rfl
theorem ld (t:Str) (y:Expr) (Hp:List AObj):AFun Tryz.prog 133 [Ah t,.slice false 6 [.agg (Bw y)]] Hp (Aa (E4 t [y])):=by
 have:=AJg t [y] Hp
 rwa [lc,C9,F9,Ad] at this
theorem zk (t:Str) (y z:Expr) (Hp:List AObj):AFun Tryz.prog 133 [Ah t,.slice false 6 [.agg (Bw y),.agg (Bw z)]] Hp (Aa (E4 t [y,z])):=by
 have:=AJg t [y,z] Hp
 rwa [lc,C9,C9,F9,Ad y,Ad z] at this
theorem AJh (n:Nat) (x:Expr) (k:Int) (hok:okE n x) (hn:n≤1000000) (hg:Be Ci x=true) (Hp:List AObj):AFun Tryz.prog 170 [Aa x,A4 k] Hp (.tup [Aa (csS x k).1,B6 (csS x k).2]):=by
 refine Ak [.cell 4 26,.tmp 5] [0,1] Tryz.func170 Tryz.ntmps170 (fun d=>?_)
 refine ph ?_;refine A2 [1,2,4] ?_;refine Z2 ?_;refine A8 Tryz.call216 (AMd n x hok hn hg _) ?_;refine No ?_;refine A2 [1,4,6,7] ?_;refine Hd [0,1,0,4,12,28,12,124,252,15,1023] [9] [.q 9 [] [],.s [] (some 0) [] []] (fun _=>Hp) (fun B=>[.cells 26 (if B 0=true then [A4 1,Ah [],A4 (D8 x).1.kind,A4 (D8 x).1.n,Ah (D8 x).1.s,.nil] else [A4 0,Ah [],A4 0,A4 0,Ah [],.nil]),.cells 23 [A4 (D8 x).1.kind,A4 (D8 x).1.n,Ah (D8 x).1.s]]) Ar (by kernel_rfl) rfl rfl (fun _=>rfl) ?_
 apply Y.q
 ·intro B hT hF
  refine B1 ?_;refine AEe ?_;refine Z67 ?_;refine Z67 ?_;exact Z70
 case hTF=>decide
 refine Y.storeOwn (u:=Hp.length) (n:=0) (t':=26) (cs:=[A4 0,Ah [],A4 0,A4 0,Ah [],.nil]) (cs':=[A4 1,Ah [],A4 (D8 x).1.kind,A4 (D8 x).1.n,Ah (D8 x).1.s,.nil]) Tryz.sizeOf26 (fun B hB=>⟨rfl,by simp only [hB];rfl,by simp [upd],rfl⟩) ?_
 refine He (tn:=[9]) (O:=[.cells 26 [A4 1,Ah [],A4 (D8 x).1.kind,A4 (D8 x).1.n,Ah (D8 x).1.s,.nil],.cells 23 [A4 (D8 x).1.kind,A4 (D8 x).1.n,Ah (D8 x).1.s]]) ?_;refine S1 0 5 6 ?_;refine jg ?_;exact A7 (Aw (As jA jS) A6) ⟨by show _=AV.tup [Aa (Dl (D8 x).1),B6 _];rw [Ad];rfl,rfl⟩ (hlow:=by have:=Ab Hp.length (Dl (D8 x).1);rw [Ad] at this;simpa [or_imp,forall_and] using this)

section
variable {t:Str} {s:Sd} {y:Expr}
theorem AMj (h:(!(csS s.c 1).2)=true):Q0 t s y=(A9,false):=if_pos h
theorem AMk (h:(!(csS s.c 1).2)=false) (h2:(t==[43])=true):Q0 t s y=(Ha y [45] (csS s.c 1).1,true):=by unfold Q0;rw [h,h2];rfl
theorem AMl (h:(!(csS s.c 1).2)=false) (h2:(t==[43])=false) (h3:s.first=true):Q0 t s y=(Ha (csS s.c 1).1 [45] y,true):=by unfold Q0;rw [h,h2,h3];rfl
theorem AMm (h:(!(csS s.c 1).2)=false) (h2:(t==[43])=false) (h3:s.first=false):Q0 t s y=(Ha y [43] (csS s.c 1).1,true):=by unfold Q0;rw [h,h2,h3];rfl
theorem AMn (h:(!(csS s.c 2).2)=true):O2 s y=(A9,false):=if_pos h
theorem AJi (h:(!(csS s.c 2).2)=false) (b:Bool) (hb:s.first=b):O2 s y=(E4 (if b then Nz else Tt) [y,Ha (E4 Lh [y]) [45] (Dl ⟨1,((D8 s.c).1.s.length:Int),[]⟩)],true):=by unfold O2;rw [h,hb];rfl
end
theorem AMo (t:Str) (n:Nat) (s:Sd) (hok:okE n s.c) (hn:n≤1000000) (hg:Be Ci s.c=true) (y:Expr) (Hp:List AObj):AFun Tryz.prog 134 [Ah t,Zg s,Aa y] Hp (.tup [Aa (Q0 t s y).1,B6 (Q0 t s y).2]):=by
 refine Ak [.cell 6 26,.tmp 7] [0,1,2] Tryz.func134 Tryz.ntmps134 (fun d=>?_)
 refine Z1 ?_;refine Z37 ?_;refine A2 [0,4,5,6] ?_;refine Z1 ?_;refine A8 Tryz.call170 (AJh n s.c 1 hok hn hg _) ?_;refine No ?_;refine A2 [0,4,5,6,8,9] ?_;refine Xt ?_;refine A2 [0,4,5,6,8,16] ?_
 refine A3 (fun ht16=>?_) (fun ht16=>?_)
 ·refine Z28 ?_;refine Ek 19 _ G6 ?_;refine jk ?_;exact A7 (Aw (As jA jS) A6) ⟨by rw [AMj ht16];simp only [Ad];try rfl,rfl⟩ (hlow:=by simp [or_imp,forall_and,Ab])
 refine Z13 ?_;refine A2 [4,5,6,8,20] ?_
 refine A3 (fun ht20=>?_) (fun ht20=>?_)
 ·refine Z1 ?_;refine A8 Tryz.call171 (c171 y [45] (csS s.c 1).1 _) ?_;refine jk ?_;exact A7 (Aw (As jA jS) A6) ⟨by rw [AMk ht16 ht20];simp only [Ad];try rfl,rfl⟩ (hlow:=by simp [or_imp,forall_and,Ab])
 refine Z13 ?_;refine A2 [5,6,8,26] ?_
 refine A3 (fun ht26=>?_) (fun ht26=>?_)
 ·refine Z1 ?_;refine A8 Tryz.call171 (c171 (csS s.c 1).1 [45] y _) ?_;refine jk ?_;exact A7 (Aw (As jA jS) A6) ⟨by rw [AMl ht16 ht20 ht26];simp only [Ad];try rfl,rfl⟩ (hlow:=by simp [or_imp,forall_and,Ab])
 refine Z20 ?_;refine Z1 ?_;refine A8 Tryz.call171 (c171 y [43] (csS s.c 1).1 _) ?_;refine Z78 ?_;exact A7 (Aw (As jA jS) A6) ⟨by rw [AMm ht16 ht20 ht26];simp only [Ad];try rfl,rfl⟩ (hlow:=by simp [or_imp,forall_and,Ab])

theorem AMp (n:Nat) (s:Sd) (hok:okE n s.c) (hn:n≤1000000) (hg:Be Ci s.c=true) (y:Expr) (Hp:List AObj):AFun Tryz.prog 135 [Zg s,Aa y] Hp (.tup [Aa (O2 s y).1,B6 (O2 s y).2]):=by
 refine Ak [.cell 4 26,.tmp 5] [0,1] Tryz.func135 Tryz.ntmps135 (fun d=>?_)
 refine Z1 ?_;refine vp ?_;refine Z1 ?_;refine A8 Tryz.call170 (AJh n s.c 2 hok hn hg _) ?_;refine No ?_;refine A2 [2,3,4,6,7] ?_;refine Z31 ?_;refine A2 [2,3,4,6,16] ?_
 refine A3 (fun ht16=>?_) (fun ht16=>?_)
 ·refine Z28 ?_;refine Ek 17 _ G6 ?_;refine Z40 ?_;refine Cu ?_;exact A7 (Aw (As jA jS) A6) ⟨by rw [AMn ht16];simp only [Ad];try rfl,rfl⟩ (hlow:=by simp [or_imp,forall_and,Ab])
 refine Z74 ?_;refine A2 [2,3,4,6,8] ?_;refine Z31 ?_;refine A2 [3,4,6,8,19] ?_
 refine A3 (fun ht19=>?_) (fun ht19=>?_)
 ·refine Z93 ?_;refine A2 [3,4,6,8] ?_;refine Ft ?_;refine AH1 ?_;refine Vj jU jS jZ ?_;refine D0 Tryz.call133 (ld Lh y _) ?_;refine Vo ?_;refine AGv ?_;refine Vj jU jS jZ ?_;refine Er ?_;refine A8 Tryz.call133 (zk Nz y (Ha (E4 Lh [y]) [45] (Dl ⟨1,((D8 s.c).1.s.length:Int),[]⟩)) _) ?_;refine Z40 ?_;exact A7 (Aw (As jA jS) A6) ⟨by rw [AJi ht16 true ht19];simp only [Ad];try rfl,rfl⟩ (hlow:=by simp [or_imp,forall_and,Ab])
 refine Z6 ?_;refine AH1 ?_;refine Vj jU jS jZ ?_;refine D0 Tryz.call133 (ld Lh y _) ?_;refine Vo ?_;refine AGv ?_;refine Vj jU jS jZ ?_;refine Er ?_;refine A8 Tryz.call133 (zk Tt y (Ha (E4 Lh [y]) [45] (Dl ⟨1,((D8 s.c).1.s.length:Int),[]⟩)) _) ?_;refine Z40 ?_;exact A7 (Aw (As jA jS) A6) ⟨by rw [AJi ht16 false ht19];simp only [Ad];try rfl,rfl⟩ (hlow:=by simp [or_imp,forall_and,Ab])

end Go.SX.Nb
namespace Go.SX
variable [GI:GlobInv]
open Classical
section
variable {P:Program} {d:Nat}
/-- A call that returns and may leave more objects than it found; they are the caller's. -/
def ACallO (P:Program) (g:FuncId) (args:List AV) (H:List AObj) (post:AV→List AObj→Prop):Prop:=
 ∀(d:Nat) (G:Gh) (w:World) (vs:Array Value),vs.size=args.length→(∀(i:Nat) (y:AV) (u:Value),args[i]? = some y→vs[i]? = some u→Rep G w (some (.slot (d+1) i)) y u)→HeapRel G H w→TagOK G w→GI.bd≤d →
  CallsIn Fence.wide 0 P g vs w (fun e w'=>∃(v:Value) (G':Gh) (r:AV) (H':List AObj),e=.returned v∧Rep G' w' none r v∧HeapRel G' H' w'∧TagOK G' w'∧Keep (d+1) G w G' w'∧post r H')
/-- What is asked at a body's end: the first j of its objects are handed back. -/
def FO (P:Program) (rs:List ResultVar) (n:Nat) (post:AV→List AObj→Prop) (e:Exit) (st':St):Prop:=
 (e=.normal∨e=.ret)∧st'.defs=[]∧∃(r:AV) (rv:ResultVar) (j:Nat),rs=[rv]∧ResV P st' rv r∧Low (n+j) r∧(∀x∈st'.up++st'.own.take j,ObjLow (n+j) x)∧j≤st'.own.length∧post r (st'.up++st'.own.take j)
theorem ACallO.ofBody {g:FuncId} {fn:Func} {c:Code} {args:List AV} {H:List AObj} {post:AV→List AObj→Prop} {rs:List ResultVar} {n:Nat} (hf:P.funcs[g]? = some fn) (hb:fn.body=some c) (hrs:fn.results=rs.toArray)
  (hn:fn.ntmps=n) (hargs:args.length≤n) (h:∀d,AW P (d+1) c ⟨n,argsF args,H,[],[],none⟩ (FO P rs H.length post)):ACallO P g args H post:=by
 intro d G w vs hvs hrep hH hT hTop
 refine callsIn_of_wp_marks hf hb trivial ?_
 have hst:StRel (d+1) G ⟨n,argsF args,H,[],[],none⟩ { tmps:=vs++Array.replicate (fn.ntmps-vs.size) undef,defers:=[] } w:=by
  refine ⟨?_,fun s=>?_,by simpa using hH,(by rw [K6 hTop];rfl),(fun o ho=>by simp at ho),Qc,(fun o ho=>by simp at ho),hT,(fun l hl=>by cases hl),fun x hx=>?_,Uj hTop⟩
  ·simp only [M1,ua,hvs,hn];omega
  ·show Rep G w _ (args.getD s (.v undef)) _
   rw [Ch,Kp]
   rcases Bo s args.length with h'|h'
   ·rw [Ae h',Lm (by omega),F1 (by omega)]
    exact hrep s _ _ (Ae h') (F1 (by omega))
   rw [Gb h',T8 (by omega)]
   simp only [Option.getD_none]
   have:((Array.replicate (fn.ntmps-vs.size) undef)[s-vs.size]?).getD undef=undef:=by
    rw [Rh];split<;>rfl
   rw [this]
   exact .v _ _
  obtain ⟨i,hi⟩:=Ct hx
  have hob:=hH.obj i x hi
  show ObjLow H.length x
  rw [←hH.n]
  exact hob.low
 have hw:=h d G _ w hst
 refine wpIn_mono hw ?_
 rintro e a' w' ⟨G1,st',h1,k1,e1,e2,e3,hcase,hdefs,r,rv,j,rfl,hres,hlow,hobjs,hj,hpost⟩
 have fin:LeavesInM Fence.wide 0 P fn a'.tmps (fun e w'=>∃(v:Value) (G':Gh) (r:AV) (H':List AObj),e=.returned v∧Rep G' w' none r v∧HeapRel G' H' w'∧TagOK G' w'∧Keep (d+1) G w G' w'∧post r H') a'.defers .returning w':=by
  rw [h1.defs,hdefs,K6 hTop]
  obtain ⟨v,hv,hr⟩:=hres.run h1
  have hupl:st'.up.length=H.length:=e1
  have hgn:G1.n=st'.up.length+st'.own.length:=by rw [h1.heap.n,Ao]
  have hget:∀(i:Nat) (x:AObj),(st'.up++st'.own.take j)[i]? = some x→(st'.up++st'.own)[i]? = some x:=fun i x hx=>by
   rcases Bo i st'.up.length with h'|h'
   ·rw [D5 h'] at hx ⊢;exact hx
   rw [D6 h'] at hx ⊢
   rw [H3] at hx
   split at hx
   ·exact hx
   cases hx
  refine ⟨v,by simp [Fs,hrs,hv],v,{ G1 with n:=H.length+j },r,st'.up++st'.own.take j,rfl,hr.cut hlow,⟨fun i x hx=>(h1.heap.obj i x (hget i x hx)).cut (hobjs x (Az hx)),?_,fun a b ha hb' e=>?_⟩,
   ⟨h1.tags.ex,h1.tags.obj,h1.tags.tail,h1.tags.globCut (by rw [hgn];omega)⟩,?_,hpost⟩
  ·show H.length+j=_
   rw [Ao,Da,m7 hj,hupl]
  ·exact h1.heap.inj a b (by rw [hgn];simp only at ha;omega) (by rw [hgn];simp only at hb';omega) e
  have hGn:G.n=H.length:=hH.n
  exact ⟨k1.fix,k1.slot,by rw [hGn];exact Nat.le_add_right _ _,k1.blk,k1.os,k1.tape,k1.output,k1.size,k1.old.cut (by rw [hgn];omega)⟩
 rcases hcase with rfl|rfl
 ·exact fin
 exact fin
end
section
variable {P:Program} {d:Nat} {ops:Array Oper} {rest:List Oper} {sz s:Nat} {fr:Nat→AV} {up own:List AObj} {dfs:List Nat} {rnd:Option Nat} {Q:St→Prop} {ty:TypeId} {pos:String} {aft:Array Edge}
theorem ACallO.body {g:FuncId} {fn:Func} {c:Code} {args:List AV} {H:List AObj} {post:AV→List AObj→Prop} {fr':Nat→AV} (rs:List ResultVar) (l:List Nat) {n:Nat} (hf:P.funcs[g]? = some fn) (hn:fn.ntmps=n)
  (h:∀d,AW P (d+1) c ⟨n,fr',H,[],[],none⟩ (FO P rs H.length post)) (hb:fn.body=some c:=by rfl) (hrs:fn.results=rs.toArray:=by rfl) (hargs:args.length≤n:=by exact sL1)
  (hk:Mq l (argsF args)=fr':=by exact sL0):ACallO P g args H post:=
 ACallO.ofBody hf hb hrs hn hargs (fun d=>AW.keep l hk (h d))
/-- The end of such a body. -/
theorem K.finO {rs:List ResultVar} {n:Nat} {post:AV→List AObj→Prop} {r:AV} {rv:ResultVar} {st:St} (j:Nat) (hres:ResV P st rv r) (hp:post r (st.up++st.own.take j)) (hlow:Low (n+j) r) (hobj:∀x∈st.up++st.own.take j,ObjLow (n+j) x)
  (hd:st.defs=[]:=by rfl) (hr:rs=[rv]:=by rfl) (hj:j≤st.own.length:=by simp):FO P rs n post .ret st:=⟨.inr rfl,hd,r,rv,j,hr,hres,hlow,hobj,hj,hp⟩
/-- A call of such a function. -/
theorem R.callO {g:FuncId} {xs:List Operand} {ats:Array TypeId} {args:List AV} {post:AV→List AObj→Prop} (hcall:∀args w,(callFunc g args).run P w=.ok (.enter g args) w)
  (h:ACallO P g args (up++own) post) (hp:∀r H',post r H'→∃O,H'=up++(own++O)∧ARun P d ops rest ⟨sz,Af s r fr,up,own++O,dfs,rnd⟩ Q)
  (ha:xs.map (Bl fr)=args:=by exact sL0) (hs:Nat.blt s sz=true:=by rfl):
  ARun P d ops (⟨some s,.call ⟨.value (.func g),xs.toArray,ats⟩,ty,pos,aft,none⟩::rest) ⟨sz,fr,up,own,dfs,rnd⟩ Q:=by
 refine Ya rfl (Q1:=fun s'=>ARun P d ops rest s' Q) ?_ (fun s' e=>e)
 intro G a w hr Q'
 have hs:s<sz:=by simpa using hs
 have hxr:=Qi hr xs
 have ha':xs.map (St.ev ⟨sz,fr,up,own,dfs,rnd⟩)=args:=ha
 rw [ha'] at hxr
 have hrun:(execOp a.eval (⟨some s,.call ⟨.value (.func g),xs.toArray,ats⟩,ty,pos,aft,none⟩:Oper)).run P w=.ok (.enter g (xs.map a.eval).toArray) w:=by
  have:=Pg (P:=P) (dst:=some s) (ty:=ty) (pos:=pos) (aft:=aft) (gd:=none) (ats:=ats) (f:=.func g) (xs:=xs) (g:=g) (va:=#[]) (vc:=#[]) (a:=a) (w:=w) hcall rfl
  simpa using this
 refine Pf (by intro c h;cases h) hrun (h d G w _ (by rw [←ha'];simp) (fun i y u hy hu=>(hxr i y u hy hu).lift) hr.heap hr.tags hr.top) ?_
 rintro e w' ⟨v,G',r,H',rfl,hrep,hH,hT,hk,hpo⟩
 obtain ⟨O,rfl,hrn⟩:=hp r H' hpo
 have h3:=hr.called (U:=up) (O:=own++O) hH hT hk rfl rfl (fun o ho=>by
  have:=hr.defsAt o ho
  rw [←B9,D5 (Ac.1 this).1]
  exact this) hr.low
 obtain ⟨h4,k4⟩:=h3.took hrep.lift (s:=s) hs
 exact ⟨v,rfl,_,_,h4,(hk.less (Jq d)).trans k4,rfl,rfl,rfl,hrn⟩
end
end Go.SX
