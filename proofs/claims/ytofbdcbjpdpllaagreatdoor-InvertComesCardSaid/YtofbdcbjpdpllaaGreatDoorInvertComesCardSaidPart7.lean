/- On the way (part 7). -/
import Derived.Lib.ItoaLen
import Derived.Test.YtofbdcbjpdpllaaGreatDoorInvertComesCardSaidPart6
set_option linter.all false
namespace Go.SX.Nb
open Go Go.SX Go.Proofs
variable [ErrAt]
set_option maxRecDepth 4000
abbrev xo (own:Bool) (t:Str) (ks:List Expr):AObj:=.cells 26 [A6 6,Ah t,A6 0,A6 0,Ah [],.slice own 6 (ks.map Aa)]
theorem w5 {n:Nat} {own:Bool} {t:Str} {ks:List Expr}:ObjLow n (xo own t ks):=by
 show ∀z∈[A6 6,Ah t,A6 0,A6 0,Ah [],AV.slice own 6 (ks.map Aa)],Low n z
 intro z hz
 simp only [By,Hb,or_false] at hz
 rcases hz with rfl|rfl|rfl|rfl|rfl|rfl
 all_goals first|exact Du|simp
theorem s0:Dq (.agg #[.int .i64 0,.string ⟨#[]⟩,.int .i64 0,.int .i64 0,.string ⟨#[]⟩,.slice none 0 0])=.agg [A6 0,Ah [],A6 0,A6 0,Ah [],.nil]:=rfl
attribute [go_sem] s0
theorem gA {Hp:List AObj} {o ox:Nat} {z A B:AObj} (ho:Hp[o]? = some z) (hne:ox≠o):((Hp.set o A).set ox B)[o]? = some A:=by rw [List.getElem?_set_ne hne];exact Ar ho
theorem gB {Hp:List AObj} {o ox:Nat} {z A B:AObj} (hox:Hp[ox]? = some z):((Hp.set o A).set ox B)[ox]? = some B:=by
 have:=(List.getElem?_eq_some_iff.1 hox).1
 simp [this]
theorem w6 {Hp:List AObj} {o ox:Nat} {A A' B:AObj} (hne:ox≠o):((Hp.set o A).set ox B).set o A'=(Hp.set o A').set ox B:=by rw [List.set_comm _ _ hne,List.set_set]
theorem Nf (ks:List Expr) (x:Expr):ks.map Aa++[.agg [.v (.int .i64 x.op),.v (sv x.text),.v (.int .i64 x.val.kind),.v (.int .i64 x.val.n),.v (sv x.val.s),.slice false 6 (x.kids.map Aa)]]=(ks++[x]).map Aa:=by rw [List.map_append,List.map_cons,List.map_nil,Ad x]
theorem ABn (l:List Tok) (S:PS) (t:Str) (Dv:Fam) (o ox:Nat) (Hp:List AObj) (hne:ox≠o) (ho:Hp[o]? = some (pr l S)) (hox:Hp[ox]? = some (xo true t [])) (hi:S.i<l.length) (hl:TokEnd l) (hll:l.length≤1048576) (hf:E3 l S.nest Dv.ei) (hcf:PC 114 l Dv.ei S.nest):ACall Tryz.prog 351 [.ptr ox 0,.ro [.ptr o 0]] Hp (fun r H'=>r=Aa (.mk 6 t noV (Gz l Dv.ei S).1)∧H'=(Hp.set o (pr l (Gz l Dv.ei S).2)).set ox (xo true t (Gz l Dv.ei S).1)):=by
 have hoxl:=(List.getElem?_eq_some_iff.1 hox).1
 have hol:=(List.getElem?_eq_some_iff.1 ho).1
 refine ACall.body [.cell 2 26] [0,1] Tryz.func351 Tryz.ntmps351 (fun d=>?_)
 refine Z26 ?_;refine R.fin [0,1,2] ?_
 refine W.drawT [0,1,0,4,3,0,63,127,255,127,639] [1,3] [.q 1 [] [0],.s [4] (some 0) [] [],.q 1 [] [1],.s [6] (some 1) [] [],.q 2 [] []] (fun B=>(Hp.set o (if B 1=true then pr l (Dv.ei S).2 else pr l S)).set ox (if B 0=true then xo false t [] else xo true t [])) (fun _=>[Je]) Aw (by kernel_rfl) (by simp only [Bool.false_eq_true,if_false];rw [Ho ho,Ho hox]) rfl (fun B=>by simp) ?_
 apply Y.q
 ·intro B hT hF
  exact Z61
 case hTF=>decide
 refine Y.loadUpT (o:=ox) (t':=26) (cs:=[A6 6,Ah t,A6 0,A6 0,Ah [],.slice true 6 ([].map Aa)]) (cs':=[A6 6,Ah t,A6 0,A6 0,Ah [],.slice false 6 ([].map Aa)]) Tryz.isAgg24 (fun B hB=>⟨by simp only [hB];exact gB hox,by simp [upd,List.set_set]<;>rfl,rfl⟩) ?_
 apply Y.q
 ·intro B hT hF
  exact Z61
 case hTF=>decide
 refine Y.callUp (r:=Aa (Dv.ei S).1) (o:=o) (x0:=pr l S) (x:=pr l (Dv.ei S).2) Tryz.call114 (fun B hT hF hB=>⟨by simp only [hB];exact gA ho hne,?_,rfl,Cm,?_⟩) ?_
 ·simp only [upd,hB,Nat.reduceEqDiff,if_false,if_true,Bool.false_eq_true]
  exact (w6 hne).symm
 ·simp only [hB]
  exact hcf o _ S (Av (gA ho hne)) hi rfl
 apply Y.q
 ·intro B hT hF
  refine D.go ?_;exact Z87
 case hTF=>decide
 refine Y.appendPut (tn:=[1,3]) (U:=(Hp.set o (pr l (Dv.ei S).2)).set ox (xo false t [])) (O:=[Je]) (o:=ox) (t':=26) (cs:=[A6 6,Ah t,A6 0,A6 0,Ah [],.slice false 6 ([].map Aa)]) (by kernel_rfl) jU Tryz.type26 Tryz.sizeOf26 Tryz.sizeOf24 jU (Av (gB hox)) ?_ ?_ ?_ (hfsz:=Tryz.sizeOf24)
 ·simp [Tryz.t26]
 ·simp [Tryz.t26]
 refine R.go ?_
 refine R.storeUpT jS (gB hox) ?_ ?_
 ·first|(rw [Nf];exact Du)|(have:=Du (n:=((Hp.set o (pr l (Dv.ei S).2)).set ox (xo false t [])).length) (k:=6) (o:=true) (l:=[(Dv.ei S).1]);simp only [List.map_cons,List.map_nil,Ad] at this;exact this)
 refine R.fin [0,1,2] ?_;refine W.seq ?_
 refine AW.loopC (α:=List Expr×PS) (fun r=>⟨34,Ao 0 (.ptr ox 0) (Ao 1 (.ro [.ptr o 0]) (Ao 2 (.ptr (oid Hp.length 0) 0) (fun _=>.any))),(Hp.set o (pr l r.2)).set ox (xo true t r.1),[Je],[],none⟩) (fun r=>ArgsAt l Dv.ei S r) (fun r=>l.length-r.2.i) (([(Dv.ei S).1],(Dv.ei S).2)) (.start (hf S hi rfl)) (StLe.of_eq (by simp [List.set_set,xo,Ad])) rfl (fun r hx=>?_)
 refine Z60 ?_
 refine R.go (h:=Q.loadUp (gA ho hne)) (hr:=?_)
 refine Y0 ?_;refine G.call Tryz.call203 (fun hB=>Yw l r.2 T0 o _ (Av (gA ho hne)) hx.fact.lt hl (by decide)) ?_;refine R.go ?_;refine R.fin [0,1,2,21] ?_
 refine W.cond (fun ht21=>?_) (fun ht21=>?_)
 ·have hon:=hx.on hl ht21 hf
  have hle:=hon.2.1.le
  have hlt0:=hx.fact.lt
  refine Z9 ?_;refine I5 ?_;refine Z3 ?_;refine R.callUp Tryz.call204 (gA ho hne) (by simp) Cm (nh l r.2 o _ (Av (gA ho hne)) hx.fact.lt hll) ?_;refine R.fin [0,1,2] ?_
  refine W.drawT0 [0,1,0,4,3,0,63,127,255,127,639] [1,3] [.q 1 [] [0],.s [25] (some 0) [] [],.q 1 [] [1],.s [27] (some 1) [] [],.q 2 [] []] (fun B=>(Hp.set o (if B 1=true then pr l (Dv.ei (Am r.2)).2 else pr l (Am r.2))).set ox (if B 0=true then xo false t r.1 else xo true t r.1)) (fun _=>[Je]) Aw (by kernel_rfl) (by simp only [Bool.false_eq_true,if_false];exact (w6 hne).symm) rfl (fun B=>by simp) ?_
  apply Y.q
  ·intro B hT hF
   exact Z61
  case hTF=>decide
  refine Y.loadUpT (o:=ox) (t':=26) (cs:=[A6 6,Ah t,A6 0,A6 0,Ah [],.slice true 6 (r.1.map Aa)]) (cs':=[A6 6,Ah t,A6 0,A6 0,Ah [],.slice false 6 (r.1.map Aa)]) Tryz.isAgg24 (fun B hB=>⟨by simp only [hB];exact gB hox,by simp [upd,List.set_set]<;>rfl,rfl⟩) ?_
  apply Y.q
  ·intro B hT hF
   exact Z61
  case hTF=>decide
  refine Y.callUp (r:=Aa (Dv.ei (Am r.2)).1) (o:=o) (x0:=pr l (Am r.2)) (x:=pr l (Dv.ei (Am r.2)).2) Tryz.call114 (fun B hT hF hB=>⟨by simp only [hB];exact gA ho hne,?_,rfl,Cm,?_⟩) ?_
  ·simp only [upd,hB,Nat.reduceEqDiff,if_false,if_true,Bool.false_eq_true]
   exact (w6 hne).symm
  ·simp only [hB]
   exact hcf o _ (Am r.2) (Av (gA ho hne)) hon.1 hx.fact.nest
  apply Y.q
  ·intro B hT hF
   refine D.go ?_;exact Z87
  case hTF=>decide
  refine Y.appendPut (tn:=[1,3]) (U:=(Hp.set o (pr l (Dv.ei (Am r.2)).2)).set ox (xo false t r.1)) (O:=[Je]) (o:=ox) (t':=26) (cs:=[A6 6,Ah t,A6 0,A6 0,Ah [],.slice false 6 (r.1.map Aa)]) (by kernel_rfl) jU Tryz.type26 Tryz.sizeOf26 Tryz.sizeOf24 jU (Av (gB hox)) ?_ ?_ ?_ (hfsz:=Tryz.sizeOf24)
  ·have:=hx.fact.len;have:=hx.fact.lt;simp only [List.length_map,Tryz.t26];omega
  ·have:=hx.fact.len;have:=hx.fact.lt;simp only [List.length_map,Tryz.t26];omega
  refine R.go ?_
  refine R.storeUpT jS (gB hox) ?_ ?_
  ·first|(rw [Nf];exact Du)|(have:=Du (n:=((Hp.set o (pr l (Dv.ei S).2)).set ox (xo false t [])).length) (k:=6) (o:=true) (l:=[(Dv.ei S).1]);simp only [List.map_cons,List.map_nil,Ad] at this;exact this)
  refine R.fin [0,1,2] ?_;refine K.blN ?_
  refine K.lpN (r.1++[(Dv.ei (Am r.2)).1],(Dv.ei (Am r.2)).2) hon.2.2 (by show l.length-(Dv.ei (Am r.2)).2.i<l.length-r.2.i;have:r.2.i+1≤(Dv.ei (Am r.2)).2.i:=hle;omega) (StCut.of_eq ?_)
  simp only [show Tryz.t26.size=6 from rfl,Nf,List.set_set]
 have hout:=hx.out (by rw [ht21];simp)
 refine Z95 ?_;refine Z58 ?_;refine Ey ?_
 refine R.go (h:=Q.loadUpN (gB hox)) (hr:=?_)
 refine Z10 ?_;exact K.fin (V.one (V.cellN jA jS)) ⟨by rw [hout,Th];rfl,by rw [hout]⟩ (hlow:=by have:=Ag Hp.length (.mk 6 t noV r.1);rw [Th] at this;simpa using this)

/-- within, with the function that gathers a call's kids. -/
theorem zk (l:List Tok) (S:PS) (a:Int) (t:Str) (Dv:Fam) (o:Nat) (Hp:List AObj) (A0 A1:AObj) (l0:ObjLow 0 A0) (ho:Hp[o]? = some (pr l S)) (hi:S.i<l.length) (hl:TokEnd l) (hll:l.length≤1048576) (hnl:S.nest≤30) (hd:DeepC l Dv S.nest):
  ACall Tryz.prog 256 [.ptr o 0,A6 a,.fn (.func 351) [] [.ptr (oid Hp.length 2) 0,.ro [.ptr o 0]]] (Hp++[A0,A1,xo true t []]) (fun r H'=>r=Aa (if S.nest=30 then A8 else .mk 6 t noV (Qd l a Dv.ei S).1)∧H'=Hp.set o (pr l (Qd l a Dv.ei S).2)++[A0,A1,xo true t (Qd l a Dv.ei S).1]):=by
 have hlt:=(Ae.1 ho).1
 have ho':(Hp++[A0,A1,xo true t []])[o]? = some (pr l S):=Av ho
 by_cases h30:S.nest=30
 ·refine (rh l S a 351 [] [.ptr (oid Hp.length 2) 0,.ro [.ptr o 0]] A8 (Cw S) o (Hp++[A0,A1,xo true t []]) ((Hp++[A0,A1,xo true t []]).set o (pr l (Cw S))) ho' (by omega) Tryz.call351 (by simp) (Ar ho') rfl (fun h=>h) (fun h=>absurd h30 h)).mono fun r H' h=>?_
  have e:Qd l a Dv.ei S=([],Dt 18 a S):=if_pos (by rw [h30];rfl)
  rw [e,if_pos h30]
  obtain ⟨h1,h2⟩:=h.1 h30
  exact ⟨h1,by rw [h2,Ls _ _ hlt]⟩
 have hq:=T5 (S:=Cw S) hl hi (hd.ei h30).1
 refine (rh l S a 351 [] [.ptr (oid Hp.length 2) 0,.ro [.ptr o 0]] (.mk 6 t noV (Gz l Dv.ei (Cw S)).1) (Gz l Dv.ei (Cw S)).2 o (Hp++[A0,A1,xo true t []]) (Hp.set o (pr l (Gz l Dv.ei (Cw S)).2)++[A0,A1,xo true t (Gz l Dv.ei (Cw S)).1]) ho' (by omega) Tryz.call351 (by simp) (Av (Ar ho)) hq.nest (fun h y hy=>?_) (fun _ own=>?_)).mono fun r H' h=>?_
 ·rw [Ls _ _ hlt] at h
  rcases Dy.1 hy with hy|hy
  ·rcases Nl hy with h1|h1
   ·obtain ⟨i,hi',rfl⟩:=Rl h1
    by_cases hio:i=o
    ·subst hio
     have:Hp[i]=pr l S:=by rw [Al hi'] at ho;injection ho
     rw [this];exact Cm
    refine h _ (dc _ ?_)
    rw [dd]
    exact ⟨i,by rw [El (Ne.symm hio),Al hi']⟩
   rw [h1];exact Cm
  simp only [By,Hb,or_false] at hy
  rcases hy with rfl|rfl|rfl
  ·exact h _ (Nk _ (by simp))
  ·exact h _ (Nk _ (by simp))
  exact w5
 ·have hoid:oid Hp.length 2≠o:=by unfold oid;omega
  have e1:(Hp++[A0,A1,xo true t []]).set o (pr l (Cw S))++own=(Hp.set o (pr l (Cw S))++[A0,A1,xo true t []])++own:=by rw [Ls _ _ hlt]
  rw [e1]
  have g1:((Hp.set o (pr l (Cw S))++[A0,A1,xo true t []])++own)[o]? = some (pr l (Cw S)):=Av (Av (Ar ho))
  have g2:((Hp.set o (pr l (Cw S))++[A0,A1,xo true t []])++own)[oid Hp.length 2]? = some (xo true t []):=Av (by
   have:=Bl (U:=Hp.set o (pr l (Cw S))) (O:=[A0,A1,xo true t []]) (n:=2)
   rw [Do] at this
   exact this)
  refine (ABn l (Cw S) t Dv o (oid Hp.length 2) _ hoid g1 g2 hi hl hll (hd.ei h30).1 (hd.ei h30).2).mono fun r H' h=>⟨h.1,h.2.trans ?_⟩
  rw [Bt,Ls _ _ (by simpa using hlt),De]
  have:=Fl (U:=Hp.set o (pr l (Gz l Dv.ei (Cw S)).2)) (O:=[A0,A1,xo true t []]++own) (n:=2) (x:=xo true t (Gz l Dv.ei (Cw S)).1)
  rw [Do] at this
  rw [this]
  simp
 have e:Qd l a Dv.ei S=((Gz l Dv.ei (Cw S)).1,V3 (Gz l Dv.ei (Cw S)).2):=if_neg (by
  show ¬(((S.nest:Int)==30)=true)
  simp
  omega)
 rw [e,if_neg h30]
 obtain ⟨h1,h2⟩:=h.2 h30
 exact ⟨h1,by rw [h2,Ls _ _ (by simpa using hlt),De]⟩
theorem ABo (l:List Tok) (S:PS) (Dv:Fam) (t:Tok) (o:Nat) (Hp:List AObj) (ho:Hp[o]? = some (pr l S)) (hi:(Am S).i<l.length) (hl:TokEnd l) (hll:l.length≤1048576) (hnl:S.nest≤30) (hd:DeepC l Dv S.nest):ACall Tryz.prog 349 [.ptr o 0,Iu t] Hp (fun r H'=>r=Aa (H0 l Dv t S).1∧H'=Hp.set o (pr l (H0 l Dv t S).2)):=by
 have hi0:S.i<l.length:=by have:S.i+1<l.length:=hi;omega
 have hol:=(Ae.1 ho).1
 have hkf:KFact l (Am S) (D4 l Dv S):=T6 hl _ hi (fun h=>(hd.ei h).1)
 refine Aq [.cell 4 26] [0,1] Tryz.func349 Tryz.ntmps349 (fun d=>?_)
 refine Z1 ?_;refine Ij jZ ?_;refine A2 [2,3,4] ?_;refine Z1 ?_;refine Ac Tryz.call126 (vd t.text _) ?_;refine A7 ?_;refine A2 [2,3,4,5] ?_;refine Z32 ?_;refine A2 [2,3,4,5,12] ?_
 refine A4 (fun ht12=>?_) (fun ht12=>?_)
 ·have hlt0:Bx t.text<0:=by simpa using ht12
  have e:H0 l Dv t S=(A8,Dt 9 t.at_ S):=if_pos hlt0
  refine Z14 ?_;refine Bw Tryz.call116 ho (by simp) Cm (jg l S 9 t.at_ o _ (Av ho)) ?_;refine Jj ?_;refine Z29 ?_;exact Z59
 have hge:¬Bx t.text<0:=by simpa using ht12
 refine Z75 ?_;refine Bw Tryz.call204 ho (by simp) Cm (nh l S o _ (Av ho) hi0 hll) ?_;refine Z21 ?_;refine A2 [2,3,4,5,6] ?_;refine Z73 ?_;refine Z21 ?_;refine A2 [2,3,4,5,6,7] ?_;refine Ey ?_;refine La 2 5 6 ?_;refine Z24 ?_;refine H2 ?_
 refine R.callX (up':=(Hp.set o (pr l (Am S))).set o (pr l (D4 l Dv S).2)) (own':=[Je,.cells 113 [A6 (At l S.i).kind,Ah (At l S.i).text,A6 (At l S.i).at_],xo true t.text (D4 l Dv S).1]) Tryz.call256 (by have:=zk l (Am S) (At l S.i).at_ t.text Dv o (Hp.set o (pr l (Am S))) Je (.cells 113 [A6 (At l S.i).kind,Ah (At l S.i).text,A6 (At l S.i).at_]) O6 (Ar ho) hi hl hll hnl hd;rw [Do] at this;exact this) (by simp) (fun h=>rj h Cm) ?_
 refine A2 [2,3,4,5,7] ?_;refine Z3 ?_;refine Bw Tryz.call350 (Ar (Ar ho)) (by simp) Cm (z6 l (D4 l Dv S).2 Ev o _ (Av (Ar (Ar ho))) hkf.lt hll) ?_;refine A2 [2,3,4,5,7] ?_;refine Z60 ?_
 refine A7 (h:=Ep (Ar (Ar (Ar ho)))) (hr:=?_)
 refine Z0 ?_;refine Z45 ?_;refine Z63 ?_;refine A2 [2,3,4,7,41] ?_
 refine A4 (fun ht41=>?_) (fun ht41=>?_)
 ·have e:H0 l Dv t S=(A8,Dt 8 t.at_ (F0 l Ev (D4 l Dv S).2)):=by
   unfold H0
   rw [if_neg hge,if_pos (by have:=ht41;simp only [Bp] at this;exact this)]
  refine Z14 ?_;refine Bw Tryz.call116 (Ar (Ar (Ar ho))) (by simp) Cm (jg l (F0 l Ev (D4 l Dv S).2) 8 t.at_ o _ (Av (Ar (Ar (Ar ho))))) ?_;refine Jj ?_;refine Z29 ?_;refine Cp ?_;exact A5 (Ap (Ai jA jS)) ⟨by rw [e,Ad],by rw [e,De,De,De]⟩ (hlow:=low_agg _)
 have e:H0 l Dv t S=(.mk 6 t.text noV (D4 l Dv S).1,(F0 l Ev (D4 l Dv S).2)):=by
  unfold H0
  rw [if_neg hge,if_neg (by have:=ht41;simp only [Bp] at this;rw [Ol] at this;exact this)]
 refine Z75 ?_;refine Jj ?_;refine Z29 ?_;exact A5 (Ap (Ai jA jS)) ⟨by rw [e,Th];rfl,by rw [e,De,De]⟩ (hlow:=by have:=Ag Hp.length (.mk 6 t.text noV (D4 l Dv S).1);rw [Th] at this;simpa using this)

theorem jx {l:List Tok} (hl:TokEnd l) (hll:l.length≤1048576) (n:Nat) (Dv:Fam) (hn:n≤30) (hd:DeepC l Dv n):V9 l Dv n:=fun o Hp S t ho hi hS _ _=>by
 subst hS
 exact ABo l S Dv t o Hp ho hi hl hll hn hd
def Mh (l:List Val):Bool:=decide ((50:Int)<(l.length:Int)) || l.any fun v=>decide ((400:Int)<(v.s.length:Int))
theorem c11 (l:List Val) (Hp:List AObj):AFun Tryz.prog 11 [Jk l] Hp (B8 (Mh l)):=by
 refine Aq [.tmp 2] [0] Tryz.func11 Tryz.ntmps11 (fun d=>?_)
 refine Z76 ?_;refine Z39 ?_;refine A2 [0,6] ?_
 refine A4 (fun ht6=>?_) (fun ht6=>?_)
 ·rw [Bp] at ht6
  have hm:Mh l=true:=by unfold Mh;rw [ht6];rfl
  refine Z57 ?_;exact Z30
 rw [Bp] at ht6
 have hl50:l.length≤50:=by simp at ht6;omega
 refine Wg ?_;refine P5 ?_
 refine Ff (α:=Nat) (fun x=>⟨20,Ao 0 (Jk l) (Ao 3 (A6 (x:Nat)) (fun _=>.any)),Hp,[],[],none⟩) (fun x=>x≤l.length∧∀(j:Nat) (v:Val),j<x→l[j]? = some v→decide ((400:Int)<(v.s.length:Int))=false) (fun x=>l.length-x) (0) ⟨Bk _,fun j v h=>by omega⟩ (E9 (by simp)) rfl (fun x hx=>?_)
 refine Z60 ?_;refine A2 [0,3,10] ?_
 refine A4 (fun ht10=>?_) (fun ht10=>?_)
 ·have hlt:x<l.length:=by simpa using ht10
  refine Z9 ?_;refine Z27 ?_;refine Z1 ?_
  refine A7 (h:=Ax (x) (Bq l[x]) (fun _=>Cu hlt)) (hr:=?_)
  refine Z64 ?_;refine A2 [0,3,19] ?_
  refine A4 (fun ht19=>?_) (fun ht19=>?_)
  ·have hm:Mh l=true:=by unfold Mh;rw [Dj];exact .inr (Jv.2 ⟨l[x],Db hlt,ht19⟩)
   refine Z57 ?_;exact m6
  refine Z22 ?_;refine Z97 ?_
  refine A7 (h:=Q.add64 (h1:=fun _=>by omega) (h2:=fun _=>by omega)) (hr:=?_)
  refine A7 ?_;refine P5 ?_;exact wy
 have hxe:l.length≤x:=by simpa using ht10
 have hm:Mh l=false:=by
  unfold Mh
  rw [ht6,J9,Om]
  intro v hv
  obtain ⟨j,hj⟩:=Cf hv
  have:=hx.2 j v (by have:=(Ae.1 hj).1;omega) hj
  rw [this]
  simp
 refine Z95 ?_;refine Z58 ?_;exact xp

structure RowAt (c:List Col) (l:List Val) (x:Nat):Prop where
 le:x≤l.length
 ok:∀(i:Nat) (v:Val) (y:Col),i<x→l[i]? = some v→c[i]? = some y→C9 v=true∧(v.kind=0∨v.kind=y.kind)
theorem RowAt.next {c:List Col} {l:List Val} {x:Nat} (h:RowAt c l x) (hl:x<l.length) (hc:x<c.length) (hb:((!(C9 l[x])) || ((l[x].kind != 0)&&(l[x].kind != c[x].kind)))=false):RowAt c l (x+1):=⟨hl,fun i v y hi hv hy=>by
 rcases Bf i x with h'|h'
 ·exact h.ok i v y h' hv hy
 have e:i=x:=by omega
 subst e
 rw [Al hl] at hv
 rw [Al hc] at hy
 injection hv with hv
 injection hy with hy
 subst hv
 subst hy
 simp only [F7,Ja,l3,bne_eq_false_iff_eq] at hb
 exact ⟨hb.1,hb.2⟩⟩
theorem RowAt.bad {c:List Col} {l:List Val} {x:Nat} (hl:x<l.length) (hc:x<c.length) (hb:((!(C9 l[x])) || ((l[x].kind != 0)&&(l[x].kind != c[x].kind)))=true):Kb c l=false:=by
 cases h:Kb c l with
 | false=>rfl
 | true =>
  obtain ⟨h1,h2⟩:=(row_iff.1 h).2.2 x l[x] c[x] (Al hl) (Al hc)
  rw [h1] at hb
  simp only [Ib,J9,Ak,bne_iff_ne] at hb
  omega
theorem c12 (c:List Col) (hc:OkCols c) (l:List Val) (hll:l.length≤1048576) (Hp:List AObj):AFun Tryz.prog 12 [Gq c,Jk l] Hp (B8 (Kb c l)):=by
 refine Aq [.tmp 4] [0,1] Tryz.func12 Tryz.ntmps12 (fun d=>?_)
 refine Z70 ?_;refine Z37 ?_;refine Ac Tryz.call36 (c36 c hc _) ?_;refine Z0 ?_;refine Z45 ?_;refine Z63 ?_;refine A2 [0,1,16] ?_
 refine A4 (fun ht16=>?_) (fun ht16=>?_)
 ·have hm:Kb c l=false:=by
   simp only [Bp,Dj,Ju,bne_iff_ne,ne_eq] at ht16
   unfold Kb
   rcases ht16 with h|h
   ·rw [h];rfl
   rw [show (l.length==c.length)=false by simpa using (show l.length≠c.length by omega)];simp
  exact i6
 have hcl:Q8 c=true∧l.length=c.length:=by
  simp only [Bp,F7,Ja,bne_eq_false_iff_eq] at ht16
  exact ⟨ht16.1,by omega⟩
 refine Z9 ?_;refine Z39 ?_;refine A2 [0,17,18,19] ?_
 refine Ff (α:=Nat) (fun x=>⟨43,Ao 0 (Gq c) (Ao 17 (Jk l) (Ao 18 (A6 (l.length:Nat)) (Ao 19 (A6 (x:Nat)) (fun _=>.any)))),Hp,[],[],none⟩) (fun x=>RowAt c l x) (fun x=>l.length-x) (0) ⟨Bk _,fun i v y h=>by omega⟩ (E9 (by simp)) rfl (fun x hx=>?_)
 refine Z3 ?_;refine A2 [0,17,18,19,20] ?_
 refine Gp (fun ht20=>?_) (fun ht20=>?_)
 ·have hlt:x<l.length:=by simpa using ht20
  have hlc:x<c.length:=by omega
  refine Wi ?_
  refine A7 (h:=Ax (x) (Bq l[x]) (fun _=>Cu hlt)) (hr:=?_)
  refine A7 ?_;refine qi ?_;refine A2 [0,5,6,17,18,19] ?_;refine Er [0,1,3,7,15,31,63,127,255,511,255,255,3327,7423,15615,32767,65535,131071] 15 Aw (by kernel_rfl) ?_;refine B4 ?_;refine Cy Tryz.call37 (c37 _ _) ?_;refine Z13 ?_;refine Z72 ?_;refine Z72 ?_;refine Z72 ?_;refine Z72 ?_
  refine H.go (h:=Ax (x) (U6 c[x]) (fun _=>Cu hlc)) (hr:=?_)
  refine Z72 ?_;refine Dw ?_;refine b7 ?_;refine A2 [0,17,18,19,41] ?_
  refine A4 (fun ht41=>?_) (fun ht41=>?_)
  ·have hm:=RowAt.bad hlt hlc ht41
   refine Z94 ?_;exact m6
  refine U2 ?_;refine A2 [0,17,18,19] ?_;refine Ct (x+1) (hx.next hlt hlc ht41) (by omega) ?_
  exact Es (own:=[]) (fun _=>.refl _) (by repeat (first|exact C6|refine C5 (by first|exact Ze|exact low_cols|(simp [or_imp,forall_and];done)) ?_)) (by simp) (by simp)
 have hxe:l.length≤x:=by simpa using ht20
 have hm:Kb c l=true:=row_iff.2 ⟨by rw [←Ww];exact hcl.1,hcl.2,fun i v y hv hy=>hx.ok i v y (by have:=(Ae.1 hv).1;omega) hv hy⟩
 refine Z58 ?_;refine Z3 ?_;exact Z78

theorem Zg {e:Expr} (h:C1 e=true):J5 e=true:=by
 unfold J5
 cases Gc h with
 | val v hp h0=>simpa [Cs,Expr.op,Expr.val] using hp
 | name t ht=>rfl
 | neg a=>rfl
 | no a=>rfl
 | bin t a b ht=>rfl
 | call t k ht=>rfl
mutual
theorem Kd:∀e:Expr,B9 C1 e=true→B9 J5 e=true
 | .mk o t v k,h=>by
  rw [B9,Ak] at h ⊢
  exact ⟨Zg h.1,Zh k h.2⟩
theorem Zh:∀k:List Expr,Jm C1 k=true→Jm J5 k=true
  | [],_=>rfl
  | e::r,h=>by
    rw [Jm,Ak] at h ⊢
    exact ⟨Kd e h.1,Zh r h.2⟩
 end
theorem Ob {c:List Col} {l:List Val} (h:Kb c l=true) (hr:∀v∈l, -9223372036854775808≤v.n∧v.n≤9223372036854775807):∀v∈l,Fine v:=fun v hv=>by
 obtain ⟨i,hi⟩:=Cf hv
 obtain ⟨_,h2,h3⟩:=row_iff.1 h
 have hil:=(Ae.1 hi).1
 exact ⟨(h3 i v _ hi (Al (show i<c.length by omega))).1,(hr v hv).1,(hr v hv).2⟩
theorem c15 (n:Nat) (x:Expr) (hok:okE n x) (hn:n≤1048576) (hrg:B9 Cg x=true) (c:List Col) (hc:OkCols c) (l:List Val) (hll:l.length≤1048576) (hlr:∀v∈l, -9223372036854775808≤v.n∧v.n≤9223372036854775807) (Hp:List AObj):AFun Tryz.prog 15 [Aa x,Gq c,Jk l] Hp (O8 (Dh x c l)):=by
 refine Aq [.cell 6 23,.tmp 7] [0,1,2] Tryz.func15 Tryz.ntmps15 (fun d=>?_)
 refine m4 ?_;refine A2 [1,2,3,6] ?_;refine Z37 ?_;refine Ac Tryz.call38 (c38 n x hok hn _) ?_;refine Z0 ?_;refine Z12 ?_;refine Co Tryz.call12 (fun hB=>c12 c hc l hll _) ?_;refine Z63 ?_;refine A2 [1,2,3,6,16] ?_
 refine A4 (fun ht16=>?_) (fun ht16=>?_)
 ·have hm:Dh x c l=Br 1:=if_pos ht16
  refine U1 ?_;refine Z62 ?_;exact Z23
 have hm:Dh x c l=Af c l x:=if_neg (by rw [ht16];simp)
 have hrr:Au x=true∧Kb c l=true:=by simpa using ht16
 obtain ⟨hr,hrow⟩:=hrr
 refine S4 ?_;refine ik ?_;refine A7 ?_;refine Ac Tryz.call44 (c44 c l hc (row_iff.1 hrow).2.1 (Ob hrow hlr) n x hok (J6 hr) hrg (Kd x (J6 hr)) _) ?_;refine Z0 ?_;exact x8

theorem ACall.argLeE {P:Program} {g:FuncId} {args args':List AV} {H:List AObj} {post:AV→List AObj→Prop} (h:ACall P g args' H post) (hl:args.length=args'.length) (hle:∀(i:Nat) (y y':AV),args[i]? = some y→args'[i]? = some y'→Le y y'):ACall P g args H post:=
 fun d G w vs h1 h2 h3 h4=>h d G w vs (by rw [h1,hl]) (fun i y' u hy' hu=>by
  have hlt:i<args.length:=by rw [hl];exact (Ae.1 hy').1
  exact (h2 i args[i] u (Al hlt) hu).le (hle i args[i] y' (Al hlt) hy')) h3 h4
theorem Zi {l:List Val} (h:Mh l=false):l.length≤1048576:=by
 unfold Mh at h
 simp only [F7,decide_eq_false_iff_not] at h
 omega
set_option maxRecDepth 8000
/-! Trees that are trimmed. -/
/-- The kid that is all there is to a node, by its first one. -/
def Di (o:Int) (t:Str) (ks:List Expr):Option Expr:=
 if ((o==6)&&(t==ifW))&&((ks.getD 0 A8).val==C7 true) then some (ks.getD 1 A8)
 else if ((o==6)&&(t==ifW))&&(((ks.getD 0 A8).val==C7 false) || ((ks.getD 0 A8).val==noV)) then some (ks.getD 2 A8)
 else if ((o==6)&&(t==Fo))&&((ks.getD 0 A8).val==noV) then some (ks.getD 1 A8)
 else if (o==6)&&(t==Fo) then some (ks.getD 0 A8)
 else if (o==5)&&(((t==orW)&&((ks.getD 0 A8).val==C7 true)) || ((t==Pq)&&((ks.getD 0 A8).val==C7 false))) then some (ks.getD 0 A8)
 else none
/-- A node of values. -/
def Gw (y:Expr):Option Expr:=
 if y.kids.any (fun k => !(k.op==1)) then none
 else if ((Dh y [] []).2 != 0) || (((Dh y [] []).1.kind==1)&&decide ((Dh y [] []).1.n<0)) then none else some (Cs (Dh y [] []).1)
def Ir (o:Int) (t:Str) (ks:List Expr):Expr:=
 match (if (ks.getD 0 A8).op==1 then Di o t ks else none) with
 | some z=>z
 | none=>match Gw (.mk o t noV ks) with
  | some z=>z
  | none=>.mk o t noV ks
mutual
def Bb:Expr→Expr
 | .mk o t v k=>if (k.length:Int)==0 then .mk o t v k else Ir o t (f6 k)
def f6:List Expr→List Expr
  | []=>[]
  | e::r=>Bb e::f6 r
 end
theorem Vd:∀k,f6 k=k.map Bb
 | []=>rfl
 | e::r=>by rw [f6,Vd r];rfl
theorem Ti (e:Expr):Bb e=if (e.kids.length:Int)==0 then e else Ir e.op e.text (e.kids.map Bb):=by
 cases e with
 | mk o t v k=>rw [Bb,Vd];rfl
/-- What a trimmed tree keeps. -/
structure TrimOk (c:List Col) (l:List Val) (x y:Expr):Prop where
 ev:Af c l y=Af c l x
 node:B9 C1 y=true
 rng:B9 Cg y=true
 size:sizeE y≤sizeE x
 depth:depthE y≤depthE x
theorem TrimOk.of {c:List Col} {l:List Val} {x y z:Expr} (h:TrimOk c l x y) (he:Af c l z=Af c l y) (hn:B9 C1 z=true) (hr:B9 Cg z=true) (hs:sizeE z≤sizeE y) (hd:depthE z≤depthE y):TrimOk c l x z:=
 ⟨he.trans h.ev,hn,hr,Jz hs h.size,Jz hd h.depth⟩
theorem Is {v:Val} (hp:C9 v=true) (h:v.kind=0):v=noV:=by
 obtain ⟨k,n,s⟩:=v
 simp only at h
 subst h
 simp [C9] at hp
 rw [hp.1,hp.2];rfl
theorem Tj:∀{l:List Expr} {y:Expr},y∈l→depthE y≤Ea l
 | a::r,y,h=>by
  rw [Ea]
  rcases By.1 h with rfl|h
  ·omega
  have:=Tj h
  omega
theorem R9 {l:List Expr} {y:Expr} (h:y∈l):sizeE y≤C2 l:=by
 obtain ⟨i,hi⟩:=Cf h
 obtain ⟨hlt,rfl⟩:=Ae.1 hi
 exact Lz l hlt
theorem s6 {k:List Expr} {i:Nat} (h:i<k.length):k.getD i A8∈k:=by
 rw [Ch,Al h]
 exact Db h
theorem Oc {f:Expr→Rs} {k:List Expr} {i:Nat} {d:Rs} (h:i<k.length):(k.map f).getD i d=f (k.getD i A8):=by
 rw [Ch,Ch,Ce,Al h]
 rfl
theorem Ke {c:List Col} {l:List Val} {k:Expr} (h:(k.op==1)=true):Af c l k=(k.val,0):=by
 rw [Af,E7]
 unfold Eh
 rw [if_pos h]
theorem o7 {v:Val} (h:C9 v=true) (h0:0≤v.n):C1 (Cs v)=true:=by rw [Gs,Cs,Fk];simp [h,h0]
theorem ct {k:Expr} (h:C1 k=true) (h1:(k.op==1)=true):C9 k.val=true:=by
 have:=Zg h
 unfold J5 at this
 rw [h1] at this
 simpa using this
/-- A node whose kids are trimmed. -/
theorem jy {c:List Col} {l:List Val} (hl:∀v∈l,Fine v) {o:Int} {t:Str} {k:List Expr} (hn:B9 C1 (.mk o t noV k)=true) (hr:B9 Cg (.mk o t noV k)=true) (hk:k≠[]):TrimOk c l (.mk o t noV k) (Ir o t k):=by
 have hself:TrimOk c l (.mk o t noV k) (.mk o t noV k):=⟨rfl,hn,hr,An _,An _⟩
 have hn0:=hn
 rw [B9,Ak] at hn0
 have hr0:=hr
 rw [B9,Ak] at hr0
 obtain ⟨q5,q34,q6,qall⟩:=Jr hn0.1
 have hkl:0<k.length:=List.length_pos_iff.2 hk
 have hkid:∀i,i<k.length→TrimOk c l (k.getD i A8) (k.getD i A8)∧sizeE (k.getD i A8)≤sizeE (.mk o t noV k)∧depthE (k.getD i A8)≤depthE (.mk o t noV k):=fun i hi=>by
  have hm:=s6 hi
  refine ⟨⟨rfl,(Ba _ _).1 hn0.2 _ hm,(Ba _ _).1 hr0.2 _ hm,An _,An _⟩,?_,?_⟩
  ·rw [sizeE];have:=R9 hm;omega
  rw [depthE];have:=Tj hm;omega
 -- a kid that tz to the same is as good
 have hpick:∀i,i<k.length→Af c l (.mk o t noV k)=Af c l (k.getD i A8)→TrimOk c l (.mk o t noV k) (k.getD i A8):=fun i hi he=>by
  obtain ⟨h1,h2,h3⟩:=hkid i hi
  exact ⟨he.symm,h1.node,h1.rng,h2,h3⟩
 have hev:Af c l (.mk o t noV k)=Eh Aj c l o t noV (k.map (Af c l)):=by rw [Af,E7];rfl
 have hreck:TrimOk c l (.mk o t noV k) (match Gw (.mk o t noV k) with|some z=>z|none=>.mk o t noV k):=by
  unfold Gw
  split
  ·rename_i z hz
   split at hz
   ·cases hz
   rename_i hc
   split at hz
   ·cases hz
   rename_i h2
   injection hz with hz
   subst hz
   have hconst:∀y∈k,(y.op==1)=true:=fun y hy=>by
    cases h:y.op==1 with
    | true=>rfl
    | false=>exact absurd (Jv.2 ⟨y,hy,by rw [h];rfl⟩) hc
   simp only [Dj,Ak,decide_eq_true_eq,not_or,bne_iff_ne,ne_eq,Decidable.not_not] at h2
   obtain ⟨he0,hneg⟩:=h2
   have hright:Au (.mk o t noV k)=true:=by
    cases h:Au (.mk o t noV k) with
    | true=>rfl
    | false=>unfold Dh Z7 at he0;rw [h] at he0;cases he0
   have hrow:Kb [] []=true:=by kernel_rfl
   have hm:Dh (.mk o t noV k) [] []=Af [] [] (.mk o t noV k):=X3 hright hrow
   have hfine:Fine (Dh (.mk o t noV k) [] []).1:=by
    rw [hm]
    exact Gk (fun v hv=>by cases hv) _ (Kd _ hn) hr
   have ho2:(o==2)=false:=by
    have hnn:=hn0.1
    rw [Gs,Fk] at hnn
    cases h:o==2 with
    | false=>rfl
    | true =>
     have:o=2:=by simpa using h
     subst this
     simp at hnn
     exact absurd hnn.2.2 (by intro e;exact hk e)
   have hsame:Af c l (.mk o t noV k)=Af [] [] (.mk o t noV k):=by
    have e1:k.map (Af c l)=k.map (Af [] []):=Rn fun y hy=>by rw [Ke (hconst y hy),Ke (hconst y hy)]
    rw [hev,e1,Af,E7]
    show Eh Aj c l o t noV _=Eh Aj [] [] o t noV _
    unfold Eh
    rw [ho2]
    rfl
   have hp:=hfine.plain
   refine ⟨?_,?_,?_,?_,?_⟩
   ·rw [hsame,←hm,Ke (k:=Cs _) rfl]
    show ((Dh (.mk o t noV k) [] []).1,(0:Int))=_
    rw [←he0]
   ·rw [Cj,Ak]
    refine ⟨?_,rfl⟩
    refine o7 hp ?_
    by_cases hk1:(Dh (.mk o t noV k) [] []).1.kind=1
    ·have:¬(Dh (.mk o t noV k) [] []).1.n<0:=fun h=>hneg ⟨by simpa using hk1,h⟩
     omega
    generalize (Dh (.mk o t noV k) [] []).1=v at hp hk1
    unfold C9 at hp
    split at hp
    ·simp at hp;omega
    split at hp
    ·rename_i h;exact absurd (by simpa using h) hk1
    split at hp
    ·simp at hp;omega
    simp at hp;omega
   ·rw [Cj,Ak]
    refine ⟨?_,rfl⟩
    show Cg (Cs _)=true
    unfold Cg
    simp only [Ak,decide_eq_true_eq]
    exact ⟨hfine.lo,hfine.hi⟩
   ·rw [sizeE];show 1≤_;omega
   rw [depthE];show 1≤_;omega
  exact hself
 unfold Ir
 split
 ·rename_i z hz
  split at hz
  ·rename_i h1
   have hc0:=Ke (c:=c) (l:=l) h1
   have hp:=ct (by have:=(hkid 0 hkl).1.node;rw [Cj,Ak] at this;exact this.1) h1
   have hg0:(k.map (Af c l)).getD 0 (noV,0)=((k.getD 0 A8).val,0):=by rw [Oc hkl,hc0]
   have tr:∀{v:Val},(v=C7 true∨v=C7 false∨v=noV)→Az (v,0)=(v,0):=fun {v} h=>by
    rcases h with rfl|rfl|rfl<;>rfl
   unfold Di at hz
   split at hz
   ·rename_i h
    injection hz with hz
    subst hz
    simp only [Ak,beq_iff_eq] at h
    obtain ⟨⟨rfl,rfl⟩,hv⟩:=h
    have h3:k.length=3:=by
     rcases Eb (q6 rfl) with ⟨e,_⟩|⟨e,_⟩|⟨e,_⟩|⟨e,_⟩|⟨e,_⟩|⟨e,_⟩|⟨e,_⟩|⟨_,e⟩
     all_goals first|exact e|exact absurd (show ifW=_ from e) (by decide)
    refine hpick 1 (by omega) ?_
    rw [hev]
    show Dc ifW _ _ _=_
    rw [hg0,hv,Oc (show 1<k.length by omega)]
    rfl
   split at hz
   ·rename_i h
    injection hz with hz
    subst hz
    simp only [Ak,Dj,beq_iff_eq] at h
    obtain ⟨⟨rfl,rfl⟩,hv⟩:=h
    have h3:k.length=3:=by
     rcases Eb (q6 rfl) with ⟨e,_⟩|⟨e,_⟩|⟨e,_⟩|⟨e,_⟩|⟨e,_⟩|⟨e,_⟩|⟨e,_⟩|⟨_,e⟩
     all_goals first|exact e|exact absurd (show ifW=_ from e) (by decide)
    refine hpick 2 (by omega) ?_
    rw [hev]
    show Dc ifW _ _ _=_
    rw [hg0,Oc (show 2<k.length by omega)]
    rcases hv with hv|hv<;>rw [hv]<;>rfl
   split at hz
   ·rename_i h
    injection hz with hz
    subst hz
    simp only [Ak,beq_iff_eq] at h
    obtain ⟨⟨rfl,rfl⟩,hv⟩:=h
    have h3:k.length=2:=by
     rcases Eb (q6 rfl) with ⟨e,_⟩|⟨e,_⟩|⟨e,_⟩|⟨e,_⟩|⟨_,e⟩|⟨e,_⟩|⟨e,_⟩|⟨e,_⟩
     all_goals first|exact e|exact absurd (show Fo=_ from e) (by decide)
    refine hpick 1 (by omega) ?_
    rw [hev]
    show Dc Fo ((k.map (Af c l)).getD 0 (noV,0)) ((k.map (Af c l)).getD 1 (noV,0)) ((k.map (Af c l)).getD 2 (noV,0))=_
    rw [hg0,hv,Oc (show 1<k.length by omega)]
    rfl
   rename_i hnull
   split at hz
   ·rename_i h
    injection hz with hz
    subst hz
    have h':=h
    simp only [Ak,beq_iff_eq] at h
    obtain ⟨rfl,rfl⟩:=h
    have hv:¬(k.getD 0 A8).val.kind=0:=fun e=>hnull (by rw [Is hp e];rfl)
    refine hpick 0 hkl ?_
    rw [hev]
    show Dc Fo ((k.map (Af c l)).getD 0 (noV,0)) ((k.map (Af c l)).getD 1 (noV,0)) ((k.map (Af c l)).getD 2 (noV,0))=_
    rw [hg0,hc0]
    unfold Dc
    simp only [show (Fo==ifW)=false from rfl,show (Fo==Bm)=false from rfl,Bs,if_false]
    rw [if_neg (by simp),if_pos (by simpa using hv)]
   split at hz
   ·rename_i h
    injection hz with hz
    subst hz
    simp only [Ak,Dj,beq_iff_eq] at h
    obtain ⟨rfl,h⟩:=h
    refine hpick 0 hkl ?_
    rcases h with ⟨rfl,hv⟩|⟨rfl,hv⟩
    ·rw [hev]
     show Fw (C7 true) _ _=_
     rw [hg0,hc0,hv]
     rfl
    rw [hev]
    show Fw (C7 false) _ _=_
    rw [hg0,hc0,hv]
    rfl
   cases hz
  cases hz
 exact hreck
theorem X7 {c:List Col} {l:List Val} (hl:∀v∈l,Fine v):∀(n:Nat) (x:Expr),sizeE x≤n→B9 C1 x=true→B9 Cg x=true→TrimOk c l x (Bb x)
 | 0,x,h,_,_=>by rw [Fi] at h;omega
 | n+1,x,h,hn,hr=>by
  rw [Ti]
  split
  ·exact ⟨rfl,hn,hr,An _,An _⟩
  rename_i h0
  have hk0:x.kids≠[]:=fun e=>h0 (by rw [e];rfl)
  have hn0:=hn
  rw [Cj,Ak] at hn0
  have hr0:=hr
  rw [Cj,Ak] at hr0
  have ih:∀y∈x.kids,TrimOk c l y (Bb y):=fun y hy=>by
   obtain ⟨i,hi⟩:=Cf hy
   obtain ⟨hlt,rfl⟩:=Ae.1 hi
   exact X7 hl n _ (by have:=Yb x hlt;omega) ((Ba _ _).1 hn0.2 _ hy) ((Ba _ _).1 hr0.2 _ hy)
  obtain ⟨o,t,v,k⟩:=x
  simp only [Expr.op,Expr.text,Expr.kids] at *
  -- it has kids, so its own value is none
  have hv:v=noV:=by
   have hnn:=hn0.1
   rw [Gs,Fk] at hnn
   split at hnn
   ·rename_i h1
    simp only [Ak,beq_iff_eq] at hnn
    exact absurd (Oq (by have:=hnn.2;omega)) hk0
   split at hnn
   ·cases hnn
   rename_i hb;exact X0 (by simpa using hb)
  subst hv
  have hmem:∀y∈k.map Bb,∃z∈k,y=Bb z:=fun y hy=>by
   obtain ⟨z,hz,rfl⟩:=Dd.1 hy
   exact ⟨z,hz,rfl⟩
  have hn1:B9 C1 (.mk o t noV (k.map Bb))=true:=by
   rw [B9,Ak]
   refine ⟨?_,(Ba _ _).2 fun y hy=>?_⟩
   ·have hnn:=hn0.1
    rw [Gs,Fk] at hnn ⊢
    rw [Bp]
    exact hnn
   obtain ⟨z,hz,rfl⟩:=hmem y hy
   exact (ih z hz).node
  have hr1:B9 Cg (.mk o t noV (k.map Bb))=true:=by
   rw [B9,Ak]
   refine ⟨hr0.1,(Ba _ _).2 fun y hy=>?_⟩
   obtain ⟨z,hz,rfl⟩:=hmem y hy
   exact (ih z hz).rng
  have hT:TrimOk c l (.mk o t noV k) (.mk o t noV (k.map Bb)):=by
   refine ⟨?_,hn1,hr1,?_,?_⟩
   ·rw [Af,Af,E7,E7]
    show Eh Aj c l o t noV ((k.map Bb).map (Af c l))=Eh Aj c l o t noV (k.map (Af c l))
    have e2:k.map (Af c l ∘ Bb)=k.map (Af c l):=Rn fun y hy=>(ih y hy).ev
    rw [Id,e2]
   ·rw [sizeE,sizeE]
    have:∀r:List Expr,(∀y∈r,y∈k)→C2 (r.map Bb)≤C2 r:=fun r=>by
     induction r with
     | nil=>intro _;exact An _
     | cons y r ihr =>
      intro hs
      rw [Dk,C2,C2]
      have h1:=(ih y (hs y Jx)).size
      have h2:=ihr fun z hz=>hs z (Lq _ hz)
      omega
    have:=this k fun _ h=>h
    omega
   rw [depthE,depthE]
   have:∀r:List Expr,(∀y∈r,y∈k)→Ea (r.map Bb)≤Ea r:=fun r=>by
    induction r with
    | nil=>intro _;exact An _
    | cons y r ihr =>
     intro hs
     rw [Dk,Ea,Ea]
     have h1:=(ih y (hs y Jx)).depth
     have h2:=ihr fun z hz=>hs z (Lq _ hz)
     omega
   have:=this k fun _ h=>h
   omega
  have h2:=jy (c:=c) hl hn1 hr1 (by simpa using hk0)
  exact hT.of h2.ev h2.node h2.rng h2.size h2.depth
/-! What the signs of bits tell. -/
theorem Tk (x:BitVec 64):IntKind.i64.wrap (x.toNat:Int)=x.toInt:=by
 rw [IntKind.wrap_i64,BitVec.toInt_eq_toNat_cond]
 have:=x.isLt
 split<;>omega
theorem M4 {m:Int} (h0 : -9223372036854775808≤m) (h1:m≤9223372036854775807):(BitVec.ofInt 64 m).msb=decide (m<0):=by
 rw [BitVec.msb_eq_toInt,BitVec.toInt_ofInt]
 congr 1
 have:m.bmod (2 ^ 64)=m:=by
  rw [Int.bmod_eq_of_le]<;>omega
 rw [this]
theorem Zj {m n:Int} (m0 : -9223372036854775808≤m) (m1:m≤9223372036854775807) (n0 : -9223372036854775808≤n) (n1:n≤9223372036854775807):decide (Pw .i64 m n<0)=(decide (m<0)&&decide (n<0)):=by
 have e:Pw .i64 m n=(BitVec.ofInt 64 m &&& BitVec.ofInt 64 n).toInt:=Tk _
 rw [e,←BitVec.msb_eq_toInt,BitVec.msb_and,M4 m0 m1,M4 n0 n1]
theorem Od {m n:Int} (m0 : -9223372036854775808≤m) (m1:m≤9223372036854775807) (n0 : -9223372036854775808≤n) (n1:n≤9223372036854775807):decide (Kj .i64 m n<0)=(decide (m<0) ^^ decide (n<0)):=by
 have e:Kj .i64 m n=(BitVec.ofInt 64 m ^^^ BitVec.ofInt 64 n).toInt:=Tk _
 rw [e,←BitVec.msb_eq_toInt,BitVec.msb_xor,M4 m0 m1,M4 n0 n1]
theorem Ht (m n:Int) : -9223372036854775808≤Kj .i64 m n∧Kj .i64 m n≤9223372036854775807:=Hh _
/-- num.Add: the sum, where 64 bits hold it. -/
theorem f7 {a b:Int} (a0 : -9223372036854775808≤a) (a1:a≤9223372036854775807) (b0 : -9223372036854775808≤b) (b1:b≤9223372036854775807):N9 a b=if -9223372036854775808≤a+b∧a+b≤9223372036854775807 then (a+b,0) else (0,4):=by
 have hw:=IntKind.wrap_i64 (a+b)
 have hc:=Hh (a+b)
 unfold N9
 generalize IntKind.i64.wrap (a+b)=c at hw hc ⊢
 rw [Zj (Ht _ _).1 (Ht _ _).2 (Ht _ _).1 (Ht _ _).2,Od a0 a1 hc.1 hc.2,Od b0 b1 hc.1 hc.2]
 by_cases ha:a<0<;>by_cases hb:b<0<;>by_cases hcn:c<0<;>simp [ha,hb,hcn]<;>(try split)<;>(try simp)<;>omega
/-- num.Sub. -/
theorem Ra {a b:Int} (a0 : -9223372036854775808≤a) (a1:a≤9223372036854775807) (b0 : -9223372036854775808≤b) (b1:b≤9223372036854775807):Gv a b=if -9223372036854775808≤a-b∧a-b≤9223372036854775807 then (a-b,0) else (0,4):=by
 have hw:=IntKind.wrap_i64 (a-b)
 have hc:=Hh (a-b)
 unfold Gv
 generalize IntKind.i64.wrap (a-b)=c at hw hc ⊢
 rw [Zj (Ht _ _).1 (Ht _ _).2 (Ht _ _).1 (Ht _ _).2,Od a0 a1 b0 b1,Od a0 a1 hc.1 hc.2]
 by_cases ha:a<0<;>by_cases hb:b<0<;>by_cases hcn:c<0<;>simp [ha,hb,hcn]<;>(try split)<;>(try simp)<;>omega
set_option maxRecDepth 4000
/-! Every number that is printed is read. -/
theorem s7 {u:Nat} (hu:1≤u):((Lib.decDigits u).headD 0==48)=false:=by
 by_cases h:u<10
 ·rw [Lib.decDigits_one h]
  have h9:u=1∨u=2∨u=3∨u=4∨u=5∨u=6∨u=7∨u=8∨u=9:=by omega
  rcases h9 with rfl|rfl|rfl|rfl|rfl|rfl|rfl|rfl|rfl<;>rfl
 obtain ⟨c,r,e,h0⟩:=T9 u
 rw [e]
 have:(c==48)=false:=by simpa using h0 (by omega)
 simp [this]
theorem s8 {u:Nat} (h1:1≤u) (h2:u≤9223372036854775808):Bo (45::Lib.decDigits u)=(-(u:Int),0):=by
 obtain ⟨c,r,e,_⟩:=T9 u
 have hd:Kk (45::Lib.decDigits u)=Lib.decDigits u:=by
  unfold Kk Lib.trimPrefix;simp [Lib.hasPrefix]
 have hb:Ga (45::Lib.decDigits u)=false:=by
  unfold Ga
  rw [hd,s7 h1]
  have a1:(Lib.decDigits u==[])=false:=by rw [e];rfl
  have a2:Lib.trimS (Lib.decDigits u) digs=[]:=by
   unfold Lib.trimS Lib.trimRightS
   have:(Lib.decDigits u).reverse.dropWhile (fun x=>digs.contains x)=[]:=by
    rw [Wl]
    intro b hb
    exact X1 u b (by simpa using hb)
   rw [this]
   rfl
  rw [a1,a2]
  rfl
 have hp:Lib.parseIntB 64 (45::Lib.decDigits u)=.ok (-(u:Int)):=by
  have hu:Lib.parseUintB 64 (Lib.decDigits u)=.ok u:=by
   unfold Lib.parseUintB
   rw [if_neg (by rw [e];simp)]
   exact Ta (by decide) u (by
    have:(2:Nat) ^ 64-1=18446744073709551615:=by decide
    omega)
  have e63:(2:Nat) ^ (64-1)=9223372036854775808:=by decide
  have e45:(45:UInt8).toNat=45:=rfl
  simp only [Lib.parseIntB,e45,or_true,if_true,hu,e63]
  simp
  omega
 unfold Bo
 rw [hb,hp]
 rfl
theorem s9 {n:Int} (h0 : -9223372036854775808≤n) (h1:n≤9223372036854775807):Bo (Lib.itoa n)=(n,0):=by
 by_cases h:0≤n
 ·obtain ⟨u,rfl⟩:∃u:Nat,n=(u:Int):=⟨n.toNat,by omega⟩
  have e0:Lib.itoa (u:Int)=Lib.decDigits u:=by unfold Lib.itoa;rw [if_neg (by omega)];simp
  rw [e0,rq u (by omega)]
 obtain ⟨u,rfl⟩:∃u:Nat,n = -(u:Int):=⟨n.natAbs,by omega⟩
 have e0:Lib.itoa (-(u:Int))=45::Lib.decDigits u:=by unfold Lib.itoa;rw [if_pos (by omega)];simp
 rw [e0,s8 (by omega) (by omega)]
set_option maxRecDepth 8000
/-! The tree back: invert's model. -/
def Kf:Str:=[115,116,114]
def X8:Str:=[110,117,109]
def Jf:Str:=[108,101,110]
def Qi:Str:=[108,101,102,116]
def Lm:Str:=[114,105,103,104,116]
def G4 (x:Expr) (t:Str) (y:Expr):Expr:=.mk 5 t noV [x,y]
def D6 (t:Str) (l:List Expr):Expr:=.mk 6 t noV l
def Jg (x:Expr):Bool:=decide (0<(Ka x).length)
/-- The kid with the name, the other one, and whether that tz first. -/
structure Sd where
 e:Expr
 c:Expr
 first:Bool
def Hy (x:Expr):Option Sd:=match x.kids with
 | [a]=>if Jg a then some ⟨a,A8,false⟩ else none
 | [a,b]=>if Jg a==Jg b then none else if Jg a then some ⟨a,b,false⟩ else some ⟨b,a,true⟩
 | _=>none
def Ln (x:Expr) (k:Int):Option Val:=if (Au x&&((Bb x).op==1))&&((Bb x).val.kind==k) then some (Bb x).val else none
def o8 (t:Str) (s:Sd) (y:Expr):Option Expr:=match Ln s.c 1 with
 | none=>none
 | some v=>some (if t==[43] then G4 y [45] (Cs v) else if s.first then G4 (Cs v) [45] y else G4 y [43] (Cs v))
def Zk (s:Sd) (y:Expr):Option Expr:=match Ln s.c 2 with
 | none=>none
 | some v=>some (D6 (if s.first then Lm else Qi) [y,G4 (D6 Jf [y]) [45] (Cs ⟨1,(v.s.length:Int),[]⟩)])
def Oe (x:Expr) (s:Sd) (y:Expr):Option Expr:=
 if (x.op==3) || (x.op==4) then some (.mk x.op [] noV [y])
 else if (x.op==6)&&(x.text==Kf) then some (D6 X8 [y])
 else if (x.op==5)&&((x.text==[43]) || (x.text==[45])) then o8 x.text s y
 else if (x.op==5)&&(x.text==[38]) then Zk s y
 else none
def Ei (x y:Expr):Option (Expr×Expr):=match Hy x with
 | none=>none
 | some s=>match Oe x s y with
  | none=>none
  | some z=>if Au z then some (s.e,z) else none
/-- The last that peel yields. -/
def E8:Nat→Expr→Expr→Expr×Expr
 | 0,x,y=>(x,y)
 | n+1,x,y=>if x.op==2 then (x,y) else match Ei x y with
  | none=>(x,y)
  | some p=>E8 n p.1 p.2
/-! Values by their kinds. -/
theorem Zl {v:Val} (h:Fine v) (hk:v.kind=1):v=⟨1,v.n,[]⟩:=by
 obtain ⟨k,n,s⟩:=v
 simp only at hk;subst hk
 have:=h.plain
 simp [C9] at this
 rw [this]
theorem Qj {v:Val} (h:Fine v) (hk:v.kind=2):v=⟨2,0,v.s⟩∧v.s.length≤200:=by
 obtain ⟨k,n,s⟩:=v
 simp only at hk;subst hk
 have:=h.plain
 simp [C9] at this
 exact ⟨by rw [this.1],by show s.length≤200;have:=this.2;omega⟩
theorem zl {v:Val} (h:Fine v) (hk:v.kind=3):C7 ((C7 (v.n==0)).n==0)=v:=by
 obtain ⟨k,n,s⟩:=v
 simp only at hk;subst hk
 have:=h.plain
 simp [C9] at this
 obtain ⟨⟨rfl,h0⟩,h1⟩:=this
 have:n=0∨n=1:=by omega
 rcases this with rfl|rfl<;>rfl
/-! p8 of one kid, and of two. -/
theorem w7 {f:List Val→Rs} {r:Rs} {v:Val} (h:D9 f [r]=(v,0)) (hr:Fine r.1):r.2=0∧((r.1=noV∧v=noV)∨(r.1.kind≠0∧f [r.1]=(v,0))):=by
 unfold D9 at h
 by_cases h2:r.2=0
 ·refine ⟨h2,?_⟩
  by_cases hk:r.1.kind=0
  ·simp [h2,hk] at h
   exact .inl ⟨Is hr.plain hk,h.symm⟩
  simp [h2,hk] at h
  exact .inr ⟨hk,h⟩
 simp [h2,Br] at h
theorem jz {f:List Val→Rs} {a b:Rs} {v:Val} (h:D9 f [a,b]=(v,0)):a.2=0∧b.2=0∧(((a.1.kind=0∨b.1.kind=0)∧v=noV)∨(a.1.kind≠0∧b.1.kind≠0∧f [a.1,b.1]=(v,0))):=by
 unfold D9 at h
 by_cases ha:a.2=0
 ·by_cases hb:b.2=0
  ·refine ⟨ha,hb,?_⟩
   by_cases hk:a.1.kind=0
   ·simp [ha,hb,hk] at h
    exact .inl ⟨.inl hk,h.symm⟩
   by_cases hk2:b.1.kind=0
   ·simp [ha,hb,hk2] at h
    exact .inl ⟨.inr hk2,h.symm⟩
   simp [ha,hb,hk,hk2] at h
   exact .inr ⟨hk,hk2,h⟩
  simp [ha,hb,Br] at h
 simp [ha,Br] at h
theorem mk1 {f:List Val→Rs} {v:Val} (hk:v.kind≠0):D9 f [(v,0)]=f [v]:=by unfold D9;simp [hk]
theorem zm {f:List Val→Rs}:D9 f [(noV,0)]=(noV,0):=by unfold D9;simp [noV]
theorem mk2 {f:List Val→Rs} {a b:Val} (ha:a.kind≠0) (hb:b.kind≠0):D9 f [(a,0),(b,0)]=f [a,b]:=by unfold D9;simp [ha,hb]
theorem sa {f:List Val→Rs} {b:Val}:D9 f [(noV,0),(b,0)]=(noV,0):=by unfold D9;simp [noV]
theorem ABp {f:List Val→Rs} {a:Val}:D9 f [(a,0),(noV,0)]=(noV,0):=by unfold D9;simp [noV]
theorem f8 {c:List Col} {l:List Val} {o:Int} {t:Str} {w:Val} {k:List Expr} (ho:o=3∨o=4):Af c l (.mk o t w k)=D9 (Aj o t) (k.map (Af c l)):=by
 show D5 Aj c l _=_
 rw [E7]
 unfold Eh
 rcases ho with rfl|rfl<;>rfl
theorem Rb {c:List Col} {l:List Val} {t:Str} {w:Val} {k:List Expr} (ht:(((t==ifW) || (t==Fo)) || (t==Bm))=false):Af c l (.mk 6 t w k)=D9 (Aj 6 t) (k.map (Af c l)):=by
 show D5 Aj c l _=_
 rw [E7]
 show Eh Aj c l 6 t w (k.map _)=_
 unfold Eh
 rw [if_neg (by decide),if_neg (by decide),if_neg (by simp),if_neg (by simp),if_neg (by rw [ht];simp)]
theorem Jh {c:List Col} {l:List Val} {t:Str} {w:Val} {k:List Expr} (h1:(t==orW)=false) (h2:(t==Pq)=false):Af c l (.mk 5 t w k)=D9 (Aj 5 t) (k.map (Af c l)):=by
 show D5 Aj c l _=_
 rw [E7]
 show Eh Aj c l 5 t w (k.map _)=_
 unfold Eh
 rw [if_neg (by decide),if_neg (by decide),if_neg (by rw [h1];simp),if_neg (by rw [h2];simp),if_neg (by simp)]
theorem X9 {c:List Col} {l:List Val} {v:Val}:Af c l (Cs v)=(v,0):=by
 show D5 Aj c l _=_
 rw [E7];rfl
/-! A node of a value: what its kid is, of what it tz to. -/
theorem Tl {x:Int×Int} {v:Val} (h:E4 x=(v,0)):x.2=0∧v=⟨1,x.1,[]⟩:=by
 unfold E4 at h
 by_cases h2:x.2=0
 ·simp [h2] at h;exact ⟨h2,h.symm⟩
 simp [h2,Br] at h
theorem f9 (a b:Val):Gd [43] a b=if !Bi [a,b] [1,1] then Br 10 else E4 (N9 a.n b.n):=rfl
theorem fc (a b:Val):Gd [45] a b=if !Bi [a,b] [1,1] then Br 10 else E4 (Gv a.n b.n):=rfl
theorem o9 (a b:Val):Gd [38] a b=Jp a b:=rfl
theorem M5 {a b:Val} {x y:Int} (h:Bi [a,b] [x,y]=true):a.kind=x∧b.kind=y:=by
 simp [Bi] at h;exact h
theorem oa {a b v:Val} (fa:Fine a) (fb:Fine b) (h:Gd [43] a b=(v,0)):a.kind=1∧b.kind=1∧v=⟨1,a.n+b.n,[]⟩:=by
 rw [f9] at h
 cases hk:Bi [a,b] [1,1] with
 | false=>rw [hk] at h;simp [Br] at h
 | true =>
  rw [hk] at h
  obtain ⟨h1,h2⟩:=Tl (by simpa using h)
  rw [f7 fa.lo fa.hi fb.lo fb.hi] at h1 h2
  split at h1
  ·rename_i hr;rw [if_pos hr] at h2;exact ⟨(M5 hk).1,(M5 hk).2,h2⟩
  cases h1
theorem ob {a b v:Val} (fa:Fine a) (fb:Fine b) (h:Gd [45] a b=(v,0)):a.kind=1∧b.kind=1∧v=⟨1,a.n-b.n,[]⟩:=by
 rw [fc] at h
 cases hk:Bi [a,b] [1,1] with
 | false=>rw [hk] at h;simp [Br] at h
 | true =>
  rw [hk] at h
  obtain ⟨h1,h2⟩:=Tl (by simpa using h)
  rw [Ra fa.lo fa.hi fb.lo fb.hi] at h1 h2
  split at h1
  ·rename_i hr;rw [if_pos hr] at h2;exact ⟨(M5 hk).1,(M5 hk).2,h2⟩
  cases h1
theorem w8 {a b:Val} (fa:Fine a) (fb:Fine b) (ha:a.kind=1) (hb:b.kind=1) (h0 : -9223372036854775808≤a.n+b.n) (h1:a.n+b.n≤9223372036854775807):Gd [43] a b=(⟨1,a.n+b.n,[]⟩,0):=by
 have hk:Bi [a,b] [1,1]=true:=by simp [Bi,ha,hb]
 rw [f9,hk,f7 fa.lo fa.hi fb.lo fb.hi,if_neg (by simp),if_pos ⟨h0,h1⟩];rfl
theorem cu {a b:Val} (fa:Fine a) (fb:Fine b) (ha:a.kind=1) (hb:b.kind=1) (h0 : -9223372036854775808≤a.n-b.n) (h1:a.n-b.n≤9223372036854775807):Gd [45] a b=(⟨1,a.n-b.n,[]⟩,0):=by
 have hk:Bi [a,b] [1,1]=true:=by simp [Bi,ha,hb]
 rw [fc,hk,Ra fa.lo fa.hi fb.lo fb.hi,if_neg (by simp),if_pos ⟨h0,h1⟩];rfl
theorem Xa {s:Str} (h:s.length≤200):Pp s=⟨2,0,s⟩:=by unfold Pp;rw [G5 h]
theorem fe {a b v:Val} (h:Gd [38] a b=(v,0)):a.kind=2∧b.kind=2∧a.s.length+b.s.length≤200∧v=⟨2,0,a.s++b.s⟩:=by
 rw [o9] at h
 unfold Jp at h
 cases hk:Bi [a,b] [2,2] with
 | false=>rw [hk] at h;simp [Br] at h
 | true =>
  rw [hk] at h
  by_cases hl:(200:Int)<(a.s.length:Int)+(b.s.length:Int)
  ·simp [hl,Br] at h
  have hl2:a.s.length+b.s.length≤200:=by omega
  simp [hl] at h
  exact ⟨(M5 hk).1,(M5 hk).2,hl2,by rw [←h,Xa (by simpa using hl2)]⟩
/-! The constants. -/
theorem Tm {c:List Col} {l:List Val} (hl:∀v∈l,Fine v) {x:Expr} {k:Int} {w:Val} (hn:B9 C1 x=true) (hr:B9 Cg x=true) (h:Ln x k=some w):Af c l x=(w,0)∧w.kind=k∧Fine w:=by
 unfold Ln at h
 split at h
 ·rename_i hc
  simp only [Ak,beq_iff_eq] at hc
  injection h with h
  have ht:=X7 (c:=c) hl _ x (An _) hn hr
  have e:Af c l (Bb x)=((Bb x).val,0):=by
   show D5 Aj c l _=_
   rw [E7]
   unfold Eh
   rw [hc.1.2];rfl
  have e2:Af c l x=(w,0):=by rw [←ht.ev,e,h]
  have hf:=Gk (c:=c) hl x (Kd x hn) hr
  rw [e2] at hf
  exact ⟨e2,by rw [←h];exact hc.2,hf⟩
 cases h
theorem J7 {x:Expr} {s:Sd} (h:Hy x=some s):x.kids=[s.e]∨(x.kids=[s.e,s.c]∧s.first=false)∨(x.kids=[s.c,s.e]∧s.first=true):=by
 unfold Hy at h
 split at h
 ·rename_i a hk
  split at h
  ·injection h with h;subst h;exact .inl hk
  cases h
 ·rename_i a b hk
  split at h
  ·cases h
  split at h
  ·injection h with h;subst h;exact .inr (.inl ⟨hk,rfl⟩)
  injection h with h;subst h;exact .inr (.inr ⟨hk,rfl⟩)
 cases h
/-! The words of a print. -/
/-! A text between marks. -/
/-! The print of a tree, and its words. -/
def Kp (least:Nat) (x:Expr) (s:Str):Str:=if least≤levE x then s else 40::(s++[41])
def Gl:List Str→Str
 | []=>[]
 | s::r=>44::32::(s++Gl r)
def Of (o:Int) (t:Str) (v:Val) (k:List Expr) (ss:List Str):Str:=
 if o==1 then Fh v else if o==2 then t
 else if o==3 then 45::Kp 6 (k.getD 0 A8) (ss.getD 0 [])
 else if o==4 then ji++32::Kp 2 (k.getD 0 A8) (ss.getD 0 [])
 else if o==5 then Kp (Gt (Bj t).toNat) (k.getD 0 A8) (ss.getD 0 [])++32::(t++32::Kp ((Bj t).toNat+1) (k.getD 1 A8) (ss.getD 1 []))
 else t++40::((Gl ss).drop 2++[41])
mutual
def B0:Expr→Str
 | .mk o t v k=>Of o t v k (Lo k)
def Lo:List Expr→List Str
  | []=>[]
  | e::r=>B0 e::Lo r
 end
theorem Ng:∀l,Lo l=l.map B0
 | []=>rfl
 | e::r=>by rw [Lo,Ng r];rfl
theorem w9 (v:Val):B0 (Cs v)=Fh v:=by simp [Cs,B0,Of]
theorem sb (t:Str):B0 (B6 t)=t:=by simp [B6,B0,Of]
theorem wc (a:Expr):B0 (F1 3 a)=45::Kp 6 a (B0 a):=by simp [F1,B0,Lo,Of]
theorem zn (a:Expr):B0 (F1 4 a)=ji++32::Kp 2 a (B0 a):=by simp [F1,B0,Lo,Of]
theorem wd (t:Str) (a b:Expr):B0 (Gx t a b)=Kp (Gt (Bj t).toNat) a (B0 a)++32::(t++32::Kp ((Bj t).toNat+1) b (B0 b)):=by simp [Gx,B0,Lo,Of]
theorem sc (t:Str) (k:List Expr):B0 (.mk 6 t noV k)=t++40::((Gl (Lo k)).drop 2++[41]):=by simp [B0,Of]
/-! What was parsed nests no deeper than may be. -/
/-! What nests too deep is told to be too deep. -/
def F2 (l:List Tok) (x:Expr):Prop:=∀(k:Nat) (S:PS) (rest:List TK),(k=0∨k=1∨k=4∨k=5)→k≤levE x→S.code=0→S.nest≤30→30<S.nest+er x→seg l S.i=T7 x++rest→nl (k+1) rest→(Fb l (ofL k) (pf l (fam l S.nest) (k+1)) S).2.code=18
/-! What was parsed is right, where the words are the lexer's. -/
/-! The lexer's words. -/
/-! The parse laws where nothing is too deep. -/
/-! The parser from a word on, and of a source. -/
/-! Other trees have other words, and other prints. -/
/-! The laws of printing. -/
/-- show.Print. -/
def Qk (x:Expr):Str×Int:=if !(Au x) then ([],1) else if decide ((4000:Int)<((B0 x).length:Int)) then ([],3) else (B0 x,0)
theorem It {x:Expr} (h:Eg x=true):B9 C1 x=true:=by
 unfold Eg at h
 rw [Ak] at h
 exact h.2
/-! How long a print is. -/
theorem cv {v:Val} (hp:C9 v=true) (hi:qn v.n):(Fh v).length≤402:=by
 unfold Fh
 rw [hp]
 simp only [Ib,Bs,if_false]
 split
 ·have:=Lib.itoa_length_le v.n hi.1 hi.2
  omega
 split
 ·rename_i h1 h2
  rw [Qc]
  have h3:=Yq v.s
  have h4:v.s.length≤200:=by
   have k2:v.kind=2:=by simpa using h2
   simp [C9,k2] at hp
   omega
  simp
  omega
 split
 ·simp
 split<;>simp
theorem Rc (k:Nat) (x:Expr) (s:Str):(Kp k x s).length≤s.length+2:=by
 unfold Kp
 split<;>simp
theorem Zm {t:Str} (h:0≤Bj t):t.length≤3:=by
 rcases Hq t with hm|⟨hm,_⟩
 ·have h3:(levels.flatten.all fun s=>decide (s.length≤3))=true:=by kernel_rfl
  exact of_decide_eq_true (B2.1 h3 t hm)
 omega
theorem Tn {t:Str} {n:Nat} (h:Bx t=(n:Int)):t.length≤6:=by
 rcases Eb h with ⟨e,_⟩|⟨e,_⟩|⟨e,_⟩|⟨e,_⟩|⟨e,_⟩|⟨e,_⟩|⟨e,_⟩|⟨e,_⟩<;>rw [e]<;>decide
theorem oc {k:List Expr} (h:∀y∈k,(B0 y).length+10≤440*sizeE y):(Gl (k.map B0)).length≤440*C2 k:=by
 induction k with
 | nil=>simp [Gl]
 | cons y r ih =>
  have h1:=h y Jx
  have h2:=ih (fun z hz=>h z (Lq _ hz))
  simp only [Dk,Gl,C2,Ay,As]
  omega
theorem Ve:∀(n:Nat) (e:Expr),sizeE e≤n→B9 C1 e=true→B9 Cg e=true→(B0 e).length+10≤440*sizeE e
 | 0,e,h,_,_=>by rw [Fi] at h;omega
 | n+1,e,h,hn,hr=>by
  rw [Cj,Ak] at hn hr
  have hk:∀y∈e.kids,(B0 y).length+10≤440*sizeE y:=fun y hy=>by
   obtain ⟨i,hi⟩:=Cf hy
   obtain ⟨hlt,rfl⟩:=Ae.1 hi
   exact Ve n _ (by have:=Yb e hlt;omega) ((Ba _ _).1 hn.2 _ hy) ((Ba _ _).1 hr.2 _ hy)
  have hi:qn e.val.n:=by
   have:=hr.1
   simp only [Cg,Ak,decide_eq_true_eq] at this
   exact this
  rw [Fi]
  cases Gc hn.1 with
  | val v hp h0 =>
   rw [w9]
   have:=cv hp (v:=v) hi
   simp only [Cs,Expr.kids,C2]
   omega
  | name t ht =>
   rw [sb]
   have:t.length≤16:=by
    cases t with
    | nil=>simp
    | cons c r =>
     simp only [J3,Ak,decide_eq_true_eq] at ht
     exact ht.1.1.1
   simp only [B6,Expr.kids,C2]
   omega
  | neg a =>
   rw [wc]
   have h1:=Rc 6 a (B0 a)
   have h2:=hk a (by simp [F1,Expr.kids])
   simp only [F1,Expr.kids,C2,Ay]
   omega
  | no a =>
   rw [zn]
   have h1:=Rc 2 a (B0 a)
   have h2:=hk a (by simp [F1,Expr.kids])
   simp only [F1,Expr.kids,C2,Ay,As,ji,Bn]
   omega
  | bin t a b ht =>
   rw [wd]
   have h1:=Rc (Gt (Bj t).toNat) a (B0 a)
   have h2:=Rc ((Bj t).toNat+1) b (B0 b)
   have h3:=hk a (by simp [Gx,Expr.kids])
   have h4:=hk b (by simp [Gx,Expr.kids])
   have h5:=Zm ht
   simp only [Gx,Expr.kids,C2,Ay,As]
   omega
  | call t k ha =>
   rw [sc]
   have h1:=Tn ha
   have h2:=oc (k:=k) hk
   rw [←Ng] at h2
   simp only [Expr.kids,Ay,As,Fd,Bn]
   omega
theorem Zn {e:Expr} (hr:Eg e=true) (hg:B9 Cg e=true):(B0 e).length≤132000:=by
 have h1:=It hr
 have h2:sizeE e≤300:=by
  unfold Eg at hr
  simp only [Ak,decide_eq_true_eq] at hr
  exact hr.1.2
 have:=Ve _ e (An _) h1 hg
 omega
/-! One step of peel keeps what the trees come to. -/
/-- What a node's value says of its kid's, and back. -/
def Kn (c c':List Col) (l l':List Val) (e z:Expr):Prop:=∃w,Af c l e=(w,0)∧Af c' l' z=(w,0)
variable {c c':List Col} {l l':List Val}
theorem Fc {r:Rs} {w:Val} (h1:r.1=w) (h2:r.2=0):r=(w,0):=by rw [←h1,←h2]
theorem od {e y:Expr} {t:Str} {w0 v:Val} (hf:Fine (Af c l e).1) (hv:Af c l (.mk 3 t w0 [e])=(v,0)) (hy:Af c' l' y=(v,0)):Kn c c' l l' e (.mk 3 [] noV [y]):=by
 rw [f8 (.inl rfl)] at hv
 have hz:Af c' l' (.mk 3 [] noV [y])=D9 (Aj 3 []) [Af c' l' y]:=f8 (.inl rfl)
 obtain ⟨h2,h|h⟩:=w7 hv hf
 ·exact uv
 obtain ⟨hk,hs⟩:=h
 generalize hr:(Af c l e).1=r at hf hk hs
 by_cases h1:r.kind=1
 ·have e1:Aj 3 t [r]=E4 (Gv 0 r.n):=by
   unfold Aj
   rw [if_neg (by decide),if_pos (by simp [Bi,h1])];rfl
  rw [e1] at hs
  obtain ⟨g1,g2⟩:=Tl hs
  rw [Ra (by decide) (by decide) hf.lo hf.hi] at g1 g2
  split at g1
  ·rename_i hrg
   rw [if_pos hrg] at g2
   refine ⟨r,Fc hr h2,?_⟩
   have hv1:v.kind≠0:=by rw [g2];show (1:Int)≠0;decide
   have hn:v.n=0-r.n:=by rw [g2]
   rw [hz,hy,mk1 hv1]
   have e2:Aj 3 [] [v]=E4 (Gv 0 v.n):=by
    unfold Aj
    rw [if_neg (by decide),if_pos (by rw [g2];rfl)];rfl
   rw [e2,Ra (by decide) (by decide) (by omega) (by omega),if_pos (by rw [hn];have:=hf.lo;have:=hf.hi;omega),hn]
   show (⟨1,0-(0-r.n),[]⟩,0)=(r,(0:Int))
   rw [show (0:Int)-(0-r.n)=r.n by omega,←Zl hf h1]
  cases g1
 have e1:Aj 3 t [r]=Br 10:=by
  unfold Aj
  rw [if_neg (by decide),if_neg (by simp [Bi,h1]),if_neg (by simp),if_pos (by decide)]
 rw [e1] at hs;cases hs
theorem oe {e y:Expr} {t:Str} {w0 v:Val} (hf:Fine (Af c l e).1) (hv:Af c l (.mk 4 t w0 [e])=(v,0)) (hy:Af c' l' y=(v,0)):Kn c c' l l' e (.mk 4 [] noV [y]):=by
 rw [f8 (.inr rfl)] at hv
 have hz:Af c' l' (.mk 4 [] noV [y])=D9 (Aj 4 []) [Af c' l' y]:=f8 (.inr rfl)
 obtain ⟨h2,h|h⟩:=w7 hv hf
 ·exact uv
 obtain ⟨hk,hs⟩:=h
 generalize hr:(Af c l e).1=r at hf hk hs
 by_cases h1:r.kind=3
 ·have e1:Aj 4 t [r]=(C7 (r.n==0),0):=by
   unfold Aj
   rw [if_neg (by decide),if_neg (by simp),if_pos (by simp [Bi,h1])];rfl
  rw [e1] at hs
  injection hs with hs
  refine ⟨r,Fc hr h2,?_⟩
  rw [hz,hy,←hs,mk1 (by show (3:Int)≠0;decide)]
  have e2:Aj 4 [] [C7 (r.n==0)]=(C7 ((C7 (r.n==0)).n==0),0):=by
   unfold Aj
   rw [if_neg (by decide),if_neg (by simp),if_pos (by rfl)];rfl
  rw [e2,zl hf h1]
 have e1:Aj 4 t [r]=Br 10:=by
  unfold Aj
  rw [if_neg (by decide),if_neg (by simp),if_neg (by simp [Bi,h1]),if_pos (by decide)]
 rw [e1] at hs;cases hs
theorem og {e y:Expr} {w0 v:Val} (hf:Fine (Af c l e).1) (hv:Af c l (.mk 6 Kf w0 [e])=(v,0)) (hy:Af c' l' y=(v,0)):Kn c c' l l' e (D6 X8 [y]):=by
 rw [Rb (by decide)] at hv
 have hz:Af c' l' (D6 X8 [y])=D9 (Aj 6 X8) [Af c' l' y]:=Rb (by decide)
 obtain ⟨h2,h|h⟩:=w7 hv hf
 ·exact uv
 obtain ⟨hk,hs⟩:=h
 generalize hr:(Af c l e).1=r at hf hk hs
 have e1:Aj 6 Kf [r]=F5 Kf r:=rfl
 rw [e1] at hs
 by_cases h1:r.kind=1
 ·have hlen:=Lib.itoa_length_le r.n hf.lo hf.hi
  have e2:F5 Kf r=(Pp (Lib.itoa r.n),0):=by
   unfold F5;rw [if_pos (by simp [Kf,h1])]
  rw [e2,Xa (by omega)] at hs
  injection hs with hs
  refine ⟨r,Fc hr h2,?_⟩
  rw [hz,hy,←hs,mk1 (by show (2:Int)≠0;decide)]
  have e3:Aj 6 X8 [⟨2,0,Lib.itoa r.n⟩]=E4 (Bo (Lib.itoa r.n)):=rfl
  rw [e3,s9 hf.lo hf.hi]
  show (⟨1,r.n,[]⟩,0)=(r,(0:Int))
  rw [←Zl hf h1]
 have e2:F5 Kf r=Br 10:=by
  unfold F5
  rw [if_neg (by simp [h1]),if_neg (by simp [Kf]),if_neg (by simp [Kf])]
 rw [e2] at hs;cases hs
/-! Steps over nodes of two kids, one of them a constant. -/
variable {c c':List Col} {l l':List Val}
theorem sd {t:Str} {a b:Val}:Aj 5 t [a,b]=Gd t a b:=rfl
/-- e + k -/
theorem oh {e k y:Expr} {w0 v w:Val} (hf:Fine (Af c l e).1) (hw:Af c l k=(w,0)) (hwk:w.kind=1) (fw:Fine w) (fv:Fine v) (hv:Af c l (.mk 5 [43] w0 [e,k])=(v,0)∨Af c l (.mk 5 [43] w0 [k,e])=(v,0)) (hy:Af c' l' y=(v,0)):Kn c c' l l' e (G4 y [45] (Cs w)):=by
 have hz:Af c' l' (G4 y [45] (Cs w))=D9 (Aj 5 [45]) [(v,0),(w,0)]:=by
  rw [←hy,←X9 (c:=c') (l:=l') (v:=w)];exact Jh (by decide) (by decide)
 have key:(Af c l e).2=0∧(((Af c l e).1.kind=0∧v=noV)∨((Af c l e).1.kind=1∧v=⟨1,(Af c l e).1.n+w.n,[]⟩)):=by
  rcases hv with hv|hv
  ·have hv:D9 (Aj 5 [43]) [Af c l e,Af c l k]=(v,0):=(Jh (by decide) (by decide)).symm.trans hv
   rw [hw] at hv
   obtain ⟨a,_,b|b⟩:=jz hv
   ·refine ⟨a,.inl ⟨?_,b.2⟩⟩
    rcases b.1 with b|b
    ·exact b
    rw [hwk] at b;cases b
   obtain ⟨g1,g2,g3⟩:=oa hf fw b.2.2
   exact ⟨a,.inr ⟨g1,g3⟩⟩
  have hv:D9 (Aj 5 [43]) [Af c l k,Af c l e]=(v,0):=(Jh (by decide) (by decide)).symm.trans hv
  rw [hw] at hv
  obtain ⟨_,a,b|b⟩:=jz hv
  ·refine ⟨a,.inl ⟨?_,b.2⟩⟩
   rcases b.1 with b|b
   ·rw [hwk] at b;cases b
   exact b
  obtain ⟨g1,g2,g3⟩:=oa fw hf b.2.2
  exact ⟨a,.inr ⟨g2,by rw [g3,Int.add_comm]⟩⟩
 obtain ⟨h2,h|h⟩:=key
 ·refine ⟨noV,Fc (Is hf.plain h.1) h2,?_⟩
  rw [hz,h.2];exact sa
 refine ⟨(Af c l e).1,Fc rfl h2,?_⟩
 generalize (Af c l e).1=r at hf h
 have hv1:v.kind=1:=by rw [h.2]
 have hn:v.n=r.n+w.n:=by rw [h.2]
 have:=hf.lo
 have:=hf.hi
 rw [hz,mk2 (by rw [hv1];decide) (by rw [hwk];decide),sd,cu fv fw hv1 hwk (by omega) (by omega),hn,show r.n+w.n-w.n=r.n by omega,←Zl hf h.1]
/-- e - k -/
theorem oi {e k y:Expr} {w0 v w:Val} (hf:Fine (Af c l e).1) (hw:Af c l k=(w,0)) (hwk:w.kind=1) (fw:Fine w) (fv:Fine v) (hv:Af c l (.mk 5 [45] w0 [e,k])=(v,0)) (hy:Af c' l' y=(v,0)):Kn c c' l l' e (G4 y [43] (Cs w)):=by
 have hz:Af c' l' (G4 y [43] (Cs w))=D9 (Aj 5 [43]) [(v,0),(w,0)]:=by
  rw [←hy,←X9 (c:=c') (l:=l') (v:=w)];exact Jh (by decide) (by decide)
 have hv:D9 (Aj 5 [45]) [Af c l e,Af c l k]=(v,0):=(Jh (by decide) (by decide)).symm.trans hv
 rw [hw] at hv
 obtain ⟨h2,_,b|b⟩:=jz hv
 ·have h0:(Af c l e).1.kind=0:=by
   rcases b.1 with b|b
   ·exact b
   rw [hwk] at b;cases b
  refine ⟨noV,Fc (Is hf.plain h0) h2,?_⟩
  rw [hz,b.2];exact sa
 obtain ⟨g1,g2,g3⟩:=ob hf fw b.2.2
 refine ⟨(Af c l e).1,Fc rfl h2,?_⟩
 generalize (Af c l e).1=r at hf g1 g3
 have hv1:v.kind=1:=by rw [g3]
 have hn:v.n=r.n-w.n:=by rw [g3]
 have:=hf.lo
 have:=hf.hi
 rw [hz,mk2 (by rw [hv1];decide) (by rw [hwk];decide),sd,w8 fv fw hv1 hwk (by omega) (by omega),hn,show r.n-w.n+w.n=r.n by omega,←Zl hf g1]
/-- k - e -/
theorem ol {e k y:Expr} {w0 v w:Val} (hf:Fine (Af c l e).1) (hw:Af c l k=(w,0)) (hwk:w.kind=1) (fw:Fine w) (fv:Fine v) (hv:Af c l (.mk 5 [45] w0 [k,e])=(v,0)) (hy:Af c' l' y=(v,0)):Kn c c' l l' e (G4 (Cs w) [45] y):=by
 have hz:Af c' l' (G4 (Cs w) [45] y)=D9 (Aj 5 [45]) [(w,0),(v,0)]:=by
  rw [←hy,←X9 (c:=c') (l:=l') (v:=w)];exact Jh (by decide) (by decide)
 have hv:D9 (Aj 5 [45]) [Af c l k,Af c l e]=(v,0):=(Jh (by decide) (by decide)).symm.trans hv
 rw [hw] at hv
 obtain ⟨_,h2,b|b⟩:=jz hv
 ·have h0:(Af c l e).1.kind=0:=by
   rcases b.1 with b|b
   ·rw [hwk] at b;cases b
   exact b
  refine ⟨noV,Fc (Is hf.plain h0) h2,?_⟩
  rw [hz,b.2];exact ABp
 obtain ⟨g1,g2,g3⟩:=ob fw hf b.2.2
 refine ⟨(Af c l e).1,Fc rfl h2,?_⟩
 generalize (Af c l e).1=r at hf g2 g3
 have hv1:v.kind=1:=by rw [g3]
 have hn:v.n=w.n-r.n:=by rw [g3]
 have:=hf.lo
 have:=hf.hi
 rw [hz,mk2 (by rw [hwk];decide) (by rw [hv1];decide),sd,cu fw fv hwk hv1 (by omega) (by omega),hn,show w.n-(w.n-r.n)=r.n by omega,←Zl hf g2]
/-! Texts put together, and a step of whatever kind. -/
variable {c c':List Col} {l l':List Val}
theorem Og {t:Str} (ht:t=Qi∨t=Lm) {y:Expr} {m:Nat} {v:Val} (hm:m≤200) (hy:Af c' l' y=(v,0)) (hv:v=noV∨(v.kind=2∧v.s.length≤200)):
  Af c' l' (D6 t [y,G4 (D6 Jf [y]) [45] (Cs ⟨1,(m:Int),[]⟩)])=if v.kind==0 then (noV,0) else (Ge t v.s ((v.s.length:Int)-m),0):=by
 have h1:Af c' l' (D6 Jf [y])=D9 (Aj 6 Jf) [(v,0)]:=by rw [←hy];exact Rb (by decide)
 have h2:Af c' l' (G4 (D6 Jf [y]) [45] (Cs ⟨1,(m:Int),[]⟩))=D9 (Aj 5 [45]) [Af c' l' (D6 Jf [y]),(⟨1,(m:Int),[]⟩,0)]:=by
  rw [←X9 (c:=c') (l:=l') (v:=⟨1,(m:Int),[]⟩)];exact Jh (by decide) (by decide)
 have h3:Af c' l' (D6 t [y,G4 (D6 Jf [y]) [45] (Cs ⟨1,(m:Int),[]⟩)])=D9 (Aj 6 t) [Af c' l' y,Af c' l' (G4 (D6 Jf [y]) [45] (Cs ⟨1,(m:Int),[]⟩))]:=by
  rcases ht with rfl|rfl<;>exact Rb (by decide)
 rw [h3,h2,h1,hy]
 rcases hv with rfl|⟨hk,hl⟩
 ·rw [zm,sa,sa];rfl
 have hk0:v.kind≠0:=by rw [hk];decide
 have e1:Aj 6 Jf [v]=(⟨1,(v.s.length:Int),[]⟩,0):=by
  show F5 Jf v=_
  unfold F5
  rw [if_neg (by simp [Jf]),if_pos (by simp [Jf,hk])]
 have f1:Fine ⟨1,(v.s.length:Int),[]⟩:=O7 (by omega) (by omega)
 have f2:Fine ⟨1,(m:Int),[]⟩:=O7 (by omega) (by omega)
 have e2:D9 (Aj 5 [45]) [((⟨1,(v.s.length:Int),[]⟩:Val),(0:Int)),(⟨1,(m:Int),[]⟩,0)]=(⟨1,(v.s.length:Int)-m,[]⟩,0):=by
  rw [mk2 (by show (1:Int)≠0;decide) (by show (1:Int)≠0;decide),sd]
  exact cu f1 f2 rfl rfl (by show _≤(v.s.length:Int)-m;omega) (by show (v.s.length:Int)-m≤_;omega)
 rw [mk1 hk0,e1,e2,mk2 hk0 (by show (1:Int)≠0;decide),if_neg (by simpa using hk0)]
 have e3:Bi [v,⟨1,(v.s.length:Int)-m,[]⟩] [2,1]=true:=by simp [Bi,hk]
 unfold Aj
 rw [if_neg (by decide),if_neg (by simp),if_neg (by simp),if_neg (by decide),if_neg (by simp),if_neg (by rw [e3];simp)]
 rfl
theorem cw (a b:Str) (h:a.length≤200):Ge Qi (a++b) (((a++b).length:Int)-b.length)=⟨2,0,a⟩:=by
 have e:(max 0 (min (((a++b).length:Int)-b.length) ((a++b).length:Int))).toNat=a.length:=by
  rw [As];omega
 unfold Ge
 rw [if_pos (by decide),e,List.take_left',Xa h];rfl
theorem Zo (a b:Str) (h:b.length≤200):Ge Lm (a++b) (((a++b).length:Int)-a.length)=⟨2,0,b⟩:=by
 have e:(max 0 (min (((a++b).length:Int)-a.length) ((a++b).length:Int))).toNat=b.length:=by
  rw [As];omega
 unfold Ge
 rw [if_neg (by decide),e,As,Nat.add_sub_cancel,List.drop_left',Xa h];rfl
/-- e & k -/
theorem k7 {e k y:Expr} {w0 v w:Val} (hf:Fine (Af c l e).1) (hw:Af c l k=(w,0)) (hwk:w.kind=2) (fw:Fine w) (hv:Af c l (.mk 5 [38] w0 [e,k])=(v,0)) (hy:Af c' l' y=(v,0)):Kn c c' l l' e (D6 Qi [y,G4 (D6 Jf [y]) [45] (Cs ⟨1,(w.s.length:Int),[]⟩)]):=by
 have hv:D9 (Aj 5 [38]) [Af c l e,Af c l k]=(v,0):=(Jh (by decide) (by decide)).symm.trans hv
 rw [hw] at hv
 obtain ⟨h2,_,b|b⟩:=jz hv
 ·have h0:(Af c l e).1.kind=0:=by
   rcases b.1 with b|b
   ·exact b
   rw [hwk] at b;cases b
  refine ⟨noV,Fc (Is hf.plain h0) h2,?_⟩
  rw [Og (.inl rfl) (Qj fw hwk).2 hy (.inl b.2),b.2];rfl
 obtain ⟨g1,g2,g3,g4⟩:=fe (show Gd [38] (Af c l e).1 w=(v,0) from b.2.2)
 refine ⟨(Af c l e).1,Fc rfl h2,?_⟩
 generalize (Af c l e).1=r at hf g1 g3 g4
 rw [Og (.inl rfl) (Qj fw hwk).2 hy (.inr (by rw [g4];exact ⟨rfl,by simpa using g3⟩)),g4,if_neg (by simp)]
 show (Ge Qi (r.s++w.s) (((r.s++w.s).length:Int)-w.s.length),(0:Int))=_
 rw [cw _ _ (Qj hf g1).2,←(Qj hf g1).1]
/-- k & e -/
theorem cx {e k y:Expr} {w0 v w:Val} (hf:Fine (Af c l e).1) (hw:Af c l k=(w,0)) (hwk:w.kind=2) (fw:Fine w) (hv:Af c l (.mk 5 [38] w0 [k,e])=(v,0)) (hy:Af c' l' y=(v,0)):Kn c c' l l' e (D6 Lm [y,G4 (D6 Jf [y]) [45] (Cs ⟨1,(w.s.length:Int),[]⟩)]):=by
 have hv:D9 (Aj 5 [38]) [Af c l k,Af c l e]=(v,0):=(Jh (by decide) (by decide)).symm.trans hv
 rw [hw] at hv
 obtain ⟨_,h2,b|b⟩:=jz hv
 ·have h0:(Af c l e).1.kind=0:=by
   rcases b.1 with b|b
   ·rw [hwk] at b;cases b
   exact b
  refine ⟨noV,Fc (Is hf.plain h0) h2,?_⟩
  rw [Og (.inr rfl) (Qj fw hwk).2 hy (.inl b.2),b.2];rfl
 obtain ⟨g1,g2,g3,g4⟩:=fe (show Gd [38] w (Af c l e).1=(v,0) from b.2.2)
 refine ⟨(Af c l e).1,Fc rfl h2,?_⟩
 generalize (Af c l e).1=r at hf g2 g3 g4
 rw [Og (.inr rfl) (Qj fw hwk).2 hy (.inr (by rw [g4];exact ⟨rfl,by simpa using g3⟩)),g4,if_neg (by simp)]
 show (Ge Lm (w.s++r.s) (((w.s++r.s).length:Int)-w.s.length),(0:Int))=_
 rw [Zo _ _ (Qj hf g2).2,←(Qj hf g2).1]
variable {c c':List Col} {l l':List Val}
theorem ff {x:Expr} {s:Sd} (h:Hy x=some s) (h1:x.kids.length=1):x.kids=[s.e]:=by
 rcases J7 h with e|⟨e,_⟩|⟨e,_⟩
 ·exact e
 ·rw [e] at h1;cases h1
 rw [e] at h1;cases h1
theorem Zp {x:Expr} {s:Sd} (h:Hy x=some s) (h2:x.kids.length=2):(x.kids=[s.e,s.c]∧s.first=false)∨(x.kids=[s.c,s.e]∧s.first=true):=by
 rcases J7 h with e|h|h
 ·rw [e] at h2;cases h2
 ·exact .inl h
 exact .inr h
theorem Xb {x:Expr} {s:Sd} (h:Hy x=some s):s.e∈x.kids:=by
 rcases J7 h with e|⟨e,_⟩|⟨e,_⟩<;>rw [e]<;>simp
theorem se (hl:∀v∈l,Fine v) {x y:Expr} {p:Expr×Expr} {v:Val} (hn:B9 C1 x=true) (hr:B9 Cg x=true) (hv:Af c l x=(v,0)) (hy:Af c' l' y=(v,0)) (h:Ei x y=some p):
  B9 C1 p.1=true∧B9 Cg p.1=true∧Kn c c' l l' p.1 p.2:=by
 have fv:Fine v:=by have:=Gk (c:=c) hl x (Kd x hn) hr;rw [hv] at this;exact this
 have hn0:=hn
 have hr0:=hr
 rw [Cj,Ak] at hn0 hr0
 have hkn:∀e∈x.kids,B9 C1 e=true:=(Ba _ _).1 hn0.2
 have hkr:∀e∈x.kids,B9 Cg e=true:=(Ba _ _).1 hr0.2
 obtain ⟨hk5,hk34,hk6,_⟩:=Jr hn0.1
 unfold Ei at h
 split at h
 ·cases h
 rename_i s hs
 split at h
 ·cases h
 rename_i z hb
 split at h
 ·injection h with h
  subst h
  have he:=Xb hs
  refine ⟨hkn _ he,hkr _ he,?_⟩
  show Kn c c' l l' s.e z
  have hf:Fine (Af c l s.e).1:=Gk hl s.e (Kd _ (hkn _ he)) (hkr _ he)
  unfold Oe at hb
  split at hb
  ·rename_i ho
   have ho:x.op=3∨x.op=4:=by simpa using ho
   have hk:=ff hs (hk34 ho)
   injection hb with hb
   subst hb
   obtain ⟨o,t,w0,k⟩:=x
   have hk:k=[s.e]:=hk
   subst hk
   rcases ho with ho|ho
   ·have ho:o=3:=ho
    subst ho;exact od hf hv hy
   have ho:o=4:=ho
   subst ho;exact oe hf hv hy
  split at hb
  ·rename_i ho
   have ho:x.op=6∧x.text=Kf:=by simpa using ho
   have hlen:x.kids.length=1:=by
    have:=hk6 ho.1
    rw [ho.2,show Bx Kf=1 from by kernel_rfl] at this
    omega
   have hk:=ff hs hlen
   injection hb with hb
   subst hb
   obtain ⟨o,t,w0,k⟩:=x
   have hk:k=[s.e]:=hk
   have h6:o=6:=ho.1
   have ht:t=Kf:=ho.2
   subst hk;subst h6;subst ht
   exact og hf hv hy
  split at hb
  ·rename_i ho
   have ho:x.op=5∧(x.text=[43]∨x.text=[45]):=by simpa using ho
   have hk:=Zp hs (hk5 ho.1)
   obtain ⟨o,t,w0,k⟩:=x
   have h5:o=5:=ho.1
   have ht:t=[43]∨t=[45]:=ho.2
   subst h5
   unfold o8 at hb
   split at hb
   ·cases hb
   rename_i w hc
   injection hb with hb
   subst hb
   have hk:(k=[s.e,s.c]∧s.first=false)∨(k=[s.c,s.e]∧s.first=true):=hk
   have hcin:s.c∈k:=by rcases hk with ⟨e,_⟩|⟨e,_⟩<;>rw [e]<;>simp
   obtain ⟨g1,g2,g3⟩:=Tm (c:=c) hl (hkn _ hcin) (hkr _ hcin) hc
   show Kn c c' l l' s.e (if t==[43] then _ else _)
   rcases ht with rfl|rfl
   ·rw [if_pos (by decide)]
    refine oh hf g1 g2 g3 fv ?_ hy (w0:=w0)
    rcases hk with ⟨e,_⟩|⟨e,_⟩
    ·exact .inl (by rw [←e];exact hv)
    exact .inr (by rw [←e];exact hv)
   rw [if_neg (by decide)]
   rcases hk with ⟨e,f⟩|⟨e,f⟩
   ·rw [f,if_neg (by decide)]
    exact oi hf g1 g2 g3 fv (by rw [←e];exact hv) hy (w0:=w0)
   rw [f,if_pos rfl]
   exact ol hf g1 g2 g3 fv (by rw [←e];exact hv) hy (w0:=w0)
  split at hb
  ·rename_i ho
   have ho:x.op=5∧x.text=[38]:=by simpa using ho
   have hk:=Zp hs (hk5 ho.1)
   obtain ⟨o,t,w0,k⟩:=x
   have h5:o=5:=ho.1
   have ht:t=[38]:=ho.2
   subst h5;subst ht
   unfold Zk at hb
   split at hb
   ·cases hb
   rename_i w hc
   injection hb with hb
   subst hb
   have hk:(k=[s.e,s.c]∧s.first=false)∨(k=[s.c,s.e]∧s.first=true):=hk
   have hcin:s.c∈k:=by rcases hk with ⟨e,_⟩|⟨e,_⟩<;>rw [e]<;>simp
   obtain ⟨g1,g2,g3⟩:=Tm (c:=c) hl (hkn _ hcin) (hkr _ hcin) hc
   rcases hk with ⟨e,f⟩|⟨e,f⟩
   ·rw [f,if_neg (by decide)]
    exact k7 hf g1 g2 g3 (by rw [←e];exact hv) hy (w0:=w0)
   rw [f,if_pos rfl]
   exact cx hf g1 g2 g3 (by rw [←e];exact hv) hy (w0:=w0)
  cases hb
 cases h
/-- What peel yields last: both trees come to one value. -/
theorem fg (hl:∀v∈l,Fine v):∀(n:Nat) (x y:Expr) (v:Val),B9 C1 x=true→B9 Cg x=true→Af c l x=(v,0)→Af c' l' y=(v,0)→Kn c c' l l' (E8 n x y).1 (E8 n x y).2
 | 0,_,_,v,_,_,hv,hy=>⟨v,hv,hy⟩
 | n+1,x,y,v,hn,hr,hv,hy=>by
  rw [E8]
  split
  ·exact ⟨v,hv,hy⟩
  split
  ·exact ⟨v,hv,hy⟩
  rename_i p hp
  obtain ⟨a,b,w,g1,g2⟩:=se hl hn hr hv hy hp
  exact fg hl n p.1 p.2 w a b g1 g2
/-- invert.Of. -/
def ofI (x:Expr) (a b:Str):Option Expr:=
 if ((!Au x) || !J3 a) || !J3 b then none
 else if ((E8 (sizeE x) x (B6 b)).1.op==2)&&((E8 (sizeE x) x (B6 b)).1.text==a) then some (E8 (sizeE x) x (B6 b)).2 else none
theorem To {x y:Expr} {p:Expr×Expr} (h:Ei x y=some p):Au p.2=true:=by
 unfold Ei at h
 split at h
 ·cases h
 split at h
 ·cases h
 split at h
 ·rename_i hr;injection h with h;subst h;exact hr
 cases h
theorem Nh:∀(n:Nat) (x y:Expr),Au y=true→Au (E8 n x y).2=true
 | 0,_,_,h=>h
 | n+1,x,y,h=>by
  rw [E8]
  split
  ·exact h
  split
  ·exact h
  rename_i p hp;exact Nh n p.1 p.2 (To hp)
theorem sg {s:Sign} {ks:List Int} (h:(N7 s ks).2=0) (ho:(s.own == -1)=false):(N7 s ks).1=s.own:=by
 unfold N7 at h ⊢
 split
 ·rename_i e;rw [e] at h;cases h
 rw [ho];rfl
theorem Js {c:List Col} {x:Expr} (h:(B7 c x).2=0) (h1:(x.op==1)=false) (h2:(x.op==2)=false) (ho:((Cb x.op x.text).own == -1)=false):(B7 c x).1=(Cb x.op x.text).own:=by
 rw [Jo] at h ⊢
 unfold Km at h ⊢
 rw [h1,h2] at h ⊢
 simp only [Bs,if_false] at h ⊢
 split
 ·rename_i q e
  rw [e] at h
  have:=Rg e
  simp at this
  exact absurd h this
 rename_i e
 rw [e] at h
 exact sg h ho
theorem k8 {c:List Col} {x y:Expr} {p:Expr×Expr} (h:Ei x y=some p) (hk:(B7 c x).2=0):(B7 c x).1=1∨(B7 c x).1=2∨(B7 c x).1=3:=by
 unfold Ei at h
 split at h
 ·cases h
 split at h
 ·cases h
 rename_i s hs _ z hb
 unfold Oe at hb
 split at hb
 ·rename_i ho
  have ho:x.op=3∨x.op=4:=by simpa using ho
  rcases ho with ho|ho
  ·rw [Js hk (by rw [ho];rfl) (by rw [ho];rfl) (by rw [ho];rfl),ho];exact .inl rfl
  rw [Js hk (by rw [ho];rfl) (by rw [ho];rfl) (by rw [ho];rfl),ho];exact .inr (.inr rfl)
 split at hb
 ·rename_i ho
  have ho:x.op=6∧x.text=Kf:=by simpa using ho
  rw [Js hk (by rw [ho.1];rfl) (by rw [ho.1];rfl) (by rw [ho.1,ho.2];rfl),ho.1,ho.2];exact .inr (.inl rfl)
 split at hb
 ·rename_i ho
  have ho:x.op=5∧(x.text=[43]∨x.text=[45]):=by simpa using ho
  rcases ho.2 with ht|ht
  ·rw [Js hk (by rw [ho.1];rfl) (by rw [ho.1];rfl) (by rw [ho.1,ht];rfl),ho.1,ht];exact .inl rfl
  rw [Js hk (by rw [ho.1];rfl) (by rw [ho.1];rfl) (by rw [ho.1,ht];rfl),ho.1,ht];exact .inl rfl
 split at hb
 ·rename_i ho
  have ho:x.op=5∧x.text=[38]:=by simpa using ho
  rw [Js hk (by rw [ho.1];rfl) (by rw [ho.1];rfl) (by rw [ho.1,ho.2];rfl),ho.1,ho.2];exact .inr (.inl rfl)
 cases hb
theorem Vf (b:Str) (k:Int):Ez b [⟨b,k⟩]=0:=by
 have:=S8 (nm:=b) (c:=[⟨b,k⟩]) (x:=0) (by simp) rfl (fun j y hj=>absurd hj (by omega))
 simpa using this
theorem om {b:Str} {k:Int} (hb:J3 b=true) (hk:k=1∨k=2∨k=3):S9 [⟨b,k⟩]=true:=by
 rw [Sa]
 intro j y hj
 cases j with
 | zero =>
  simp at hj
  subst hj
  unfold Y4
  rw [Vf]
  rcases hk with rfl|rfl|rfl<;>simp [hb]
 | succ j=>simp at hj
/-- BACK TO WHERE IT CAME FROM. -/
theorem tz {x:Expr} {c:List Col} {l:List Val} (hx:Au x=true) (hg:B9 Cg x=true) (hrow:Kb c l=true) (hl:∀v∈l, -9223372036854775808≤v.n∧v.n≤9223372036854775807) {i:Nat} {y0:Col} (hi:c[i]? = some y0) {b:Str} {k:Int} (hk:O4 x c=(k,0)) {y:Expr} (hO:ofI x y0.name b=some y) {v:Val} (hv:Dh x c l=(v,0)):Dh y [⟨b,k⟩] [v]=(l.getD i noV,0):=by
 have hfl:=Ob hrow hl
 have hr':=hx
 rw [E6] at hr'
 unfold Eg at hr'
 simp only [Ak,decide_eq_true_eq] at hr'
 have hn:=hr'.2
 obtain ⟨hc,hlen,hrw⟩:=row_iff.1 hrow
 obtain ⟨hco,hnd⟩:=na hc
 rw [X3 hx hrow] at hv
 have hkE:B7 c x=(k,0):=by
  unfold O4 at hk
  rw [hx,Ww,hc] at hk
  simpa using hk
 unfold ofI at hO
 split at hO
 ·cases hO
 rename_i h0
 simp only [Vn,F7,Ja] at h0
 split at hO
 ·rename_i hR
  injection hO with hO
  have hR:(E8 (sizeE x) x (B6 b)).1.op=2∧(E8 (sizeE x) x (B6 b)).1.text=y0.name:=by simpa using hR
  have hy:Af [⟨b,k⟩] [v] (B6 b)=(v,0):=by
   show D5 Aj _ _ _=_
   rw [E7]
   show Hr [⟨b,k⟩] [v] b=_
   unfold Hr
   rw [Vf];rfl
  obtain ⟨w,g1,g2⟩:=fg (c:=c) (c':=[⟨b,k⟩]) (l':=[v]) hfl (sizeE x) x (B6 b) v hn hg hv hy
  have e1:Af c l (E8 (sizeE x) x (B6 b)).1=(l.getD i noV,0):=by
   show D5 Aj _ _ _=_
   rw [E7]
   unfold Eh
   rw [hR.1,hR.2]
   show Hr c l y0.name=_
   unfold Hr
   rw [cm hnd hi,if_neg (by omega)];rfl
  rw [g1] at e1
  injection e1 with e1
  have hkk:k=1∨k=2∨k=3:=by
   have hk2:(B7 c x).2=0:=by rw [hkE]
   have hk1:(B7 c x).1=k:=by rw [hkE]
   have hs:(x.op==2)=true∨∃p,Ei x (B6 b)=some p:=by
    cases ho:(x.op==2) with
    | true=>exact .inl rfl
    | false =>
     right
     cases hst:Ei x (B6 b) with
     | some p=>exact ⟨p,rfl⟩
     | none =>
      exfalso
      have hz:∀n,E8 n x (B6 b)=(x,B6 b):=fun n=>by
       cases n with
       | zero=>rfl
       | succ n=>rw [E8,ho,hst];rfl
      rw [hz] at hR
      rw [show x.op=2 from hR.1] at ho;cases ho
   rcases hs with ho|⟨p,hp⟩
   ·have ho:x.op=2:=by simpa using ho
    have he:(B7 c x)=O3 c x.text:=by
     rw [Jo];unfold Km;rw [ho];rfl
    rw [he] at hk1 hk2
    unfold O3 at hk1 hk2
    split at hk2
    ·cases hk2
    rename_i hf
    rw [if_neg hf] at hk1
    obtain ⟨j,z,hj,_,hfj⟩:=find_mem.1 hf
    rw [hfj] at hk1
    have hkz:z.kind=k:=by
     rw [←hk1,Int.toNat_natCast,Ch,hj];rfl
    have hz:=hco z (B3 hj)
    have:=hz.lo
    have:=hz.hi
    omega
   rw [←hk1];exact k8 hp hk2
  have hrow2:Kb [⟨b,k⟩] [v]=true:=by
   have hfv:Fine v:=by have:=Gk (c:=c) hfl x (Kd x hn) hg;rw [hv] at this;exact this
   rw [row_iff]
   refine ⟨om h0.2 hkk,rfl,fun j u z hu hz=>?_⟩
   cases j with
   | zero =>
    simp at hu hz
    subst hu;subst hz
    have hK:=f5 hrow (sizeE x) x (An _) hn (by rw [hkE])
    rw [hv,hkE] at hK
    exact ⟨hfv.plain,(hK.kind rfl).symm⟩
   | succ j=>simp at hu
  rw [←hO,X3 (Nh _ _ _ (by rw [N3];exact h0.2)) hrow2,g2,e1]
 cases hO
set_option maxRecDepth 4000
theorem ABq (n:Nat) (e:Expr) (hok:okE n e) (hn:n≤1048576) (hs:sizeE e≤1048576) (Hp:List AObj):AFun Tryz.prog 169 [Aa e] Hp (Um (Ka e)):=by
 refine Aq [.tmp 2] [0,5] Tryz.func169 Tryz.ntmps169 (fun d=>?_)
 refine Z1 ?_;refine A2 [1,5] ?_;refine Z26 ?_;refine A2 [1,3,5] ?_;refine Z96 ?_;refine La 0 0 1 ?_
 refine Mx (fun hlow=>?_)
 refine qc ?_;refine A2 [3,5,7] ?_;refine I5 ?_
 refine My (m:=1) Tryz.call123 (fun FR as' bd' hFR has hbd=>?_)
 have hFRl:∀s,Low (Hp.length+3) (FR s):=by
  intro s
  rw [hFR]
  refine Ou ?_
  revert s
  repeat (first|exact C6|refine C5 (by simp [oid,Ag]<;>try omega) ?_)
 have hOl:∀{k:Nat},∀x∈[AObj.cells 45 [.slice true 1 ((Ex (B1 1 e) k).map Ah)],AObj.defs,AObj.loop LoopState.ready none FR 26 #[8,9] as' bd' (oid Hp.length 1)],ObjLow (Hp.length+3) x:=by
  intro k x hx
  simp only [By,Ha,or_false] at hx
  rcases hx with rfl|rfl|rfl
  ·intro y hy
   rw [Bh.1 hy]
   first|exact Po|simp
  ·trivial
  exact il
 refine ⟨fun _ H'=>Ip (fun _=>true) (fun k=>Hp++[AObj.cells 45 [.slice true 1 ((Ex (B1 1 e) k).map Ah)],AObj.defs,AObj.loop LoopState.ready none FR 26 #[8,9] as' bd' (oid Hp.length 1)]) (fun k=>Hp++[AObj.cells 45 [.slice true 1 ((Ex (B1 1 e) k).map Ah)],AObj.defs,AObj.loop LoopState.ready none FR 26 #[8,9] as' bd' (oid Hp.length 1)]) (B1 1 e).length H',qr (l:=oid Hp.length 2) (go:=fun _=>true) (U:=fun k=>Hp++[AObj.cells 45 [.slice true 1 ((Ex (B1 1 e) k).map Ah)],AObj.defs,AObj.loop LoopState.ready none FR 26 #[8,9] as' bd' (oid Hp.length 1)]) (F:=fun k=>Hp++[AObj.cells 45 [.slice true 1 ((Ex (B1 1 e) k).map Ah)],AObj.defs,AObj.loop LoopState.ready none FR 26 #[8,9] as' bd' (oid Hp.length 1)]) (n0:=Hp.length+3) ⟨fun k=>by simp,fun k=>by simp,fun k x hx=>?_,fun k x hx=>?_,by simp [oid],fun X k it hit hgo=>?_⟩ n hok hn,?_⟩
 ·exact ba
 ·exact ba
 ·have hklt:k<sizeE e:=by rw [←Eu 1 e];exact (Ae.1 hit).1
  generalize hV:(Hp++[AObj.cells 45 [.slice true 1 ((Ex (B1 1 e) k).map Ah)],AObj.defs,AObj.loop LoopState.ready none FR 26 #[8,9] as' bd' (oid Hp.length 1)]++X)=V
  have hL:V[oid Hp.length 2]? = some (AObj.loop LoopState.ready none FR 26 #[8,9] as' bd' (oid Hp.length 1)):=by rw [←hV,Bt,Bl];rfl
  have hA0:V[oid Hp.length 0]? = some (AObj.cells 45 [.slice true 1 ((Ex (B1 1 e) k).map Ah)]):=by rw [←hV,Bt,Bl];rfl
  refine Ms (pd:=none) (fr:=FR) (sz:=26) (ps:=#[8,9]) (df:=oid Hp.length 1) (asg:=as') (bd:=bd') hL rfl (by decide) (fun d=>?_)
  subst hFR has hbd
  refine G9 [3,8,9] ?_;refine If ?_;refine Z21 ?_;refine A2 [3,5] ?_
  refine ⟨rfl,none,hL,?_⟩
  generalize hbz:(AObj.loop LoopState.busy _ _ _ _ _ _ _)=bz
  have hA:(V.set (oid Hp.length 2) bz)[oid Hp.length 0]? = some (AObj.cells 45 [.slice true 1 ((Ex (B1 1 e) k).map Ah)]):=by rw [El (Dr (by decide))];exact hA0
  refine I5 ?_;refine Z17 ?_
  refine C4 (h:=Ep hA) (hr:=?_)
  refine Z12 ?_
  refine Co Tryz.call96 (fun hB=>c96 (Ex (B1 1 e) k) it.2.text (by have:=N8 (B1 1 e) k;omega) _) ?_
  refine Z63 ?_;refine A2 [3,5,19] ?_
  refine A4 (fun ht19=>?_) (fun ht19=>?_)
  ·have hno:=Vb hit
   have hadd:Hg (Ex (B1 1 e) k) it.2=Ex (B1 1 e) k++[it.2.text]:=if_pos ht19
   refine If ?_;refine R.loadUpT jA hA ?_;refine Z0 ?_;refine S5 ?_
   refine P3 jU Tryz.type9 ?_ ?_ ?_
   ·have:=N8 (B1 1 e) k;simp [Tryz.t9];omega
   ·have:=N8 (B1 1 e) k;simp [Tryz.t9];omega
   refine au jS (Ar hA) ?_ ?_
   ·exact jb
   refine ax ?_
   subst hbz
   refine yg ?_
   refine ⟨rfl,?_⟩
   rw [if_pos rfl]
   subst hV
   simp only [Bt,Fl,E0,Dz,List.set_cons_succ,List.set_cons_zero]
   rw [hno,hadd]
   try simp only [G7,Dk,Kt]
   try rfl
  have hno:=Vb hit
  have hadd:Hg (Ex (B1 1 e) k) it.2=Ex (B1 1 e) k:=if_neg (by rw [ht19];simp)
  refine K0 ?_;refine Jc ?_
  subst hbz
  refine yg ?_
  refine ⟨rfl,?_⟩
  rw [if_pos rfl]
  subst hV
  simp only [Bt,Fl,E0,Dz,List.set_cons_succ,List.set_cons_zero]
  rw [hno,hadd]
  try simp only [G7,Dk,Kt]
  try rfl
 intro r H' hq
 obtain rfl:=Wz hq
 refine ⟨Hp,_,_,_,rfl,rfl,fun h=>h,?_,rfl,by simp,?_⟩
 ·intro o ho
  have:o=oid Hp.length 1:=by simpa using ho
  subst this
  rw [Bl]
  rfl
 refine Z16 ?_;refine Z1 ?_;refine Z4 ?_;exact A5 (Ap A3) ⟨by rw [Yl,Ex,Nn],rfl⟩

theorem k9 {e:Expr} (h:C1 e=true):e.text.length≤1048576∧e.kids.length≤1048576:=by
 cases Gc h with
 | val v hp h0=>exact ⟨by simp [Cs,Expr.text],by simp [Cs,Expr.kids]⟩
 | name t ht =>
  refine ⟨?_,by simp [B6,Expr.kids]⟩
  show t.length≤1048576
  cases t with
  | nil=>simp
  | cons c r =>
   simp only [J3,Ak,decide_eq_true_eq] at ht
   have:=ht.1.1.1
   omega
 | neg a=>exact ⟨by simp [F1,Expr.text],by simp [F1,Expr.kids]⟩
 | no a=>exact ⟨by simp [F1,Expr.text],by simp [F1,Expr.kids]⟩
 | bin t a b ht =>
  refine ⟨?_,by simp [Gx,Expr.kids]⟩
  show t.length≤1048576
  rcases Hq t with hm|⟨hm,_⟩
  ·have h3:(levels.flatten.all fun s=>decide (s.length≤3))=true:=by kernel_rfl
   have:=of_decide_eq_true (B2.1 h3 t hm)
   omega
  omega
 | call t k ha =>
  rcases Eb ha with ⟨e1,e⟩|⟨e1,e⟩|⟨e1,e⟩|⟨e1,e⟩|⟨e1,e⟩|⟨e1,e⟩|⟨e1,e⟩|⟨e1,e⟩<;>subst e1<;>exact ⟨by simp [Expr.text,Bm,Fo,ifW],by show k.length≤_;omega⟩
theorem cy:∀{l:List Expr} {y:Expr},y∈l→depthE y≤Ea l:=Tj
theorem Zq:∀(n:Nat) (e:Expr),depthE e≤n→B9 C1 e=true→okE n e
 | 0,e,h,_=>by rw [Jn] at h;omega
 | n+1,e,h,hn=>by
  rw [Cj,Ak] at hn
  rw [Jn] at h
  have hs:=k9 hn.1
  exact ⟨hs.1,hs.2,fun y hy=>Zq n y (by have:=cy hy;omega) ((Ba _ _).1 hn.2 y hy)⟩
theorem Ed {ks:List Expr} {i:Nat} (h:i<ks.length):(ks.map Aa)[i]? = some (Aa (ks.getD i A8)):=by
 rw [Ce,Al h,Ch,Al h]
 rfl
/-! trim: what is no value. -/
def noC (k:Expr):Bool := !(k.op==1)
def Tp (ks:List Expr):Int:=if ks.any noC then (ks.findIdx noC:Nat) else -1
theorem sh {ks:List Expr} {x:Nat} (h:x<ks.length) (hx:noC ks[x]=true) (hp:∀(j:Nat) (y:Expr),j<x→ks[j]? = some y→¬noC y=true):Tp ks=(x:Int):=by
 unfold Tp
 rw [if_pos (Jv.2 ⟨_,Db h,hx⟩)]
 congr 1
 rw [List.findIdx_eq h]
 exact ⟨hx,fun j hj=>by have:=hp j ks[j] hj (Al (by omega));simpa using this⟩
theorem ka {ks:List Expr} (hp:∀(j:Nat) (y:Expr),ks[j]? = some y→¬noC y=true):Tp ks = -1:=by
 unfold Tp
 rw [if_neg]
 intro h
 obtain ⟨y,hy,hn⟩:=Jv.1 h
 obtain ⟨j,hj⟩:=Cf hy
 exact hp j y hj hn
theorem oo (ks:List Expr):decide (0≤Tp ks)=ks.any noC:=by
 unfold Tp
 cases ks.any noC<;>simp
theorem cz (v:Val) (k n:Int) (s:Str):(v.kind==k&&v.n==n&&v.s==s)=(v==⟨k,n,s⟩):=by
 obtain ⟨a,b,c⟩:=v
 rw [Rf]
 simp [Val.mk.injEq,and_assoc]
theorem Zr {n:Nat} {x:Expr} (h:okE n x):x.kids.length≤1048576:=by
 cases n with
 | zero=>exact h.elim
 | succ n=>exact h.2.1
theorem we (x:Expr) (Hp:List AObj):AFun Tryz.prog 268 [Aa x] Hp (B8 (x.op==1)):=by
 refine Aq [.tmp 2] [0] Tryz.func268 Tryz.ntmps268 (fun d=>?_)
 refine Z93 ?_;refine Z17 ?_;exact Z86

theorem ABr (v:Val) (Hp:List AObj):AFun Tryz.prog 339 [Bq v] Hp (Aa (Cs v)):=by
 refine Aq [.cell 2 26] [0] Tryz.func339 Tryz.ntmps339 (fun d=>?_)
 refine mb ?_;refine A2 [1,2] ?_;refine ug ?_;refine Ef 4 _ (Ll 1 [] v) ?_;exact wz

theorem ABs (k:Expr) (Hp:List AObj):AFun Tryz.prog 338 [Aa k] Hp (B8 (noC k)):=by
 refine Aq [.tmp 2] [0] Tryz.func338 Tryz.ntmps338 (fun d=>?_)
 refine Z93 ?_;refine Z3 ?_;refine Ac Tryz.call268 (we k _) ?_;refine Z0 ?_;exact Z86

theorem ABt (ks:List Expr) (hkl:ks.length≤1048576) (Hp:List AObj):AFun Tryz.prog 251 [.slice false 6 (ks.map Aa),.fn (.func 338) [] []] Hp (A6 (Tp ks)):=by
 refine Aq [.tmp 4] [0,1] Tryz.func251 Tryz.ntmps251 (fun d=>?_)
 refine Z70 ?_;refine Z39 ?_;refine A2 [0,1,7,8] ?_
 refine Ff (α:=Nat) (fun x=>⟨19,Ao 0 (.slice false 6 (ks.map Aa)) (Ao 1 (.fn (.func 338) [] []) (Ao 7 (A6 ks.length) (Ao 8 (A6 (x:Nat)) (fun _=>.any)))),Hp,[],[],none⟩) (fun x=>x≤ks.length∧∀(j:Nat) (y:Expr),j<x→ks[j]? = some y→¬noC y=true) (fun x=>ks.length-x) (0) (by simp) (E9 (by simp)) rfl (fun x hx=>?_)
 refine Z3 ?_;refine A2 [0,1,7,8,9] ?_
 refine Gp (fun ht9=>?_) (fun ht9=>?_)
 ·have hlt:x<ks.length:=by simpa using ht9
  refine Z27 ?_;refine Z1 ?_;refine A2 [0,1,5,7,8] ?_;refine Z14 ?_
  refine A7 (h:=Ax (x) (Aa ks[x]) (fun _=>Cu hlt)) (hr:=?_)
  refine A7 ?_;refine R.callV Tryz.call338 (ABs ks[x] _) ?_;refine A2 [0,1,5,7,8,16] ?_
  refine A4 (fun ht16=>?_) (fun ht16=>?_)
  ·refine Z1 ?_;refine Z29 ?_;refine We ?_;exact A5 (Ap A3) ⟨by rw [sh hlt ht16 hx.2],rfl⟩
  refine U2 ?_;refine A2 [0,1,7,8] ?_;exact Ct (x+1) ⟨hlt,Gj hlt hx.2 (by rw [ht16];simp)⟩ (by omega) (Im rfl)
 refine Z58 ?_;refine Z94 ?_;exact A5 (Ap A3) ⟨by rw [ka (Nv (by simp at ht9;omega) hx.2)],rfl⟩

theorem ABu (ks:List Expr) (hkl:ks.length≤1048576) (Hp:List AObj):AFun Tryz.prog 197 [.slice false 6 (ks.map Aa),.fn (.func 338) [] []] Hp (B8 (ks.any noC)):=by
 refine Aq [.tmp 4] [0,1] Tryz.func197 Tryz.ntmps197 (fun d=>?_)
 refine Z70 ?_;refine Z1 ?_;refine Ac Tryz.call251 (ABt ks hkl _) ?_;refine Z0 ?_;refine Z29 ?_;exact A5 (Ap A3) ⟨by rw [←oo];try rfl,rfl⟩

theorem wg {n:Nat} {x:Expr} (hok:okE n x) (hn:n≤1048576) (hrg:B9 Cg x=true) (Hp:List AObj):AFun Tryz.prog 15 [Aa x,.nil,.nil] Hp (O8 (Dh x [] [])):=by
 have:=c15 n x hok hn hrg [] ⟨by decide,by decide⟩ [] (by decide) (fun v hv=>by cases hv) Hp
 refine ACall.argLeE this rfl fun i y y' h1 h2=>?_
 match i with
 | 0=>simp at h1 h2;subst h1;subst h2;exact .refl _
 | 1=>simp at h1 h2;subst h1;subst h2;exact .nil false 2
 | 2=>simp at h1 h2;subst h1;subst h2;exact .nil false 3
 | i+3=>simp at h1
def Tq (o:Option Expr):AV:=.tup [Aa (o.getD A8),B8 o.isSome]
theorem wh {x:Expr} (h:x.kids.any noC=true):Gw x=none:=if_pos h
theorem wi {x:Expr} (h:x.kids.any noC=false) (h2:(((Dh x [] []).2 != 0) || (((Dh x [] []).1.kind==1)&&decide ((Dh x [] []).1.n<0)))=true):Gw x=none:=by
 unfold Gw
 rw [if_neg (fun e=>by rw [show (x.kids.any fun k => !(k.op==1))=x.kids.any noC from rfl,h] at e;cases e),if_pos h2]
theorem wj {x:Expr} (h:x.kids.any noC=false) (h2:(((Dh x [] []).2 != 0) || (((Dh x [] []).1.kind==1)&&decide ((Dh x [] []).1.n<0)))=false):Gw x=some (Cs (Dh x [] []).1):=by
 unfold Gw
 rw [if_neg (fun e=>by rw [show (x.kids.any fun k => !(k.op==1))=x.kids.any noC from rfl,h] at e;cases e),if_neg (by rw [h2];simp)]
theorem ABv (n:Nat) (x:Expr) (hok:okE n x) (hn:n≤1048576) (hrg:B9 Cg x=true) (Hp:List AObj):AFun Tryz.prog 326 [Aa x] Hp (Tq (Gw x)):=by
 have hkl:=(Zr hok)
 refine Aq [.cell 2 26,.tmp 3] [0] Tryz.func326 Tryz.ntmps326 (fun d=>?_)
 refine m7 ?_;refine Z32 ?_;refine Ac Tryz.call197 (ABu x.kids hkl _) ?_;refine A2 [1,2,8] ?_
 refine A4 (fun ht8=>?_) (fun ht8=>?_)
 ·refine Z25 ?_;refine Ef 9 _ F4 ?_;refine Z51 ?_;refine Cp ?_;exact A5 (Ab (Ai jA jS) A3) ⟨by rw [wh ht8];simp only [Tq,Option.getD_some,Option.getD_none,Ad];try rfl,rfl⟩ (hlow:=by simp [Ag])
 refine Z75 ?_;refine Ac Tryz.call15 (wg hok hn hrg _) ?_;refine Z82 ?_;refine A2 [2,4,5] ?_;refine Z39 ?_;refine Z45 ?_;refine Z45 ?_;refine A7 ?_;refine A2 [2,4,26] ?_
 refine A4 (fun ht26=>?_) (fun ht26=>?_)
 ·refine Z25 ?_;refine Ef 27 _ F4 ?_;refine Z51 ?_;refine Cp ?_;exact A5 (Ab (Ai jA jS) A3) ⟨by rw [wi ht8 ht26];simp only [Tq,Option.getD_some,Option.getD_none,Ad];try rfl,rfl⟩ (hlow:=by simp [Ag])
 refine Z75 ?_;refine Ac Tryz.call339 (ABr (Dh x [] []).1 _) ?_;refine Z51 ?_;exact A5 (Ab (Ai jA jS) A3) ⟨by rw [wj ht8 ht26];simp only [Tq,Option.getD_some,Option.getD_none,Ad];try rfl,rfl⟩ (hlow:=by simp [Ag])

section
variable {o:Int} {t:Str} {ks:List Expr}
theorem ABw (h:((((o==6)&&(t==ifW))&&((ks.getD 0 A8).val==C7 true)))=true):Di o t ks=some (ks.getD 1 A8):=if_pos h
theorem ABx (h1:((((o==6)&&(t==ifW))&&((ks.getD 0 A8).val==C7 true)))=false) (h:(((o==6)&&(t==ifW))&&(((ks.getD 0 A8).val==C7 false) || ((ks.getD 0 A8).val==noV)))=true):Di o t ks=some (ks.getD 2 A8):=by
 unfold Di
 rw [if_neg (by rw [h1];simp),if_pos h]
theorem ABy (h1:((((o==6)&&(t==ifW))&&((ks.getD 0 A8).val==C7 true)))=false) (h2:(((o==6)&&(t==ifW))&&(((ks.getD 0 A8).val==C7 false) || ((ks.getD 0 A8).val==noV)))=false) (h:(((o==6)&&(t==Fo))&&((ks.getD 0 A8).val==noV))=true):Di o t ks=some (ks.getD 1 A8):=by
 unfold Di
 rw [if_neg (by rw [h1];simp),if_neg (by rw [h2];simp),if_pos h]
theorem ABz (h1:((((o==6)&&(t==ifW))&&((ks.getD 0 A8).val==C7 true)))=false) (h2:(((o==6)&&(t==ifW))&&(((ks.getD 0 A8).val==C7 false) || ((ks.getD 0 A8).val==noV)))=false) (h3:(((o==6)&&(t==Fo))&&((ks.getD 0 A8).val==noV))=false) (h:((o==6)&&(t==Fo))=true):Di o t ks=some (ks.getD 0 A8):=by
 unfold Di
 rw [if_neg (by rw [h1];simp),if_neg (by rw [h2];simp),if_neg (by rw [h3];simp),if_pos h]
theorem AC0 (h1:((((o==6)&&(t==ifW))&&((ks.getD 0 A8).val==C7 true)))=false) (h2:(((o==6)&&(t==ifW))&&(((ks.getD 0 A8).val==C7 false) || ((ks.getD 0 A8).val==noV)))=false) (h3:(((o==6)&&(t==Fo))&&((ks.getD 0 A8).val==noV))=false) (h4:((o==6)&&(t==Fo))=false) (h:((o==5)&&(((t==orW)&&((ks.getD 0 A8).val==C7 true)) || ((t==Pq)&&((ks.getD 0 A8).val==C7 false))))=true):Di o t ks=some (ks.getD 0 A8):=by
 unfold Di
 rw [if_neg (by rw [h1];simp),if_neg (by rw [h2];simp),if_neg (by rw [h3];simp),if_neg (by rw [h4];simp),if_pos h]
theorem AC1 (h1:((((o==6)&&(t==ifW))&&((ks.getD 0 A8).val==C7 true)))=false) (h2:(((o==6)&&(t==ifW))&&(((ks.getD 0 A8).val==C7 false) || ((ks.getD 0 A8).val==noV)))=false) (h3:(((o==6)&&(t==Fo))&&((ks.getD 0 A8).val==noV))=false) (h4:((o==6)&&(t==Fo))=false) (h:((o==5)&&(((t==orW)&&((ks.getD 0 A8).val==C7 true)) || ((t==Pq)&&((ks.getD 0 A8).val==C7 false))))=false):Di o t ks=none:=by
 unfold Di
 rw [if_neg (by rw [h1];simp),if_neg (by rw [h2];simp),if_neg (by rw [h3];simp),if_neg (by rw [h4];simp),if_neg (by rw [h];simp)]
end
theorem Tr {a b c:Bool} (h:((a&&b)&&c)=true):(a&&b)=true:=by cases a<;>cases b<;>simp_all
theorem AC2 (x:Expr) (h0:0<x.kids.length) (h3:((x.op==6)&&(x.text==ifW))=true→x.kids.length=3) (h2:((x.op==6)&&(x.text==Fo))=true→x.kids.length=2) (Hp:List AObj):AFun Tryz.prog 325 [Aa x] Hp (Tq (Di x.op x.text x.kids)):=by
 refine Aq [.cell 2 26,.tmp 3] [0] Tryz.func325 Tryz.ntmps325 (fun d=>?_)
 refine m7 ?_;refine Z1 ?_
 refine A7 (h:=Ax (0) (Aa (x.kids.getD 0 A8)) (fun _=>Ed h0)) (hr:=?_)
 refine Z0 ?_;refine Z21 ?_;refine A2 [1,2,4] ?_;refine um ?_;refine Cy Tryz.call88 (c88 true _) ?_;refine Dw ?_
 refine A7 (h:=L5 Wk (fun w=>I6 (x.kids.getD 0 A8).val.kind (x.kids.getD 0 A8).val.n 3 1 (x.kids.getD 0 A8).val.s [] w)) (hr:=?_)
 refine A7 ?_;refine A2 [1,2,4,5] ?_;refine um ?_;refine Cy Tryz.call88 (c88 false _) ?_;refine Dw ?_
 refine A7 (h:=L5 Wk (fun w=>I6 (x.kids.getD 0 A8).val.kind (x.kids.getD 0 A8).val.n 3 0 (x.kids.getD 0 A8).val.s [] w)) (hr:=?_)
 refine A7 ?_;refine A2 [1,2,4,5,6] ?_;refine um ?_;refine Cy Tryz.call86 (c86 _) ?_;refine Dw ?_
 refine A7 (h:=L5 Wk (fun w=>I6 (x.kids.getD 0 A8).val.kind (x.kids.getD 0 A8).val.n 0 0 (x.kids.getD 0 A8).val.s [] w)) (hr:=?_)
 refine A7 ?_;refine A2 [1,2,5,6,7] ?_;refine b6 ?_
 rw [cz,cz,cz]
 refine Z64 ?_;refine Z56 ?_;refine Z35 ?_;refine A2 [1,2,5,6,7,22] ?_
 refine A4 (fun ht22=>?_) (fun ht22=>?_)
 ·have hq1:(((x.op==6)&&(x.text==ifW))&&((x.kids.getD 0 A8).val==C7 true))=true:=ht22
  refine Z1 ?_
  refine A7 (h:=Ax (1) (Aa (x.kids.getD 1 A8)) (fun _=>Ed (by have:=h3 (Tr hq1);omega))) (hr:=?_)
  refine ib ?_;exact A5 (Ab (Ai jA jS) A3) ⟨by rw [ABw hq1];simp only [Tq,Option.getD_some,Ad];try rfl,rfl⟩ (hlow:=by simp [Ag])
 have hn1:(((x.op==6)&&(x.text==ifW))&&((x.kids.getD 0 A8).val==C7 true))=false:=ht22
 refine Wh ?_;refine Xw ?_;refine A2 [1,2,5,6,7,38] ?_
 refine A4 (fun ht38=>?_) (fun ht38=>?_)
 ·have hq2:(((x.op==6)&&(x.text==ifW))&&(((x.kids.getD 0 A8).val==C7 false) || ((x.kids.getD 0 A8).val==noV)))=true:=ht38
  refine Z1 ?_
  refine A7 (h:=Ax (2) (Aa (x.kids.getD 2 A8)) (fun _=>Ed (by have:=h3 (Tr hq2);omega))) (hr:=?_)
  refine ib ?_;exact A5 (Ab (Ai jA jS) A3) ⟨by rw [ABx hn1 hq2];simp only [Tq,Option.getD_some,Ad];try rfl,rfl⟩ (hlow:=by simp [Ag])
 have hn2:(((x.op==6)&&(x.text==ifW))&&(((x.kids.getD 0 A8).val==C7 false) || ((x.kids.getD 0 A8).val==noV)))=false:=ht38
 refine Wh ?_;refine Z35 ?_;refine A2 [1,2,5,6,57] ?_
 refine A4 (fun ht57=>?_) (fun ht57=>?_)
 ·have hq3:(((x.op==6)&&(x.text==Fo))&&((x.kids.getD 0 A8).val==noV))=true:=ht57
  refine Z1 ?_
  refine A7 (h:=Ax (1) (Aa (x.kids.getD 1 A8)) (fun _=>Ed (by have:=h2 (Tr hq3);omega))) (hr:=?_)
  refine ib ?_;exact A5 (Ab (Ai jA jS) A3) ⟨by rw [ABy hn1 hn2 hq3];simp only [Tq,Option.getD_some,Ad];try rfl,rfl⟩ (hlow:=by simp [Ag])
 have hn3:(((x.op==6)&&(x.text==Fo))&&((x.kids.getD 0 A8).val==noV))=false:=ht57
 refine Wh ?_;refine A2 [1,2,5,6,73] ?_
 refine A4 (fun ht73=>?_) (fun ht73=>?_)
 ·refine Z1 ?_
  refine A7 (h:=Ax (0) (Aa (x.kids.getD 0 A8)) (fun _=>Ed h0)) (hr:=?_)
  refine ib ?_;exact A5 (Ab (Ai jA jS) A3) ⟨by rw [ABz hn1 hn2 hn3 ht73];simp only [Tq,Option.getD_some,Ad];try rfl,rfl⟩ (hlow:=by simp [Ag])
 refine Z17 ?_;refine Z45 ?_;refine Z45 ?_;refine Z45 ?_;refine Z12 ?_;refine Z0 ?_;refine A2 [1,2,86] ?_
 refine A4 (fun ht86=>?_) (fun ht86=>?_)
 ·refine Z1 ?_
  refine A7 (h:=Ax (0) (Aa (x.kids.getD 0 A8)) (fun _=>Ed h0)) (hr:=?_)
  refine ib ?_;exact A5 (Ab (Ai jA jS) A3) ⟨by rw [AC0 hn1 hn2 hn3 ht73 ht86];simp only [Tq,Option.getD_some,Ad];try rfl,rfl⟩ (hlow:=by simp [Ag])
 refine Z22 ?_;refine Z25 ?_;refine Ef 110 _ F4 ?_;refine Z51 ?_;exact A5 (Ab (Ai jA jS) A3) ⟨by rw [AC1 hn1 hn2 hn3 ht73 ht86];simp only [Tq,Option.getD_some,Option.getD_none,Ad];try rfl,rfl⟩ (hlow:=by simp [Ag])

/-- Who takes what kids yield: item k at U k, never an end. -/
structure Takes1 (P:Program) (l:Nat) (L:List Expr) (U:Nat→List AObj) (n0:Nat):Prop where
 lenU:∀k,(U k).length=n0
 lowU:∀k,∀x∈U k,ObjLow n0 x
 lt:l<n0
 y:∀(X:List AObj) (k:Nat) (z:Expr),L[k]? = some z→AYield P l [Aa z] (U k++X) (fun b H'=>b=true∧H'=U (k+1)++X)
abbrev yo (own:Bool) (o:Int) (t:Str) (ks:List Expr):AObj:=.cells 26 [A6 o,Ah t,A6 0,A6 0,Ah [],.slice own 6 (ks.map Aa)]
theorem wl {n:Nat} {own:Bool} {o:Int} {t:Str} {ks:List Expr}:ObjLow n (yo own o t ks):=by
 show ∀z∈[A6 o,Ah t,A6 0,A6 0,Ah [],AV.slice own 6 (ks.map Aa)],Low n z
 intro z hz
 simp only [By,Hb,or_false] at hz
 rcases hz with rfl|rfl|rfl|rfl|rfl|rfl
 all_goals first|exact Du|simp
theorem u1 (ks:List Expr) (x:Expr):ks.map Aa++[.agg [.v (.int .i64 x.op),.v (sv x.text),.v (.int .i64 x.val.kind),.v (.int .i64 x.val.n),.v (sv x.val.s),.slice false 6 (x.kids.map Aa)]]=(ks++[x]).map Aa:=by rw [G7,Dk,Kt,Ad x]
theorem AC3 (x:Expr) (Hp:List AObj):AFun Tryz.prog 324 [Aa x] Hp (.fn (.func 337) [] [.ro (Bg x)]):=by
 refine Aq [.tmp 2] [0] Tryz.func324 Tryz.ntmps324 (fun d=>?_)
 refine Z93 ?_;refine Ey ?_;refine H2 ?_;refine A7 ?_;refine Z4 ?_;exact A5 (Ap A3) (hlow:=by have:=Ag Hp.length x;rw [Ad] at this;simpa using this)

theorem AC4 {l:Nat} {x:Expr} {U:Nat→List AObj} {n0:Nat} (T:Takes1 Tryz.prog l (x.kids.map Bb) U n0) (hkl:x.kids.length≤1048576) (ih:∀y∈x.kids,∀Hp:List AObj,AFun Tryz.prog 300 [Aa y] Hp (Aa (Bb y))):ACall Tryz.prog 337 [.yield l,.ro (Bg x)] (U 0) (fun r H'=>H'=U x.kids.length):=by
 refine Aq [] [0,1] Tryz.func337 Tryz.ntmps337 (fun d=>?_)
 refine Z17 ?_;refine A2 [0,6,7,8] ?_
 refine Ff (α:=Nat) (fun k=>⟨18,Ao 0 (.yield l) (Ao 6 (.slice false 6 (x.kids.map Aa)) (Ao 7 (A6 x.kids.length) (Ao 8 (A6 (k:Nat)) (fun _=>.any)))),U k,[],[],none⟩) (fun k=>k≤x.kids.length) (fun k=>x.kids.length-k) (0) (Bk _) (E9 (by simp)) rfl (fun k hx=>?_)
 refine Z3 ?_;refine A2 [0,6,7,8,9] ?_
 refine Gp (fun ht9=>?_) (fun ht9=>?_)
 ·have hlt:k<x.kids.length:=by simpa using ht9
  refine b6 ?_
  refine A7 (h:=Ax (k) (Aa x.kids[k]) (fun _=>Cu hlt)) (hr:=?_)
  refine A7 ?_;refine Z21 ?_;refine A2 [0,4,6,7,8] ?_;refine Z1 ?_;refine Ac Tryz.call300 (ih x.kids[k] (Db hlt) _) ?_
  refine R.yield (T.y _ k (Bb x.kids[k]) (by rw [Ce,Al hlt];rfl)) ?_
  intro b Vv O hV hb
  obtain ⟨rfl,hH⟩:=hb
  obtain ⟨rfl,rfl⟩:=Zx hH (by rw [hV,T.lenU,T.lenU])
  refine ⟨fun _=>by rw [T.lenU];exact T.lowU _,fun o ho=>by simp at ho,?_⟩
  refine A7 ?_;refine A2 [0,6,7,8,16] ?_
  refine A4 (fun ht16=>?_) (fun ht16=>?_)
  ·cases ht16
  refine U2 ?_;refine A2 [0,6,7,8] ?_;refine Ct (k+1) hlt (by omega) ?_
  exact Es (own:=[]) (fun _=>.refl _) (by repeat (first|exact C6|refine C5 (by first|exact Du|(simp;done)|(have:=T.lt;simp [T.lenU];omega)) ?_)) (by simp) (by simp)
 have hke:k=x.kids.length:=by simp at ht9;omega
 refine K.lpE ?_;exact L9 .nores (hp:=by rw [hke])

theorem si {x:Expr} (h:((x.kids.length:Int)==0)=true):Bb x=x:=by rw [Ti,if_pos h]
theorem sj {x:Expr} (h:((x.kids.length:Int)==0)=false):Bb x=Ir x.op x.text (x.kids.map Bb):=by rw [Ti,if_neg (by rw [h];simp)]
section
variable {o:Int} {t:Str} {ks:List Expr}
theorem AC5 {z:Expr} (h:((ks.getD 0 A8).op==1)=true) (hc:Di o t ks=some z):Ir o t ks=z:=by unfold Ir;rw [if_pos h,hc]
theorem AC6 {z:Expr} (h:((ks.getD 0 A8).op==1)=true) (hc:Di o t ks=none) (hr:Gw (.mk o t noV ks)=some z):Ir o t ks=z:=by unfold Ir;rw [if_pos h,hc];simp only;rw [hr]
theorem AC7 (h:((ks.getD 0 A8).op==1)=true) (hc:Di o t ks=none) (hr:Gw (.mk o t noV ks)=none):Ir o t ks=.mk o t noV ks:=by unfold Ir;rw [if_pos h,hc];simp only;rw [hr]
theorem AC8 {z:Expr} (h:((ks.getD 0 A8).op==1)=false) (hr:Gw (.mk o t noV ks)=some z):Ir o t ks=z:=by unfold Ir;rw [if_neg (by rw [h];simp)];simp only;rw [hr]
theorem AC9 (h:((ks.getD 0 A8).op==1)=false) (hr:Gw (.mk o t noV ks)=none):Ir o t ks=.mk o t noV ks:=by unfold Ir;rw [if_neg (by rw [h];simp)];simp only;rw [hr]
end
theorem Ts {o:Option Expr} (h:o.isSome=true):o=some (o.getD A8):=by cases o<;>simp at h ⊢
theorem Tt {o:Option Expr} (h:o.isSome=false):o=none:=by cases o<;>simp at h ⊢
theorem kb {x:Expr} (hn:B9 C1 x=true) (hr:B9 Cg x=true) (hk:0<x.kids.length):B9 C1 (.mk x.op x.text noV (x.kids.map Bb))=true∧B9 Cg (.mk x.op x.text noV (x.kids.map Bb))=true∧sizeE (.mk x.op x.text noV (x.kids.map Bb))≤sizeE x∧depthE (.mk x.op x.text noV (x.kids.map Bb))≤depthE x:=by
 have h0:=hn
 rw [Cj,Ak] at h0
 have h1:=hr
 rw [Cj,Ak] at h1
 have ih:∀y∈x.kids,TrimOk [] [] y (Bb y):=fun y hy=>X7 (fun v hv=>by cases hv) _ y (An _) ((Ba _ _).1 h0.2 y hy) ((Ba _ _).1 h1.2 y hy)
 obtain ⟨o,t,v,k⟩:=x
 simp only [Expr.op,Expr.text,Expr.kids] at *
 have hv:v=noV:=by
  have hnn:=h0.1
  rw [Gs,Fk] at hnn
  split at hnn
  ·simp only [Ak,beq_iff_eq] at hnn
   have:=hnn.2
   omega
  split at hnn
  ·cases hnn
  rename_i hb;exact X0 (by simpa using hb)
 subst hv
 have hmem:∀y∈k.map Bb,∃z∈k,y=Bb z:=fun y hy=>by
  obtain ⟨z,hz,rfl⟩:=Dd.1 hy
  exact ⟨z,hz,rfl⟩
 refine ⟨?_,?_,?_,?_⟩
 ·rw [B9,Ak]
  refine ⟨?_,(Ba _ _).2 fun y hy=>?_⟩
  ·have hnn:=h0.1
   rw [Gs,Fk] at hnn ⊢
   rw [Bp]
   exact hnn
  obtain ⟨z,hz,rfl⟩:=hmem y hy
  exact (ih z hz).node
 ·rw [B9,Ak]
  refine ⟨h1.1,(Ba _ _).2 fun y hy=>?_⟩
  obtain ⟨z,hz,rfl⟩:=hmem y hy
  exact (ih z hz).rng
 ·rw [sizeE,sizeE]
  have:∀r:List Expr,(∀y∈r,y∈k)→C2 (r.map Bb)≤C2 r:=fun r=>by
   induction r with
   | nil=>intro _;exact An _
   | cons y r ihr =>
    intro hs
    rw [Dk,C2,C2]
    have h1:=(ih y (hs y Jx)).size
    have h2:=ihr fun z hz=>hs z (Lq _ hz)
    omega
  have:=this k fun _ h=>h
  omega
 rw [depthE,depthE]
 have:∀r:List Expr,(∀y∈r,y∈k)→Ea (r.map Bb)≤Ea r:=fun r=>by
  induction r with
  | nil=>intro _;exact An _
  | cons y r ihr =>
   intro hs
   rw [Dk,Ea,Ea]
   have h1:=(ih y (hs y Jx)).depth
   have h2:=ihr fun z hz=>hs z (Lq _ hz)
   omega
 have:=this k fun _ h=>h
 omega
theorem kc {o:Int} {t:Str} {ks:List Expr} (hn:B9 C1 (.mk o t noV ks)=true):(((o==6)&&(t==ifW))=true→ks.length=3)∧(((o==6)&&(t==Fo))=true→ks.length=2):=by
 rw [B9,Ak] at hn
 obtain ⟨q5,q34,q6,qall⟩:=Jr hn.1
 refine ⟨fun h=>?_,fun h=>?_⟩
 ·simp only [Ak,beq_iff_eq] at h
  obtain ⟨rfl,rfl⟩:=h
  rcases Eb (q6 rfl) with ⟨e,_⟩|⟨e,_⟩|⟨e,_⟩|⟨e,_⟩|⟨e,_⟩|⟨e,_⟩|⟨e,_⟩|⟨_,e⟩
  all_goals first|exact e|exact absurd (show ifW=_ from e) (by decide)
 simp only [Ak,beq_iff_eq] at h
 obtain ⟨rfl,rfl⟩:=h
 rcases Eb (q6 rfl) with ⟨e,_⟩|⟨e,_⟩|⟨e,_⟩|⟨e,_⟩|⟨_,e⟩|⟨e,_⟩|⟨e,_⟩|⟨e,_⟩
 all_goals first|exact e|exact absurd (show Fo=_ from e) (by decide)
theorem ACa:∀(n:Nat) (x:Expr),okE n x→n≤1000000→B9 C1 x=true→B9 Cg x=true→∀Hp:List AObj,AFun Tryz.prog 300 [Aa x] Hp (Aa (Bb x)):=by
 intro n
 induction n with
 | zero=>exact fun x h=>h.elim
 | succ n ih =>
 intro x hok hn hnode hrng Hp
 have hih:∀y∈x.kids,∀Hp:List AObj,AFun Tryz.prog 300 [Aa y] Hp (Aa (Bb y)):=fun y hy=>ih y (hok.2.2 y hy) (by omega) (by rw [Cj,Ak] at hnode;exact (Ba _ _).1 hnode.2 y hy) (by rw [Cj,Ak] at hrng;exact (Ba _ _).1 hrng.2 y hy)
 refine Aq [.cell 2 26] [0,4] Tryz.func300 Tryz.ntmps300 (fun d=>?_)
 refine mb ?_;refine A2 [1,2,4] ?_;refine Z60 ?_;refine A2 [1,2,4,12] ?_
 refine A4 (fun ht12=>?_) (fun ht12=>?_)
 ·rw [Bp] at ht12
  refine Z3 ?_;refine ia ?_;exact A5 (Ap (Ai jA jS)) ⟨by rw [si ht12];simp only [Ad];try rfl,rfl⟩ (hlow:=by simp [Ag])
 rw [Bp] at ht12
 have hte:=sj ht12
 have hk1:0<x.kids.length:=by
  cases hk:x.kids with
  | nil=>rw [hk] at ht12;cases ht12
  | cons a r=>simp
 have hk0:0<(x.kids.map Bb).length:=by simpa using hk1
 obtain ⟨hyn,hyr,hys,hyd⟩:=kb hnode hrng hk1
 obtain ⟨hy3,hy2⟩:=kc hyn
 have hyok:okE (n+1) (Expr.mk x.op x.text noV (x.kids.map Bb)):=Zq (n+1) _ (Jz hyd (Va _ _ hok)) hyn
 refine Z9 ?_;refine Z17 ?_;refine Y2 ?_;refine Z21 ?_;refine A2 [1,2,3,4] ?_;refine Z96 ?_;refine La 1 5 6 ?_
 refine Mx (fun hlow=>?_)
 refine A7 ?_;refine Ac Tryz.call324 (AC3 x _) ?_;refine A2 [2,3,4,20] ?_;refine I5 ?_
 refine My (m:=2) Tryz.call337 (fun FR as' bd' hFR has hbd=>?_)
 have hFRl:∀s,Low (Hp.length+4) (FR s):=by
  intro s
  rw [hFR]
  refine Ou ?_
  revert s
  repeat (first|exact C6|refine C5 (by first|exact O9|(simp [oid,Ag]<;>try omega)) ?_)
 have hOl:∀{k:Nat},∀y∈[.cells 26 [A6 0,Ah [],A6 0,A6 0,Ah [],.nil],yo true x.op x.text ((x.kids.map Bb).take k),AObj.defs,AObj.loop LoopState.ready none FR 50 #[21] as' bd' (oid Hp.length 2)],ObjLow (Hp.length+4) y:=by
  intro k y hy
  simp only [By,Ha,or_false] at hy
  rcases hy with rfl|rfl|rfl|rfl
  ·exact O6
  ·exact wl
  ·trivial
  exact il
 refine ⟨fun _ H'=>H'=Hp++[.cells 26 [A6 0,Ah [],A6 0,A6 0,Ah [],.nil],yo true x.op x.text ((x.kids.map Bb).take x.kids.length),AObj.defs,AObj.loop LoopState.ready none FR 50 #[21] as' bd' (oid Hp.length 2)],AC4 (x:=x) (l:=oid Hp.length 3) (U:=fun k=>Hp++[.cells 26 [A6 0,Ah [],A6 0,A6 0,Ah [],.nil],yo true x.op x.text ((x.kids.map Bb).take k),AObj.defs,AObj.loop LoopState.ready none FR 50 #[21] as' bd' (oid Hp.length 2)]) (n0:=Hp.length+4) ⟨fun k=>by simp,fun k y hy=>?_,by simp [oid],fun X k z hz=>?_⟩ hok.2.1 hih,?_⟩
 ·exact M0 (fun y hy=>Wr (by omega) (hlow y hy)) hOl y hy
 ·have hklt:k<x.kids.length:=by have:=(Ae.1 hz).1;simpa using this
  generalize hV:(Hp++[.cells 26 [A6 0,Ah [],A6 0,A6 0,Ah [],.nil],yo true x.op x.text ((x.kids.map Bb).take k),AObj.defs,AObj.loop LoopState.ready none FR 50 #[21] as' bd' (oid Hp.length 2)]++X)=V
  have hL:V[oid Hp.length 3]? = some (AObj.loop LoopState.ready none FR 50 #[21] as' bd' (oid Hp.length 2)):=by rw [←hV,Bt,Bl];rfl
  have hA0:V[oid Hp.length 1]? = some (yo true x.op x.text ((x.kids.map Bb).take k)):=by rw [←hV,Bt,Bl];rfl
  refine Ms (pd:=none) (fr:=FR) (sz:=50) (ps:=#[21]) (df:=oid Hp.length 2) (asg:=as') (bd:=bd') hL rfl (by decide) (fun d=>?_)
  subst hFR has hbd
  refine G9 [3,21] ?_;refine If ?_;refine Z21 ?_;refine A2 [3,4] ?_
  refine ⟨rfl,none,hL,?_⟩
  generalize hbz:(AObj.loop LoopState.busy _ _ _ _ _ _ _)=bz
  have hA:(V.set (oid Hp.length 3) bz)[oid Hp.length 1]? = some (yo true x.op x.text ((x.kids.map Bb).take k)):=by rw [El (Dr (by decide))];exact hA0
  refine I5 ?_
  refine W.drawT0 [0,1,0,3,0,31,63,127,63,319] [1] [.q 1 [] [0],.s [23] (some 0) [] [],.q 3 [] []] (fun B=>(V.set (oid Hp.length 3) bz).set (oid Hp.length 1) (if B 0=true then yo false x.op x.text ((x.kids.map Bb).take k) else yo true x.op x.text ((x.kids.map Bb).take k))) (fun _=>[.cells 26 (Bg z)]) Aw (by kernel_rfl) (by simp only [Bs,if_false];exact Ho hA) rfl (fun B=>by simp) ?_
  apply Y.q
  ·intro B hT hF
   exact Z61
  case hTF=>decide
  refine Y.loadUpT (o:=oid Hp.length 1) (t':=26) (cs:=[A6 x.op,Ah x.text,A6 0,A6 0,Ah [],.slice true 6 (((x.kids.map Bb).take k).map Aa)]) (cs':=[A6 x.op,Ah x.text,A6 0,A6 0,Ah [],.slice false 6 (((x.kids.map Bb).take k).map Aa)]) Tryz.isAgg24 (fun B hB=>⟨by simp only [hB];exact Ar hA,by simp only [upd,if_true,De],rfl⟩) ?_
  apply Y.q
  ·intro B hT hF
   refine Z13 ?_;exact Z87
  case hTF=>decide
  refine Y.appendPut (tn:=[1]) (U:=(V.set (oid Hp.length 3) bz).set (oid Hp.length 1) (yo false x.op x.text ((x.kids.map Bb).take k))) (O:=[.cells 26 (Bg z)]) (o:=oid Hp.length 1) (t':=26) (cs:=[A6 x.op,Ah x.text,A6 0,A6 0,Ah [],.slice false 6 (((x.kids.map Bb).take k).map Aa)]) (by kernel_rfl) jU Tryz.type26 Tryz.sizeOf26 Tryz.sizeOf24 jU (Av (Ar hA)) ?_ ?_ ?_ (hfsz:=Tryz.sizeOf24)
  ·have:=hok.2.1;simp [Tryz.t26];omega
  ·have:=hok.2.1;simp [Tryz.t26];omega
  refine A7 ?_
  refine au jS (Ar hA) ?_ ?_
  ·first|(rw [u1];exact Du)|(simp only [Ad];exact Du)
  refine ax ?_
  subst hbz
  refine ur ?_
  refine ⟨rfl,?_⟩
  subst hV
  simp only [Bt,Fl,E0,Dz,List.set_cons_succ,List.set_cons_zero]
  rw [Pn hz]
  try simp only [u1]
  try rfl
 intro r H' hq
 subst hq
 refine ⟨Hp,_,_,_,rfl,rfl,fun h=>h,?_,rfl,by simp,?_⟩
 ·intro o ho
  have:o=oid Hp.length 2:=by simpa using ho
  subst this
  rw [Bl]
  rfl
 rw [show (x.kids.map Bb).take x.kids.length=x.kids.map Bb from G5 (by simp)]
 refine Z16 ?_;refine Z32 ?_
 refine A7 (h:=Ax (0) (Aa ((x.kids.map Bb).getD 0 A8)) (fun _=>Ed hk0)) (hr:=?_)
 refine A7 ?_;refine Ac Tryz.call268 (we ((x.kids.map Bb).getD 0 A8) _) ?_;refine A2 [2,3,34] ?_
 refine A4 (fun ht34=>?_) (fun ht34=>?_)
 ·refine Z3 ?_;refine Ac Tryz.call325 (AC2 (Expr.mk x.op x.text noV (x.kids.map Bb)) hk0 hy3 hy2 _) ?_;refine Z82 ?_;refine A2 [2,3,5,6] ?_;refine Z3 ?_;refine A2 [2,3,5,40] ?_
  refine A4 (fun ht40=>?_) (fun ht40=>?_)
  ·have hc:(Di x.op x.text (x.kids.map Bb))=some ((Di x.op x.text (x.kids.map Bb)).getD A8):=Ts ht40
   refine Z3 ?_;refine ia ?_;exact A5 (Ap (Ai jA jS)) ⟨by rw [hte,AC5 ht34 hc];simp only [Ad];try rfl,rfl⟩ (hlow:=by simp [Ag])
  have hc:(Di x.op x.text (x.kids.map Bb))=none:=Tt ht40
  refine x6 ?_;refine Z82 ?_;refine A2 [2,3,7,8] ?_;refine Z3 ?_;refine A2 [2,3,7,47] ?_
  refine A4 (fun ht47=>?_) (fun ht47=>?_)
  ·have hr:(Gw (Expr.mk x.op x.text noV (x.kids.map Bb)))=some ((Gw (Expr.mk x.op x.text noV (x.kids.map Bb))).getD A8):=Ts ht47
   refine Z3 ?_;refine ia ?_;exact A5 (Ap (Ai jA jS)) ⟨by rw [hte,AC6 ht34 hc hr];simp only [Ad];try rfl,rfl⟩ (hlow:=by simp [Ag])
  have hr:(Gw (Expr.mk x.op x.text noV (x.kids.map Bb)))=none:=Tt ht47
  refine Z75 ?_;refine Z10 ?_;exact A5 (Ap (Ai jA jS)) ⟨by rw [hte,AC7 ht34 hc hr];simp only [Ad];try rfl,rfl⟩ (hlow:=by simp [Ag])
 refine x6 ?_;refine Z82 ?_;refine A2 [2,3,7,8] ?_;refine Z3 ?_;refine A2 [2,3,7,47] ?_
 refine A4 (fun ht47=>?_) (fun ht47=>?_)
 ·have hr:(Gw (Expr.mk x.op x.text noV (x.kids.map Bb)))=some ((Gw (Expr.mk x.op x.text noV (x.kids.map Bb))).getD A8):=Ts ht47
  refine Z3 ?_;refine ia ?_;exact A5 (Ap (Ai jA jS)) ⟨by rw [hte,AC8 ht34 hr];simp only [Ad];try rfl,rfl⟩ (hlow:=by simp [Ag])
 have hr:(Gw (Expr.mk x.op x.text noV (x.kids.map Bb)))=none:=Tt ht47
 refine Z75 ?_;refine Z10 ?_;exact A5 (Ap (Ai jA jS)) ⟨by rw [hte,AC9 ht34 hr];simp only [Ad];try rfl,rfl⟩ (hlow:=by simp [Ag])

/-- trim.Trim: the tree and the error. -/
def Oh (x:Expr):Expr×Int:=if Au x=true then (Bb x,0) else (A8,1)
theorem fh {x:Expr} (h:Au x=true):Oh x=(Bb x,0):=if_pos h
theorem fj {x:Expr} (h:Au x=false):Oh x=(A8,1):=if_neg (by rw [h];simp)
theorem ACb (n:Nat) (x:Expr) (hok:okE n x) (hn:n≤1000000) (hg:B9 Cg x=true) (Hp:List AObj):AFun Tryz.prog 267 [Aa x] Hp (.tup [Aa (Oh x).1,A6 (Oh x).2]):=by
 refine Aq [.cell 2 26,.tmp 3] [0] Tryz.func267 Tryz.ntmps267 (fun d=>?_)
 refine m7 ?_;refine Z37 ?_;refine Ac Tryz.call38 (c38 n x hok (by omega) _) ?_;refine A7 ?_;refine A2 [1,2,6] ?_
 refine A4 (fun ht6=>?_) (fun ht6=>?_)
 ·have hr:Au x=false:=by simpa using ht6
  refine Z25 ?_;refine Ef 7 _ F4 ?_;refine Z51 ?_;refine Cp ?_;exact A5 (Ab (Ai jA jS) A3) ⟨by rw [fj hr];simp only [Ad];try rfl,rfl⟩ (hlow:=by simp [Ag])
 have hr:Au x=true:=by simpa using ht6
 refine Z75 ?_;refine Ac Tryz.call300 (ACa n x hok hn (J6 hr) hg _) ?_;refine Z51 ?_;exact A5 (Ab (Ai jA jS) A3) ⟨by rw [fh hr];simp only [Ad];try rfl,rfl⟩ (hlow:=by simp [Ag])

/-- trim.Constant, trim.All. -/
def Ci (x:Expr):Val×Bool:=if (((Oh x).2 != 0) || !((Oh x).1.op==1))=true then (noV,false) else ((Oh x).1.val,true)
theorem ACc (n:Nat) (x:Expr) (hok:okE n x) (hn:n≤1000000) (hg:B9 Cg x=true) (Hp:List AObj):AFun Tryz.prog 216 [Aa x] Hp (.tup [Bq (Ci x).1,B8 (Ci x).2]):=by
 refine Aq [.cell 2 23,.tmp 3] [0] Tryz.func216 Tryz.ntmps216 (fun d=>?_)
 refine m7 ?_;refine Z3 ?_;refine Ac Tryz.call267 (ACb n x hok hn hg _) ?_;refine Z82 ?_;refine A2 [2,4,5] ?_;refine Z39 ?_;refine C4 ?_;refine Co Tryz.call268 (fun hB=>we (Oh x).1 _) ?_;refine Z63 ?_;refine A2 [2,4,17] ?_
 refine A4 (fun ht17=>?_) (fun ht17=>?_)
 ·have hm:Ci x=(noV,false):=if_pos ht17
  refine Z50 ?_;refine Z51 ?_;exact Z23
 have hm:Ci x=((Oh x).1.val,true):=if_neg (by rw [ht17];simp)
 refine S4 ?_;exact x7

/-! invert: nodes, and a node taken apart. -/
abbrev d7 (l:List Expr):AV:=.slice false 6 (l.map Aa)
abbrev zo (s:Sd):List AV:=[.v (.int .i64 s.e.op),.v (sv s.e.text),.v (.int .i64 s.e.val.kind),.v (.int .i64 s.e.val.n),.v (sv s.e.val.s),.slice false 6 (s.e.kids.map Aa),.v (.int .i64 s.c.op),.v (sv s.c.text),.v (.int .i64 s.c.val.kind),.v (.int .i64 s.c.val.n),.v (sv s.c.val.s),.slice false 6 (s.c.kids.map Aa),.v (.bool s.first)]
abbrev Vg (s:Sd):AV:=.agg (zo s)
def sdZ:Sd:=⟨A8,A8,false⟩
theorem sk (o:Int) (t:Str) (v:Val) (a:Expr):Aa (.mk o t v [a])=.agg [A6 o,.v (sv t),A6 v.kind,A6 v.n,.v (sv v.s),.slice false 6 [.agg (Bg a)]]:=by rw [Ad];show _=AV.agg [_,_,_,_,_,.slice false 6 [_]];rw [←Ad a];rfl
theorem sm (o:Int) (t:Str) (v:Val) (a b:Expr):Aa (.mk o t v [a,b])=.agg [A6 o,.v (sv t),A6 v.kind,A6 v.n,.v (sv v.s),.slice false 6 [.agg (Bg a),.agg (Bg b)]]:=by rw [Ad];show _=AV.agg [_,_,_,_,_,.slice false 6 [_,_]];rw [←Ad a,←Ad b];rfl
theorem c42 (s:Str) (Hp:List AObj):AFun Tryz.prog 42 [Ah s] Hp (Aa (B6 s)):=by
 refine Aq [.cell 2 26] [0] Tryz.func42 Tryz.ntmps42 (fun d=>?_)
 refine Z52 ?_;refine ug ?_;refine Ef 4 _ (Ll 2 s noV) ?_;refine Z10 ?_;exact A5 (Ap (Ai jA jS)) ⟨by rw [Ad];rfl,rfl⟩ (hlow:=Ag _ (B6 s))

theorem ACd (n:Int) (Hp:List AObj):AFun Tryz.prog 172 [A6 n] Hp (Aa (Cs ⟨1,n,[]⟩)):=by
 refine Aq [.cell 2 26] [0] Tryz.func172 Tryz.ntmps172 (fun d=>?_)
 refine Z52 ?_;refine ui ?_;refine Y2 ?_;refine Ef 5 _ (Ll 1 [] ⟨1,n,[]⟩) ?_;refine Z10 ?_;exact A5 (Ap (Ai jA jS)) ⟨by rw [Ad];rfl,rfl⟩ (hlow:=Ag _ (Cs ⟨1,n,[]⟩))

theorem c171 (x:Expr) (t:Str) (y:Expr) (Hp:List AObj):AFun Tryz.prog 171 [Aa x,Ah t,Aa y] Hp (Aa (G4 x t y)):=by
 refine Aq [.cell 6 26] [0,1,2] Tryz.func171 Tryz.ntmps171 (fun d=>?_)
 refine Z1 ?_;refine Ij jZ ?_;refine A2 [1,3,5,6] ?_;refine Z14 ?_;refine x9 ?_;refine ic ?_;exact A5 (Ap (Ai jA jS)) ⟨by unfold G4;rw [sm];rfl,rfl⟩ (hlow:=by simp [or_imp,forall_and,Ag])

theorem zp (t:Str) (l:List Expr) (Hp:List AObj):AFun Tryz.prog 133 [Ah t,d7 l] Hp (Aa (D6 t l)):=by
 refine Aq [.cell 4 26] [0,1] Tryz.func133 Tryz.ntmps133 (fun d=>?_)
 refine Z26 ?_;refine A2 [0,1,4] ?_;refine Z73 ?_;refine Jj ?_;refine Z29 ?_;exact A5 (Ap (Ai jA jS)) ⟨by unfold D6;rw [Th];rfl,rfl⟩ (hlow:=by simp [or_imp,forall_and,Ag])

theorem sq (n:Nat) (x:Expr) (hok:okE n x) (hn:n≤1048576) (hs:sizeE x≤1048576) (Hp:List AObj):AFun Tryz.prog 132 [Aa x] Hp (B8 (Jg x)):=by
 refine Aq [.tmp 2] [0] Tryz.func132 Tryz.ntmps132 (fun d=>?_)
 refine Z93 ?_;refine Z3 ?_;refine Ac Tryz.call169 (ABq n x hok hn hs _) ?_;refine Z24 ?_;refine Z4 ?_;exact A5 (Ap A3) ⟨by unfold Jg;simp,rfl⟩

/-- What invert.apart answers. -/
def apS (x:Expr):Sd×Bool:=
 if (x.kids.length:Int)==1 then (⟨(x.kids.getD 0 A8),A8,false⟩,Jg (x.kids.getD 0 A8))
 else if ((x.kids.length:Int) != 2) || (Jg (x.kids.getD 0 A8)==Jg (x.kids.getD 1 A8)) then (sdZ,false)
 else if Jg (x.kids.getD 0 A8) then (⟨(x.kids.getD 0 A8),(x.kids.getD 1 A8),false⟩,true) else (⟨(x.kids.getD 1 A8),(x.kids.getD 0 A8),true⟩,true)
theorem ACe {x:Expr} (h:((x.kids.length:Int)==1)=true):apS x=(⟨(x.kids.getD 0 A8),A8,false⟩,Jg (x.kids.getD 0 A8)):=if_pos h
theorem ACf {x:Expr} (h:((x.kids.length:Int)==1)=false) (h2:(((x.kids.length:Int) != 2) || (Jg (x.kids.getD 0 A8)==Jg (x.kids.getD 1 A8)))=true):apS x=(sdZ,false):=by unfold apS;rw [h,h2];rfl
theorem ACg {x:Expr} (h:((x.kids.length:Int)==1)=false) (h2:(((x.kids.length:Int) != 2) || (Jg (x.kids.getD 0 A8)==Jg (x.kids.getD 1 A8)))=false) (h3:Jg (x.kids.getD 0 A8)=true):apS x=(⟨(x.kids.getD 0 A8),(x.kids.getD 1 A8),false⟩,true):=by unfold apS;rw [h,h2,h3];rfl
theorem ACh {x:Expr} (h:((x.kids.length:Int)==1)=false) (h2:(((x.kids.length:Int) != 2) || (Jg (x.kids.getD 0 A8)==Jg (x.kids.getD 1 A8)))=false) (h3:Jg (x.kids.getD 0 A8)=false):apS x=(⟨(x.kids.getD 1 A8),(x.kids.getD 0 A8),true⟩,true):=by unfold apS;rw [h,h2,h3];rfl
theorem ot (x:Expr):Hy x=if (apS x).2 then some (apS x).1 else none:=by
 unfold Hy apS
 cases h:x.kids with
 | nil=>rfl
 | cons a r=>cases r with
  | nil=>rfl
  | cons b r=>cases r with
   | nil =>
    cases h1:Jg a<;>cases h2:Jg b<;>simp [h1,h2]
   | cons d r =>
    have h1:((((a::b::d::r).length:Nat):Int)==1)=false:=by simp only [Ay];simp;omega
    have h2:((((a::b::d::r).length:Nat):Int) != 2)=true:=by simp only [Ay];simp;omega
    rw [h1,h2]
    rfl
theorem sr (e:Expr):Le (.agg [.v (.int .i64 e.op),.v (sv e.text),.v (.int .i64 e.val.kind),.v (.int .i64 e.val.n),.v (sv e.val.s),.slice false 6 (e.kids.map Aa),A6 0,Ah [],A6 0,A6 0,Ah [],.nil,B8 false]) (Vg ⟨e,A8,false⟩):=by
 refine .agg _ _ rfl (by simp [AV.one,Value.oneCell',sv]) fun i y y' h1 h2=>?_
 match i with
 | 0|1|2|3|4|5|6|7|8|9|10|12=>simp at h1 h2;subst h1;subst h2;exact .inl rfl
 | 11=>simp at h1 h2;subst h1;subst h2;exact .inr ⟨rfl,6,rfl⟩
 | i+13=>simp at h1
theorem ou:Le (.agg [A6 0,Ah [],A6 0,A6 0,Ah [],.nil,A6 0,Ah [],A6 0,A6 0,Ah [],.nil,B8 false]) (Vg sdZ):=by
 refine .agg _ _ rfl (by simp [AV.one,Value.oneCell',sv]) fun i y y' h1 h2=>?_
 match i with
 | 0|1|2|3|4|6|7|8|9|10|12=>simp [sdZ] at h1 h2;subst h1;subst h2;exact .inl rfl
 | 5|11=>simp [sdZ] at h1 h2;subst h1;subst h2;exact .inr ⟨rfl,6,rfl⟩
 | i+13=>simp at h1
theorem Pt {n:Nat} {x:Expr} (h1:1≤n) (hok:okE (n+1) x) (i:Nat):okE n (x.kids.getD i A8):=by
 rw [Ch]
 cases h:x.kids[i]? with
 | none=>exact Lk h1
 | some e=>exact hok.2.2 _ (B3 h)
theorem Oi {x:Expr} (hs:sizeE x≤1048576) (i:Nat):sizeE (x.kids.getD i A8)≤1048576:=by
 rw [Ch]
 cases h:x.kids[i]? with
 | none=>show sizeE A8≤_;decide
 | some e =>
  have:=R9 (B3 h)
  rw [Fi] at hs
  show sizeE e≤_
  omega
theorem c84 (n:Nat) (h1n:1≤n) (x:Expr) (hok:okE (n+1) x) (hn:n≤1048576) (hs:sizeE x≤1048576) (Hp:List AObj):AFun Tryz.prog 84 [Aa x] Hp (.tup [Vg (apS x).1,B8 (apS x).2]):=by
 have hkl:=Zr hok
 refine Aq [.cell 2 135,.tmp 3] [0] Tryz.func84 Tryz.ntmps84 (fun d=>?_)
 refine m7 ?_;refine Z27 ?_;refine Z17 ?_;refine A7 ?_;refine A2 [1,2,4] ?_
 refine A4 (fun ht4=>?_) (fun ht4=>?_)
 ·rw [Bp] at ht4
  have h0:0<x.kids.length:=by simp at ht4;omega
  refine Mu [0,1,3,7,15,0,32,96,224,480,1023,2047] 10 Aw (by kernel_rfl) ?_;refine Z13 ?_
  refine B4 (h:=Ax (0) (Aa (x.kids.getD 0 A8)) (fun _=>Ed h0)) (hr:=?_)
  refine B4 ?_;refine D.build (places:=#[(0,6),(6,6),(12,1)]) jU (fun w=>by simp) jZ ?_;refine Z13 ?_
  refine B4 (h:=Ax (0) (Aa (x.kids.getD 0 A8)) (fun _=>Ed h0)) (hr:=?_)
  refine B4 ?_;refine Cy Tryz.call132 (sq n (x.kids.getD 0 A8) (Pt h1n hok 0) hn (Oi hs 0) _) ?_;refine Dw ?_;refine Ef 13 _ (sr (x.kids.getD 0 A8)) ?_;refine Xx ?_;exact A5 (Ab (Ai jA jS) A3) ⟨by rw [ACe ht4]<;>rfl,rfl⟩ (hlow:=by simp [or_imp,forall_and,Ag])
 rw [Bp] at ht4
 have h20:x.kids.length=2→0<x.kids.length:=fun h=>by omega
 have h21:x.kids.length=2→1<x.kids.length:=fun h=>by omega
 refine Mu [0,1,3,7,15,31,63,127,255,511,31,1055,3103,7199,16383,32767,65535,131071] 14 Aw (by kernel_rfl) ?_;refine Wf ?_;refine Z72 ?_
 refine H.go (h:=Ax (0) (Aa (x.kids.getD 0 A8)) (fun hB=>Ed (h20 (by simp at hB;omega)))) (hr:=?_)
 refine H.go ?_;refine H.call Tryz.call132 (fun hB=>sq n (x.kids.getD 0 A8) (Pt h1n hok 0) hn (Oi hs 0) _) ?_;refine Z72 ?_
 refine H.go (h:=Ax (1) (Aa (x.kids.getD 1 A8)) (fun hB=>Ed (h21 (by simp at hB;omega)))) (hr:=?_)
 refine H.go ?_;refine Dw ?_;refine Co Tryz.call132 (fun hB=>sq n (x.kids.getD 1 A8) (Pt h1n hok 1) hn (Oi hs 1) _) ?_;refine Z35 ?_;refine A2 [1,2,19] ?_
 refine A4 (fun ht19=>?_) (fun ht19=>?_)
 ·rw [Bp] at ht19
  refine Ey ?_;refine Mt (places:=#[(0,6),(6,6),(12,1)]) jU (fun w=>by simp) jZ ?_;refine Ef 37 _ ou ?_;refine Xx ?_;exact A5 (Ab (Ai jA jS) A3) ⟨by rw [ACf ht4 ht19]<;>rfl,rfl⟩ (hlow:=by simp [or_imp,forall_and,Ag])
 rw [Bp] at ht19
 have h2:x.kids.length=2:=by simp at ht19;omega
 have h0:=h20 h2
 have h1:=h21 h2
 refine Z1 ?_
 refine A7 (h:=Ax (0) (Aa (x.kids.getD 0 A8)) (fun _=>Ed h0)) (hr:=?_)
 refine A7 ?_;refine Ac Tryz.call132 (sq n (x.kids.getD 0 A8) (Pt h1n hok 0) hn (Oi hs 0) _) ?_;refine A7 ?_;refine A2 [1,2,38] ?_
 refine A4 (fun ht38=>?_) (fun ht38=>?_)
 ·refine xl ?_
  refine B4 (h:=Ax (0) (Aa (x.kids.getD 0 A8)) (fun _=>Ed h0)) (hr:=?_)
  refine Z33 ?_
  refine B4 (h:=Ax (1) (Aa (x.kids.getD 1 A8)) (fun _=>Ed h1)) (hr:=?_)
  refine B4 ?_;refine xq ?_;refine Xx ?_;exact A5 (Ab (Ai jA jS) A3) ⟨by rw [ACg ht4 ht19 ht38]<;>rfl,rfl⟩ (hlow:=by simp [or_imp,forall_and,Ag])
 refine Z22 ?_;refine xl ?_
 refine B4 (h:=Ax (1) (Aa (x.kids.getD 1 A8)) (fun _=>Ed h1)) (hr:=?_)
 refine Z33 ?_
 refine B4 (h:=Ax (0) (Aa (x.kids.getD 0 A8)) (fun _=>Ed h0)) (hr:=?_)
 refine B4 ?_;refine xq ?_;refine Z51 ?_;exact A5 (Ab (Ai jA jS) A3) ⟨by rw [ACh ht4 ht19 ht38]<;>rfl,rfl⟩ (hlow:=by simp [or_imp,forall_and,Ag])

/-- What invert.constant, sum, join and back answer. -/
def csS (x:Expr) (k:Int):Expr×Bool:=(Cs (Ci x).1,(Ci x).2&&((Ci x).1.kind==k))
def Ni (t:Str) (s:Sd) (y:Expr):Expr×Bool:=if !(csS s.c 1).2 then (A8,false) else if t==[43] then (G4 y [45] (csS s.c 1).1,true) else if s.first then (G4 (csS s.c 1).1 [45] y,true) else (G4 y [43] (csS s.c 1).1,true)
def Lp (s:Sd) (y:Expr):Expr×Bool:=if !(csS s.c 2).2 then (A8,false) else (D6 (if s.first then Lm else Qi) [y,G4 (D6 Jf [y]) [45] (Cs ⟨1,((Ci s.c).1.s.length:Int),[]⟩)],true)
def Ek (x:Expr) (s:Sd) (y:Expr):Expr×Bool:=
 if (x.op==3) || (x.op==4) then (.mk x.op [] noV [y],true)
 else if (x.op==6)&&(x.text==Kf) then (D6 X8 [y],true)
 else if (x.op==5)&&((x.text==[43]) || (x.text==[45])) then Ni x.text s y
 else if (x.op==5)&&(x.text==[38]) then Lp s y
 else (A8,false)
theorem su (x:Expr):Ci x=if Au x&&((Bb x).op==1) then ((Bb x).val,true) else (noV,false):=by
 unfold Ci
 cases h:Au x with
 | false=>rw [fj h];rfl
 | true =>
  rw [fh h]
  cases h1:((Bb x).op==1)<;>simp [h1]
theorem u2 (x:Expr) (k:Int):Ln x k=if (csS x k).2 then some (Ci x).1 else none:=by
 unfold Ln csS
 rw [su]
 cases h:(Au x&&((Bb x).op==1)) with
 | false=>rfl
 | true=>rfl
theorem wm (t:Str) (s:Sd) (y:Expr):o8 t s y=if (Ni t s y).2 then some (Ni t s y).1 else none:=by
 unfold o8 Ni
 rw [u2]
 cases h:(csS s.c 1).2 with
 | false=>rfl
 | true =>
  show some _=_
  cases h1:(t==[43])<;>cases h2:s.first<;>rfl
theorem sw (s:Sd) (y:Expr):Zk s y=if (Lp s y).2 then some (Lp s y).1 else none:=by
 unfold Zk Lp
 rw [u2]
 cases h:(csS s.c 2).2 with
 | false=>rfl
 | true=>rfl
theorem fk (x:Expr) (s:Sd) (y:Expr):Oe x s y=if (Ek x s y).2 then some (Ek x s y).1 else none:=by
 unfold Oe Ek
 split
 ·rfl
 split
 ·rfl
 split
 ·exact wm _ _ _
 split
 ·exact sw _ _
 rfl
theorem d8 (t:Str) (y:Expr) (Hp:List AObj):AFun Tryz.prog 133 [Ah t,.slice false 6 [.agg (Bg y)]] Hp (Aa (D6 t [y])):=by
 have:=zp t [y] Hp
 rwa [d7,Dk,Kt,Ad] at this
theorem ov (t:Str) (y z:Expr) (Hp:List AObj):AFun Tryz.prog 133 [Ah t,.slice false 6 [.agg (Bg y),.agg (Bg z)]] Hp (Aa (D6 t [y,z])):=by
 have:=zp t [y,z] Hp
 rwa [d7,Dk,Dk,Kt,Ad y,Ad z] at this
theorem zq (n:Nat) (x:Expr) (k:Int) (hok:okE n x) (hn:n≤1000000) (hg:B9 Cg x=true) (Hp:List AObj):AFun Tryz.prog 170 [Aa x,A6 k] Hp (.tup [Aa (csS x k).1,B8 (csS x k).2]):=by
 refine Aq [.cell 4 26,.tmp 5] [0,1] Tryz.func170 Tryz.ntmps170 (fun d=>?_)
 refine m4 ?_;refine A2 [1,2,4] ?_;refine Z3 ?_;refine Ac Tryz.call216 (ACc n x hok hn hg _) ?_;refine Z82 ?_;refine A2 [1,4,6,7] ?_;refine H4 [0,1,0,4,12,28,12,124,252,15,1023] [9] [.q 9 [] [],.s [] (some 0) [] []] (fun _=>Hp) (fun B=>[.cells 26 (if B 0=true then [A6 1,Ah [],A6 (Ci x).1.kind,A6 (Ci x).1.n,Ah (Ci x).1.s,.nil] else [A6 0,Ah [],A6 0,A6 0,Ah [],.nil]),.cells 23 [A6 (Ci x).1.kind,A6 (Ci x).1.n,Ah (Ci x).1.s]]) Aw (by kernel_rfl) rfl rfl (fun _=>rfl) ?_
 apply Y.q
 ·intro B hT hF
  refine B4 ?_;refine Z98 ?_;refine Z72 ?_;refine Z72 ?_;exact Z61
 case hTF=>decide
 refine Y.storeOwn (u:=Hp.length) (n:=0) (t':=26) (cs:=[A6 0,Ah [],A6 0,A6 0,Ah [],.nil]) (cs':=[A6 1,Ah [],A6 (Ci x).1.kind,A6 (Ci x).1.n,Ah (Ci x).1.s,.nil]) Tryz.sizeOf26 (fun B hB=>⟨rfl,by simp only [hB];rfl,by simp [upd],rfl⟩) ?_
 refine H5 (tn:=[9]) (O:=[.cells 26 [A6 1,Ah [],A6 (Ci x).1.kind,A6 (Ci x).1.n,Ah (Ci x).1.s,.nil],.cells 23 [A6 (Ci x).1.kind,A6 (Ci x).1.n,Ah (Ci x).1.s]]) ?_;refine La 0 5 6 ?_;refine A7 ?_;refine Z11 ?_;exact A5 (Ab (Ai jA jS) A3) ⟨by show _=AV.tup [Aa (Cs (Ci x).1),B8 _];rw [Ad];rfl,rfl⟩ (hlow:=by have:=Ag Hp.length (Cs (Ci x).1);rw [Ad] at this;simpa [or_imp,forall_and] using this)

section
variable {t:Str} {s:Sd} {y:Expr}
theorem ACi (h:(!(csS s.c 1).2)=true):Ni t s y=(A8,false):=if_pos h
theorem ACj (h:(!(csS s.c 1).2)=false) (h2:(t==[43])=true):Ni t s y=(G4 y [45] (csS s.c 1).1,true):=by unfold Ni;rw [h,h2];rfl
theorem ACk (h:(!(csS s.c 1).2)=false) (h2:(t==[43])=false) (h3:s.first=true):Ni t s y=(G4 (csS s.c 1).1 [45] y,true):=by unfold Ni;rw [h,h2,h3];rfl
theorem ACl (h:(!(csS s.c 1).2)=false) (h2:(t==[43])=false) (h3:s.first=false):Ni t s y=(G4 y [43] (csS s.c 1).1,true):=by unfold Ni;rw [h,h2,h3];rfl
theorem ACm (h:(!(csS s.c 2).2)=true):Lp s y=(A8,false):=if_pos h
theorem zr (h:(!(csS s.c 2).2)=false) (b:Bool) (hb:s.first=b):Lp s y=(D6 (if b then Lm else Qi) [y,G4 (D6 Jf [y]) [45] (Cs ⟨1,((Ci s.c).1.s.length:Int),[]⟩)],true):=by unfold Lp;rw [h,hb];rfl
end
theorem ACn (t:Str) (n:Nat) (s:Sd) (hok:okE n s.c) (hn:n≤1000000) (hg:B9 Cg s.c=true) (y:Expr) (Hp:List AObj):AFun Tryz.prog 134 [Ah t,Vg s,Aa y] Hp (.tup [Aa (Ni t s y).1,B8 (Ni t s y).2]):=by
 refine Aq [.cell 6 26,.tmp 7] [0,1,2] Tryz.func134 Tryz.ntmps134 (fun d=>?_)
 refine Z1 ?_;refine Z43 ?_;refine A2 [0,4,5,6] ?_;refine Z1 ?_;refine Ac Tryz.call170 (zq n s.c 1 hok hn hg _) ?_;refine Z82 ?_;refine A2 [0,4,5,6,8,9] ?_;refine U3 ?_;refine A2 [0,4,5,6,8,16] ?_
 refine A4 (fun ht16=>?_) (fun ht16=>?_)
 ·refine Z25 ?_;refine Ef 19 _ F4 ?_;refine S3 ?_;exact A5 (Ab (Ai jA jS) A3) ⟨by rw [ACi ht16];simp only [Ad];try rfl,rfl⟩ (hlow:=by simp [or_imp,forall_and,Ag])
 refine Z14 ?_;refine A2 [4,5,6,8,20] ?_
 refine A4 (fun ht20=>?_) (fun ht20=>?_)
 ·refine Z1 ?_;refine Ac Tryz.call171 (c171 y [45] (csS s.c 1).1 _) ?_;refine S3 ?_;exact A5 (Ab (Ai jA jS) A3) ⟨by rw [ACj ht16 ht20];simp only [Ad];try rfl,rfl⟩ (hlow:=by simp [or_imp,forall_and,Ag])
 refine Z14 ?_;refine A2 [5,6,8,26] ?_
 refine A4 (fun ht26=>?_) (fun ht26=>?_)
 ·refine Z1 ?_;refine Ac Tryz.call171 (c171 (csS s.c 1).1 [45] y _) ?_;refine S3 ?_;exact A5 (Ab (Ai jA jS) A3) ⟨by rw [ACk ht16 ht20 ht26];simp only [Ad];try rfl,rfl⟩ (hlow:=by simp [or_imp,forall_and,Ag])
 refine Y1 ?_;refine Ac Tryz.call171 (c171 y [43] (csS s.c 1).1 _) ?_;refine Z62 ?_;exact A5 (Ab (Ai jA jS) A3) ⟨by rw [ACl ht16 ht20 ht26];simp only [Ad];try rfl,rfl⟩ (hlow:=by simp [or_imp,forall_and,Ag])

theorem ACo (n:Nat) (s:Sd) (hok:okE n s.c) (hn:n≤1000000) (hg:B9 Cg s.c=true) (y:Expr) (Hp:List AObj):AFun Tryz.prog 135 [Vg s,Aa y] Hp (.tup [Aa (Lp s y).1,B8 (Lp s y).2]):=by
 refine Aq [.cell 4 26,.tmp 5] [0,1] Tryz.func135 Tryz.ntmps135 (fun d=>?_)
 refine Z1 ?_;refine m5 ?_;refine Z1 ?_;refine Ac Tryz.call170 (zq n s.c 2 hok hn hg _) ?_;refine Z82 ?_;refine A2 [2,3,4,6,7] ?_;refine Z32 ?_;refine A2 [2,3,4,6,16] ?_
 refine A4 (fun ht16=>?_) (fun ht16=>?_)
 ·refine Z25 ?_;refine Ef 17 _ F4 ?_;refine Z36 ?_;refine Cp ?_;exact A5 (Ab (Ai jA jS) A3) ⟨by rw [ACm ht16];simp only [Ad];try rfl,rfl⟩ (hlow:=by simp [or_imp,forall_and,Ag])
 refine Z75 ?_;refine A2 [2,3,4,6,8] ?_;refine Z32 ?_;refine A2 [3,4,6,8,19] ?_
 refine A4 (fun ht19=>?_) (fun ht19=>?_)
 ·refine Z97 ?_;refine A2 [3,4,6,8] ?_;refine Fv ?_;refine x5 ?_;refine Rz jU jS jZ ?_;refine Cy Tryz.call133 (d8 Jf y _) ?_;refine b8 ?_;refine wv ?_;refine Rz jU jS jZ ?_;refine Dw ?_;refine Ac Tryz.call133 (ov Lm y (G4 (D6 Jf [y]) [45] (Cs ⟨1,((Ci s.c).1.s.length:Int),[]⟩)) _) ?_;refine Z36 ?_;exact A5 (Ab (Ai jA jS) A3) ⟨by rw [zr ht16 true ht19];simp only [Ad];try rfl,rfl⟩ (hlow:=by simp [or_imp,forall_and,Ag])
 refine Z9 ?_;refine x5 ?_;refine Rz jU jS jZ ?_;refine Cy Tryz.call133 (d8 Jf y _) ?_;refine b8 ?_;refine wv ?_;refine Rz jU jS jZ ?_;refine Dw ?_;refine Ac Tryz.call133 (ov Qi y (G4 (D6 Jf [y]) [45] (Cs ⟨1,((Ci s.c).1.s.length:Int),[]⟩)) _) ?_;refine Z36 ?_;exact A5 (Ab (Ai jA jS) A3) ⟨by rw [zr ht16 false ht19];simp only [Ad];try rfl,rfl⟩ (hlow:=by simp [or_imp,forall_and,Ag])

end Go.SX.Nb
namespace Go.SX
variable [GI:GlobInv]
open Classical
section
variable {P:Program} {d:Nat}
/-- A call that returns and may leave more objects than it found; they are the caller's. -/
def ACallO (P:Program) (g:FuncId) (args:List AV) (H:List AObj) (post:AV→List AObj→Prop):Prop:=
 ∀(d:Nat) (G:Gh) (w:World) (vs:Array Value),vs.size=args.length→(∀(i:Nat) (y:AV) (u:Value),args[i]? = some y→vs[i]? = some u→Rep G w (some (.slot (d+1) i)) y u)→HeapRel G H w→TagOK G w→GI.bd≤d →
  CallsIn Fence.wide 0 P g vs w (fun e w'=>∃(v:Value) (G':Gh) (r:AV) (H':List AObj),e=.returned v∧Rep G' w' none r v∧HeapRel G' H' w'∧TagOK G' w'∧Keep (d+1) G w G' w'∧post r H')
/-- What is asked at a body's end: the first j of its objects are handed back. -/
def FO (P:Program) (rs:List ResultVar) (n:Nat) (post:AV→List AObj→Prop) (e:Exit) (st':St):Prop:=
 (e=.normal∨e=.ret)∧st'.defs=[]∧∃(r:AV) (rv:ResultVar) (j:Nat),rs=[rv]∧ResV P st' rv r∧Low (n+j) r∧(∀x∈st'.up++st'.own.take j,ObjLow (n+j) x)∧j≤st'.own.length∧post r (st'.up++st'.own.take j)
theorem ACallO.ofBody {g:FuncId} {fn:Func} {c:Code} {args:List AV} {H:List AObj} {post:AV→List AObj→Prop} {rs:List ResultVar} {n:Nat} (hf:P.funcs[g]? = some fn) (hb:fn.body=some c) (hrs:fn.results=rs.toArray)
  (hn:fn.ntmps=n) (hargs:args.length≤n) (h:∀d,AW P (d+1) c ⟨n,argsF args,H,[],[],none⟩ (FO P rs H.length post)):ACallO P g args H post:=by
 intro d G w vs hvs hrep hH hT hTop
 refine callsIn_of_wp_marks hf hb trivial ?_
 have hst:StRel (d+1) G ⟨n,argsF args,H,[],[],none⟩ { tmps:=vs++Array.replicate (fn.ntmps-vs.size) undef,defers:=[] } w:=by
  refine ⟨?_,fun s=>?_,by simpa using hH,(by rw [Ie hTop];rfl),(fun o ho=>by simp at ho),Nm,(fun o ho=>by simp at ho),hT,(fun l hl=>by cases hl),fun x hx=>?_,Qz hTop⟩
  ·simp only [Mi,ky,hvs,hn];omega
  ·show Rep G w _ (args.getD s (.v undef)) _
   rw [Ch,Iv]
   rcases Bf s args.length with h'|h'
   ·rw [Al h',Kg (by omega),Ec (by omega)]
    exact hrep s _ _ (Al h') (Ec (by omega))
   rw [Fs h',Pv (by omega)]
   simp only [Option.getD_none]
   have:((Array.replicate (fn.ntmps-vs.size) undef)[s-vs.size]?).getD undef=undef:=by
    rw [Oj];split<;>rfl
   rw [this]
   exact .v _ _
  obtain ⟨i,hi⟩:=Cf hx
  have hob:=hH.obj i x hi
  show ObjLow H.length x
  rw [←hH.n]
  exact hob.low
 have hw:=h d G _ w hst
 refine wpIn_mono hw ?_
 rintro e a' w' ⟨G1,st',h1,k1,e1,e2,e3,hcase,hdefs,r,rv,j,rfl,hres,hlow,hobjs,hj,hpost⟩
 have fin:LeavesInM Fence.wide 0 P fn a'.tmps (fun e w'=>∃(v:Value) (G':Gh) (r:AV) (H':List AObj),e=.returned v∧Rep G' w' none r v∧HeapRel G' H' w'∧TagOK G' w'∧Keep (d+1) G w G' w'∧post r H') a'.defers .returning w':=by
  rw [h1.defs,hdefs,Ie hTop]
  obtain ⟨v,hv,hr⟩:=hres.run h1
  have hupl:st'.up.length=H.length:=e1
  have hgn:G1.n=st'.up.length+st'.own.length:=by rw [h1.heap.n,As]
  have hget:∀(i:Nat) (x:AObj),(st'.up++st'.own.take j)[i]? = some x→(st'.up++st'.own)[i]? = some x:=fun i x hx=>by
   rcases Bf i st'.up.length with h'|h'
   ·rw [D0 h'] at hx ⊢;exact hx
   rw [Da h'] at hx ⊢
   rw [Ft] at hx
   split at hx
   ·exact hx
   cases hx
  refine ⟨v,by simp [Eo,hrs,hv],v,{ G1 with n:=H.length+j },r,st'.up++st'.own.take j,rfl,hr.cut hlow,⟨fun i x hx=>(h1.heap.obj i x (hget i x hx)).cut (hobjs x (B3 hx)),?_,fun a b ha hb' e=>?_⟩,
   ⟨h1.tags.ex,h1.tags.obj,h1.tags.tail,h1.tags.globCut (by rw [hgn];omega)⟩,?_,hpost⟩
  ·show H.length+j=_
   rw [As,Ic,dj hj,hupl]
  ·exact h1.heap.inj a b (by rw [hgn];simp only at ha;omega) (by rw [hgn];simp only at hb';omega) e
  have hGn:G.n=H.length:=hH.n
  exact ⟨k1.fix,k1.slot,by rw [hGn];exact Nat.le_add_right _ _,k1.blk,k1.os,k1.tape,k1.output,k1.size,k1.old.cut (by rw [hgn];omega)⟩
 rcases hcase with rfl|rfl
 ·exact fin
 exact fin
end
section
variable {P:Program} {d:Nat} {ops:Array Oper} {rest:List Oper} {sz s:Nat} {fr:Nat→AV} {up own:List AObj} {dfs:List Nat} {rnd:Option Nat} {Q:St→Prop} {ty:TypeId} {pos:String} {aft:Array Edge}
theorem ACallO.body {g:FuncId} {fn:Func} {c:Code} {args:List AV} {H:List AObj} {post:AV→List AObj→Prop} {fr':Nat→AV} (rs:List ResultVar) (l:List Nat) {n:Nat} (hf:P.funcs[g]? = some fn) (hn:fn.ntmps=n)
  (h:∀d,AW P (d+1) c ⟨n,fr',H,[],[],none⟩ (FO P rs H.length post)) (hb:fn.body=some c:=by rfl) (hrs:fn.results=rs.toArray:=by rfl) (hargs:args.length≤n:=by exact sL1)
  (hk:Ki l (argsF args)=fr':=by exact sL0):ACallO P g args H post:=
 ACallO.ofBody hf hb hrs hn hargs (fun d=>AW.keep l hk (h d))
/-- The end of such a body. -/
theorem K.finO {rs:List ResultVar} {n:Nat} {post:AV→List AObj→Prop} {r:AV} {rv:ResultVar} {st:St} (j:Nat) (hres:ResV P st rv r) (hp:post r (st.up++st.own.take j)) (hlow:Low (n+j) r) (hobj:∀x∈st.up++st.own.take j,ObjLow (n+j) x)
  (hd:st.defs=[]:=by rfl) (hr:rs=[rv]:=by rfl) (hj:j≤st.own.length:=by simp):FO P rs n post .ret st:=⟨.inr rfl,hd,r,rv,j,hr,hres,hlow,hobj,hj,hp⟩
/-- A call of such a function. -/
theorem R.callO {g:FuncId} {xs:List Operand} {ats:Array TypeId} {args:List AV} {post:AV→List AObj→Prop} (hcall:∀args w,(callFunc g args).run P w=.ok (.enter g args) w)
  (h:ACallO P g args (up++own) post) (hp:∀r H',post r H'→∃O,H'=up++(own++O)∧ARun P d ops rest ⟨sz,Ao s r fr,up,own++O,dfs,rnd⟩ Q)
  (ha:xs.map (Be fr)=args:=by exact sL0) (hs:Nat.blt s sz=true:=by rfl):
  ARun P d ops (⟨some s,.call ⟨.value (.func g),xs.toArray,ats⟩,ty,pos,aft,none⟩::rest) ⟨sz,fr,up,own,dfs,rnd⟩ Q:=by
 refine dm rfl (Q1:=fun s'=>ARun P d ops rest s' Q) ?_ (fun s' e=>e)
 intro G a w hr Q'
 have hs:s<sz:=by simpa using hs
 have hxr:=Nr hr xs
 have ha':xs.map (St.ev ⟨sz,fr,up,own,dfs,rnd⟩)=args:=ha
 rw [ha'] at hxr
 have hrun:(execOp a.eval (⟨some s,.call ⟨.value (.func g),xs.toArray,ats⟩,ty,pos,aft,none⟩:Oper)).run P w=.ok (.enter g (xs.map a.eval).toArray) w:=by
  have:=Mr (P:=P) (dst:=some s) (ty:=ty) (pos:=pos) (aft:=aft) (gd:=none) (ats:=ats) (f:=.func g) (xs:=xs) (g:=g) (va:=#[]) (vc:=#[]) (a:=a) (w:=w) hcall rfl
  simpa using this
 refine Mq (by intro c h;cases h) hrun (h d G w _ (by rw [←ha'];simp) (fun i y u hy hu=>(hxr i y u hy hu).lift) hr.heap hr.tags hr.top) ?_
 rintro e w' ⟨v,G',r,H',rfl,hrep,hH,hT,hk,hpo⟩
 obtain ⟨O,rfl,hrn⟩:=hp r H' hpo
 have h3:=hr.called (U:=up) (O:=own++O) hH hT hk rfl rfl (fun o ho=>by
  have:=hr.defsAt o ho
  rw [←Bt,D0 (Ae.1 this).1]
  exact this) hr.low
 obtain ⟨h4,k4⟩:=h3.took hrep.lift (s:=s) hs
 exact ⟨v,rfl,_,_,h4,(hk.less (I1 d)).trans k4,rfl,rfl,rfl,hrn⟩
end
end Go.SX
