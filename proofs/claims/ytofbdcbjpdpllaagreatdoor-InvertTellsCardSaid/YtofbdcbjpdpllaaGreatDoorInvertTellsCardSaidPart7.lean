/- On the way (part 7). -/
import Derived.Lib.ItoaLen
import Derived.Test.YtofbdcbjpdpllaaGreatDoorInvertTellsCardSaidPart6
set_option linter.all false
namespace Go.SX.Nb
open Go Go.SX Go.Proofs
variable [ErrAt]
set_option maxRecDepth 4000
theorem Jo {e:Expr} (h:Ch e=true):(e.op=5→e.kids.length=2)∧(e.op=3∨e.op=4→e.kids.length=1)∧(e.op=6→Cc e.text=(e.kids.length:Int))∧(e.op=1∨e.op=2∨e.op=3∨e.op=4∨e.op=5∨e.op=6):=by
 cases Ij h with
 | val v hp h0=>simp [Ei,Expr.op]
 | name t ht=>simp [Bh,Expr.op]
 | neg a=>simp [Gw,Expr.op,Expr.kids]
 | no a=>simp [Gw,Expr.op,Expr.kids]
 | bin t a b ht=>simp [Jm,Expr.op,Expr.kids]
 | call t k ht=>simpa [Expr.op,Expr.kids,Expr.text] using ht
theorem I2 {k:List Expr} {i:Nat} (h:i<k.length):(k.map Ab)[i]? = some (Ab (k.getD i A6))∧k.getD i A6∈k∧∀(f:Expr→Rs) (d:Rs),(k.map f).getD i d=f (k.getD i A6):=by
 have e:k.getD i A6=k[i]:=by rw [Cz,Ae h];rfl
 rw [e]
 refine ⟨by simp [h],Bb h,fun f d=>?_⟩
 rw [Cz,Cp,Ae h]
 rfl
theorem gy {c:List Col} {l:List Val} {e:Expr} (h1:(e.op==1)=false) (h2:(e.op==2)=false) (h3:((e.op==5)&&(e.text==orW))=false) (h4:((e.op==5)&&(e.text==O9))=false) (h5:((e.op==6)&&(((e.text==ifW) || (e.text==Gu)) || (e.text==Co)))=false):Al c l e=Ks (Bo e.op e.text) (e.kids.map (Al c l)):=by
 rw [Al,I1]
 unfold Gy
 rw [h1,h2,h3,h4,h5]
 rfl
theorem AH9 {c:List Col} {l:List Val} (hf:∀v∈l,Fine v) {e:Expr} (hnd:Bq Ch e=true) (hrg:Bq Cw e=true) (hv:Bq Qy e=true) (h5:((e.op==6)&&(((e.text==ifW) || (e.text==Gu)) || (e.text==Co)))=false):ArgsOk e.op (e.kids.map fun y=>(Al c l y).1):=by
 rw [Cb,Ah] at hnd hrg hv
 obtain ⟨k5,k34,k6,_⟩:=Jo hnd.1
 refine ⟨fun h=>?_,fun h=>by rw [B8];exact k34 h,fun h=>?_,fun v hv'=>?_⟩
 ·obtain ⟨a,b,e⟩:=gw (k5 h)
  rw [e]
  exact ⟨_,_,rfl⟩
 ·rw [B8]
  rw [h] at h5
  simp only [beq_self_eq_true,Dc,Df,beq_eq_false_iff_ne] at h5
  rcases Eb (k6 h) with ⟨_,h⟩|⟨_,h⟩|⟨_,h⟩|⟨e,_⟩|⟨e,_⟩|⟨_,h⟩|⟨_,h⟩|⟨e,_⟩
  ·exact .inl h
  ·exact .inl h
  ·exact .inl h
  ·exact absurd e h5.2
  ·exact absurd e h5.1.2
  ·obtain ⟨a,b,e⟩:=gw h
   rw [e]
   exact .inr ⟨_,_,rfl⟩
  ·obtain ⟨a,b,e⟩:=gw h
   rw [e]
   exact .inr ⟨_,_,rfl⟩
  exact absurd e h5.1.1
 obtain ⟨y,hy,rfl⟩:=Dm.1 hv'
 exact Mw hf y ((Bd _ _).1 hv.2 y hy) ((Bd _ _).1 hrg.2 y hy)
theorem Vy (a b d:Rs):Ed Co a b d=Ed Co a (noV,0) (noV,0):=by
 unfold Ed
 rw [show (Co==ifW)=false from rfl,show (Co==Co)=true from rfl]
 rfl
theorem q9 {t:Str} (h:(t==ifW)=false) (a b d d':Rs):Ed t a b d=Ed t a b d':=by
 unfold Ed
 rw [h]
 rfl
theorem lg {t:Str} (h:(t==Co)=true) (a b b' d d':Rs):Ed t a b d=Ed t a b' d':=by
 have e:t=Co:=by simpa using h
 subst e
 rw [Vy,Vy a b' d']
theorem xz {t:Str} {k:List Expr} {f:Expr→Rs} {a:Rs} (h1:(t==Co)=false→1<k.length) (h2:(t==ifW)=true→2<k.length):Ed t a ((k.map f).getD 1 (noV,0)) ((k.map f).getD 2 (noV,0))=Ed t a (f (k.getD 1 A6)) (f (k.getD 2 A6)):=by
 cases hn:t==Co with
 | true=>exact lg hn _ _ _ _ _
 | false =>
  rw [(I2 (h1 hn)).2.2]
  cases hi:t==ifW with
  | true=>rw [(I2 (h2 hi)).2.2]
  | false=>exact q9 hi _ _ _ _
theorem c44 (c:List Col) (l:List Val) (hc:OkCols c) (hl:l.length=c.length) (hf:∀v∈l,Fine v):∀(n:Nat) (e:Expr),okE n e→Bq Ch e=true→Bq Cw e=true→Bq Qy e=true→Ku c l e (Al c l e):=by
 intro n
 induction n with
 | zero=>exact fun e h=>h.elim
 | succ n ih =>
 intro e hok hnd hrg hvo Hp
 have hnd0:=hnd
 have hrg0:=hrg
 have hvo0:=hvo
 rw [Cb,Ah] at hnd0 hrg0 hvo0
 have hev:∀y∈e.kids,Ku c l y (Al c l y):=fun y hy=>ih y (hok.2.2 y hy) ((Bd _ _).1 hnd0.2 y hy) ((Bd _ _).1 hrg0.2 y hy) ((Bd _ _).1 hvo0.2 y hy)
 obtain ⟨k5,k34,k6,_⟩:=Jo hnd0.1
 have hev0:Al c l e=Gy Bo c l e.op e.text e.val (e.kids.map (Al c l)):=I1 _ _ _ _
 refine Aj [.cell 4 23,.tmp 5] [0,1] Tryz.func44 Tryz.ntmps44 (fun d=>?_)
 refine ABd ?_;refine Z16 ?_;refine Z21 ?_;refine A2 [2,3,4,7] ?_
 refine A3 (fun ht7=>?_) (fun ht7=>?_)
 ·have hm:Al c l e=(e.val,0):=by rw [hev0];unfold Gy;rw [if_pos ht7]
  refine Z1 ?_;exact P0
 refine Z21 ?_;refine A2 [2,3,4,13] ?_
 refine A3 (fun ht13=>?_) (fun ht13=>?_)
 ·have hm0:Al c l e=Vx c l e.text:=by rw [hev0];unfold Gy;rw [if_neg (by rw [ht7];simp),if_pos ht13]
  refine Z21 ?_;refine A9 Tryz.call58 (c58 c hc e.text _) ?_;refine A4 ?_;refine A2 [2,4,6] ?_;refine Z8 ?_;refine A2 [2,4,6,23] ?_
  refine A3 (fun ht23=>?_) (fun ht23=>?_)
  ·have hm:Al c l e=D9 9:=by rw [hm0];exact if_pos (by simpa using ht23)
   refine an ?_;refine Z39 ?_;refine Z10 ?_;exact ANp
  have hneg:¬(C6 e.text c<0):=by simpa using ht23
  obtain ⟨j,hj,hjc⟩:=J4 hneg
  have hjl:j<l.length:=by omega
  have hm:Al c l e=(l[j],0):=by
   rw [hm0]
   unfold Vx
   rw [if_neg hneg,hj,Int.toNat_natCast,Cz,Ae hjl]
   rfl
  rw [hj]
  refine Nl ?_
  refine A4 (h:=Ad (j) (Ca l[j]) (fun _=>B3 hjl)) (hr:=?_)
  refine A4 ?_;exact P0
 refine O7 ?_;refine A2 [2,3,4,32] ?_
 refine A3 (fun ht32=>?_) (fun ht32=>?_)
 ·have h32:((e.op==5)&&(e.text==orW))=true:=ht32
  have hop:e.op=5:=by simp only [Ah,beq_iff_eq] at h32;exact h32.1
  have hkl:=k5 hop
  have hm:Al c l e=Gb (Bs true) (Al c l (e.kids.getD 0 A6)) (Al c l (e.kids.getD 1 A6)):=by rw [hev0];unfold Gy;rw [if_neg (by rw [ht7];simp),if_neg (by rw [ht13];simp),if_pos h32,(I2 (by omega)).2.2,(I2 (by omega)).2.2]
  refine C3 [0,0,0,7,15,15,63,127] 6 Am (by kernel_rfl) ?_;refine Z9 ?_;refine Cd Tryz.call88 (c88 _ _) ?_;refine Cd Tryz.call87 (c87 c l e (e.kids.getD 0 A6) (e.kids.getD 1 A6) (Bs true) _ _ (I2 (by omega)).1 (I2 (by omega)).1 (hev _ (I2 (by omega)).2.1) (hev _ (I2 (by omega)).2.1) _) ?_;refine Z85 ?_;exact P0
 have h32:((e.op==5)&&(e.text==orW))=false:=ht32
 refine O7 ?_;refine A2 [2,3,4,47] ?_
 refine A3 (fun ht47=>?_) (fun ht47=>?_)
 ·have h47:((e.op==5)&&(e.text==O9))=true:=ht47
  have hop:e.op=5:=by simp only [Ah,beq_iff_eq] at h47;exact h47.1
  have hkl:=k5 hop
  have hm:Al c l e=Gb (Bs false) (Al c l (e.kids.getD 0 A6)) (Al c l (e.kids.getD 1 A6)):=by rw [hev0];unfold Gy;rw [if_neg (by rw [ht7];simp),if_neg (by rw [ht13];simp),if_neg (by rw [h32];simp),if_pos h47,(I2 (by omega)).2.2,(I2 (by omega)).2.2]
  refine C3 [0,0,0,7,15,15,63,127] 6 Am (by kernel_rfl) ?_;refine Z9 ?_;refine Cd Tryz.call88 (c88 _ _) ?_;refine Cd Tryz.call87 (c87 c l e (e.kids.getD 0 A6) (e.kids.getD 1 A6) (Bs false) _ _ (I2 (by omega)).1 (I2 (by omega)).1 (hev _ (I2 (by omega)).2.1) (hev _ (I2 (by omega)).2.1) _) ?_;refine Z85 ?_;exact P0
 have h47:((e.op==5)&&(e.text==O9))=false:=ht47
 refine Z21 ?_;refine ap ?_;refine Z5 ?_;refine Z67 ?_;refine A2 [2,3,4,62] ?_
 refine A3 (fun ht62=>?_) (fun ht62=>?_)
 ·have h62:((e.op==6)&&(((e.text==ifW) || (e.text==Gu)) || (e.text==Co)))=true:=ht62
  obtain ⟨hkl,hl1,hl2⟩:0<e.kids.length∧((e.text==Co)=false→1<e.kids.length)∧((e.text==ifW)=true→2<e.kids.length):=by
   have h:=h62
   simp only [Ah,Dg,beq_iff_eq] at h
   have ha:=k6 h.1
   rcases h.2 with (h1|h1)|h1
   ·rw [h1] at ha ⊢
    have:e.kids.length=3:=by
     have:Cc ifW=3:=by kernel_rfl
     omega
    exact ⟨by omega,fun _=>by omega,fun _=>by omega⟩
   ·rw [h1] at ha ⊢
    have:e.kids.length=2:=by
     have:Cc Gu=2:=by kernel_rfl
     omega
    exact ⟨by omega,fun _=>by omega,fun h=>absurd h (by decide)⟩
   rw [h1] at ha ⊢
   have:e.kids.length=1:=by
    have:Cc Co=1:=by kernel_rfl
    omega
   exact ⟨by omega,fun h=>absurd h (by decide),fun h=>absurd h (by decide)⟩
  have hm:Al c l e=Ed e.text (Al c l (e.kids.getD 0 A6)) (Al c l (e.kids.getD 1 A6)) (Al c l (e.kids.getD 2 A6)):=by
   rw [hev0]
   unfold Gy
   rw [if_neg (by rw [ht7];simp),if_neg (by rw [ht13];simp),if_neg (by rw [h32];simp),if_neg (by rw [h47];simp),if_pos h62,(I2 hkl).2.2]
   exact xz hl1 hl2
  refine Z1 ?_;refine A9 Tryz.call89 (c89 c l e (e.kids.getD 0 A6) (e.kids.getD 1 A6) (e.kids.getD 2 A6) _ _ _ (I2 (by omega)).1 (fun h=>(I2 (hl1 h)).1) (fun h=>(I2 (hl2 h)).1) (hev _ (I2 (by omega)).2.1) (fun h=>hev _ (I2 (hl1 h)).2.1) (fun h=>hev _ (I2 (hl2 h)).2.1) _) ?_;refine Z0 ?_;exact P0
 have h62:((e.op==6)&&(((e.text==ifW) || (e.text==Gu)) || (e.text==Co)))=false:=ht62
 have hm:=gy (c:=c) (l:=l) ht7 ht13 h32 h47 h62
 refine aq ?_;refine A9 Tryz.call90 (c90 c l e hok.2.1 hev (fun _=>AH9 hf hnd hrg hvo h62) _) ?_;refine Z0 ?_;exact ny

abbrev xo (own:Bool) (t:Str) (ks:List Expr):AObj:=.cells 26 [A5 6,Ac t,A5 0,A5 0,Ac [],.slice own 6 (ks.map Ab)]
theorem ALo {n:Nat} {own:Bool} {t:Str} {ks:List Expr}:ObjLow n (xo own t ks):=by
 show ∀z∈[A5 6,Ac t,A5 0,A5 0,Ac [],AV.slice own 6 (ks.map Ab)],Low n z
 intro z hz
 simp only [C0,I6,or_false] at hz
 rcases hz with rfl|rfl|rfl|rfl|rfl|rfl
 all_goals first|exact D4|simp
theorem AHa:El (.agg #[.int .i64 0,.string ⟨#[]⟩,.int .i64 0,.int .i64 0,.string ⟨#[]⟩,.slice none 0 0])=.agg [A5 0,Ac [],A5 0,A5 0,Ac [],.nil]:=rfl
attribute [go_sem] AHa
theorem gA {Hp:List AObj} {o ox:Nat} {z A B:AObj} (ho:Hp[o]? = some z) (hne:ox≠o):((Hp.set o A).set ox B)[o]? = some A:=by rw [List.getElem?_set_ne hne];exact Ay ho
theorem gB {Hp:List AObj} {o ox:Nat} {z A B:AObj} (hox:Hp[ox]? = some z):((Hp.set o A).set ox B)[ox]? = some B:=by
 have:=(List.getElem?_eq_some_iff.1 hox).1
 simp [this]
theorem ALp {Hp:List AObj} {o ox:Nat} {A A' B:AObj} (hne:ox≠o):((Hp.set o A).set ox B).set o A'=(Hp.set o A').set ox B:=by rw [List.set_comm _ _ hne,List.set_set]
theorem Ru (ks:List Expr) (x:Expr):ks.map Ab++[.agg [.v (.int .i64 x.op),.v (sv x.text),.v (.int .i64 x.val.kind),.v (.int .i64 x.val.n),.v (sv x.val.s),.slice false 6 (x.kids.map Ab)]]=(ks++[x]).map Ab:=by rw [List.map_append,List.map_cons,List.map_nil,Af x]
theorem ATq (l:List Tok) (S:PS) (t:Str) (Dv:Fam) (o ox:Nat) (Hp:List AObj) (hne:ox≠o) (ho:Hp[o]? = some (pr l S)) (hox:Hp[ox]? = some (xo true t [])) (hi:S.i<l.length) (hl:TokEnd l) (hll:l.length≤1048576) (hf:Fp l S.nest Dv.ei) (hcf:PC 114 l Dv.ei S.nest):ACall Tryz.prog 351 [.ptr ox 0,.ro [.ptr o 0]] Hp (fun r H'=>r=Ab (.mk 6 t noV (J9 l Dv.ei S).1)∧H'=(Hp.set o (pr l (J9 l Dv.ei S).2)).set ox (xo true t (J9 l Dv.ei S).1)):=by
 have hoxl:=(List.getElem?_eq_some_iff.1 hox).1
 have hol:=(List.getElem?_eq_some_iff.1 ho).1
 refine ACall.body [.cell 2 26] [0,1] Tryz.func351 Tryz.ntmps351 (fun d=>?_)
 refine Z34 ?_;refine R.fin [0,1,2] ?_
 refine W.drawT [0,1,0,4,3,0,63,127,255,127,639] [1,3] [.q 1 [] [0],.s [4] (some 0) [] [],.q 1 [] [1],.s [6] (some 1) [] [],.q 2 [] []] (fun B=>(Hp.set o (if B 1=true then pr l (Dv.ei S).2 else pr l S)).set ox (if B 0=true then xo false t [] else xo true t [])) (fun _=>[Mj]) Am (by kernel_rfl) (by simp only [Bool.false_eq_true,if_false];rw [K3 ho,K3 hox]) rfl (fun B=>by simp) ?_
 apply Y.q
 ·intro B hT hF
  exact Xp
 case hTF=>decide
 refine Y.loadUpT (o:=ox) (t':=26) (cs:=[A5 6,Ac t,A5 0,A5 0,Ac [],.slice true 6 ([].map Ab)]) (cs':=[A5 6,Ac t,A5 0,A5 0,Ac [],.slice false 6 ([].map Ab)]) Tryz.isAgg24 (fun B hB=>⟨by simp only [hB];exact gB hox,by simp [upd,List.set_set]<;>rfl,rfl⟩) ?_
 apply Y.q
 ·intro B hT hF
  exact Xp
 case hTF=>decide
 refine Y.callUp (r:=Ab (Dv.ei S).1) (o:=o) (x0:=pr l S) (x:=pr l (Dv.ei S).2) Tryz.call114 (fun B hT hF hB=>⟨by simp only [hB];exact gA ho hne,?_,rfl,Dk,?_⟩) ?_
 ·simp only [upd,hB,Nat.reduceEqDiff,if_false,if_true,Bool.false_eq_true]
  exact (ALp hne).symm
 ·simp only [hB]
  exact hcf o _ S (B5 (gA ho hne)) hi rfl
 apply Y.q
 ·intro B hT hF
  refine D.go ?_;exact AB6
 case hTF=>decide
 refine Y.appendPut (tn:=[1,3]) (U:=(Hp.set o (pr l (Dv.ei S).2)).set ox (xo false t [])) (O:=[Mj]) (o:=ox) (t':=26) (cs:=[A5 6,Ac t,A5 0,A5 0,Ac [],.slice false 6 ([].map Ab)]) (by kernel_rfl) jU Tryz.type26 Tryz.sizeOf26 Tryz.sizeOf24 jU (B5 (gB hox)) ?_ ?_ ?_ (hfsz:=Tryz.sizeOf24)
 ·simp [Tryz.t26]
 ·simp [Tryz.t26]
 refine R.go ?_
 refine R.storeUpT jS (gB hox) ?_ ?_
 ·first|(rw [Ru];exact D4)|(have:=D4 (n:=((Hp.set o (pr l (Dv.ei S).2)).set ox (xo false t [])).length) (k:=6) (o:=true) (l:=[(Dv.ei S).1]);simp only [List.map_cons,List.map_nil,Af] at this;exact this)
 refine R.fin [0,1,2] ?_;refine W.seq ?_
 refine AW.loopC (α:=List Expr×PS) (fun r=>⟨34,Aa 0 (.ptr ox 0) (Aa 1 (.ro [.ptr o 0]) (Aa 2 (.ptr (oid Hp.length 0) 0) (fun _=>.any))),(Hp.set o (pr l r.2)).set ox (xo true t r.1),[Mj],[],none⟩) (fun r=>ArgsAt l Dv.ei S r) (fun r=>l.length-r.2.i) (([(Dv.ei S).1],(Dv.ei S).2)) (.start (hf S hi rfl)) (StLe.of_eq (by simp [List.set_set,xo,Af])) rfl (fun r hx=>?_)
 refine Z46 ?_
 refine R.go (h:=Q.loadUp (gA ho hne)) (hr:=?_)
 refine Wf ?_;refine G.call Tryz.call203 (fun hB=>kw l r.2 Ym o _ (B5 (gA ho hne)) hx.fact.lt hl (by decide)) ?_;refine R.go ?_;refine R.fin [0,1,2,21] ?_
 refine W.cond (fun ht21=>?_) (fun ht21=>?_)
 ·have hon:=hx.on hl ht21 hf
  have hle:=hon.2.1.le
  have hlt0:=hx.fact.lt
  refine vt ?_;refine Z2 ?_;refine R.callUp Tryz.call204 (gA ho hne) (by simp) Dk (xl l r.2 o _ (B5 (gA ho hne)) hx.fact.lt hll) ?_;refine R.fin [0,1,2] ?_
  refine W.drawT0 [0,1,0,4,3,0,63,127,255,127,639] [1,3] [.q 1 [] [0],.s [25] (some 0) [] [],.q 1 [] [1],.s [27] (some 1) [] [],.q 2 [] []] (fun B=>(Hp.set o (if B 1=true then pr l (Dv.ei (Au r.2)).2 else pr l (Au r.2))).set ox (if B 0=true then xo false t r.1 else xo true t r.1)) (fun _=>[Mj]) Am (by kernel_rfl) (by simp only [Bool.false_eq_true,if_false];exact (ALp hne).symm) rfl (fun B=>by simp) ?_
  apply Y.q
  ·intro B hT hF
   exact Xp
  case hTF=>decide
  refine Y.loadUpT (o:=ox) (t':=26) (cs:=[A5 6,Ac t,A5 0,A5 0,Ac [],.slice true 6 (r.1.map Ab)]) (cs':=[A5 6,Ac t,A5 0,A5 0,Ac [],.slice false 6 (r.1.map Ab)]) Tryz.isAgg24 (fun B hB=>⟨by simp only [hB];exact gB hox,by simp [upd,List.set_set]<;>rfl,rfl⟩) ?_
  apply Y.q
  ·intro B hT hF
   exact Xp
  case hTF=>decide
  refine Y.callUp (r:=Ab (Dv.ei (Au r.2)).1) (o:=o) (x0:=pr l (Au r.2)) (x:=pr l (Dv.ei (Au r.2)).2) Tryz.call114 (fun B hT hF hB=>⟨by simp only [hB];exact gA ho hne,?_,rfl,Dk,?_⟩) ?_
  ·simp only [upd,hB,Nat.reduceEqDiff,if_false,if_true,Bool.false_eq_true]
   exact (ALp hne).symm
  ·simp only [hB]
   exact hcf o _ (Au r.2) (B5 (gA ho hne)) hon.1 hx.fact.nest
  apply Y.q
  ·intro B hT hF
   refine D.go ?_;exact AB6
  case hTF=>decide
  refine Y.appendPut (tn:=[1,3]) (U:=(Hp.set o (pr l (Dv.ei (Au r.2)).2)).set ox (xo false t r.1)) (O:=[Mj]) (o:=ox) (t':=26) (cs:=[A5 6,Ac t,A5 0,A5 0,Ac [],.slice false 6 (r.1.map Ab)]) (by kernel_rfl) jU Tryz.type26 Tryz.sizeOf26 Tryz.sizeOf24 jU (B5 (gB hox)) ?_ ?_ ?_ (hfsz:=Tryz.sizeOf24)
  ·have:=hx.fact.len;have:=hx.fact.lt;simp only [List.length_map,Tryz.t26];omega
  ·have:=hx.fact.len;have:=hx.fact.lt;simp only [List.length_map,Tryz.t26];omega
  refine R.go ?_
  refine R.storeUpT jS (gB hox) ?_ ?_
  ·first|(rw [Ru];exact D4)|(have:=D4 (n:=((Hp.set o (pr l (Dv.ei S).2)).set ox (xo false t [])).length) (k:=6) (o:=true) (l:=[(Dv.ei S).1]);simp only [List.map_cons,List.map_nil,Af] at this;exact this)
  refine R.fin [0,1,2] ?_;refine K.blN ?_
  refine K.lpN (r.1++[(Dv.ei (Au r.2)).1],(Dv.ei (Au r.2)).2) hon.2.2 (by show l.length-(Dv.ei (Au r.2)).2.i<l.length-r.2.i;have:r.2.i+1≤(Dv.ei (Au r.2)).2.i:=hle;omega) (StCut.of_eq ?_)
  simp only [show Tryz.t26.size=6 from rfl,Ru,List.set_set]
 have hout:=hx.out (by rw [ht21];simp)
 refine vw ?_
 refine R.go (h:=Q.loadUpN (gB hox)) (hr:=?_)
 refine Z24 ?_;exact K.fin (V.one (V.cellN jA jS)) ⟨by rw [hout,Za];rfl,by rw [hout]⟩ (hlow:=by have:=Ag Hp.length (.mk 6 t noV r.1);rw [Za] at this;simpa using this)

/-- within, with the function that gathers a call's kids. -/
theorem AQe (l:List Tok) (S:PS) (a:Int) (t:Str) (Dv:Fam) (o:Nat) (Hp:List AObj) (A0 A1:AObj) (l0:ObjLow 0 A0) (ho:Hp[o]? = some (pr l S)) (hi:S.i<l.length) (hl:TokEnd l) (hll:l.length≤1048576) (hnl:S.nest≤30) (hd:DeepC l Dv S.nest):
  ACall Tryz.prog 256 [.ptr o 0,A5 a,.fn (.func 351) [] [.ptr (oid Hp.length 2) 0,.ro [.ptr o 0]]] (Hp++[A0,A1,xo true t []]) (fun r H'=>r=Ab (if S.nest=30 then A6 else .mk 6 t noV (Vw l a Dv.ei S).1)∧H'=Hp.set o (pr l (Vw l a Dv.ei S).2)++[A0,A1,xo true t (Vw l a Dv.ei S).1]):=by
 have hlt:=(Ak.1 ho).1
 have ho':(Hp++[A0,A1,xo true t []])[o]? = some (pr l S):=B5 ho
 by_cases h30:S.nest=30
 ·refine (AH0 l S a 351 [] [.ptr (oid Hp.length 2) 0,.ro [.ptr o 0]] A6 (E1 S) o (Hp++[A0,A1,xo true t []]) ((Hp++[A0,A1,xo true t []]).set o (pr l (E1 S))) ho' (by omega) Tryz.call351 (by simp) (Ay ho') rfl (fun h=>h) (fun h=>absurd h30 h)).mono fun r H' h=>?_
  have e:Vw l a Dv.ei S=([],F5 18 a S):=if_pos (by rw [h30];rfl)
  rw [e,if_pos h30]
  obtain ⟨h1,h2⟩:=h.1 h30
  exact ⟨h1,by rw [h2,Pq _ _ hlt]⟩
 have hq:=Yq (S:=E1 S) hl hi (hd.ei h30).1
 refine (AH0 l S a 351 [] [.ptr (oid Hp.length 2) 0,.ro [.ptr o 0]] (.mk 6 t noV (J9 l Dv.ei (E1 S)).1) (J9 l Dv.ei (E1 S)).2 o (Hp++[A0,A1,xo true t []]) (Hp.set o (pr l (J9 l Dv.ei (E1 S)).2)++[A0,A1,xo true t (J9 l Dv.ei (E1 S)).1]) ho' (by omega) Tryz.call351 (by simp) (B5 (Ay ho)) hq.nest (fun h y hy=>?_) (fun _ own=>?_)).mono fun r H' h=>?_
 ·rw [Pq _ _ hlt] at h
  rcases Ek.1 hy with hy|hy
  ·rcases S8 hy with h1|h1
   ·obtain ⟨i,hi',rfl⟩:=R5 h1
    by_cases hio:i=o
    ·subst hio
     have:Hp[i]=pr l S:=by rw [Ae hi'] at ho;injection ho
     rw [this];exact Dk
    refine h _ (r7 _ ?_)
    rw [r8]
    exact ⟨i,by rw [F8 (Ne.symm hio),Ae hi']⟩
   rw [h1];exact Dk
  simp only [C0,I6,or_false] at hy
  rcases hy with rfl|rfl|rfl
  ·exact h _ (S5 _ (by simp))
  ·exact h _ (S5 _ (by simp))
  exact ALo
 ·have hoid:oid Hp.length 2≠o:=by unfold oid;omega
  have e1:(Hp++[A0,A1,xo true t []]).set o (pr l (E1 S))++own=(Hp.set o (pr l (E1 S))++[A0,A1,xo true t []])++own:=by rw [Pq _ _ hlt]
  rw [e1]
  have g1:((Hp.set o (pr l (E1 S))++[A0,A1,xo true t []])++own)[o]? = some (pr l (E1 S)):=B5 (B5 (Ay ho))
  have g2:((Hp.set o (pr l (E1 S))++[A0,A1,xo true t []])++own)[oid Hp.length 2]? = some (xo true t []):=B5 (by
   have:=Bv (U:=Hp.set o (pr l (E1 S))) (O:=[A0,A1,xo true t []]) (n:=2)
   rw [Dw] at this
   exact this)
  refine (ATq l (E1 S) t Dv o (oid Hp.length 2) _ hoid g1 g2 hi hl hll (hd.ei h30).1 (hd.ei h30).2).mono fun r H' h=>⟨h.1,h.2.trans ?_⟩
  rw [C1,Pq _ _ (by simpa using hlt),Ep]
  have:=Fu (U:=Hp.set o (pr l (J9 l Dv.ei (E1 S)).2)) (O:=[A0,A1,xo true t []]++own) (n:=2) (x:=xo true t (J9 l Dv.ei (E1 S)).1)
  rw [Dw] at this
  rw [this]
  simp
 have e:Vw l a Dv.ei S=((J9 l Dv.ei (E1 S)).1,cl (J9 l Dv.ei (E1 S)).2):=if_neg (by
  show ¬(((S.nest:Int)==30)=true)
  simp
  omega)
 rw [e,if_neg h30]
 obtain ⟨h1,h2⟩:=h.2 h30
 exact ⟨h1,by rw [h2,Pq _ _ (by simpa using hlt),Ep]⟩
theorem ATr (l:List Tok) (S:PS) (Dv:Fam) (t:Tok) (o:Nat) (Hp:List AObj) (ho:Hp[o]? = some (pr l S)) (hi:(Au S).i<l.length) (hl:TokEnd l) (hll:l.length≤1048576) (hnl:S.nest≤30) (hd:DeepC l Dv S.nest):ACall Tryz.prog 349 [.ptr o 0,Ls t] Hp (fun r H'=>r=Ab (Ja l Dv t S).1∧H'=Hp.set o (pr l (Ja l Dv t S).2)):=by
 have hi0:S.i<l.length:=by have:S.i+1<l.length:=hi;omega
 have hol:=(Ak.1 ho).1
 have hkf:KFact l (Au S) (Eh l Dv S):=Yr hl _ hi (fun h=>(hd.ei h).1)
 refine Aj [.cell 4 26] [0,1] Tryz.func349 Tryz.ntmps349 (fun d=>?_)
 refine Z1 ?_;refine La ?_;refine Wj ?_;refine Z1 ?_;refine A9 Tryz.call126 (AL4 t.text _) ?_;refine A4 ?_;refine Sp ?_;refine Z8 ?_;refine A2 [2,3,4,5,12] ?_
 refine A3 (fun ht12=>?_) (fun ht12=>?_)
 ·have hlt0:Cc t.text<0:=by simpa using ht12
  have e:Ja l Dv t S=(A6,F5 9 t.at_ S):=if_pos hlt0
  refine Z14 ?_;refine Cl Tryz.call116 ho (by simp) Dk (xm l S 9 t.at_ o _ (B5 ho)) ?_;refine G4 ?_;refine A2 [4] ?_;refine Z10 ?_;exact APi
 have hge:¬Cc t.text<0:=by simpa using ht12
 refine Z58 ?_;refine Cl Tryz.call204 ho (by simp) Dk (xl l S o _ (B5 ho) hi0 hll) ?_;refine Z17 ?_;refine A2 [2,3,4,5,6] ?_;refine Z1 ?_;refine AK4 ?_;refine wq ?_;refine E9 ?_;refine Rc 2 5 6 ?_;refine Z11 ?_;refine Ma ?_
 refine R.callX (up':=(Hp.set o (pr l (Au S))).set o (pr l (Eh l Dv S).2)) (own':=[Mj,.cells 113 [A5 (B1 l S.i).kind,Ac (B1 l S.i).text,A5 (B1 l S.i).at_],xo true t.text (Eh l Dv S).1]) Tryz.call256 (by have:=AQe l (Au S) (B1 l S.i).at_ t.text Dv o (Hp.set o (pr l (Au S))) Mj (.cells 113 [A5 (B1 l S.i).kind,Ac (B1 l S.i).text,A5 (B1 l S.i).at_]) Q8 (Ay ho) hi hl hll hnl hd;rw [Dw] at this;exact this) (by simp) (fun h=>AH2 h Dk) ?_
 refine A2 [2,3,4,5,7] ?_;refine Z2 ?_;refine Cl Tryz.call350 (Ay (Ay ho)) (by simp) Dk (AQ5 l (Eh l Dv S).2 Gr o _ (B5 (Ay (Ay ho))) hkf.lt hll) ?_;refine A2 [2,3,4,5,7] ?_;refine Z46 ?_
 refine A4 (h:=Fi (Ay (Ay (Ay ho)))) (hr:=?_)
 refine Z42 ?_;refine Mf ?_;refine A2 [2,3,4,7,41] ?_
 refine A3 (fun ht41=>?_) (fun ht41=>?_)
 ·have e:Ja l Dv t S=(A6,F5 8 t.at_ (Gv l Gr (Eh l Dv S).2)):=by
   unfold Ja
   rw [if_neg hge,if_pos (by have:=ht41;simp only [B8] at this;exact this)]
  refine Z14 ?_;refine Cl Tryz.call116 (Ay (Ay (Ay ho))) (by simp) Dk (xm l (Gv l Gr (Eh l Dv S).2) 8 t.at_ o _ (B5 (Ay (Ay (Ay ho))))) ?_;refine G4 ?_;refine A2 [4] ?_;refine Z10 ?_;exact A8 (Ai (Ap jA jS)) ⟨by rw [e,Af],by rw [e,Ep,Ep,Ep]⟩ (hlow:=low_agg _)
 have e:Ja l Dv t S=(.mk 6 t.text noV (Eh l Dv S).1,(Gv l Gr (Eh l Dv S).2)):=by
  unfold Ja
  rw [if_neg hge,if_neg (by have:=ht41;simp only [B8] at this;rw [D6] at this;exact this)]
 refine Z58 ?_;refine G4 ?_;refine Z33 ?_;exact A8 (Ai (Ap jA jS)) ⟨by rw [e,Za];rfl,by rw [e,Ep,Ep]⟩ (hlow:=by have:=Ag Hp.length (.mk 6 t.text noV (Eh l Dv S).1);rw [Za] at this;simpa using this)

theorem y6 {l:List Tok} (hl:TokEnd l) (hll:l.length≤1048576) (n:Nat) (Dv:Fam) (hn:n≤30) (hd:DeepC l Dv n):cp l Dv n:=fun o Hp S t ho hi hS _ _=>by
 subst hS
 exact ATr l S Dv t o Hp ho hi hl hll hn hd
structure RowAt (c:List Col) (l:List Val) (x:Nat):Prop where
 le:x≤l.length
 ok:∀(i:Nat) (v:Val) (y:Col),i<x→l[i]? = some v→c[i]? = some y→C2 v=true∧(v.kind=0∨v.kind=y.kind)
theorem RowAt.next {c:List Col} {l:List Val} {x:Nat} (h:RowAt c l x) (hl:x<l.length) (hc:x<c.length) (hb:((!(C2 l[x])) || ((l[x].kind != 0)&&(l[x].kind != c[x].kind)))=false):RowAt c l (x+1):=⟨hl,fun i v y hi hv hy=>by
 rcases Bn i x with h'|h'
 ·exact h.ok i v y h' hv hy
 have e:i=x:=by omega
 subst e
 rw [Ae hl] at hv
 rw [Ae hc] at hy
 injection hv with hv
 injection hy with hy
 subst hv
 subst hy
 simp only [Df,Ka,dq,bne_eq_false_iff_eq] at hb
 exact ⟨hb.1,hb.2⟩⟩
theorem RowAt.bad {c:List Col} {l:List Val} {x:Nat} (hl:x<l.length) (hc:x<c.length) (hb:((!(C2 l[x])) || ((l[x].kind != 0)&&(l[x].kind != c[x].kind)))=true):T6 c l=false:=by
 cases h:T6 c l with
 | false=>rfl
 | true =>
  obtain ⟨h1,h2⟩:=(row_iff.1 h).2.2 x l[x] c[x] (Ae hl) (Ae hc)
  rw [h1] at hb
  simp only [Ck,Cj,Ah,bne_iff_ne] at hb
  omega
theorem c12 (c:List Col) (hc:OkCols c) (l:List Val) (hll:l.length≤1048576) (Hp:List AObj):AFun Tryz.prog 12 [B0 c,P1 l] Hp (At (T6 c l)):=by
 refine Aj [.tmp 4] [0,1] Tryz.func12 Tryz.ntmps12 (fun d=>?_)
 refine Z60 ?_;refine Z25 ?_;refine A9 Tryz.call36 (c36 c hc _) ?_;refine Z42 ?_;refine Mf ?_;refine A2 [0,1,16] ?_
 refine A3 (fun ht16=>?_) (fun ht16=>?_)
 ·have hm:T6 c l=false:=by
   simp only [B8,Dg,R1,bne_iff_ne,ne_eq] at ht16
   unfold T6
   rcases ht16 with h|h
   ·rw [h];rfl
   rw [show (l.length==c.length)=false by simpa using (show l.length≠c.length by omega)];simp
  exact vo
 have hcl:Sx c=true∧l.length=c.length:=by
  simp only [B8,Df,Ka,bne_eq_false_iff_eq] at ht16
  exact ⟨ht16.1,by omega⟩
 refine Nm ?_;refine A2 [0,17,18,19] ?_
 refine B9 (α:=Nat) (fun x=>⟨43,Aa 0 (B0 c) (Aa 17 (P1 l) (Aa 18 (A5 (l.length:Nat)) (Aa 19 (A5 (x:Nat)) (fun _=>.any)))),Hp,[],[],none⟩) (fun x=>RowAt c l x) (fun x=>l.length-x) (0) ⟨Av _,fun i v y h=>by omega⟩ (Az (by simp)) rfl (fun x hx=>?_)
 refine Z2 ?_;refine A2 [0,17,18,19,20] ?_
 refine Ev (fun ht20=>?_) (fun ht20=>?_)
 ·have hlt:x<l.length:=by simpa using ht20
  have hlc:x<c.length:=by omega
  refine U8 ?_
  refine A4 (h:=Ad (x) (Ca l[x]) (fun _=>B3 hlt)) (hr:=?_)
  refine w5 ?_;refine A2 [0,5,6,17,18,19] ?_;refine C3 [0,1,3,7,15,31,63,127,255,511,255,255,3327,7423,15615,32767,65535,131071] 15 Am (by kernel_rfl) ?_;refine Aq ?_;refine Cd Tryz.call37 (c37 _ _) ?_;refine w4 ?_;refine Z57 ?_;refine Z57 ?_;refine Z57 ?_
  refine Fh (h:=Ad (x) (D8 c[x]) (fun _=>B3 hlc)) (hr:=?_)
  refine Z57 ?_;refine Dq ?_;refine Nj ?_;refine A2 [0,17,18,19,41] ?_
  refine A3 (fun ht41=>?_) (fun ht41=>?_)
  ·have hm:=RowAt.bad hlt hlc ht41
   refine Z84 ?_;exact AKh
  refine Ni ?_;refine A2 [0,17,18,19] ?_;refine B2 (x+1) (hx.next hlt hlc ht41) (by omega) ?_
  exact Dz (own:=[]) (fun _=>.refl _) (by repeat (first|exact By|refine Bx (by first|exact lc|exact low_cols|(simp [or_imp,forall_and];done)) ?_)) (by simp) (by simp)
 have hxe:l.length≤x:=by simpa using ht20
 have hm:T6 c l=true:=row_iff.2 ⟨by rw [←Nr];exact hcl.1,hcl.2,fun i v y hv hy=>hx.ok i v y (by have:=(Ak.1 hv).1;omega) hv hy⟩
 refine So ?_;exact AB5

theorem lh {e:Expr} (h:Ch e=true):Qy e=true:=by
 unfold Qy
 cases Ij h with
 | val v hp h0=>simpa [Ei,Expr.op,Expr.val] using hp
 | name t ht=>rfl
 | neg a=>rfl
 | no a=>rfl
 | bin t a b ht=>rfl
 | call t k ht=>rfl
mutual
theorem Tc:∀e:Expr,Bq Ch e=true→Bq Qy e=true
 | .mk o t v k,h=>by
  rw [Bq,Ah] at h ⊢
  exact ⟨lh h.1,li k h.2⟩
theorem li:∀k:List Expr,K5 Ch k=true→K5 Qy k=true
  | [],_=>rfl
  | e::r,h=>by
    rw [K5,Ah] at h ⊢
    exact ⟨Tc e h.1,li r h.2⟩
 end
theorem lj {c:List Col} {l:List Val} (h:T6 c l=true) (hr:∀v∈l, -9223372036854775808≤v.n∧v.n≤9223372036854775807):∀v∈l,Fine v:=fun v hv=>by
 obtain ⟨i,hi⟩:=Cr hv
 obtain ⟨_,h2,h3⟩:=row_iff.1 h
 have hil:=(Ak.1 hi).1
 exact ⟨(h3 i v _ hi (Ae (show i<c.length by omega))).1,(hr v hv).1,(hr v hv).2⟩
theorem c15 (n:Nat) (x:Expr) (hok:okE n x) (hn:n≤1048576) (hrg:Bq Cw x=true) (c:List Col) (hc:OkCols c) (l:List Val) (hll:l.length≤1048576) (hlr:∀v∈l, -9223372036854775808≤v.n∧v.n≤9223372036854775807) (Hp:List AObj):AFun Tryz.prog 15 [Ab x,B0 c,P1 l] Hp (Nt (Fe x c l)):=by
 refine Aj [.cell 6 23,.tmp 7] [0,1,2] Tryz.func15 Tryz.ntmps15 (fun d=>?_)
 refine j8 ?_;refine A2 [1,2,3,6] ?_;refine Z25 ?_;refine A9 Tryz.call38 (c38 n x hok hn _) ?_;refine Z42 ?_;refine Bk Tryz.call12 (fun hB=>c12 c hc l hll _) ?_;refine Z92 ?_;refine A2 [1,2,3,6,16] ?_
 refine A3 (fun ht16=>?_) (fun ht16=>?_)
 ·have hm:Fe x c l=D9 1:=if_pos ht16
  refine an ?_;refine Z15 ?_;exact Z44
 have hm:Fe x c l=Al c l x:=if_neg (by rw [ht16];simp)
 have hrr:Ar x=true∧T6 c l=true:=by simpa using ht16
 obtain ⟨hr,hrow⟩:=hrr
 refine Z98 ?_;refine jm ?_;refine A4 ?_;refine A9 Tryz.call44 (c44 c l hc (row_iff.1 hrow).2.1 (lj hrow hlr) n x hok (K7 hr) hrg (Tc x (K7 hr)) _) ?_;refine Z0 ?_;refine Z15 ?_;exact Z41

theorem ACall.argLeE {P:Program} {g:FuncId} {args args':List AV} {H:List AObj} {post:AV→List AObj→Prop} (h:ACall P g args' H post) (hl:args.length=args'.length) (hle:∀(i:Nat) (y y':AV),args[i]? = some y→args'[i]? = some y'→Le y y'):ACall P g args H post:=
 fun d G w vs h1 h2 h3 h4=>h d G w vs (by rw [h1,hl]) (fun i y' u hy' hu=>by
  have hlt:i<args.length:=by rw [hl];exact (Ak.1 hy').1
  exact (h2 i args[i] u (Ae hlt) hu).le (hle i args[i] y' (Ae hlt) hy')) h3 h4
set_option maxRecDepth 8000
/-! Trees that are trimmed. -/
/-- The kid that is all there is to a node, by its first one. -/
def Ct (o:Int) (t:Str) (ks:List Expr):Option Expr:=
 if ((o==6)&&(t==ifW))&&((ks.getD 0 A6).val==Bs true) then some (ks.getD 1 A6)
 else if ((o==6)&&(t==ifW))&&(((ks.getD 0 A6).val==Bs false) || ((ks.getD 0 A6).val==noV)) then some (ks.getD 2 A6)
 else if ((o==6)&&(t==Gu))&&((ks.getD 0 A6).val==noV) then some (ks.getD 1 A6)
 else if (o==6)&&(t==Gu) then some (ks.getD 0 A6)
 else if (o==5)&&(((t==orW)&&((ks.getD 0 A6).val==Bs true)) || ((t==O9)&&((ks.getD 0 A6).val==Bs false))) then some (ks.getD 0 A6)
 else none
/-- A node of values. -/
def G6 (y:Expr):Option Expr:=
 if y.kids.any (fun k => !(k.op==1)) then none
 else if ((Fe y [] []).2 != 0) || (((Fe y [] []).1.kind==1)&&decide ((Fe y [] []).1.n<0)) then none else some (Ei (Fe y [] []).1)
def J5 (o:Int) (t:Str) (ks:List Expr):Expr:=
 match (if (ks.getD 0 A6).op==1 then Ct o t ks else none) with
 | some z=>z
 | none=>match G6 (.mk o t noV ks) with
  | some z=>z
  | none=>.mk o t noV ks
mutual
def B4:Expr→Expr
 | .mk o t v k=>if (k.length:Int)==0 then .mk o t v k else J5 o t (sy k)
def sy:List Expr→List Expr
  | []=>[]
  | e::r=>B4 e::sy r
 end
theorem cz:∀k,sy k=k.map B4
 | []=>rfl
 | e::r=>by rw [sy,cz r];rfl
theorem Zb (e:Expr):B4 e=if (e.kids.length:Int)==0 then e else J5 e.op e.text (e.kids.map B4):=by
 cases e with
 | mk o t v k=>rw [B4,cz];rfl
/-- What a trimmed tree keeps. -/
structure TrimOk (c:List Col) (l:List Val) (x y:Expr):Prop where
 ev:Al c l y=Al c l x
 node:Bq Ch y=true
 rng:Bq Cw y=true
 size:sizeE y≤sizeE x
 depth:depthE y≤depthE x
theorem TrimOk.of {c:List Col} {l:List Val} {x y z:Expr} (h:TrimOk c l x y) (he:Al c l z=Al c l y) (hn:Bq Ch z=true) (hr:Bq Cw z=true) (hs:sizeE z≤sizeE y) (hd:depthE z≤depthE y):TrimOk c l x z:=
 ⟨he.trans h.ev,hn,hr,I7 hs h.size,I7 hd h.depth⟩
theorem Mx {v:Val} (hp:C2 v=true) (h:v.kind=0):v=noV:=by
 obtain ⟨k,n,s⟩:=v
 simp only at h
 subst h
 simp [C2] at hp
 rw [hp.1,hp.2];rfl
theorem Nu {v:Val} (hp:C2 v=true) (h:v.kind=3):v=Bs true∨v=Bs false:=by
 obtain ⟨k,n,s⟩:=v
 simp only at h
 subst h
 simp [C2] at hp
 obtain ⟨⟨rfl,h0⟩,h1⟩:=hp
 have:n=0∨n=1:=by omega
 rcases this with rfl|rfl
 ·exact .inr rfl
 exact .inl rfl
theorem Pb:∀{l:List Expr} {y:Expr},y∈l→depthE y≤De l
 | a::r,y,h=>by
  rw [De]
  rcases C0.1 h with rfl|h
  ·omega
  have:=Pb h
  omega
theorem Qc {l:List Expr} {y:Expr} (h:y∈l):sizeE y≤Bp l:=by
 obtain ⟨i,hi⟩:=Cr h
 obtain ⟨hlt,rfl⟩:=Ak.1 hi
 exact Q6 l hlt
theorem M2 {k:List Expr} {i:Nat} (h:i<k.length):k.getD i A6∈k:=by
 rw [Cz,Ae h]
 exact Bb h
theorem Td {f:Expr→Rs} {k:List Expr} {i:Nat} {d:Rs} (h:i<k.length):(k.map f).getD i d=f (k.getD i A6):=by
 rw [Cz,Cz,Cp,Ae h]
 rfl
theorem Nv {c:List Col} {l:List Val} {k:Expr} (h:(k.op==1)=true):Al c l k=(k.val,0):=by
 rw [Al,I1]
 unfold Gy
 rw [if_pos h]
theorem ADi {v:Val} (h:C2 v=true) (h0:0≤v.n):Ch (Ei v)=true:=by rw [Hj,Ei,Gt];simp [h,h0]
theorem Zc {k:Expr} (h:Ch k=true) (h1:(k.op==1)=true):C2 k.val=true:=by
 have:=lh h
 unfold Qy at this
 rw [h1] at this
 simpa using this
/-- A node whose kids are trimmed. -/
theorem y7 {c:List Col} {l:List Val} (hl:∀v∈l,Fine v) {o:Int} {t:Str} {k:List Expr} (hn:Bq Ch (.mk o t noV k)=true) (hr:Bq Cw (.mk o t noV k)=true) (hk:k≠[]):TrimOk c l (.mk o t noV k) (J5 o t k):=by
 have hself:TrimOk c l (.mk o t noV k) (.mk o t noV k):=⟨rfl,hn,hr,Ao _,Ao _⟩
 have hn0:=hn
 rw [Bq,Ah] at hn0
 have hr0:=hr
 rw [Bq,Ah] at hr0
 obtain ⟨q5,q34,q6,qall⟩:=Jo hn0.1
 have hkl:0<k.length:=List.length_pos_iff.2 hk
 have hkid:∀i,i<k.length→TrimOk c l (k.getD i A6) (k.getD i A6)∧sizeE (k.getD i A6)≤sizeE (.mk o t noV k)∧depthE (k.getD i A6)≤depthE (.mk o t noV k):=fun i hi=>by
  have hm:=M2 hi
  refine ⟨⟨rfl,(Bd _ _).1 hn0.2 _ hm,(Bd _ _).1 hr0.2 _ hm,Ao _,Ao _⟩,?_,?_⟩
  ·rw [sizeE];have:=Qc hm;omega
  rw [depthE];have:=Pb hm;omega
 -- a kid that comes to the same is as good
 have hpick:∀i,i<k.length→Al c l (.mk o t noV k)=Al c l (k.getD i A6)→TrimOk c l (.mk o t noV k) (k.getD i A6):=fun i hi he=>by
  obtain ⟨h1,h2,h3⟩:=hkid i hi
  exact ⟨he.symm,h1.node,h1.rng,h2,h3⟩
 have hev:Al c l (.mk o t noV k)=Gy Bo c l o t noV (k.map (Al c l)):=by rw [Al,I1];rfl
 have hreck:TrimOk c l (.mk o t noV k) (match G6 (.mk o t noV k) with|some z=>z|none=>.mk o t noV k):=by
  unfold G6
  split
  ·rename_i z hz
   split at hz
   ·cases hz
   rename_i hc
   split at hz
   ·cases hz
   rename_i h2
   injection hz with hz
   subst hz
   have hconst:∀y∈k,(y.op==1)=true:=fun y hy=>by
    cases h:y.op==1 with
    | true=>rfl
    | false=>exact absurd (M5.2 ⟨y,hy,by rw [h];rfl⟩) hc
   simp only [Dg,Ah,decide_eq_true_eq,not_or,bne_iff_ne,ne_eq,Decidable.not_not] at h2
   obtain ⟨he0,hneg⟩:=h2
   have hright:Ar (.mk o t noV k)=true:=by
    cases h:Ar (.mk o t noV k) with
    | true=>rfl
    | false=>unfold Fe sr at he0;rw [h] at he0;cases he0
   have hrow:T6 [] []=true:=by kernel_rfl
   have hm:Fe (.mk o t noV k) [] []=Al [] [] (.mk o t noV k):=Tb hright hrow
   have hfine:Fine (Fe (.mk o t noV k) [] []).1:=by
    rw [hm]
    exact Mw (fun v hv=>by cases hv) _ (Tc _ hn) hr
   have ho2:(o==2)=false:=by
    have hnn:=hn0.1
    rw [Hj,Gt] at hnn
    cases h:o==2 with
    | false=>rfl
    | true =>
     have:o=2:=by simpa using h
     subst this
     simp at hnn
     exact absurd hnn.2.2 (by intro e;exact hk e)
   have hsame:Al c l (.mk o t noV k)=Al [] [] (.mk o t noV k):=by
    have e1:k.map (Al c l)=k.map (Al [] []):=Pn fun y hy=>by rw [Nv (hconst y hy),Nv (hconst y hy)]
    rw [hev,e1,Al,I1]
    show Gy Bo c l o t noV _=Gy Bo [] [] o t noV _
    unfold Gy
    rw [ho2]
    rfl
   have hp:=hfine.plain
   refine ⟨?_,?_,?_,?_,?_⟩
   ·rw [hsame,←hm,Nv (k:=Ei _) rfl]
    show ((Fe (.mk o t noV k) [] []).1,(0:Int))=_
    rw [←he0]
   ·rw [Cb,Ah]
    refine ⟨?_,rfl⟩
    refine ADi hp ?_
    by_cases hk1:(Fe (.mk o t noV k) [] []).1.kind=1
    ·have:¬(Fe (.mk o t noV k) [] []).1.n<0:=fun h=>hneg ⟨by simpa using hk1,h⟩
     omega
    generalize (Fe (.mk o t noV k) [] []).1=v at hp hk1
    unfold C2 at hp
    split at hp
    ·simp at hp;omega
    split at hp
    ·rename_i h;exact absurd (by simpa using h) hk1
    split at hp
    ·simp at hp;omega
    simp at hp;omega
   ·rw [Cb,Ah]
    refine ⟨?_,rfl⟩
    show Cw (Ei _)=true
    unfold Cw
    simp only [Ah,decide_eq_true_eq]
    exact ⟨hfine.lo,hfine.hi⟩
   ·rw [sizeE];show 1≤_;omega
   rw [depthE];show 1≤_;omega
  exact hself
 unfold J5
 split
 ·rename_i z hz
  split at hz
  ·rename_i h1
   have hc0:=Nv (c:=c) (l:=l) h1
   have hp:=Zc (by have:=(hkid 0 hkl).1.node;rw [Cb,Ah] at this;exact this.1) h1
   have hg0:(k.map (Al c l)).getD 0 (noV,0)=((k.getD 0 A6).val,0):=by rw [Td hkl,hc0]
   have tr:∀{v:Val},(v=Bs true∨v=Bs false∨v=noV)→Ba (v,0)=(v,0):=fun {v} h=>by
    rcases h with rfl|rfl|rfl<;>rfl
   unfold Ct at hz
   split at hz
   ·rename_i h
    injection hz with hz
    subst hz
    simp only [Ah,beq_iff_eq] at h
    obtain ⟨⟨rfl,rfl⟩,hv⟩:=h
    have h3:k.length=3:=by
     rcases Eb (q6 rfl) with ⟨e,_⟩|⟨e,_⟩|⟨e,_⟩|⟨e,_⟩|⟨e,_⟩|⟨e,_⟩|⟨e,_⟩|⟨_,e⟩
     all_goals first|exact e|exact absurd (show ifW=_ from e) (by decide)
    refine hpick 1 (by omega) ?_
    rw [hev]
    show Ed ifW _ _ _=_
    rw [hg0,hv,Td (show 1<k.length by omega)]
    rfl
   split at hz
   ·rename_i h
    injection hz with hz
    subst hz
    simp only [Ah,Dg,beq_iff_eq] at h
    obtain ⟨⟨rfl,rfl⟩,hv⟩:=h
    have h3:k.length=3:=by
     rcases Eb (q6 rfl) with ⟨e,_⟩|⟨e,_⟩|⟨e,_⟩|⟨e,_⟩|⟨e,_⟩|⟨e,_⟩|⟨e,_⟩|⟨_,e⟩
     all_goals first|exact e|exact absurd (show ifW=_ from e) (by decide)
    refine hpick 2 (by omega) ?_
    rw [hev]
    show Ed ifW _ _ _=_
    rw [hg0,Td (show 2<k.length by omega)]
    rcases hv with hv|hv<;>rw [hv]<;>rfl
   split at hz
   ·rename_i h
    injection hz with hz
    subst hz
    simp only [Ah,beq_iff_eq] at h
    obtain ⟨⟨rfl,rfl⟩,hv⟩:=h
    have h3:k.length=2:=by
     rcases Eb (q6 rfl) with ⟨e,_⟩|⟨e,_⟩|⟨e,_⟩|⟨e,_⟩|⟨_,e⟩|⟨e,_⟩|⟨e,_⟩|⟨e,_⟩
     all_goals first|exact e|exact absurd (show Gu=_ from e) (by decide)
    refine hpick 1 (by omega) ?_
    rw [hev]
    show Ed Gu ((k.map (Al c l)).getD 0 (noV,0)) ((k.map (Al c l)).getD 1 (noV,0)) ((k.map (Al c l)).getD 2 (noV,0))=_
    rw [hg0,hv,Td (show 1<k.length by omega)]
    rfl
   rename_i hnull
   split at hz
   ·rename_i h
    injection hz with hz
    subst hz
    have h':=h
    simp only [Ah,beq_iff_eq] at h
    obtain ⟨rfl,rfl⟩:=h
    have hv:¬(k.getD 0 A6).val.kind=0:=fun e=>hnull (by rw [Mx hp e];rfl)
    refine hpick 0 hkl ?_
    rw [hev]
    show Ed Gu ((k.map (Al c l)).getD 0 (noV,0)) ((k.map (Al c l)).getD 1 (noV,0)) ((k.map (Al c l)).getD 2 (noV,0))=_
    rw [hg0,hc0]
    unfold Ed
    simp only [show (Gu==ifW)=false from rfl,show (Gu==Co)=false from rfl,An,if_false]
    rw [if_neg (by simp),if_pos (by simpa using hv)]
   split at hz
   ·rename_i h
    injection hz with hz
    subst hz
    simp only [Ah,Dg,beq_iff_eq] at h
    obtain ⟨rfl,h⟩:=h
    refine hpick 0 hkl ?_
    rcases h with ⟨rfl,hv⟩|⟨rfl,hv⟩
    ·rw [hev]
     show Gb (Bs true) _ _=_
     rw [hg0,hc0,hv]
     rfl
    rw [hev]
    show Gb (Bs false) _ _=_
    rw [hg0,hc0,hv]
    rfl
   cases hz
  cases hz
 exact hreck
theorem Te {c:List Col} {l:List Val} (hl:∀v∈l,Fine v):∀(n:Nat) (x:Expr),sizeE x≤n→Bq Ch x=true→Bq Cw x=true→TrimOk c l x (B4 x)
 | 0,x,h,_,_=>by rw [Ds] at h;omega
 | n+1,x,h,hn,hr=>by
  rw [Zb]
  split
  ·exact ⟨rfl,hn,hr,Ao _,Ao _⟩
  rename_i h0
  have hk0:x.kids≠[]:=fun e=>h0 (by rw [e];rfl)
  have hn0:=hn
  rw [Cb,Ah] at hn0
  have hr0:=hr
  rw [Cb,Ah] at hr0
  have ih:∀y∈x.kids,TrimOk c l y (B4 y):=fun y hy=>by
   obtain ⟨i,hi⟩:=Cr hy
   obtain ⟨hlt,rfl⟩:=Ak.1 hi
   exact Te hl n _ (by have:=Sv x hlt;omega) ((Bd _ _).1 hn0.2 _ hy) ((Bd _ _).1 hr0.2 _ hy)
  obtain ⟨o,t,v,k⟩:=x
  simp only [Expr.op,Expr.text,Expr.kids] at *
  -- it has kids, so its own value is none
  have hv:v=noV:=by
   have hnn:=hn0.1
   rw [Hj,Gt] at hnn
   split at hnn
   ·rename_i h1
    simp only [Ah,beq_iff_eq] at hnn
    exact absurd (N4 (by have:=hnn.2;omega)) hk0
   split at hnn
   ·cases hnn
   rename_i hb;exact gn (by simpa using hb)
  subst hv
  have hmem:∀y∈k.map B4,∃z∈k,y=B4 z:=fun y hy=>by
   obtain ⟨z,hz,rfl⟩:=Dm.1 hy
   exact ⟨z,hz,rfl⟩
  have hn1:Bq Ch (.mk o t noV (k.map B4))=true:=by
   rw [Bq,Ah]
   refine ⟨?_,(Bd _ _).2 fun y hy=>?_⟩
   ·have hnn:=hn0.1
    rw [Hj,Gt] at hnn ⊢
    rw [B8]
    exact hnn
   obtain ⟨z,hz,rfl⟩:=hmem y hy
   exact (ih z hz).node
  have hr1:Bq Cw (.mk o t noV (k.map B4))=true:=by
   rw [Bq,Ah]
   refine ⟨hr0.1,(Bd _ _).2 fun y hy=>?_⟩
   obtain ⟨z,hz,rfl⟩:=hmem y hy
   exact (ih z hz).rng
  have hT:TrimOk c l (.mk o t noV k) (.mk o t noV (k.map B4)):=by
   refine ⟨?_,hn1,hr1,?_,?_⟩
   ·rw [Al,Al,I1,I1]
    show Gy Bo c l o t noV ((k.map B4).map (Al c l))=Gy Bo c l o t noV (k.map (Al c l))
    have e2:k.map (Al c l ∘ B4)=k.map (Al c l):=Pn fun y hy=>(ih y hy).ev
    rw [Lt,e2]
   ·rw [sizeE,sizeE]
    have:∀r:List Expr,(∀y∈r,y∈k)→Bp (r.map B4)≤Bp r:=fun r=>by
     induction r with
     | nil=>intro _;exact Ao _
     | cons y r ihr =>
      intro hs
      rw [Ci,Bp,Bp]
      have h1:=(ih y (hs y Js)).size
      have h2:=ihr fun z hz=>hs z (It _ hz)
      omega
    have:=this k fun _ h=>h
    omega
   rw [depthE,depthE]
   have:∀r:List Expr,(∀y∈r,y∈k)→De (r.map B4)≤De r:=fun r=>by
    induction r with
    | nil=>intro _;exact Ao _
    | cons y r ihr =>
     intro hs
     rw [Ci,De,De]
     have h1:=(ih y (hs y Js)).depth
     have h2:=ihr fun z hz=>hs z (It _ hz)
     omega
   have:=this k fun _ h=>h
   omega
  have h2:=y7 (c:=c) hl hn1 hr1 (by simpa using hk0)
  exact hT.of h2.ev h2.node h2.rng h2.size h2.depth
/-- It comes to the same. -/
theorem Zd {x:Expr} (hr:Ax x=true) (hg:Bq Cw x=true) (c:List Col) (l:List Val) (hl:∀v∈l, -9223372036854775808≤v.n∧v.n≤9223372036854775807):Ax (B4 x)=true∧Bq Cw (B4 x)=true∧Fe (B4 x) c l=Fe x c l:=by
 have hr':=hr
 unfold Ax at hr'
 simp only [Ah,decide_eq_true_eq] at hr'
 have h0:=Te (c:=[]) (l:=[]) (fun v hv=>by cases hv) _ x (Ao _) hr'.2 hg
 have hr2:Ax (B4 x)=true:=by
  unfold Ax
  simp only [Ah,decide_eq_true_eq]
  exact ⟨⟨I7 h0.depth hr'.1.1,I7 h0.size hr'.1.2⟩,h0.node⟩
 refine ⟨hr2,h0.rng,?_⟩
 cases hrow:T6 c l with
 | false=>unfold Fe sr;rw [hrow];simp
 | true =>
  rw [Tb (by rw [C4];exact hr2) hrow,Tb (by rw [C4];exact hr) hrow]
  exact (Te (lj hrow hl) _ x (Ao _) hr'.2 hg).ev
/-! What the signs of bits tell. -/
theorem Ze (x:BitVec 64):IntKind.i64.wrap (x.toNat:Int)=x.toInt:=by
 rw [IntKind.wrap_i64,BitVec.toInt_eq_toNat_cond]
 have:=x.isLt
 split<;>omega
theorem Qd {m:Int} (h0 : -9223372036854775808≤m) (h1:m≤9223372036854775807):(BitVec.ofInt 64 m).msb=decide (m<0):=by
 rw [BitVec.msb_eq_toInt,BitVec.toInt_ofInt]
 congr 1
 have:m.bmod (2 ^ 64)=m:=by
  rw [Int.bmod_eq_of_le]<;>omega
 rw [this]
theorem ll {m n:Int} (m0 : -9223372036854775808≤m) (m1:m≤9223372036854775807) (n0 : -9223372036854775808≤n) (n1:n≤9223372036854775807):decide (Vd .i64 m n<0)=(decide (m<0)&&decide (n<0)):=by
 have e:Vd .i64 m n=(BitVec.ofInt 64 m &&& BitVec.ofInt 64 n).toInt:=Ze _
 rw [e,←BitVec.msb_eq_toInt,BitVec.msb_and,Qd m0 m1,Qd n0 n1]
theorem Tf {m n:Int} (m0 : -9223372036854775808≤m) (m1:m≤9223372036854775807) (n0 : -9223372036854775808≤n) (n1:n≤9223372036854775807):decide (O3 .i64 m n<0)=(decide (m<0) ^^ decide (n<0)):=by
 have e:O3 .i64 m n=(BitVec.ofInt 64 m ^^^ BitVec.ofInt 64 n).toInt:=Ze _
 rw [e,←BitVec.msb_eq_toInt,BitVec.msb_xor,Qd m0 m1,Qd n0 n1]
theorem K8 (m n:Int) : -9223372036854775808≤O3 .i64 m n∧O3 .i64 m n≤9223372036854775807:=Jz _
/-- num.Add: the sum, where 64 bits hold it. -/
theorem AHb {a b:Int} (a0 : -9223372036854775808≤a) (a1:a≤9223372036854775807) (b0 : -9223372036854775808≤b) (b1:b≤9223372036854775807):bb a b=if -9223372036854775808≤a+b∧a+b≤9223372036854775807 then (a+b,0) else (0,4):=by
 have hw:=IntKind.wrap_i64 (a+b)
 have hc:=Jz (a+b)
 unfold bb
 generalize IntKind.i64.wrap (a+b)=c at hw hc ⊢
 rw [ll (K8 _ _).1 (K8 _ _).2 (K8 _ _).1 (K8 _ _).2,Tf a0 a1 hc.1 hc.2,Tf b0 b1 hc.1 hc.2]
 by_cases ha:a<0<;>by_cases hb:b<0<;>by_cases hcn:c<0<;>simp [ha,hb,hcn]<;>(try split)<;>(try simp)<;>omega
/-- num.Sub. -/
theorem t2 {a b:Int} (a0 : -9223372036854775808≤a) (a1:a≤9223372036854775807) (b0 : -9223372036854775808≤b) (b1:b≤9223372036854775807):Pa a b=if -9223372036854775808≤a-b∧a-b≤9223372036854775807 then (a-b,0) else (0,4):=by
 have hw:=IntKind.wrap_i64 (a-b)
 have hc:=Jz (a-b)
 unfold Pa
 generalize IntKind.i64.wrap (a-b)=c at hw hc ⊢
 rw [ll (K8 _ _).1 (K8 _ _).2 (K8 _ _).1 (K8 _ _).2,Tf a0 a1 b0 b1,Tf a0 a1 hc.1 hc.2]
 by_cases ha:a<0<;>by_cases hb:b<0<;>by_cases hcn:c<0<;>simp [ha,hb,hcn]<;>(try split)<;>(try simp)<;>omega
theorem Qe {a:Int} (a0 : -9223372036854775808≤a) (a1:a≤9223372036854775807):Kl a=(a.natAbs:Int):=by
 have h1:=IntKind.wrap_u64 a
 have h2:=IntKind.wrap_u64 (0-IntKind.u64.wrap a)
 unfold Kl
 split
 ·rename_i h
  have h:a<0:=by simpa using h
  omega
 rename_i h
 have h:¬a<0:=by simpa using h
 omega
/-- num.Mul. -/
theorem AHc {a b:Int} (a0 : -9223372036854775808≤a) (a1:a≤9223372036854775807) (b0 : -9223372036854775808≤b) (b1:b≤9223372036854775807):T7 a b=if -9223372036854775808≤a*b∧a*b≤9223372036854775807 then (a*b,0) else (0,4):=by
 have hs:((a<0↔b<0)→a*b=(a.natAbs:Int)*(b.natAbs:Int))∧(¬(a<0↔b<0)→a*b = -((a.natAbs:Int)*(b.natAbs:Int))):=by
  rcases Int.natAbs_eq a with ha|ha<;>rcases Int.natAbs_eq b with hb|hb
  ·refine ⟨fun _=>by rw [←ha,←hb],fun h=>?_⟩
   exfalso
   omega
  ·refine ⟨fun h=>?_,fun _=>by rw [Int.neg_mul_eq_mul_neg,←hb,←ha]⟩
   have hz:b.natAbs=0:=by omega
   have:b=0:=by omega
   subst this
   simp
  ·refine ⟨fun h=>?_,fun _=>by rw [←Int.neg_mul,←hb,←ha]⟩
   have:a=0:=by omega
   subst this
   simp
  refine ⟨fun _=>?_,fun h=>?_⟩
  ·have:=Int.neg_mul_neg (a.natAbs:Int) (b.natAbs:Int)
   rw [←ha,←hb] at this
   exact this
  by_cases hz:a=0
  ·subst hz;simp
  have:b=0:=by omega
  subst this
  simp
 unfold T7
 simp only [Qe a0 a1,Qe b0 b1]
 have hp:0≤(a.natAbs:Int)*(b.natAbs:Int):=Int.mul_nonneg (Int.natCast_nonneg _) (Int.natCast_nonneg _)
 generalize hP:(a.natAbs:Int)*(b.natAbs:Int)=p at hs hp ⊢
 generalize hQ:a*b=q at hs ⊢
 have hu:=IntKind.wrap_u64 (0-p % 18446744073709551616)
 have hi:=IntKind.wrap_i64 (IntKind.u64.wrap (0-p % 18446744073709551616))
 have hj:=IntKind.wrap_i64 (p % 18446744073709551616)
 by_cases hab:(a<0↔b<0)
 ·have hq:=hs.1 hab
  have hbl:(decide (a<0) != decide (b<0))=false:=by simp [hab]
  rw [hbl]
  simp only [An,if_false]
  subst hq
  by_cases hc:(decide (0<q / 18446744073709551616) || decide (9223372036854775807<q % 18446744073709551616))=true
  ·rw [if_pos hc,if_neg]
   simp only [Dg,decide_eq_true_eq] at hc
   omega
  rw [if_neg hc]
  simp only [Dg,decide_eq_true_eq,not_or,Int.not_lt] at hc
  rw [if_pos (by omega)]
  congr 1
  omega
 have hq:=hs.2 hab
 have hbl:(decide (a<0) != decide (b<0))=true:=by
  by_cases h1:a<0<;>by_cases h2:b<0<;>simp_all
 rw [hbl]
 simp only [if_true]
 subst hq
 by_cases hc:(decide (0<p / 18446744073709551616) || decide (9223372036854775808<p % 18446744073709551616))=true
 ·rw [if_pos hc,if_neg]
  simp only [Dg,decide_eq_true_eq] at hc
  omega
 rw [if_neg hc]
 simp only [Dg,decide_eq_true_eq,not_or,Int.not_lt] at hc
 rw [if_pos (by omega)]
 congr 1
 omega
set_option maxRecDepth 4000
/-! Every number that is printed is read. -/
set_option maxRecDepth 8000
/-! The tree back: invert's model. -/
def lm:Str:=[115,116,114]
def qb:Str:=[110,117,109]
def Wk:Str:=[108,101,110]
def Zf:Str:=[108,101,102,116]
def Rv:Str:=[114,105,103,104,116]
def H5 (x:Expr) (t:Str) (y:Expr):Expr:=.mk 5 t noV [x,y]
def Eo (t:Str) (l:List Expr):Expr:=.mk 6 t noV l
def Ge (x:Expr):Bool:=decide (0<(Cm x).length)
/-- The kid with the name, the other one, and whether that comes first. -/
structure Sd where
 e:Expr
 c:Expr
 first:Bool
def Gf (x:Expr):Option Sd:=match x.kids with
 | [a]=>if Ge a then some ⟨a,A6,false⟩ else none
 | [a,b]=>if Ge a==Ge b then none else if Ge a then some ⟨a,b,false⟩ else some ⟨b,a,true⟩
 | _=>none
def Nw (x:Expr) (k:Int):Option Val:=if (Ar x&&((B4 x).op==1))&&((B4 x).val.kind==k) then some (B4 x).val else none
def ADj (t:Str) (s:Sd) (y:Expr):Option Expr:=match Nw s.c 1 with
 | none=>none
 | some v=>some (if t==[43] then H5 y [45] (Ei v) else if s.first then H5 (Ei v) [45] y else H5 y [43] (Ei v))
def ln (s:Sd) (y:Expr):Option Expr:=match Nw s.c 2 with
 | none=>none
 | some v=>some (Eo (if s.first then Rv else Zf) [y,H5 (Eo Wk [y]) [45] (Ei ⟨1,(v.s.length:Int),[]⟩)])
def Li (x:Expr) (s:Sd) (y:Expr):Option Expr:=
 if (x.op==3) || (x.op==4) then some (.mk x.op [] noV [y])
 else if (x.op==6)&&(x.text==lm) then some (Eo qb [y])
 else if (x.op==5)&&((x.text==[43]) || (x.text==[45])) then ADj x.text s y
 else if (x.op==5)&&(x.text==[38]) then ln s y
 else none
def Hu (x y:Expr):Option (Expr×Expr):=match Gf x with
 | none=>none
 | some s=>match Li x s y with
  | none=>none
  | some z=>if Ar z then some (s.e,z) else none
/-- The last that peel yields. -/
def Gg:Nat→Expr→Expr→Expr×Expr
 | 0,x,y=>(x,y)
 | n+1,x,y=>if x.op==2 then (x,y) else match Hu x y with
  | none=>(x,y)
  | some p=>Gg n p.1 p.2
/-! Values by their kinds. -/
/-! AE7 of one kid, and of two. -/
/-! A node of a value: what its kid is, of what it comes to. -/
/-! The constants. -/
theorem ADk {c:List Col} {l:List Val} (hl:∀v∈l,Fine v) {x:Expr} {k:Int} {w:Val} (hn:Bq Ch x=true) (hr:Bq Cw x=true) (h:Nw x k=some w):Al c l x=(w,0)∧w.kind=k∧Fine w:=by
 unfold Nw at h
 split at h
 ·rename_i hc
  simp only [Ah,beq_iff_eq] at hc
  injection h with h
  have ht:=Te (c:=c) hl _ x (Ao _) hn hr
  have e:Al c l (B4 x)=((B4 x).val,0):=by
   show T5 Bo c l _=_
   rw [I1]
   unfold Gy
   rw [hc.1.2];rfl
  have e2:Al c l x=(w,0):=by rw [←ht.ev,e,h]
  have hf:=Mw (c:=c) hl x (Tc x hn) hr
  rw [e2] at hf
  exact ⟨e2,by rw [←h];exact hc.2,hf⟩
 cases h
theorem Vz {x:Expr} {s:Sd} (h:Gf x=some s):x.kids=[s.e]∨(x.kids=[s.e,s.c]∧s.first=false)∨(x.kids=[s.c,s.e]∧s.first=true):=by
 unfold Gf at h
 split at h
 ·rename_i a hk
  split at h
  ·injection h with h;subst h;exact .inl hk
  cases h
 ·rename_i a b hk
  split at h
  ·cases h
  split at h
  ·injection h with h;subst h;exact .inr (.inl ⟨hk,rfl⟩)
  injection h with h;subst h;exact .inr (.inr ⟨hk,rfl⟩)
 cases h
/-! The words of a print. -/
/-! A text between marks. -/
/-! The print of a tree, and its words. -/
def Oa (least:Nat) (x:Expr) (s:Str):Str:=if least≤levE x then s else 40::(s++[41])
def Iq:List Str→Str
 | []=>[]
 | s::r=>44::32::(s++Iq r)
def Tg (o:Int) (t:Str) (v:Val) (k:List Expr) (ss:List Str):Str:=
 if o==1 then Ih v else if o==2 then t
 else if o==3 then 45::Oa 6 (k.getD 0 A6) (ss.getD 0 [])
 else if o==4 then AD4++32::Oa 2 (k.getD 0 A6) (ss.getD 0 [])
 else if o==5 then Oa (Kj (Bt t).toNat) (k.getD 0 A6) (ss.getD 0 [])++32::(t++32::Oa ((Bt t).toNat+1) (k.getD 1 A6) (ss.getD 1 []))
 else t++40::((Iq ss).drop 2++[41])
mutual
def Bf:Expr→Str
 | .mk o t v k=>Tg o t v k (Pc k)
def Pc:List Expr→List Str
  | []=>[]
  | e::r=>Bf e::Pc r
 end
theorem Rw:∀l,Pc l=l.map Bf
 | []=>rfl
 | e::r=>by rw [Pc,Rw r];rfl
theorem ALq (v:Val):Bf (Ei v)=Ih v:=by simp [Ei,Bf,Tg]
theorem AHd (t:Str):Bf (Bh t)=t:=by simp [Bh,Bf,Tg]
theorem ALr (a:Expr):Bf (Gw 3 a)=45::Oa 6 a (Bf a):=by simp [Gw,Bf,Pc,Tg]
theorem AQf (a:Expr):Bf (Gw 4 a)=AD4++32::Oa 2 a (Bf a):=by simp [Gw,Bf,Pc,Tg]
theorem ALs (t:Str) (a b:Expr):Bf (Jm t a b)=Oa (Kj (Bt t).toNat) a (Bf a)++32::(t++32::Oa ((Bt t).toNat+1) b (Bf b)):=by simp [Jm,Bf,Pc,Tg]
theorem AHe (t:Str) (k:List Expr):Bf (.mk 6 t noV k)=t++40::((Iq (Pc k)).drop 2++[41]):=by simp [Bf,Tg]
/-! What was parsed nests no deeper than may be. -/
/-! What nests too deep is told to be too deep. -/
/-! What was parsed is right, where the words are the lexer's. -/
/-! The lexer's words. -/
/-! The parse laws where nothing is too deep. -/
/-! The parser from a word on, and of a source. -/
/-! Other trees have other words, and other prints. -/
/-! The laws of printing. -/
/-- show.Print. -/
def W0 (x:Expr):Str×Int:=if !(Ar x) then ([],1) else if decide ((4000:Int)<((Bf x).length:Int)) then ([],3) else (Bf x,0)
theorem Ik {x:Expr} (h:Ax x=true):Bq Ch x=true:=by
 unfold Ax at h
 rw [Ah] at h
 exact h.2
/-! How long a print is. -/
theorem qc {v:Val} (hp:C2 v=true) (hi:wz v.n):(Ih v).length≤402:=by
 unfold Ih
 rw [hp]
 simp only [Ck,An,if_false]
 split
 ·have:=Lib.itoa_length_le v.n hi.1 hi.2
  omega
 split
 ·rename_i h1 h2
  rw [Vt]
  have h3:=kn v.s
  have h4:v.s.length≤200:=by
   have k2:v.kind=2:=by simpa using h2
   simp [C2,k2] at hp
   omega
  simp
  omega
 split
 ·simp
 split<;>simp
theorem X0 (k:Nat) (x:Expr) (s:Str):(Oa k x s).length≤s.length+2:=by
 unfold Oa
 split<;>simp
theorem lq {t:Str} (h:0≤Bt t):t.length≤3:=by
 rcases M1 t with hm|⟨hm,_⟩
 ·have h3:(levels.flatten.all fun s=>decide (s.length≤3))=true:=by kernel_rfl
  exact of_decide_eq_true (Bj.1 h3 t hm)
 omega
theorem Zg {t:Str} {n:Nat} (h:Cc t=(n:Int)):t.length≤6:=by
 rcases Eb h with ⟨e,_⟩|⟨e,_⟩|⟨e,_⟩|⟨e,_⟩|⟨e,_⟩|⟨e,_⟩|⟨e,_⟩|⟨e,_⟩<;>rw [e]<;>decide
theorem ADl {k:List Expr} (h:∀y∈k,(Bf y).length+10≤440*sizeE y):(Iq (k.map Bf)).length≤440*Bp k:=by
 induction k with
 | nil=>simp [Iq]
 | cons y r ih =>
  have h1:=h y Js
  have h2:=ih (fun z hz=>h z (It _ hz))
  simp only [Ci,Iq,Bp,B6,Aw]
  omega
theorem d7:∀(n:Nat) (e:Expr),sizeE e≤n→Bq Ch e=true→Bq Cw e=true→(Bf e).length+10≤440*sizeE e
 | 0,e,h,_,_=>by rw [Ds] at h;omega
 | n+1,e,h,hn,hr=>by
  rw [Cb,Ah] at hn hr
  have hk:∀y∈e.kids,(Bf y).length+10≤440*sizeE y:=fun y hy=>by
   obtain ⟨i,hi⟩:=Cr hy
   obtain ⟨hlt,rfl⟩:=Ak.1 hi
   exact d7 n _ (by have:=Sv e hlt;omega) ((Bd _ _).1 hn.2 _ hy) ((Bd _ _).1 hr.2 _ hy)
  have hi:wz e.val.n:=by
   have:=hr.1
   simp only [Cw,Ah,decide_eq_true_eq] at this
   exact this
  rw [Ds]
  cases Ij hn.1 with
  | val v hp h0 =>
   rw [ALq]
   have:=qc hp (v:=v) hi
   simp only [Ei,Expr.kids,Bp]
   omega
  | name t ht =>
   rw [AHd]
   have:t.length≤16:=by
    cases t with
    | nil=>simp
    | cons c r =>
     simp only [Hg,Ah,decide_eq_true_eq] at ht
     exact ht.1.1.1
   simp only [Bh,Expr.kids,Bp]
   omega
  | neg a =>
   rw [ALr]
   have h1:=X0 6 a (Bf a)
   have h2:=hk a (by simp [Gw,Expr.kids])
   simp only [Gw,Expr.kids,Bp,B6]
   omega
  | no a =>
   rw [AQf]
   have h1:=X0 2 a (Bf a)
   have h2:=hk a (by simp [Gw,Expr.kids])
   simp only [Gw,Expr.kids,Bp,B6,Aw,AD4,Bc]
   omega
  | bin t a b ht =>
   rw [ALs]
   have h1:=X0 (Kj (Bt t).toNat) a (Bf a)
   have h2:=X0 ((Bt t).toNat+1) b (Bf b)
   have h3:=hk a (by simp [Jm,Expr.kids])
   have h4:=hk b (by simp [Jm,Expr.kids])
   have h5:=lq ht
   simp only [Jm,Expr.kids,Bp,B6,Aw]
   omega
  | call t k ha =>
   rw [AHe]
   have h1:=Zg ha
   have h2:=ADl (k:=k) hk
   rw [←Rw] at h2
   simp only [Expr.kids,B6,Aw,Gl,Bc]
   omega
theorem lr {e:Expr} (hr:Ax e=true) (hg:Bq Cw e=true):(Bf e).length≤132000:=by
 have h1:=Ik hr
 have h2:sizeE e≤300:=by
  unfold Ax at hr
  simp only [Ah,decide_eq_true_eq] at hr
  exact hr.1.2
 have:=d7 _ e (Ao _) h1 hg
 omega
/-! One step of peel keeps what the trees come to. -/
variable {c c':List Col} {l l':List Val}
/-! Steps over nodes of two kids, one of them a constant. -/
variable {c c':List Col} {l l':List Val}
/-! Texts put together, and a step of whatever kind. -/
variable {c c':List Col} {l l':List Val}
variable {c c':List Col} {l l':List Val}
theorem gz {x:Expr} {s:Sd} (h:Gf x=some s):s.e∈x.kids:=by
 rcases Vz h with e|⟨e,_⟩|⟨e,_⟩<;>rw [e]<;>simp
/-- invert.Of. -/
def ofI (x:Expr) (a b:Str):Option Expr:=
 if ((!Ar x) || !Hg a) || !Hg b then none
 else if ((Gg (sizeE x) x (Bh b)).1.op==2)&&((Gg (sizeE x) x (Bh b)).1.text==a) then some (Gg (sizeE x) x (Bh b)).2 else none
theorem Zh {x y:Expr} {p:Expr×Expr} (h:Hu x y=some p):Ar p.2=true:=by
 unfold Hu at h
 split at h
 ·cases h
 split at h
 ·cases h
 split at h
 ·rename_i hr;injection h with h;subst h;exact hr
 cases h
theorem Zi:∀(n:Nat) (x y:Expr),Ar y=true→Ar (Gg n x y).2=true
 | 0,_,_,h=>h
 | n+1,x,y,h=>by
  rw [Gg]
  split
  ·exact h
  split
  ·exact h
  rename_i p hp;exact Zi n p.1 p.2 (Zh hp)
/-! The tree back as the reference says it: the same. -/
theorem ADm {x:Expr} (hr:Ax x=true) (hg:Bq Cw x=true) (ho:((B4 x).op==1)=true):B4 x=Ei (B4 x).val:=by
 have hn:=Ik (Zd hr hg [] [] (fun v h=>by cases h)).1
 rw [Cb,Ah] at hn
 have h1:=hn.1
 rw [Hj] at h1
 cases e:B4 x with
 | mk o t v k =>
  rw [e] at h1 ho
  have ho:o=1:=by simpa [Expr.op] using ho
  subst ho
  rw [Gt] at h1
  simp at h1
  obtain ⟨⟨h2,h3⟩,h4⟩:=h1
  simp_all [Ei,Expr.val]
theorem Lj {x y:Expr} (h:Ax x=true) (hy:y∈x.kids):Ax y=true:=by
 unfold Ax at h ⊢
 simp only [Ah,decide_eq_true_eq] at h ⊢
 have h1:=Pb hy
 have h2:=Qc hy
 have h3:=h.2
 rw [Cb,Ah] at h3
 have e1:=In x
 have e2:=Ds x
 exact ⟨⟨by omega,by omega⟩,(Bd _ _).1 h3.2 y hy⟩
def sdR (x:Expr):Nat:=if ((Cm (x.kids.getD 0 A6)).length==0) then x.kids.length-1 else 0
def eR (x:Expr):Expr:=x.kids.getD (sdR x) A6
def oR (x:Expr):Expr:=x.kids.getD (1-sdR x) A6
def cR (x:Expr):Expr:=if x.kids.length=2 then B4 (oR x) else A6
def qd (c:Expr) (k:Int):Bool:=(c.op==1)&&(c.val.kind==k)
def Lk (x y:Expr):Option Expr:=
 if (x.op==3) || (x.op==4) then some (.mk x.op [] noV [y])
 else if (x.op==6)&&(x.text==lm) then some (Eo qb [y])
 else if ((x.op==5)&&(x.text==[43]))&&qd (cR x) 1 then some (H5 y [45] (cR x))
 else if (((x.op==5)&&(x.text==[45]))&&qd (cR x) 1)&&(((sdR x:Nat):Int)==0) then some (H5 y [43] (cR x))
 else if ((x.op==5)&&(x.text==[45]))&&qd (cR x) 1 then some (H5 (cR x) [45] y)
 else if ((x.op==5)&&(x.text==[38]))&&qd (cR x) 2 then some (Eo (if ((sdR x:Nat):Int)=1 then Rv else Zf) [y,H5 (Eo Wk [y]) [45] (Ei ⟨1,((cR x).val.s.length:Int),[]⟩)])
 else none
/-- ref34.back. -/
def I3:Nat→Expr→Str→Expr→Expr×Bool
 | 0,_,_,_=>(A6,false)
 | n+1,x,a,y =>
  if !Ax y then (A6,false)
  else if x.op==2 then (y,x.text==a)
  else if decide (x.kids.length<1) || decide (2<x.kids.length) then (A6,false)
  else if (x.kids.length==2)&&decide (0<(Cm (oR x)).length) then (A6,false)
  else if (Cm (eR x)).length==0 then (A6,false)
  else match Lk x y with
   | none=>(A6,false)
   | some z=>I3 n (eR x) a z
theorem d8 {x y:Expr} {s:Sd} (h2:x.kids.length=2) (hc:s.c=oR x) (hf:sdR x=if s.first then 1 else 0) (hr:Ax s.c=true) (hg:Bq Cw s.c=true):Li x s y=Lk x y:=by
 have hv:=ADm hr hg
 have e:cR x=B4 s.c:=by unfold cR;rw [if_pos h2,hc]
 rw [←C4] at hr
 unfold Li Lk ADj ln Nw qd
 rw [e,hr,hf]
 cases h1:(B4 s.c).op==1 with
 | false=>simp
 | true =>
  have hv:=hv h1
  generalize B4 s.c=c at *
  by_cases k1:c.val.kind=1<;>by_cases k2:c.val.kind=2<;>cases hb:s.first<;>simp [k1,k2]<;>grind
theorem ADn {x y:Expr} {s:Sd} (h5:x.op≠5):Li x s y=Lk x y:=by
 unfold Li Lk
 have:(x.op==5)=false:=by simpa using h5
 simp [this]
theorem y8 {n:Nat} {x y:Expr} {a:Str} (hx:Ax x=true) (hg:Bq Cw x=true) (hy:Ax y=true) (h2:x.op≠2):
  I3 (n+1) x a y=match Gf x with
   | none=>(A6,false)
   | some s=>match Li x s y with
    | none=>(A6,false)
    | some z=>I3 n s.e a z:=by
 have hn:=Ik hx
 rw [Cb,Ah] at hn
 have hl:=Jo hn.1
 have hk:=fun p hp=>Lj (y:=p) hx hp
 rw [Cb,Ah] at hg
 have hgk:=(Bd _ _).1 hg.2
 rw [I3,if_neg (by rw [hy];simp),if_neg (by simpa using h2)]
 rcases e:x.kids with _|⟨p,_|⟨q,_|⟨r,k⟩⟩⟩
 ·have ha:Gf x=none:=by unfold Gf;rw [e]
  rw [ha];simp
 ·have h5:x.op≠5:=fun h=>by have:=hl.1 h;rw [e] at this;simp at this
  have hA:sdR x=0:=by unfold sdR;rw [e];simp
  have hE:eR x=p:=by unfold eR;rw [hA,e];rfl
  rw [if_neg (by simp),if_neg (by simp),hE]
  have ha:Gf x=if Ge p then some ⟨p,A6,false⟩ else none:=by unfold Gf;rw [e]
  rw [ha]
  by_cases hp:(Cm p).length=0
  ·have:Ge p=false:=by unfold Ge;simp [hp]
   rw [if_pos (by simpa using hp),this];rfl
  have:Ge p=true:=by unfold Ge;simp;omega
  rw [if_neg (by simpa using hp),this,if_pos rfl]
  simp only
  rw [ADn h5]
 ·have hL:x.kids.length=2:=by rw [e];rfl
  have ha:Gf x=if Ge p==Ge q then none else if Ge p then some ⟨p,q,false⟩ else some ⟨q,p,true⟩:=by unfold Gf;rw [e]
  rw [if_neg (by simp)]
  by_cases hp:(Cm p).length=0
  ·have hP:Ge p=false:=by unfold Ge;simp [hp]
   have hA:sdR x=1:=by unfold sdR;rw [e];simp [hp]
   have hE:eR x=q:=by unfold eR;rw [hA,e];rfl
   have hO:oR x=p:=by unfold oR;rw [hA,e];rfl
   rw [hO,if_neg (by simp [hp]),hE,ha,hP]
   by_cases hq:(Cm q).length=0
   ·have hQ:Ge q=false:=by unfold Ge;simp [hq]
    rw [if_pos (by simpa using hq),hQ];rfl
   have hQ:Ge q=true:=by unfold Ge;simp;omega
   rw [if_neg (by simpa using hq),hQ]
   show (match Lk x y with|none=>(A6,false)|some z=>I3 n q a z)=(match Li x ⟨q,p,true⟩ y with|none=>(A6,false)|some z=>I3 n q a z)
   rw [d8 (s:=⟨q,p,true⟩) hL hO.symm hA (hk p (by rw [e];simp)) (hgk p (by rw [e];simp))]
  have hP:Ge p=true:=by unfold Ge;simp;omega
  have hA:sdR x=0:=by unfold sdR;rw [e];simp [hp]
  have hE:eR x=p:=by unfold eR;rw [hA,e];rfl
  have hO:oR x=q:=by unfold oR;rw [hA,e];rfl
  rw [hO,ha,hP]
  by_cases hq:(Cm q).length=0
  ·have hQ:Ge q=false:=by unfold Ge;simp [hq]
   rw [if_neg (by simp [hq]),hE,if_neg (by simpa using hp),hQ]
   show (match Lk x y with|none=>(A6,false)|some z=>I3 n p a z)=(match Li x ⟨p,q,false⟩ y with|none=>(A6,false)|some z=>I3 n p a z)
   rw [d8 (s:=⟨p,q,false⟩) hL hO.symm hA (hk q (by rw [e];simp)) (hgk q (by rw [e];simp))]
  have hQ:Ge q=true:=by unfold Ge;simp;omega
  rw [if_pos (by simp;omega),hQ];rfl
 have ha:Gf x=none:=by unfold Gf;rw [e]
 rw [ha,if_pos (by simp)]
theorem AHf {a:Str}:∀(n:Nat) (x y:Expr),sizeE x≤n→Ax x=true→Bq Cw x=true→Ax y=true →
  (I3 n x a y).2=(((Gg n x y).1.op==2)&&((Gg n x y).1.text==a))∧((I3 n x a y).2=true→(I3 n x a y).1=(Gg n x y).2):=by
 intro n
 induction n with
 | zero=>intro x y h;rw [Ds] at h;omega
 | succ n ih =>
  intro x y hs hx hg hy
  by_cases h2:x.op=2
  ·have e1:I3 (n+1) x a y=(y,x.text==a):=by rw [I3,if_neg (by rw [hy];simp),if_pos (by simpa using h2)]
   have e2:Gg (n+1) x y=(x,y):=by rw [Gg,if_pos (by simpa using h2)]
   rw [e1,e2]
   simp [h2]
  rw [y8 hx hg hy h2,Gg,if_neg (by simpa using h2)]
  have hf:(x.op==2)=false:=by simpa using h2
  unfold Hu
  cases ha:Gf x with
  | none=>simp [hf]
  | some s =>
   simp only
   cases hu:Li x s y with
   | none=>simp [hf]
   | some z =>
    simp only
    have hk:=gz ha
    have hsz:=cr hs hk
    by_cases hz:Ar z=true
    ·rw [if_pos hz]
     rw [C4] at hz
     rw [Cb,Ah] at hg
     exact ih s.e z hsz (Lj hx hk) ((Bd _ _).1 hg.2 _ hk) hz
    rw [if_neg hz]
    rw [C4] at hz
    cases n with
    | zero=>rw [Ds] at hsz;omega
    | succ n =>
     have:I3 (n+1) s.e a z=(A6,false):=by rw [I3,if_pos (by simpa using hz)]
     rw [this]
     simp [hf]
/-- ref34.Of is invert.Of. -/
theorem AHg {x:Expr} {a b:Str} (hg:Bq Cw x=true) (h:(((!Ax x) || !Hg a) || !Hg b)=false):ofI x a b=if (I3 (sizeE x) x a (Bh b)).2 then some (I3 (sizeE x) x a (Bh b)).1 else none:=by
 have h0:(Ax x=true∧Hg a=true)∧Hg b=true:=by simpa using h
 have hb:Ax (Bh b)=true:=by rw [←C4,Nq];exact h0.2
 obtain ⟨h1,h2⟩:=AHf (a:=a) (sizeE x) x (Bh b) (Ao _) h0.1.1 hg hb
 unfold ofI
 rw [if_neg (by rw [C4,h];simp),←h1]
 split
 ·rename_i h3;rw [h2 h3]
 rfl
set_option maxRecDepth 4000
theorem ATs (n:Nat) (e:Expr) (hok:okE n e) (hn:n≤1048576) (hs:sizeE e≤1048576) (Hp:List AObj):AFun Tryz.prog 169 [Ab e] Hp (En (Cm e)):=by
 refine Aj [.tmp 2] [0,5] Tryz.func169 Tryz.ntmps169 (fun d=>?_)
 refine Z1 ?_;refine A2 [1,5] ?_;refine Z34 ?_;refine A2 [1,3,5] ?_;refine Z89 ?_;refine Rc 0 0 1 ?_
 refine L8 (fun hlow=>?_)
 refine AFr ?_;refine A2 [3,5,7] ?_;refine J6 ?_
 refine Nh (m:=1) Tryz.call123 (fun FR as' bd' hFR has hbd=>?_)
 have hFRl:∀s,Low (Hp.length+3) (FR s):=by
  intro s
  rw [hFR]
  refine Og ?_
  revert s
  repeat (first|exact By|refine Bx (by simp [oid,Ag]<;>try omega) ?_)
 have hOl:∀{k:Nat},∀x∈[AObj.cells 45 [.slice true 1 ((Gs (Bg 1 e) k).map Ac)],AObj.defs,AObj.loop LoopState.ready none FR 26 #[8,9] as' bd' (oid Hp.length 1)],ObjLow (Hp.length+3) x:=by
  intro k x hx
  simp only [C0,Fb,or_false] at hx
  rcases hx with rfl|rfl|rfl
  ·intro y hy
   rw [Br.1 hy]
   first|exact Kx|simp
  ·trivial
  exact o5
 refine ⟨fun _ H'=>Lf (fun _=>true) (fun k=>Hp++[AObj.cells 45 [.slice true 1 ((Gs (Bg 1 e) k).map Ac)],AObj.defs,AObj.loop LoopState.ready none FR 26 #[8,9] as' bd' (oid Hp.length 1)]) (fun k=>Hp++[AObj.cells 45 [.slice true 1 ((Gs (Bg 1 e) k).map Ac)],AObj.defs,AObj.loop LoopState.ready none FR 26 #[8,9] as' bd' (oid Hp.length 1)]) (Bg 1 e).length H',AGj (l:=oid Hp.length 2) (go:=fun _=>true) (U:=fun k=>Hp++[AObj.cells 45 [.slice true 1 ((Gs (Bg 1 e) k).map Ac)],AObj.defs,AObj.loop LoopState.ready none FR 26 #[8,9] as' bd' (oid Hp.length 1)]) (F:=fun k=>Hp++[AObj.cells 45 [.slice true 1 ((Gs (Bg 1 e) k).map Ac)],AObj.defs,AObj.loop LoopState.ready none FR 26 #[8,9] as' bd' (oid Hp.length 1)]) (n0:=Hp.length+3) ⟨fun k=>by simp,fun k=>by simp,fun k x hx=>?_,fun k x hx=>?_,by simp [oid],fun X k it hit hgo=>?_⟩ n hok hn,?_⟩
 ·exact o6
 ·exact o6
 ·have hklt:k<sizeE e:=by rw [←Gq 1 e];exact (Ak.1 hit).1
  generalize hV:(Hp++[AObj.cells 45 [.slice true 1 ((Gs (Bg 1 e) k).map Ac)],AObj.defs,AObj.loop LoopState.ready none FR 26 #[8,9] as' bd' (oid Hp.length 1)]++X)=V
  have hL:V[oid Hp.length 2]? = some (AObj.loop LoopState.ready none FR 26 #[8,9] as' bd' (oid Hp.length 1)):=by rw [←hV,C1,Bv];rfl
  have hA0:V[oid Hp.length 0]? = some (AObj.cells 45 [.slice true 1 ((Gs (Bg 1 e) k).map Ac)]):=by rw [←hV,C1,Bv];rfl
  refine Na (pd:=none) (fr:=FR) (sz:=26) (ps:=#[8,9]) (df:=oid Hp.length 1) (asg:=as') (bd:=bd') hL rfl (by decide) (fun d=>?_)
  subst hFR has hbd
  refine Di [3,8,9] ?_;refine ABm ?_;refine A2 [3,5] ?_
  refine ⟨rfl,none,hL,?_⟩
  generalize hbz:(AObj.loop LoopState.busy _ _ _ _ _ _ _)=bz
  have hA:(V.set (oid Hp.length 2) bz)[oid Hp.length 0]? = some (AObj.cells 45 [.slice true 1 ((Gs (Bg 1 e) k).map Ac)]):=by rw [F8 (E8 (by decide))];exact hA0
  refine J6 ?_;refine Z21 ?_
  refine Bl (h:=Fi hA) (hr:=?_)
  refine Z5 ?_
  refine Bk Tryz.call96 (fun hB=>c96 (Gs (Bg 1 e) k) it.2.text (by have:=Rp (Bg 1 e) k;omega) _) ?_
  refine Z92 ?_;refine A2 [3,5,19] ?_
  refine A3 (fun ht19=>?_) (fun ht19=>?_)
  ·have hno:=cq hit
   have hadd:G7 (Gs (Bg 1 e) k) it.2=Gs (Bg 1 e) k++[it.2.text]:=if_pos ht19
   refine Kd ?_;refine R.loadUpT jA hA ?_;refine Z0 ?_;refine Sq ?_
   refine Gz jU Tryz.type9 ?_ ?_ ?_
   ·have:=Rp (Bg 1 e) k;simp [Tryz.t9];omega
   ·have:=Rp (Bg 1 e) k;simp [Tryz.t9];omega
   refine eu jS (Ay hA) ?_ ?_
   ·exact Q7
   refine fe ?_
   subst hbz
   refine APj ?_
   refine ⟨rfl,?_⟩
   rw [if_pos rfl]
   subst hV
   simp only [C1,Fu,Ef,Dx,List.set_cons_succ,List.set_cons_zero]
   rw [hno,hadd]
   try simp only [Cs,Ci,Fs]
   try rfl
  have hno:=cq hit
  have hadd:G7 (Gs (Bg 1 e) k) it.2=Gs (Bg 1 e) k:=if_neg (by rw [ht19];simp)
  refine ABl ?_
  subst hbz
  refine APj ?_
  refine ⟨rfl,?_⟩
  rw [if_pos rfl]
  subst hV
  simp only [C1,Fu,Ef,Dx,List.set_cons_succ,List.set_cons_zero]
  rw [hno,hadd]
  try simp only [Cs,Ci,Fs]
  try rfl
 intro r H' hq
 obtain rfl:=gm hq
 refine ⟨Hp,_,_,_,rfl,rfl,fun h=>h,?_,rfl,by simp,?_⟩
 ·intro o ho
  have:o=oid Hp.length 1:=by simpa using ho
  subst this
  rw [Bv]
  rfl
 refine Z12 ?_;refine fk ?_;exact A8 (Ai A7) ⟨by rw [kc,Gs,Pr],rfl⟩

theorem y9 {e:Expr} (h:Ch e=true):e.text.length≤1048576∧e.kids.length≤1048576:=by
 cases Ij h with
 | val v hp h0=>exact ⟨by simp [Ei,Expr.text],by simp [Ei,Expr.kids]⟩
 | name t ht =>
  refine ⟨?_,by simp [Bh,Expr.kids]⟩
  show t.length≤1048576
  cases t with
  | nil=>simp
  | cons c r =>
   simp only [Hg,Ah,decide_eq_true_eq] at ht
   have:=ht.1.1.1
   omega
 | neg a=>exact ⟨by simp [Gw,Expr.text],by simp [Gw,Expr.kids]⟩
 | no a=>exact ⟨by simp [Gw,Expr.text],by simp [Gw,Expr.kids]⟩
 | bin t a b ht =>
  refine ⟨?_,by simp [Jm,Expr.kids]⟩
  show t.length≤1048576
  rcases M1 t with hm|⟨hm,_⟩
  ·have h3:(levels.flatten.all fun s=>decide (s.length≤3))=true:=by kernel_rfl
   have:=of_decide_eq_true (Bj.1 h3 t hm)
   omega
  omega
 | call t k ha =>
  rcases Eb ha with ⟨e1,e⟩|⟨e1,e⟩|⟨e1,e⟩|⟨e1,e⟩|⟨e1,e⟩|⟨e1,e⟩|⟨e1,e⟩|⟨e1,e⟩<;>subst e1<;>exact ⟨by simp [Expr.text,Co,Gu,ifW],by show k.length≤_;omega⟩
theorem qe:∀{l:List Expr} {y:Expr},y∈l→depthE y≤De l:=Pb
theorem Zj:∀(n:Nat) (e:Expr),depthE e≤n→Bq Ch e=true→okE n e
 | 0,e,h,_=>by rw [In] at h;omega
 | n+1,e,h,hn=>by
  rw [Cb,Ah] at hn
  rw [In] at h
  have hs:=y9 hn.1
  exact ⟨hs.1,hs.2,fun y hy=>Zj n y (by have:=qe hy;omega) ((Bd _ _).1 hn.2 y hy)⟩
theorem Dy {ks:List Expr} {i:Nat} (h:i<ks.length):(ks.map Ab)[i]? = some (Ab (ks.getD i A6)):=by
 rw [Cp,Ae h,Cz,Ae h]
 rfl
/-! trim: what is no value. -/
def noC (k:Expr):Bool := !(k.op==1)
def Zk (ks:List Expr):Int:=if ks.any noC then (ks.findIdx noC:Nat) else -1
theorem AHh {ks:List Expr} {x:Nat} (h:x<ks.length) (hx:noC ks[x]=true) (hp:∀(j:Nat) (y:Expr),j<x→ks[j]? = some y→¬noC y=true):Zk ks=(x:Int):=by
 unfold Zk
 rw [if_pos (M5.2 ⟨_,Bb h,hx⟩)]
 congr 1
 rw [List.findIdx_eq h]
 exact ⟨hx,fun j hj=>by have:=hp j ks[j] hj (Ae (by omega));simpa using this⟩
theorem yb {ks:List Expr} (hp:∀(j:Nat) (y:Expr),ks[j]? = some y→¬noC y=true):Zk ks = -1:=by
 unfold Zk
 rw [if_neg]
 intro h
 obtain ⟨y,hy,hn⟩:=M5.1 h
 obtain ⟨j,hj⟩:=Cr hy
 exact hp j y hj hn
theorem ADo (ks:List Expr):decide (0≤Zk ks)=ks.any noC:=by
 unfold Zk
 cases ks.any noC<;>simp
theorem qf (v:Val) (k n:Int) (s:Str):(v.kind==k&&v.n==n&&v.s==s)=(v==⟨k,n,s⟩):=by
 obtain ⟨a,b,c⟩:=v
 rw [K9]
 simp [Val.mk.injEq,and_assoc]
theorem ls {n:Nat} {x:Expr} (h:okE n x):x.kids.length≤1048576:=by
 cases n with
 | zero=>exact h.elim
 | succ n=>exact h.2.1
theorem ALt (x:Expr) (Hp:List AObj):AFun Tryz.prog 268 [Ab x] Hp (At (x.op==1)):=by
 refine Aj [.tmp 2] [0] Tryz.func268 Tryz.ntmps268 (fun d=>?_)
 refine Z81 ?_;refine Z21 ?_;exact AFq

theorem ATt (v:Val) (Hp:List AObj):AFun Tryz.prog 339 [Ca v] Hp (Ab (Ei v)):=by
 refine Aj [.cell 2 26] [0] Tryz.func339 Tryz.ntmps339 (fun d=>?_)
 refine Z2 ?_;refine ABb ?_;refine AFh ?_;refine D7 4 _ (K6 1 [] v) ?_;exact ANj

theorem ATu (k:Expr) (Hp:List AObj):AFun Tryz.prog 338 [Ab k] Hp (At (noC k)):=by
 refine Aj [.tmp 2] [0] Tryz.func338 Tryz.ntmps338 (fun d=>?_)
 refine jl ?_;refine A9 Tryz.call268 (ALt k _) ?_;exact j4

theorem ATv (ks:List Expr) (hkl:ks.length≤1048576) (Hp:List AObj):AFun Tryz.prog 251 [.slice false 6 (ks.map Ab),.fn (.func 338) [] []] Hp (A5 (Zk ks)):=by
 refine Aj [.tmp 4] [0,1] Tryz.func251 Tryz.ntmps251 (fun d=>?_)
 refine wh ?_
 refine B9 (α:=Nat) (fun x=>⟨19,Aa 0 (.slice false 6 (ks.map Ab)) (Aa 1 (.fn (.func 338) [] []) (Aa 7 (A5 ks.length) (Aa 8 (A5 (x:Nat)) (fun _=>.any)))),Hp,[],[],none⟩) (fun x=>x≤ks.length∧∀(j:Nat) (y:Expr),j<x→ks[j]? = some y→¬noC y=true) (fun x=>ks.length-x) (0) (by simp) (Az (by simp)) rfl (fun x hx=>?_)
 refine vh ?_
 refine Ev (fun ht9=>?_) (fun ht9=>?_)
 ·have hlt:x<ks.length:=by simpa using ht9
  refine wg ?_
  refine A4 (h:=Ad (x) (Ab ks[x]) (fun _=>B3 hlt)) (hr:=?_)
  refine A4 ?_;refine U3 Tryz.call338 (ATu ks[x] _) ?_;refine wm ?_
  refine A3 (fun ht16=>?_) (fun ht16=>?_)
  ·refine Z1 ?_;refine nv ?_;exact A8 (Ai A7) ⟨by rw [AHh hlt ht16 hx.2],rfl⟩
  refine Ni ?_;refine A2 [0,1,7,8] ?_;exact B2 (x+1) ⟨hlt,D3 hlt hx.2 (by rw [ht16];simp)⟩ (by omega) (Bz rfl)
 refine So ?_;refine Z33 ?_;exact A8 (Ai A7) ⟨by rw [yb (Ld (by simp at ht9;omega) hx.2)],rfl⟩

theorem ATw (ks:List Expr) (hkl:ks.length≤1048576) (Hp:List AObj):AFun Tryz.prog 197 [.slice false 6 (ks.map Ab),.fn (.func 338) [] []] Hp (At (ks.any noC)):=by
 refine Aj [.tmp 4] [0,1] Tryz.func197 Tryz.ntmps197 (fun d=>?_)
 refine Z60 ?_;refine Z1 ?_;refine A9 Tryz.call251 (ATv ks hkl _) ?_;refine Z0 ?_;refine Z33 ?_;exact A8 (Ai A7) ⟨by rw [←ADo];try rfl,rfl⟩

theorem ALu {n:Nat} {x:Expr} (hok:okE n x) (hn:n≤1048576) (hrg:Bq Cw x=true) (Hp:List AObj):AFun Tryz.prog 15 [Ab x,.nil,.nil] Hp (Nt (Fe x [] [])):=by
 have:=c15 n x hok hn hrg [] ⟨by decide,by decide⟩ [] (by decide) (fun v hv=>by cases hv) Hp
 refine ACall.argLeE this rfl fun i y y' h1 h2=>?_
 match i with
 | 0=>simp at h1 h2;subst h1;subst h2;exact .refl _
 | 1=>simp at h1 h2;subst h1;subst h2;exact .nil false 2
 | 2=>simp at h1 h2;subst h1;subst h2;exact .nil false 3
 | i+3=>simp at h1
def Zl (o:Option Expr):AV:=.tup [Ab (o.getD A6),At o.isSome]
theorem ALv {x:Expr} (h:x.kids.any noC=true):G6 x=none:=if_pos h
theorem ALw {x:Expr} (h:x.kids.any noC=false) (h2:(((Fe x [] []).2 != 0) || (((Fe x [] []).1.kind==1)&&decide ((Fe x [] []).1.n<0)))=true):G6 x=none:=by
 unfold G6
 rw [if_neg (fun e=>by rw [show (x.kids.any fun k => !(k.op==1))=x.kids.any noC from rfl,h] at e;cases e),if_pos h2]
theorem ALx {x:Expr} (h:x.kids.any noC=false) (h2:(((Fe x [] []).2 != 0) || (((Fe x [] []).1.kind==1)&&decide ((Fe x [] []).1.n<0)))=false):G6 x=some (Ei (Fe x [] []).1):=by
 unfold G6
 rw [if_neg (fun e=>by rw [show (x.kids.any fun k => !(k.op==1))=x.kids.any noC from rfl,h] at e;cases e),if_neg (by rw [h2];simp)]
theorem ATx (n:Nat) (x:Expr) (hok:okE n x) (hn:n≤1048576) (hrg:Bq Cw x=true) (Hp:List AObj):AFun Tryz.prog 326 [Ab x] Hp (Zl (G6 x)):=by
 have hkl:=(ls hok)
 refine Aj [.cell 2 26,.tmp 3] [0] Tryz.func326 Tryz.ntmps326 (fun d=>?_)
 refine vk ?_;refine Z8 ?_;refine A9 Tryz.call197 (ATw x.kids hkl _) ?_;refine A2 [1,2,8] ?_
 refine A3 (fun ht8=>?_) (fun ht8=>?_)
 ·refine Z19 ?_;refine D7 9 _ Du ?_;refine Z47 ?_;refine Z10 ?_;exact A8 (As (Ap jA jS) A7) ⟨by rw [ALv ht8];simp only [Zl,Option.getD_some,Option.getD_none,Af];try rfl,rfl⟩ (hlow:=by simp [Ag])
 refine Z58 ?_;refine A9 Tryz.call15 (ALu hok hn hrg _) ?_;refine Z94 ?_;refine A2 [2,4,5] ?_;refine Z31 ?_;refine ap ?_;refine A4 ?_;refine A2 [2,4,26] ?_
 refine A3 (fun ht26=>?_) (fun ht26=>?_)
 ·refine Z19 ?_;refine D7 27 _ Du ?_;refine Z47 ?_;refine Z10 ?_;exact A8 (As (Ap jA jS) A7) ⟨by rw [ALw ht8 ht26];simp only [Zl,Option.getD_some,Option.getD_none,Af];try rfl,rfl⟩ (hlow:=by simp [Ag])
 refine Z58 ?_;refine A9 Tryz.call339 (ATt (Fe x [] []).1 _) ?_;refine jd ?_;exact A8 (As (Ap jA jS) A7) ⟨by rw [ALx ht8 ht26];simp only [Zl,Option.getD_some,Option.getD_none,Af];try rfl,rfl⟩ (hlow:=by simp [Ag])

section
variable {o:Int} {t:Str} {ks:List Expr}
theorem ATy (h:((((o==6)&&(t==ifW))&&((ks.getD 0 A6).val==Bs true)))=true):Ct o t ks=some (ks.getD 1 A6):=if_pos h
theorem ATz (h1:((((o==6)&&(t==ifW))&&((ks.getD 0 A6).val==Bs true)))=false) (h:(((o==6)&&(t==ifW))&&(((ks.getD 0 A6).val==Bs false) || ((ks.getD 0 A6).val==noV)))=true):Ct o t ks=some (ks.getD 2 A6):=by
 unfold Ct
 rw [if_neg (by rw [h1];simp),if_pos h]
theorem AU0 (h1:((((o==6)&&(t==ifW))&&((ks.getD 0 A6).val==Bs true)))=false) (h2:(((o==6)&&(t==ifW))&&(((ks.getD 0 A6).val==Bs false) || ((ks.getD 0 A6).val==noV)))=false) (h:(((o==6)&&(t==Gu))&&((ks.getD 0 A6).val==noV))=true):Ct o t ks=some (ks.getD 1 A6):=by
 unfold Ct
 rw [if_neg (by rw [h1];simp),if_neg (by rw [h2];simp),if_pos h]
theorem AU1 (h1:((((o==6)&&(t==ifW))&&((ks.getD 0 A6).val==Bs true)))=false) (h2:(((o==6)&&(t==ifW))&&(((ks.getD 0 A6).val==Bs false) || ((ks.getD 0 A6).val==noV)))=false) (h3:(((o==6)&&(t==Gu))&&((ks.getD 0 A6).val==noV))=false) (h:((o==6)&&(t==Gu))=true):Ct o t ks=some (ks.getD 0 A6):=by
 unfold Ct
 rw [if_neg (by rw [h1];simp),if_neg (by rw [h2];simp),if_neg (by rw [h3];simp),if_pos h]
theorem AU2 (h1:((((o==6)&&(t==ifW))&&((ks.getD 0 A6).val==Bs true)))=false) (h2:(((o==6)&&(t==ifW))&&(((ks.getD 0 A6).val==Bs false) || ((ks.getD 0 A6).val==noV)))=false) (h3:(((o==6)&&(t==Gu))&&((ks.getD 0 A6).val==noV))=false) (h4:((o==6)&&(t==Gu))=false) (h:((o==5)&&(((t==orW)&&((ks.getD 0 A6).val==Bs true)) || ((t==O9)&&((ks.getD 0 A6).val==Bs false))))=true):Ct o t ks=some (ks.getD 0 A6):=by
 unfold Ct
 rw [if_neg (by rw [h1];simp),if_neg (by rw [h2];simp),if_neg (by rw [h3];simp),if_neg (by rw [h4];simp),if_pos h]
theorem AU3 (h1:((((o==6)&&(t==ifW))&&((ks.getD 0 A6).val==Bs true)))=false) (h2:(((o==6)&&(t==ifW))&&(((ks.getD 0 A6).val==Bs false) || ((ks.getD 0 A6).val==noV)))=false) (h3:(((o==6)&&(t==Gu))&&((ks.getD 0 A6).val==noV))=false) (h4:((o==6)&&(t==Gu))=false) (h:((o==5)&&(((t==orW)&&((ks.getD 0 A6).val==Bs true)) || ((t==O9)&&((ks.getD 0 A6).val==Bs false))))=false):Ct o t ks=none:=by
 unfold Ct
 rw [if_neg (by rw [h1];simp),if_neg (by rw [h2];simp),if_neg (by rw [h3];simp),if_neg (by rw [h4];simp),if_neg (by rw [h];simp)]
end
theorem Zm {a b c:Bool} (h:((a&&b)&&c)=true):(a&&b)=true:=by cases a<;>cases b<;>simp_all
theorem AU4 (x:Expr) (h0:0<x.kids.length) (h3:((x.op==6)&&(x.text==ifW))=true→x.kids.length=3) (h2:((x.op==6)&&(x.text==Gu))=true→x.kids.length=2) (Hp:List AObj):AFun Tryz.prog 325 [Ab x] Hp (Zl (Ct x.op x.text x.kids)):=by
 refine Aj [.cell 2 26,.tmp 3] [0] Tryz.func325 Tryz.ntmps325 (fun d=>?_)
 refine vk ?_;refine Z1 ?_
 refine A4 (h:=Ad (0) (Ab (x.kids.getD 0 A6)) (fun _=>Dy h0)) (hr:=?_)
 refine Z0 ?_;refine Z17 ?_;refine A2 [1,2,4] ?_;refine AFl ?_;refine Cd Tryz.call88 (c88 true _) ?_;refine Dq ?_
 refine A4 (h:=M8 Ud (fun w=>Ho (x.kids.getD 0 A6).val.kind (x.kids.getD 0 A6).val.n 3 1 (x.kids.getD 0 A6).val.s [] w)) (hr:=?_)
 refine A4 ?_;refine A2 [1,2,4,5] ?_;refine AFl ?_;refine Cd Tryz.call88 (c88 false _) ?_;refine Dq ?_
 refine A4 (h:=M8 Ud (fun w=>Ho (x.kids.getD 0 A6).val.kind (x.kids.getD 0 A6).val.n 3 0 (x.kids.getD 0 A6).val.s [] w)) (hr:=?_)
 refine A4 ?_;refine A2 [1,2,4,5,6] ?_;refine AFl ?_;refine Cd Tryz.call86 (c86 _) ?_;refine Dq ?_
 refine A4 (h:=M8 Ud (fun w=>Ho (x.kids.getD 0 A6).val.kind (x.kids.getD 0 A6).val.n 0 0 (x.kids.getD 0 A6).val.s [] w)) (hr:=?_)
 refine A4 ?_;refine A2 [1,2,5,6,7] ?_;refine Wc ?_
 rw [qf,qf,qf]
 refine Z72 ?_;refine Z67 ?_;refine U7 ?_;refine A2 [1,2,5,6,7,22] ?_
 refine A3 (fun ht22=>?_) (fun ht22=>?_)
 ·have hq1:(((x.op==6)&&(x.text==ifW))&&((x.kids.getD 0 A6).val==Bs true))=true:=ht22
  refine Z1 ?_
  refine A4 (h:=Ad (1) (Ab (x.kids.getD 1 A6)) (fun _=>Dy (by have:=h3 (Zm hq1);omega))) (hr:=?_)
  refine w6 ?_;exact A8 (As (Ap jA jS) A7) ⟨by rw [ATy hq1];simp only [Zl,Option.getD_some,Af];try rfl,rfl⟩ (hlow:=by simp [Ag])
 have hn1:(((x.op==6)&&(x.text==ifW))&&((x.kids.getD 0 A6).val==Bs true))=false:=ht22
 refine Z21 ?_;refine ff ?_;refine Z0 ?_;refine A2 [1,2,5,6,7,38] ?_
 refine A3 (fun ht38=>?_) (fun ht38=>?_)
 ·have hq2:(((x.op==6)&&(x.text==ifW))&&(((x.kids.getD 0 A6).val==Bs false) || ((x.kids.getD 0 A6).val==noV)))=true:=ht38
  refine Z1 ?_
  refine A4 (h:=Ad (2) (Ab (x.kids.getD 2 A6)) (fun _=>Dy (by have:=h3 (Zm hq2);omega))) (hr:=?_)
  refine w6 ?_;exact A8 (As (Ap jA jS) A7) ⟨by rw [ATz hn1 hq2];simp only [Zl,Option.getD_some,Af];try rfl,rfl⟩ (hlow:=by simp [Ag])
 have hn2:(((x.op==6)&&(x.text==ifW))&&(((x.kids.getD 0 A6).val==Bs false) || ((x.kids.getD 0 A6).val==noV)))=false:=ht38
 refine O7 ?_;refine U7 ?_;refine A2 [1,2,5,6,57] ?_
 refine A3 (fun ht57=>?_) (fun ht57=>?_)
 ·have hq3:(((x.op==6)&&(x.text==Gu))&&((x.kids.getD 0 A6).val==noV))=true:=ht57
  refine Z1 ?_
  refine A4 (h:=Ad (1) (Ab (x.kids.getD 1 A6)) (fun _=>Dy (by have:=h2 (Zm hq3);omega))) (hr:=?_)
  refine w6 ?_;exact A8 (As (Ap jA jS) A7) ⟨by rw [AU0 hn1 hn2 hq3];simp only [Zl,Option.getD_some,Af];try rfl,rfl⟩ (hlow:=by simp [Ag])
 have hn3:(((x.op==6)&&(x.text==Gu))&&((x.kids.getD 0 A6).val==noV))=false:=ht57
 refine O7 ?_;refine A2 [1,2,5,6,73] ?_
 refine A3 (fun ht73=>?_) (fun ht73=>?_)
 ·refine Z1 ?_
  refine A4 (h:=Ad (0) (Ab (x.kids.getD 0 A6)) (fun _=>Dy h0)) (hr:=?_)
  refine w6 ?_;exact A8 (As (Ap jA jS) A7) ⟨by rw [AU1 hn1 hn2 hn3 ht73];simp only [Zl,Option.getD_some,Af];try rfl,rfl⟩ (hlow:=by simp [Ag])
 refine Z21 ?_;refine ap ?_;refine Z70 ?_;refine Z5 ?_;refine Z0 ?_;refine A2 [1,2,86] ?_
 refine A3 (fun ht86=>?_) (fun ht86=>?_)
 ·refine Z1 ?_
  refine A4 (h:=Ad (0) (Ab (x.kids.getD 0 A6)) (fun _=>Dy h0)) (hr:=?_)
  refine w6 ?_;exact A8 (As (Ap jA jS) A7) ⟨by rw [AU2 hn1 hn2 hn3 ht73 ht86];simp only [Zl,Option.getD_some,Af];try rfl,rfl⟩ (hlow:=by simp [Ag])
 refine Z18 ?_;refine Z19 ?_;refine D7 110 _ Du ?_;refine jd ?_;exact A8 (As (Ap jA jS) A7) ⟨by rw [AU3 hn1 hn2 hn3 ht73 ht86];simp only [Zl,Option.getD_some,Option.getD_none,Af];try rfl,rfl⟩ (hlow:=by simp [Ag])

/-- Who takes what kids yield: item k at U k, never an end. -/
structure Takes1 (P:Program) (l:Nat) (L:List Expr) (U:Nat→List AObj) (n0:Nat):Prop where
 lenU:∀k,(U k).length=n0
 lowU:∀k,∀x∈U k,ObjLow n0 x
 lt:l<n0
 y:∀(X:List AObj) (k:Nat) (z:Expr),L[k]? = some z→AYield P l [Ab z] (U k++X) (fun b H'=>b=true∧H'=U (k+1)++X)
abbrev yo (own:Bool) (o:Int) (t:Str) (ks:List Expr):AObj:=.cells 26 [A5 o,Ac t,A5 0,A5 0,Ac [],.slice own 6 (ks.map Ab)]
theorem ADp {n:Nat} {own:Bool} {o:Int} {t:Str} {ks:List Expr}:ObjLow n (yo own o t ks):=by
 show ∀z∈[A5 o,Ac t,A5 0,A5 0,Ac [],AV.slice own 6 (ks.map Ab)],Low n z
 intro z hz
 simp only [C0,I6,or_false] at hz
 rcases hz with rfl|rfl|rfl|rfl|rfl|rfl
 all_goals first|exact D4|simp
theorem AJe (ks:List Expr) (x:Expr):ks.map Ab++[.agg [.v (.int .i64 x.op),.v (sv x.text),.v (.int .i64 x.val.kind),.v (.int .i64 x.val.n),.v (sv x.val.s),.slice false 6 (x.kids.map Ab)]]=(ks++[x]).map Ab:=by rw [Cs,Ci,Fs,Af x]
theorem AU5 (x:Expr) (Hp:List AObj):AFun Tryz.prog 324 [Ab x] Hp (.fn (.func 337) [] [.ro (B7 x)]):=by
 refine Aj [.tmp 2] [0] Tryz.func324 Tryz.ntmps324 (fun d=>?_)
 refine Z81 ?_;refine E9 ?_;refine vm ?_;refine Z4 ?_;exact A8 (Ai A7) (hlow:=by have:=Ag Hp.length x;rw [Af] at this;simpa using this)

theorem AU6 {l:Nat} {x:Expr} {U:Nat→List AObj} {n0:Nat} (T:Takes1 Tryz.prog l (x.kids.map B4) U n0) (hkl:x.kids.length≤1048576) (ih:∀y∈x.kids,∀Hp:List AObj,AFun Tryz.prog 300 [Ab y] Hp (Ab (B4 y))):ACall Tryz.prog 337 [.yield l,.ro (B7 x)] (U 0) (fun r H'=>H'=U x.kids.length):=by
 refine Aj [] [0,1] Tryz.func337 Tryz.ntmps337 (fun d=>?_)
 refine Z21 ?_;refine A2 [0,6,7,8] ?_
 refine B9 (α:=Nat) (fun k=>⟨18,Aa 0 (.yield l) (Aa 6 (.slice false 6 (x.kids.map Ab)) (Aa 7 (A5 x.kids.length) (Aa 8 (A5 (k:Nat)) (fun _=>.any)))),U k,[],[],none⟩) (fun k=>k≤x.kids.length) (fun k=>x.kids.length-k) (0) (Av _) (Az (by simp)) rfl (fun k hx=>?_)
 refine Z2 ?_;refine A2 [0,6,7,8,9] ?_
 refine Ev (fun ht9=>?_) (fun ht9=>?_)
 ·have hlt:k<x.kids.length:=by simpa using ht9
  refine Wc ?_
  refine A4 (h:=Ad (k) (Ab x.kids[k]) (fun _=>B3 hlt)) (hr:=?_)
  refine We ?_;refine A2 [0,4,6,7,8] ?_;refine Z1 ?_;refine A9 Tryz.call300 (ih x.kids[k] (Bb hlt) _) ?_
  refine R.yield (T.y _ k (B4 x.kids[k]) (by rw [Cp,Ae hlt];rfl)) ?_
  intro b Vv O hV hb
  obtain ⟨rfl,hH⟩:=hb
  obtain ⟨rfl,rfl⟩:=Ts hH (by rw [hV,T.lenU,T.lenU])
  refine ⟨fun _=>by rw [T.lenU];exact T.lowU _,fun o ho=>by simp at ho,?_⟩
  refine A4 ?_;refine A2 [0,6,7,8,16] ?_
  refine A3 (fun ht16=>?_) (fun ht16=>?_)
  ·cases ht16
  refine Ni ?_;refine A2 [0,6,7,8] ?_;refine B2 (k+1) hlt (by omega) ?_
  exact Dz (own:=[]) (fun _=>.refl _) (by repeat (first|exact By|refine Bx (by first|exact D4|(simp;done)|(have:=T.lt;simp [T.lenU];omega)) ?_)) (by simp) (by simp)
 have hke:k=x.kids.length:=by simp at ht9;omega
 refine K.lpE ?_;exact Mc .nores (hp:=by rw [hke])

theorem t6 {x:Expr} (h:((x.kids.length:Int)==0)=true):B4 x=x:=by rw [Zb,if_pos h]
theorem t7 {x:Expr} (h:((x.kids.length:Int)==0)=false):B4 x=J5 x.op x.text (x.kids.map B4):=by rw [Zb,if_neg (by rw [h];simp)]
section
variable {o:Int} {t:Str} {ks:List Expr}
theorem AQg {z:Expr} (h:((ks.getD 0 A6).op==1)=true) (hc:Ct o t ks=some z):J5 o t ks=z:=by unfold J5;rw [if_pos h,hc]
theorem AU7 {z:Expr} (h:((ks.getD 0 A6).op==1)=true) (hc:Ct o t ks=none) (hr:G6 (.mk o t noV ks)=some z):J5 o t ks=z:=by unfold J5;rw [if_pos h,hc];simp only;rw [hr]
theorem AU8 (h:((ks.getD 0 A6).op==1)=true) (hc:Ct o t ks=none) (hr:G6 (.mk o t noV ks)=none):J5 o t ks=.mk o t noV ks:=by unfold J5;rw [if_pos h,hc];simp only;rw [hr]
theorem AU9 {z:Expr} (h:((ks.getD 0 A6).op==1)=false) (hr:G6 (.mk o t noV ks)=some z):J5 o t ks=z:=by unfold J5;rw [if_neg (by rw [h];simp)];simp only;rw [hr]
theorem AUa (h:((ks.getD 0 A6).op==1)=false) (hr:G6 (.mk o t noV ks)=none):J5 o t ks=.mk o t noV ks:=by unfold J5;rw [if_neg (by rw [h];simp)];simp only;rw [hr]
end
theorem Pd {o:Option Expr} (h:o.isSome=true):o=some (o.getD A6):=by cases o<;>simp at h ⊢
theorem Pe {o:Option Expr} (h:o.isSome=false):o=none:=by cases o<;>simp at h ⊢
theorem d9 {x:Expr} (hn:Bq Ch x=true) (hr:Bq Cw x=true) (hk:0<x.kids.length):Bq Ch (.mk x.op x.text noV (x.kids.map B4))=true∧Bq Cw (.mk x.op x.text noV (x.kids.map B4))=true∧sizeE (.mk x.op x.text noV (x.kids.map B4))≤sizeE x∧depthE (.mk x.op x.text noV (x.kids.map B4))≤depthE x:=by
 have h0:=hn
 rw [Cb,Ah] at h0
 have h1:=hr
 rw [Cb,Ah] at h1
 have ih:∀y∈x.kids,TrimOk [] [] y (B4 y):=fun y hy=>Te (fun v hv=>by cases hv) _ y (Ao _) ((Bd _ _).1 h0.2 y hy) ((Bd _ _).1 h1.2 y hy)
 obtain ⟨o,t,v,k⟩:=x
 simp only [Expr.op,Expr.text,Expr.kids] at *
 have hv:v=noV:=by
  have hnn:=h0.1
  rw [Hj,Gt] at hnn
  split at hnn
  ·simp only [Ah,beq_iff_eq] at hnn
   have:=hnn.2
   omega
  split at hnn
  ·cases hnn
  rename_i hb;exact gn (by simpa using hb)
 subst hv
 have hmem:∀y∈k.map B4,∃z∈k,y=B4 z:=fun y hy=>by
  obtain ⟨z,hz,rfl⟩:=Dm.1 hy
  exact ⟨z,hz,rfl⟩
 refine ⟨?_,?_,?_,?_⟩
 ·rw [Bq,Ah]
  refine ⟨?_,(Bd _ _).2 fun y hy=>?_⟩
  ·have hnn:=h0.1
   rw [Hj,Gt] at hnn ⊢
   rw [B8]
   exact hnn
  obtain ⟨z,hz,rfl⟩:=hmem y hy
  exact (ih z hz).node
 ·rw [Bq,Ah]
  refine ⟨h1.1,(Bd _ _).2 fun y hy=>?_⟩
  obtain ⟨z,hz,rfl⟩:=hmem y hy
  exact (ih z hz).rng
 ·rw [sizeE,sizeE]
  have:∀r:List Expr,(∀y∈r,y∈k)→Bp (r.map B4)≤Bp r:=fun r=>by
   induction r with
   | nil=>intro _;exact Ao _
   | cons y r ihr =>
    intro hs
    rw [Ci,Bp,Bp]
    have h1:=(ih y (hs y Js)).size
    have h2:=ihr fun z hz=>hs z (It _ hz)
    omega
  have:=this k fun _ h=>h
  omega
 rw [depthE,depthE]
 have:∀r:List Expr,(∀y∈r,y∈k)→De (r.map B4)≤De r:=fun r=>by
  induction r with
  | nil=>intro _;exact Ao _
  | cons y r ihr =>
   intro hs
   rw [Ci,De,De]
   have h1:=(ih y (hs y Js)).depth
   have h2:=ihr fun z hz=>hs z (It _ hz)
   omega
 have:=this k fun _ h=>h
 omega
theorem dc {o:Int} {t:Str} {ks:List Expr} (hn:Bq Ch (.mk o t noV ks)=true):(((o==6)&&(t==ifW))=true→ks.length=3)∧(((o==6)&&(t==Gu))=true→ks.length=2):=by
 rw [Bq,Ah] at hn
 obtain ⟨q5,q34,q6,qall⟩:=Jo hn.1
 refine ⟨fun h=>?_,fun h=>?_⟩
 ·simp only [Ah,beq_iff_eq] at h
  obtain ⟨rfl,rfl⟩:=h
  rcases Eb (q6 rfl) with ⟨e,_⟩|⟨e,_⟩|⟨e,_⟩|⟨e,_⟩|⟨e,_⟩|⟨e,_⟩|⟨e,_⟩|⟨_,e⟩
  all_goals first|exact e|exact absurd (show ifW=_ from e) (by decide)
 simp only [Ah,beq_iff_eq] at h
 obtain ⟨rfl,rfl⟩:=h
 rcases Eb (q6 rfl) with ⟨e,_⟩|⟨e,_⟩|⟨e,_⟩|⟨e,_⟩|⟨_,e⟩|⟨e,_⟩|⟨e,_⟩|⟨e,_⟩
 all_goals first|exact e|exact absurd (show Gu=_ from e) (by decide)
theorem AUb:∀(n:Nat) (x:Expr),okE n x→n≤1000000→Bq Ch x=true→Bq Cw x=true→∀Hp:List AObj,AFun Tryz.prog 300 [Ab x] Hp (Ab (B4 x)):=by
 intro n
 induction n with
 | zero=>exact fun x h=>h.elim
 | succ n ih =>
 intro x hok hn hnode hrng Hp
 have hih:∀y∈x.kids,∀Hp:List AObj,AFun Tryz.prog 300 [Ab y] Hp (Ab (B4 y)):=fun y hy=>ih y (hok.2.2 y hy) (by omega) (by rw [Cb,Ah] at hnode;exact (Bd _ _).1 hnode.2 y hy) (by rw [Cb,Ah] at hrng;exact (Bd _ _).1 hrng.2 y hy)
 refine Aj [.cell 2 26] [0,4] Tryz.func300 Tryz.ntmps300 (fun d=>?_)
 refine Z2 ?_;refine La ?_;refine A2 [1,2,4] ?_;refine Z46 ?_;refine A2 [1,2,4,12] ?_
 refine A3 (fun ht12=>?_) (fun ht12=>?_)
 ·rw [B8] at ht12
  refine Z2 ?_;refine Rd ?_;exact A8 (Ai (Ap jA jS)) ⟨by rw [t6 ht12];simp only [Af];try rfl,rfl⟩ (hlow:=by simp [Ag])
 rw [B8] at ht12
 have hte:=t7 ht12
 have hk1:0<x.kids.length:=by
  cases hk:x.kids with
  | nil=>rw [hk] at ht12;cases ht12
  | cons a r=>simp
 have hk0:0<(x.kids.map B4).length:=by simpa using hk1
 obtain ⟨hyn,hyr,hys,hyd⟩:=d9 hnode hrng hk1
 obtain ⟨hy3,hy2⟩:=dc hyn
 have hyok:okE (n+1) (Expr.mk x.op x.text noV (x.kids.map B4)):=Zj (n+1) _ (I7 hyd (Q9 _ _ hok)) hyn
 refine U9 ?_;refine AK4 ?_;refine A2 [1,2,3,4] ?_;refine Z89 ?_;refine Rc 1 5 6 ?_
 refine L8 (fun hlow=>?_)
 refine A4 ?_;refine A9 Tryz.call324 (AU5 x _) ?_;refine A2 [2,3,4,20] ?_;refine J6 ?_
 refine Nh (m:=2) Tryz.call337 (fun FR as' bd' hFR has hbd=>?_)
 have hFRl:∀s,Low (Hp.length+4) (FR s):=by
  intro s
  rw [hFR]
  refine Og ?_
  revert s
  repeat (first|exact By|refine Bx (by first|exact T9|(simp [oid,Ag]<;>try omega)) ?_)
 have hOl:∀{k:Nat},∀y∈[.cells 26 [A5 0,Ac [],A5 0,A5 0,Ac [],.nil],yo true x.op x.text ((x.kids.map B4).take k),AObj.defs,AObj.loop LoopState.ready none FR 50 #[21] as' bd' (oid Hp.length 2)],ObjLow (Hp.length+4) y:=by
  intro k y hy
  simp only [C0,Fb,or_false] at hy
  rcases hy with rfl|rfl|rfl|rfl
  ·exact Q8
  ·exact ADp
  ·trivial
  exact o5
 refine ⟨fun _ H'=>H'=Hp++[.cells 26 [A5 0,Ac [],A5 0,A5 0,Ac [],.nil],yo true x.op x.text ((x.kids.map B4).take x.kids.length),AObj.defs,AObj.loop LoopState.ready none FR 50 #[21] as' bd' (oid Hp.length 2)],AU6 (x:=x) (l:=oid Hp.length 3) (U:=fun k=>Hp++[.cells 26 [A5 0,Ac [],A5 0,A5 0,Ac [],.nil],yo true x.op x.text ((x.kids.map B4).take k),AObj.defs,AObj.loop LoopState.ready none FR 50 #[21] as' bd' (oid Hp.length 2)]) (n0:=Hp.length+4) ⟨fun k=>by simp,fun k y hy=>?_,by simp [oid],fun X k z hz=>?_⟩ hok.2.1 hih,?_⟩
 ·exact Lz (fun y hy=>P4 (by omega) (hlow y hy)) hOl y hy
 ·have hklt:k<x.kids.length:=by have:=(Ak.1 hz).1;simpa using this
  generalize hV:(Hp++[.cells 26 [A5 0,Ac [],A5 0,A5 0,Ac [],.nil],yo true x.op x.text ((x.kids.map B4).take k),AObj.defs,AObj.loop LoopState.ready none FR 50 #[21] as' bd' (oid Hp.length 2)]++X)=V
  have hL:V[oid Hp.length 3]? = some (AObj.loop LoopState.ready none FR 50 #[21] as' bd' (oid Hp.length 2)):=by rw [←hV,C1,Bv];rfl
  have hA0:V[oid Hp.length 1]? = some (yo true x.op x.text ((x.kids.map B4).take k)):=by rw [←hV,C1,Bv];rfl
  refine Na (pd:=none) (fr:=FR) (sz:=50) (ps:=#[21]) (df:=oid Hp.length 2) (asg:=as') (bd:=bd') hL rfl (by decide) (fun d=>?_)
  subst hFR has hbd
  refine Di [3,21] ?_;refine ABm ?_;refine A2 [3,4] ?_
  refine ⟨rfl,none,hL,?_⟩
  generalize hbz:(AObj.loop LoopState.busy _ _ _ _ _ _ _)=bz
  have hA:(V.set (oid Hp.length 3) bz)[oid Hp.length 1]? = some (yo true x.op x.text ((x.kids.map B4).take k)):=by rw [F8 (E8 (by decide))];exact hA0
  refine J6 ?_
  refine W.drawT0 [0,1,0,3,0,31,63,127,63,319] [1] [.q 1 [] [0],.s [23] (some 0) [] [],.q 3 [] []] (fun B=>(V.set (oid Hp.length 3) bz).set (oid Hp.length 1) (if B 0=true then yo false x.op x.text ((x.kids.map B4).take k) else yo true x.op x.text ((x.kids.map B4).take k))) (fun _=>[.cells 26 (B7 z)]) Am (by kernel_rfl) (by simp only [An,if_false];exact K3 hA) rfl (fun B=>by simp) ?_
  apply Y.q
  ·intro B hT hF
   exact Xp
  case hTF=>decide
  refine Y.loadUpT (o:=oid Hp.length 1) (t':=26) (cs:=[A5 x.op,Ac x.text,A5 0,A5 0,Ac [],.slice true 6 (((x.kids.map B4).take k).map Ab)]) (cs':=[A5 x.op,Ac x.text,A5 0,A5 0,Ac [],.slice false 6 (((x.kids.map B4).take k).map Ab)]) Tryz.isAgg24 (fun B hB=>⟨by simp only [hB];exact Ay hA,by simp only [upd,if_true,Ep],rfl⟩) ?_
  apply Y.q
  ·intro B hT hF
   refine Z9 ?_;exact AB6
  case hTF=>decide
  refine Y.appendPut (tn:=[1]) (U:=(V.set (oid Hp.length 3) bz).set (oid Hp.length 1) (yo false x.op x.text ((x.kids.map B4).take k))) (O:=[.cells 26 (B7 z)]) (o:=oid Hp.length 1) (t':=26) (cs:=[A5 x.op,Ac x.text,A5 0,A5 0,Ac [],.slice false 6 (((x.kids.map B4).take k).map Ab)]) (by kernel_rfl) jU Tryz.type26 Tryz.sizeOf26 Tryz.sizeOf24 jU (B5 (Ay hA)) ?_ ?_ ?_ (hfsz:=Tryz.sizeOf24)
  ·have:=hok.2.1;simp [Tryz.t26];omega
  ·have:=hok.2.1;simp [Tryz.t26];omega
  refine A4 ?_
  refine eu jS (Ay hA) ?_ ?_
  ·first|(rw [AJe];exact D4)|(simp only [Af];exact D4)
  refine fe ?_
  subst hbz
  refine AG8 ?_
  refine ⟨rfl,?_⟩
  subst hV
  simp only [C1,Fu,Ef,Dx,List.set_cons_succ,List.set_cons_zero]
  rw [Ux hz]
  try simp only [AJe]
  try rfl
 intro r H' hq
 subst hq
 refine ⟨Hp,_,_,_,rfl,rfl,fun h=>h,?_,rfl,by simp,?_⟩
 ·intro o ho
  have:o=oid Hp.length 2:=by simpa using ho
  subst this
  rw [Bv]
  rfl
 rw [show (x.kids.map B4).take x.kids.length=x.kids.map B4 from Dn (by simp)]
 refine Z12 ?_;refine Z8 ?_
 refine A4 (h:=Ad (0) (Ab ((x.kids.map B4).getD 0 A6)) (fun _=>Dy hk0)) (hr:=?_)
 refine A4 ?_;refine A9 Tryz.call268 (ALt ((x.kids.map B4).getD 0 A6) _) ?_;refine A2 [2,3,34] ?_
 refine A3 (fun ht34=>?_) (fun ht34=>?_)
 ·refine Z2 ?_;refine A9 Tryz.call325 (AU4 (Expr.mk x.op x.text noV (x.kids.map B4)) hk0 hy3 hy2 _) ?_;refine Z94 ?_;refine A2 [2,3,5,6] ?_;refine Z2 ?_;refine A2 [2,3,5,40] ?_
  refine A3 (fun ht40=>?_) (fun ht40=>?_)
  ·have hc:(Ct x.op x.text (x.kids.map B4))=some ((Ct x.op x.text (x.kids.map B4)).getD A6):=Pd ht40
   refine Z2 ?_;refine Rd ?_;exact A8 (Ai (Ap jA jS)) ⟨by rw [hte,AQg ht34 hc];simp only [Af];try rfl,rfl⟩ (hlow:=by simp [Ag])
  have hc:(Ct x.op x.text (x.kids.map B4))=none:=Pe ht40
  refine ANq ?_;refine Z94 ?_;refine A2 [2,3,7,8] ?_;refine Z2 ?_;refine A2 [2,3,7,47] ?_
  refine A3 (fun ht47=>?_) (fun ht47=>?_)
  ·have hr:(G6 (Expr.mk x.op x.text noV (x.kids.map B4)))=some ((G6 (Expr.mk x.op x.text noV (x.kids.map B4))).getD A6):=Pd ht47
   refine Z2 ?_;refine Rd ?_;exact A8 (Ai (Ap jA jS)) ⟨by rw [hte,AU7 ht34 hc hr];simp only [Af];try rfl,rfl⟩ (hlow:=by simp [Ag])
  have hr:(G6 (Expr.mk x.op x.text noV (x.kids.map B4)))=none:=Pe ht47
  refine Z58 ?_;refine Z24 ?_;exact A8 (Ai (Ap jA jS)) ⟨by rw [hte,AU8 ht34 hc hr];simp only [Af];try rfl,rfl⟩ (hlow:=by simp [Ag])
 refine ANq ?_;refine Z94 ?_;refine A2 [2,3,7,8] ?_;refine Z2 ?_;refine A2 [2,3,7,47] ?_
 refine A3 (fun ht47=>?_) (fun ht47=>?_)
 ·have hr:(G6 (Expr.mk x.op x.text noV (x.kids.map B4)))=some ((G6 (Expr.mk x.op x.text noV (x.kids.map B4))).getD A6):=Pd ht47
  refine Z2 ?_;refine Rd ?_;exact A8 (Ai (Ap jA jS)) ⟨by rw [hte,AU9 ht34 hr];simp only [Af];try rfl,rfl⟩ (hlow:=by simp [Ag])
 have hr:(G6 (Expr.mk x.op x.text noV (x.kids.map B4)))=none:=Pe ht47
 refine Z58 ?_;refine Z24 ?_;exact A8 (Ai (Ap jA jS)) ⟨by rw [hte,AUa ht34 hr];simp only [Af];try rfl,rfl⟩ (hlow:=by simp [Ag])

/-- trim.Trim: the tree and the error. -/
def Th (x:Expr):Expr×Int:=if Ar x=true then (B4 x,0) else (A6,1)
theorem t8 {x:Expr} (h:Ar x=true):Th x=(B4 x,0):=if_pos h
theorem ta {x:Expr} (h:Ar x=false):Th x=(A6,1):=if_neg (by rw [h];simp)
theorem AUc (n:Nat) (x:Expr) (hok:okE n x) (hn:n≤1000000) (hg:Bq Cw x=true) (Hp:List AObj):AFun Tryz.prog 267 [Ab x] Hp (.tup [Ab (Th x).1,A5 (Th x).2]):=by
 refine Aj [.cell 2 26,.tmp 3] [0] Tryz.func267 Tryz.ntmps267 (fun d=>?_)
 refine vk ?_;refine Z25 ?_;refine A9 Tryz.call38 (c38 n x hok (by omega) _) ?_;refine A4 ?_;refine A2 [1,2,6] ?_
 refine A3 (fun ht6=>?_) (fun ht6=>?_)
 ·have hr:Ar x=false:=by simpa using ht6
  refine Z19 ?_;refine D7 7 _ Du ?_;refine Z47 ?_;refine Z10 ?_;exact A8 (As (Ap jA jS) A7) ⟨by rw [ta hr];simp only [Af];try rfl,rfl⟩ (hlow:=by simp [Ag])
 have hr:Ar x=true:=by simpa using ht6
 refine Z58 ?_;refine A9 Tryz.call300 (AUb n x hok hn (K7 hr) hg _) ?_;refine jd ?_;exact A8 (As (Ap jA jS) A7) ⟨by rw [t8 hr];simp only [Af];try rfl,rfl⟩ (hlow:=by simp [Ag])

/-- trim.Constant, trim.All. -/
def Dl (x:Expr):Val×Bool:=if (((Th x).2 != 0) || !((Th x).1.op==1))=true then (noV,false) else ((Th x).1.val,true)
theorem AUd (n:Nat) (x:Expr) (hok:okE n x) (hn:n≤1000000) (hg:Bq Cw x=true) (Hp:List AObj):AFun Tryz.prog 216 [Ab x] Hp (.tup [Ca (Dl x).1,At (Dl x).2]):=by
 refine Aj [.cell 2 23,.tmp 3] [0] Tryz.func216 Tryz.ntmps216 (fun d=>?_)
 refine vk ?_;refine Z2 ?_;refine A9 Tryz.call267 (AUc n x hok hn hg _) ?_;refine Z94 ?_;refine A2 [2,4,5] ?_;refine Z31 ?_;refine Bl ?_;refine Bk Tryz.call268 (fun hB=>ALt (Th x).1 _) ?_;refine Z92 ?_;refine A2 [2,4,17] ?_
 refine A3 (fun ht17=>?_) (fun ht17=>?_)
 ·have hm:Dl x=(noV,false):=if_pos ht17
  refine Z28 ?_;refine Z47 ?_;exact Z44
 have hm:Dl x=((Th x).1.val,true):=if_neg (by rw [ht17];simp)
 refine Z98 ?_;refine Z47 ?_;exact Z41

/-! invert: nodes, and a node taken apart. -/
abbrev qg (l:List Expr):AV:=.slice false 6 (l.map Ab)
abbrev AQh (s:Sd):List AV:=[.v (.int .i64 s.e.op),.v (sv s.e.text),.v (.int .i64 s.e.val.kind),.v (.int .i64 s.e.val.n),.v (sv s.e.val.s),.slice false 6 (s.e.kids.map Ab),.v (.int .i64 s.c.op),.v (sv s.c.text),.v (.int .i64 s.c.val.kind),.v (.int .i64 s.c.val.n),.v (sv s.c.val.s),.slice false 6 (s.c.kids.map Ab),.v (.bool s.first)]
abbrev dd (s:Sd):AV:=.agg (AQh s)
def sdZ:Sd:=⟨A6,A6,false⟩
theorem AHi (o:Int) (t:Str) (v:Val) (a:Expr):Ab (.mk o t v [a])=.agg [A5 o,.v (sv t),A5 v.kind,A5 v.n,.v (sv v.s),.slice false 6 [.agg (B7 a)]]:=by rw [Af];show _=AV.agg [_,_,_,_,_,.slice false 6 [_]];rw [←Af a];rfl
theorem AHj (o:Int) (t:Str) (v:Val) (a b:Expr):Ab (.mk o t v [a,b])=.agg [A5 o,.v (sv t),A5 v.kind,A5 v.n,.v (sv v.s),.slice false 6 [.agg (B7 a),.agg (B7 b)]]:=by rw [Af];show _=AV.agg [_,_,_,_,_,.slice false 6 [_,_]];rw [←Af a,←Af b];rfl
theorem c42 (s:Str) (Hp:List AObj):AFun Tryz.prog 42 [Ac s] Hp (Ab (Bh s)):=by
 refine Aj [.cell 2 26] [0] Tryz.func42 Tryz.ntmps42 (fun d=>?_)
 refine Z77 ?_;refine AFh ?_;refine D7 4 _ (K6 2 s noV) ?_;refine Z24 ?_;exact A8 (Ai (Ap jA jS)) ⟨by rw [Af];rfl,rfl⟩ (hlow:=Ag _ (Bh s))

theorem AUe (n:Int) (Hp:List AObj):AFun Tryz.prog 172 [A5 n] Hp (Ab (Ei ⟨1,n,[]⟩)):=by
 refine Aj [.cell 2 26] [0] Tryz.func172 Tryz.ntmps172 (fun d=>?_)
 refine Z77 ?_;refine AKa ?_;refine Wh ?_;refine D7 5 _ (K6 1 [] ⟨1,n,[]⟩) ?_;refine Z24 ?_;exact A8 (Ai (Ap jA jS)) ⟨by rw [Af];rfl,rfl⟩ (hlow:=Ag _ (Ei ⟨1,n,[]⟩))

theorem AHk (x:Expr) (t:Str) (y:Expr) (Hp:List AObj):AFun Tryz.prog 171 [Ab x,Ac t,Ab y] Hp (Ab (H5 x t y)):=by
 refine Aj [.cell 6 26] [0,1,2] Tryz.func171 Tryz.ntmps171 (fun d=>?_)
 refine Z1 ?_;refine La ?_;refine A2 [1,3,5,6] ?_;refine Z14 ?_;refine Z80 ?_;refine nw ?_;exact A8 (Ai (Ap jA jS)) ⟨by unfold H5;rw [AHj];rfl,rfl⟩ (hlow:=by simp [or_imp,forall_and,Ag])

theorem AQi (t:Str) (l:List Expr) (Hp:List AObj):AFun Tryz.prog 133 [Ac t,qg l] Hp (Ab (Eo t l)):=by
 refine Aj [.cell 4 26] [0,1] Tryz.func133 Tryz.ntmps133 (fun d=>?_)
 refine Z34 ?_;refine A2 [0,1,4] ?_;refine Z1 ?_;refine AO7 ?_;refine Z33 ?_;exact A8 (Ai (Ap jA jS)) ⟨by unfold Eo;rw [Za];rfl,rfl⟩ (hlow:=by simp [or_imp,forall_and,Ag])

theorem AHl (n:Nat) (x:Expr) (hok:okE n x) (hn:n≤1048576) (hs:sizeE x≤1048576) (Hp:List AObj):AFun Tryz.prog 132 [Ab x] Hp (At (Ge x)):=by
 refine Aj [.tmp 2] [0] Tryz.func132 Tryz.ntmps132 (fun d=>?_)
 refine jl ?_;refine A9 Tryz.call169 (ATs n x hok hn hs _) ?_;refine Z11 ?_;refine Z4 ?_;exact A8 (Ai A7) ⟨by unfold Ge;simp,rfl⟩

/-- What invert.apart answers. -/
def apS (x:Expr):Sd×Bool:=
 if (x.kids.length:Int)==1 then (⟨(x.kids.getD 0 A6),A6,false⟩,Ge (x.kids.getD 0 A6))
 else if ((x.kids.length:Int) != 2) || (Ge (x.kids.getD 0 A6)==Ge (x.kids.getD 1 A6)) then (sdZ,false)
 else if Ge (x.kids.getD 0 A6) then (⟨(x.kids.getD 0 A6),(x.kids.getD 1 A6),false⟩,true) else (⟨(x.kids.getD 1 A6),(x.kids.getD 0 A6),true⟩,true)
theorem AUf {x:Expr} (h:((x.kids.length:Int)==1)=true):apS x=(⟨(x.kids.getD 0 A6),A6,false⟩,Ge (x.kids.getD 0 A6)):=if_pos h
theorem AUg {x:Expr} (h:((x.kids.length:Int)==1)=false) (h2:(((x.kids.length:Int) != 2) || (Ge (x.kids.getD 0 A6)==Ge (x.kids.getD 1 A6)))=true):apS x=(sdZ,false):=by unfold apS;rw [h,h2];rfl
theorem AUh {x:Expr} (h:((x.kids.length:Int)==1)=false) (h2:(((x.kids.length:Int) != 2) || (Ge (x.kids.getD 0 A6)==Ge (x.kids.getD 1 A6)))=false) (h3:Ge (x.kids.getD 0 A6)=true):apS x=(⟨(x.kids.getD 0 A6),(x.kids.getD 1 A6),false⟩,true):=by unfold apS;rw [h,h2,h3];rfl
theorem AUi {x:Expr} (h:((x.kids.length:Int)==1)=false) (h2:(((x.kids.length:Int) != 2) || (Ge (x.kids.getD 0 A6)==Ge (x.kids.getD 1 A6)))=false) (h3:Ge (x.kids.getD 0 A6)=false):apS x=(⟨(x.kids.getD 1 A6),(x.kids.getD 0 A6),true⟩,true):=by unfold apS;rw [h,h2,h3];rfl
theorem ADq (x:Expr):Gf x=if (apS x).2 then some (apS x).1 else none:=by
 unfold Gf apS
 cases h:x.kids with
 | nil=>rfl
 | cons a r=>cases r with
  | nil=>rfl
  | cons b r=>cases r with
   | nil =>
    cases h1:Ge a<;>cases h2:Ge b<;>simp [h1,h2]
   | cons d r =>
    have h1:((((a::b::d::r).length:Nat):Int)==1)=false:=by simp only [B6];simp;omega
    have h2:((((a::b::d::r).length:Nat):Int) != 2)=true:=by simp only [B6];simp;omega
    rw [h1,h2]
    rfl
theorem AHm (e:Expr):Le (.agg [.v (.int .i64 e.op),.v (sv e.text),.v (.int .i64 e.val.kind),.v (.int .i64 e.val.n),.v (sv e.val.s),.slice false 6 (e.kids.map Ab),A5 0,Ac [],A5 0,A5 0,Ac [],.nil,At false]) (dd ⟨e,A6,false⟩):=by
 refine .agg _ _ rfl (by simp [AV.one,Value.oneCell',sv]) fun i y y' h1 h2=>?_
 match i with
 | 0|1|2|3|4|5|6|7|8|9|10|12=>simp at h1 h2;subst h1;subst h2;exact .inl rfl
 | 11=>simp at h1 h2;subst h1;subst h2;exact .inr ⟨rfl,6,rfl⟩
 | i+13=>simp at h1
theorem ADr:Le (.agg [A5 0,Ac [],A5 0,A5 0,Ac [],.nil,A5 0,Ac [],A5 0,A5 0,Ac [],.nil,At false]) (dd sdZ):=by
 refine .agg _ _ rfl (by simp [AV.one,Value.oneCell',sv]) fun i y y' h1 h2=>?_
 match i with
 | 0|1|2|3|4|6|7|8|9|10|12=>simp [sdZ] at h1 h2;subst h1;subst h2;exact .inl rfl
 | 5|11=>simp [sdZ] at h1 h2;subst h1;subst h2;exact .inr ⟨rfl,6,rfl⟩
 | i+13=>simp at h1
theorem V0 {n:Nat} {x:Expr} (h1:1≤n) (hok:okE (n+1) x) (i:Nat):okE n (x.kids.getD i A6):=by
 rw [Cz]
 cases h:x.kids[i]? with
 | none=>exact Lh h1
 | some e=>exact hok.2.2 _ (Be h)
theorem Pf {x:Expr} (hs:sizeE x≤1048576) (i:Nat):sizeE (x.kids.getD i A6)≤1048576:=by
 rw [Cz]
 cases h:x.kids[i]? with
 | none=>show sizeE A6≤_;decide
 | some e =>
  have:=Qc (Be h)
  rw [Ds] at hs
  show sizeE e≤_
  omega
theorem c84 (n:Nat) (h1n:1≤n) (x:Expr) (hok:okE (n+1) x) (hn:n≤1048576) (hs:sizeE x≤1048576) (Hp:List AObj):AFun Tryz.prog 84 [Ab x] Hp (.tup [dd (apS x).1,At (apS x).2]):=by
 have hkl:=ls hok
 refine Aj [.cell 2 135,.tmp 3] [0] Tryz.func84 Tryz.ntmps84 (fun d=>?_)
 refine vk ?_;refine Z16 ?_;refine fh ?_;refine A2 [1,2,4] ?_
 refine A3 (fun ht4=>?_) (fun ht4=>?_)
 ·rw [B8] at ht4
  have h0:0<x.kids.length:=by simp at ht4;omega
  refine C3 [0,1,3,7,15,0,32,96,224,480,1023,2047] 10 Am (by kernel_rfl) ?_;refine Z9 ?_
  refine Aq (h:=Ad (0) (Ab (x.kids.getD 0 A6)) (fun _=>Dy h0)) (hr:=?_)
  refine Aq ?_;refine D.build (places:=#[(0,6),(6,6),(12,1)]) jU (fun w=>by simp) jZ ?_;refine Z9 ?_
  refine Aq (h:=Ad (0) (Ab (x.kids.getD 0 A6)) (fun _=>Dy h0)) (hr:=?_)
  refine Aq ?_;refine Cd Tryz.call132 (AHl n (x.kids.getD 0 A6) (V0 h1n hok 0) hn (Pf hs 0) _) ?_;refine Dq ?_;refine D7 13 _ (AHm (x.kids.getD 0 A6)) ?_;refine j5 ?_;exact A8 (As (Ap jA jS) A7) ⟨by rw [AUf ht4]<;>rfl,rfl⟩ (hlow:=by simp [or_imp,forall_and,Ag])
 rw [B8] at ht4
 have h20:x.kids.length=2→0<x.kids.length:=fun h=>by omega
 have h21:x.kids.length=2→1<x.kids.length:=fun h=>by omega
 refine C3 [0,1,3,7,15,31,63,127,255,511,31,1055,3103,7199,16383,32767,65535,131071] 14 Am (by kernel_rfl) ?_;refine Xu ?_;refine Z57 ?_
 refine Fh (h:=Ad (0) (Ab (x.kids.getD 0 A6)) (fun hB=>Dy (h20 (by simp at hB;omega)))) (hr:=?_)
 refine Fh ?_;refine Xj Tryz.call132 (fun hB=>AHl n (x.kids.getD 0 A6) (V0 h1n hok 0) hn (Pf hs 0) _) ?_;refine Z57 ?_
 refine Fh (h:=Ad (1) (Ab (x.kids.getD 1 A6)) (fun hB=>Dy (h21 (by simp at hB;omega)))) (hr:=?_)
 refine Fh ?_;refine Dq ?_;refine Bk Tryz.call132 (fun hB=>AHl n (x.kids.getD 1 A6) (V0 h1n hok 1) hn (Pf hs 1) _) ?_;refine U7 ?_;refine A2 [1,2,19] ?_
 refine A3 (fun ht19=>?_) (fun ht19=>?_)
 ·rw [B8] at ht19
  refine E9 ?_;refine M9 (places:=#[(0,6),(6,6),(12,1)]) jU (fun w=>by simp) jZ ?_;refine D7 37 _ ADr ?_;refine j5 ?_;exact A8 (As (Ap jA jS) A7) ⟨by rw [AUg ht4 ht19]<;>rfl,rfl⟩ (hlow:=by simp [or_imp,forall_and,Ag])
 rw [B8] at ht19
 have h2:x.kids.length=2:=by simp at ht19;omega
 have h0:=h20 h2
 have h1:=h21 h2
 refine Z1 ?_
 refine A4 (h:=Ad (0) (Ab (x.kids.getD 0 A6)) (fun _=>Dy h0)) (hr:=?_)
 refine A4 ?_;refine A9 Tryz.call132 (AHl n (x.kids.getD 0 A6) (V0 h1n hok 0) hn (Pf hs 0) _) ?_;refine A4 ?_;refine A2 [1,2,38] ?_
 refine A3 (fun ht38=>?_) (fun ht38=>?_)
 ·refine AOl ?_
  refine Aq (h:=Ad (0) (Ab (x.kids.getD 0 A6)) (fun _=>Dy h0)) (hr:=?_)
  refine Z37 ?_
  refine Aq (h:=Ad (1) (Ab (x.kids.getD 1 A6)) (fun _=>Dy h1)) (hr:=?_)
  refine AOw ?_;refine j5 ?_;exact A8 (As (Ap jA jS) A7) ⟨by rw [AUh ht4 ht19 ht38]<;>rfl,rfl⟩ (hlow:=by simp [or_imp,forall_and,Ag])
 refine Z18 ?_;refine AOl ?_
 refine Aq (h:=Ad (1) (Ab (x.kids.getD 1 A6)) (fun _=>Dy h1)) (hr:=?_)
 refine Z37 ?_
 refine Aq (h:=Ad (0) (Ab (x.kids.getD 0 A6)) (fun _=>Dy h0)) (hr:=?_)
 refine AOw ?_;refine jd ?_;exact A8 (As (Ap jA jS) A7) ⟨by rw [AUi ht4 ht19 ht38]<;>rfl,rfl⟩ (hlow:=by simp [or_imp,forall_and,Ag])

/-- What invert.constant, sum, join and back answer. -/
def csS (x:Expr) (k:Int):Expr×Bool:=(Ei (Dl x).1,(Dl x).2&&((Dl x).1.kind==k))
def Rx (t:Str) (s:Sd) (y:Expr):Expr×Bool:=if !(csS s.c 1).2 then (A6,false) else if t==[43] then (H5 y [45] (csS s.c 1).1,true) else if s.first then (H5 (csS s.c 1).1 [45] y,true) else (H5 y [43] (csS s.c 1).1,true)
def Pg (s:Sd) (y:Expr):Expr×Bool:=if !(csS s.c 2).2 then (A6,false) else (Eo (if s.first then Rv else Zf) [y,H5 (Eo Wk [y]) [45] (Ei ⟨1,((Dl s.c).1.s.length:Int),[]⟩)],true)
def Gk (x:Expr) (s:Sd) (y:Expr):Expr×Bool:=
 if (x.op==3) || (x.op==4) then (.mk x.op [] noV [y],true)
 else if (x.op==6)&&(x.text==lm) then (Eo qb [y],true)
 else if (x.op==5)&&((x.text==[43]) || (x.text==[45])) then Rx x.text s y
 else if (x.op==5)&&(x.text==[38]) then Pg s y
 else (A6,false)
theorem AHn (x:Expr):Dl x=if Ar x&&((B4 x).op==1) then ((B4 x).val,true) else (noV,false):=by
 unfold Dl
 cases h:Ar x with
 | false=>rw [ta h];rfl
 | true =>
  rw [t8 h]
  cases h1:((B4 x).op==1)<;>simp [h1]
theorem AJf (x:Expr) (k:Int):Nw x k=if (csS x k).2 then some (Dl x).1 else none:=by
 unfold Nw csS
 rw [AHn]
 cases h:(Ar x&&((B4 x).op==1)) with
 | false=>rfl
 | true=>rfl
theorem ALy (t:Str) (s:Sd) (y:Expr):ADj t s y=if (Rx t s y).2 then some (Rx t s y).1 else none:=by
 unfold ADj Rx
 rw [AJf]
 cases h:(csS s.c 1).2 with
 | false=>rfl
 | true =>
  show some _=_
  cases h1:(t==[43])<;>cases h2:s.first<;>rfl
theorem AHo (s:Sd) (y:Expr):ln s y=if (Pg s y).2 then some (Pg s y).1 else none:=by
 unfold ln Pg
 rw [AJf]
 cases h:(csS s.c 2).2 with
 | false=>rfl
 | true=>rfl
theorem tc (x:Expr) (s:Sd) (y:Expr):Li x s y=if (Gk x s y).2 then some (Gk x s y).1 else none:=by
 unfold Li Gk
 split
 ·rfl
 split
 ·rfl
 split
 ·exact ALy _ _ _
 split
 ·exact AHo _ _
 rfl
theorem qh (t:Str) (y:Expr) (Hp:List AObj):AFun Tryz.prog 133 [Ac t,.slice false 6 [.agg (B7 y)]] Hp (Ab (Eo t [y])):=by
 have:=AQi t [y] Hp
 rwa [qg,Ci,Fs,Af] at this
theorem ADs (t:Str) (y z:Expr) (Hp:List AObj):AFun Tryz.prog 133 [Ac t,.slice false 6 [.agg (B7 y),.agg (B7 z)]] Hp (Ab (Eo t [y,z])):=by
 have:=AQi t [y,z] Hp
 rwa [qg,Ci,Ci,Fs,Af y,Af z] at this
theorem AQj (n:Nat) (x:Expr) (k:Int) (hok:okE n x) (hn:n≤1000000) (hg:Bq Cw x=true) (Hp:List AObj):AFun Tryz.prog 170 [Ab x,A5 k] Hp (.tup [Ab (csS x k).1,At (csS x k).2]):=by
 refine Aj [.cell 4 26,.tmp 5] [0,1] Tryz.func170 Tryz.ntmps170 (fun d=>?_)
 refine j8 ?_;refine A2 [1,2,4] ?_;refine Z2 ?_;refine A9 Tryz.call216 (AUd n x hok hn hg _) ?_;refine Z94 ?_;refine A2 [1,4,6,7] ?_;refine Hc [0,1,0,4,12,28,12,124,252,15,1023] [9] [.q 9 [] [],.s [] (some 0) [] []] (fun _=>Hp) (fun B=>[.cells 26 (if B 0=true then [A5 1,Ac [],A5 (Dl x).1.kind,A5 (Dl x).1.n,Ac (Dl x).1.s,.nil] else [A5 0,Ac [],A5 0,A5 0,Ac [],.nil]),.cells 23 [A5 (Dl x).1.kind,A5 (Dl x).1.n,Ac (Dl x).1.s]]) Am (by kernel_rfl) rfl rfl (fun _=>rfl) ?_
 apply Y.q
 ·intro B hT hF
  refine Aq ?_;refine ABq ?_;refine w4 ?_;refine Z57 ?_;exact Xp
 case hTF=>decide
 refine f6 (u:=Hp.length) (n:=0) (t':=26) (cs:=[A5 0,Ac [],A5 0,A5 0,Ac [],.nil]) (cs':=[A5 1,Ac [],A5 (Dl x).1.kind,A5 (Dl x).1.n,Ac (Dl x).1.s,.nil]) Tryz.sizeOf26 (fun B hB=>⟨rfl,by simp only [hB];rfl,by simp [upd],rfl⟩) ?_
 refine Hd (tn:=[9]) (O:=[.cells 26 [A5 1,Ac [],A5 (Dl x).1.kind,A5 (Dl x).1.n,Ac (Dl x).1.s,.nil],.cells 23 [A5 (Dl x).1.kind,A5 (Dl x).1.n,Ac (Dl x).1.s]]) ?_;refine Rc 0 5 6 ?_;refine A4 ?_;refine Z73 ?_;exact A8 (As (Ap jA jS) A7) ⟨by show _=AV.tup [Ab (Ei (Dl x).1),At _];rw [Af];rfl,rfl⟩ (hlow:=by have:=Ag Hp.length (Ei (Dl x).1);rw [Af] at this;simpa [or_imp,forall_and] using this)

section
variable {t:Str} {s:Sd} {y:Expr}
theorem AUj (h:(!(csS s.c 1).2)=true):Rx t s y=(A6,false):=if_pos h
theorem AUk (h:(!(csS s.c 1).2)=false) (h2:(t==[43])=true):Rx t s y=(H5 y [45] (csS s.c 1).1,true):=by unfold Rx;rw [h,h2];rfl
theorem AUl (h:(!(csS s.c 1).2)=false) (h2:(t==[43])=false) (h3:s.first=true):Rx t s y=(H5 (csS s.c 1).1 [45] y,true):=by unfold Rx;rw [h,h2,h3];rfl
theorem AUm (h:(!(csS s.c 1).2)=false) (h2:(t==[43])=false) (h3:s.first=false):Rx t s y=(H5 y [43] (csS s.c 1).1,true):=by unfold Rx;rw [h,h2,h3];rfl
theorem AUn (h:(!(csS s.c 2).2)=true):Pg s y=(A6,false):=if_pos h
theorem AQk (h:(!(csS s.c 2).2)=false) (b:Bool) (hb:s.first=b):Pg s y=(Eo (if b then Rv else Zf) [y,H5 (Eo Wk [y]) [45] (Ei ⟨1,((Dl s.c).1.s.length:Int),[]⟩)],true):=by unfold Pg;rw [h,hb];rfl
end
theorem AUo (t:Str) (n:Nat) (s:Sd) (hok:okE n s.c) (hn:n≤1000000) (hg:Bq Cw s.c=true) (y:Expr) (Hp:List AObj):AFun Tryz.prog 134 [Ac t,dd s,Ab y] Hp (.tup [Ab (Rx t s y).1,At (Rx t s y).2]):=by
 refine Aj [.cell 6 26,.tmp 7] [0,1,2] Tryz.func134 Tryz.ntmps134 (fun d=>?_)
 refine ABc ?_;refine A2 [0,4,5,6] ?_;refine Z1 ?_;refine A9 Tryz.call170 (AQj n s.c 1 hok hn hg _) ?_;refine Z94 ?_;refine A2 [0,4,5,6,8,9] ?_;refine jk ?_;refine A2 [0,4,5,6,8,16] ?_
 refine A3 (fun ht16=>?_) (fun ht16=>?_)
 ·refine Z19 ?_;refine D7 19 _ Du ?_;refine Z93 ?_;exact A8 (As (Ap jA jS) A7) ⟨by rw [AUj ht16];simp only [Af];try rfl,rfl⟩ (hlow:=by simp [or_imp,forall_and,Ag])
 refine Z14 ?_;refine A2 [4,5,6,8,20] ?_
 refine A3 (fun ht20=>?_) (fun ht20=>?_)
 ·refine Z1 ?_;refine A9 Tryz.call171 (AHk y [45] (csS s.c 1).1 _) ?_;refine Z93 ?_;exact A8 (As (Ap jA jS) A7) ⟨by rw [AUk ht16 ht20];simp only [Af];try rfl,rfl⟩ (hlow:=by simp [or_imp,forall_and,Ag])
 refine Z14 ?_;refine A2 [5,6,8,26] ?_
 refine A3 (fun ht26=>?_) (fun ht26=>?_)
 ·refine Z1 ?_;refine A9 Tryz.call171 (AHk (csS s.c 1).1 [45] y _) ?_;refine Z93 ?_;exact A8 (As (Ap jA jS) A7) ⟨by rw [AUl ht16 ht20 ht26];simp only [Af];try rfl,rfl⟩ (hlow:=by simp [or_imp,forall_and,Ag])
 refine aq ?_;refine A9 Tryz.call171 (AHk y [43] (csS s.c 1).1 _) ?_;refine jb ?_;exact A8 (As (Ap jA jS) A7) ⟨by rw [AUm ht16 ht20 ht26];simp only [Af];try rfl,rfl⟩ (hlow:=by simp [or_imp,forall_and,Ag])

theorem AUp (n:Nat) (s:Sd) (hok:okE n s.c) (hn:n≤1000000) (hg:Bq Cw s.c=true) (y:Expr) (Hp:List AObj):AFun Tryz.prog 135 [dd s,Ab y] Hp (.tup [Ab (Pg s y).1,At (Pg s y).2]):=by
 refine Aj [.cell 4 26,.tmp 5] [0,1] Tryz.func135 Tryz.ntmps135 (fun d=>?_)
 refine ABd ?_;refine Z1 ?_;refine A9 Tryz.call170 (AQj n s.c 2 hok hn hg _) ?_;refine Z94 ?_;refine A2 [2,3,4,6,7] ?_;refine Z8 ?_;refine A2 [2,3,4,6,16] ?_
 refine A3 (fun ht16=>?_) (fun ht16=>?_)
 ·refine Z19 ?_;refine D7 17 _ Du ?_;refine Z39 ?_;refine Z10 ?_;exact A8 (As (Ap jA jS) A7) ⟨by rw [AUn ht16];simp only [Af];try rfl,rfl⟩ (hlow:=by simp [or_imp,forall_and,Ag])
 refine Z58 ?_;refine A2 [2,3,4,6,8] ?_;refine Z8 ?_;refine A2 [3,4,6,8,19] ?_
 refine A3 (fun ht19=>?_) (fun ht19=>?_)
 ·refine Z48 ?_;refine A2 [3,4,6,8] ?_;refine Fl ?_;refine ANn ?_;refine wr ?_;refine Cd Tryz.call133 (qh Wk y _) ?_;refine O6 ?_;refine AN9 ?_;refine wr ?_;refine Dq ?_;refine A9 Tryz.call133 (ADs Rv y (H5 (Eo Wk [y]) [45] (Ei ⟨1,((Dl s.c).1.s.length:Int),[]⟩)) _) ?_;refine Z39 ?_;refine Fg ?_;exact A8 (As (Ap jA jS) A7) ⟨by rw [AQk ht16 true ht19];simp only [Af];try rfl,rfl⟩ (hlow:=by simp [or_imp,forall_and,Ag])
 refine Z3 ?_;refine ANn ?_;refine wr ?_;refine Cd Tryz.call133 (qh Wk y _) ?_;refine O6 ?_;refine AN9 ?_;refine wr ?_;refine Dq ?_;refine A9 Tryz.call133 (ADs Zf y (H5 (Eo Wk [y]) [45] (Ei ⟨1,((Dl s.c).1.s.length:Int),[]⟩)) _) ?_;refine Z39 ?_;refine Fg ?_;exact A8 (As (Ap jA jS) A7) ⟨by rw [AQk ht16 false ht19];simp only [Af];try rfl,rfl⟩ (hlow:=by simp [or_imp,forall_and,Ag])

end Go.SX.Nb
namespace Go.SX
variable [GI:GlobInv]
open Classical
section
variable {P:Program} {d:Nat}
/-- A call that returns and may leave more objects than it found; they are the caller's. -/
def ACallO (P:Program) (g:FuncId) (args:List AV) (H:List AObj) (post:AV→List AObj→Prop):Prop:=
 ∀(d:Nat) (G:Gh) (w:World) (vs:Array Value),vs.size=args.length→(∀(i:Nat) (y:AV) (u:Value),args[i]? = some y→vs[i]? = some u→Rep G w (some (.slot (d+1) i)) y u)→HeapRel G H w→TagOK G w→GI.bd≤d →
  CallsIn Fence.wide 0 P g vs w (fun e w'=>∃(v:Value) (G':Gh) (r:AV) (H':List AObj),e=.returned v∧Rep G' w' none r v∧HeapRel G' H' w'∧TagOK G' w'∧Keep (d+1) G w G' w'∧post r H')
/-- What is asked at a body's end: the first j of its objects are handed back. -/
def FO (P:Program) (rs:List ResultVar) (n:Nat) (post:AV→List AObj→Prop) (e:Exit) (st':St):Prop:=
 (e=.normal∨e=.ret)∧st'.defs=[]∧∃(r:AV) (rv:ResultVar) (j:Nat),rs=[rv]∧ResV P st' rv r∧Low (n+j) r∧(∀x∈st'.up++st'.own.take j,ObjLow (n+j) x)∧j≤st'.own.length∧post r (st'.up++st'.own.take j)
theorem ACallO.ofBody {g:FuncId} {fn:Func} {c:Code} {args:List AV} {H:List AObj} {post:AV→List AObj→Prop} {rs:List ResultVar} {n:Nat} (hf:P.funcs[g]? = some fn) (hb:fn.body=some c) (hrs:fn.results=rs.toArray)
  (hn:fn.ntmps=n) (hargs:args.length≤n) (h:∀d,AW P (d+1) c ⟨n,argsF args,H,[],[],none⟩ (FO P rs H.length post)):ACallO P g args H post:=by
 intro d G w vs hvs hrep hH hT hTop
 refine callsIn_of_wp_marks hf hb trivial ?_
 have hst:StRel (d+1) G ⟨n,argsF args,H,[],[],none⟩ { tmps:=vs++Array.replicate (fn.ntmps-vs.size) undef,defers:=[] } w:=by
  refine ⟨?_,fun s=>?_,by simpa using hH,(by rw [L2 hTop];rfl),(fun o ho=>by simp at ho),S9,(fun o ho=>by simp at ho),hT,(fun l hl=>by cases hl),fun x hx=>?_,Wt hTop⟩
  ·simp only [N3,AA8,hvs,hn];omega
  ·show Rep G w _ (args.getD s (.v undef)) _
   rw [Cz,Ny]
   rcases Bn s args.length with h'|h'
   ·rw [Ae h',Mm (by omega),F7 (by omega)]
    exact hrep s _ _ (Ae h') (F7 (by omega))
   rw [Hv h',Vc (by omega)]
   simp only [Option.getD_none]
   have:((Array.replicate (fn.ntmps-vs.size) undef)[s-vs.size]?).getD undef=undef:=by
    rw [mq];split<;>rfl
   rw [this]
   exact .v _ _
  obtain ⟨i,hi⟩:=Cr hx
  have hob:=hH.obj i x hi
  show ObjLow H.length x
  rw [←hH.n]
  exact hob.low
 have hw:=h d G _ w hst
 refine wpIn_mono hw ?_
 rintro e a' w' ⟨G1,st',h1,k1,e1,e2,e3,hcase,hdefs,r,rv,j,rfl,hres,hlow,hobjs,hj,hpost⟩
 have fin:LeavesInM Fence.wide 0 P fn a'.tmps (fun e w'=>∃(v:Value) (G':Gh) (r:AV) (H':List AObj),e=.returned v∧Rep G' w' none r v∧HeapRel G' H' w'∧TagOK G' w'∧Keep (d+1) G w G' w'∧post r H') a'.defers .returning w':=by
  rw [h1.defs,hdefs,L2 hTop]
  obtain ⟨v,hv,hr⟩:=hres.run h1
  have hupl:st'.up.length=H.length:=e1
  have hgn:G1.n=st'.up.length+st'.own.length:=by rw [h1.heap.n,Aw]
  have hget:∀(i:Nat) (x:AObj),(st'.up++st'.own.take j)[i]? = some x→(st'.up++st'.own)[i]? = some x:=fun i x hx=>by
   rcases Bn i st'.up.length with h'|h'
   ·rw [E5 h'] at hx ⊢;exact hx
   rw [E6 h'] at hx ⊢
   rw [Je] at hx
   split at hx
   ·exact hx
   cases hx
  refine ⟨v,by simp [Gp,hrs,hv],v,{ G1 with n:=H.length+j },r,st'.up++st'.own.take j,rfl,hr.cut hlow,⟨fun i x hx=>(h1.heap.obj i x (hget i x hx)).cut (hobjs x (Be hx)),?_,fun a b ha hb' e=>?_⟩,
   ⟨h1.tags.ex,h1.tags.obj,h1.tags.tail,h1.tags.globCut (by rw [hgn];omega)⟩,?_,hpost⟩
  ·show H.length+j=_
   rw [Aw,E7,rf hj,hupl]
  ·exact h1.heap.inj a b (by rw [hgn];simp only at ha;omega) (by rw [hgn];simp only at hb';omega) e
  have hGn:G.n=H.length:=hH.n
  exact ⟨k1.fix,k1.slot,by rw [hGn];exact Nat.le_add_right _ _,k1.blk,k1.os,k1.tape,k1.output,k1.size,k1.old.cut (by rw [hgn];omega)⟩
 rcases hcase with rfl|rfl
 ·exact fin
 exact fin
end
section
variable {P:Program} {d:Nat} {ops:Array Oper} {rest:List Oper} {sz s:Nat} {fr:Nat→AV} {up own:List AObj} {dfs:List Nat} {rnd:Option Nat} {Q:St→Prop} {ty:TypeId} {pos:String} {aft:Array Edge}
theorem ACallO.body {g:FuncId} {fn:Func} {c:Code} {args:List AV} {H:List AObj} {post:AV→List AObj→Prop} {fr':Nat→AV} (rs:List ResultVar) (l:List Nat) {n:Nat} (hf:P.funcs[g]? = some fn) (hn:fn.ntmps=n)
  (h:∀d,AW P (d+1) c ⟨n,fr',H,[],[],none⟩ (FO P rs H.length post)) (hb:fn.body=some c:=by rfl) (hrs:fn.results=rs.toArray:=by rfl) (hargs:args.length≤n:=by exact sL1)
  (hk:O2 l (argsF args)=fr':=by exact sL0):ACallO P g args H post:=
 ACallO.ofBody hf hb hrs hn hargs (fun d=>AW.keep l hk (h d))
/-- The end of such a body. -/
theorem K.finO {rs:List ResultVar} {n:Nat} {post:AV→List AObj→Prop} {r:AV} {rv:ResultVar} {st:St} (j:Nat) (hres:ResV P st rv r) (hp:post r (st.up++st.own.take j)) (hlow:Low (n+j) r) (hobj:∀x∈st.up++st.own.take j,ObjLow (n+j) x)
  (hd:st.defs=[]:=by rfl) (hr:rs=[rv]:=by rfl) (hj:j≤st.own.length:=by simp):FO P rs n post .ret st:=⟨.inr rfl,hd,r,rv,j,hr,hres,hlow,hobj,hj,hp⟩
/-- A call of such a function. -/
theorem R.callO {g:FuncId} {xs:List Operand} {ats:Array TypeId} {args:List AV} {post:AV→List AObj→Prop} (hcall:∀args w,(callFunc g args).run P w=.ok (.enter g args) w)
  (h:ACallO P g args (up++own) post) (hp:∀r H',post r H'→∃O,H'=up++(own++O)∧ARun P d ops rest ⟨sz,Aa s r fr,up,own++O,dfs,rnd⟩ Q)
  (ha:xs.map (Bm fr)=args:=by exact sL0) (hs:Nat.blt s sz=true:=by rfl):
  ARun P d ops (⟨some s,.call ⟨.value (.func g),xs.toArray,ats⟩,ty,pos,aft,none⟩::rest) ⟨sz,fr,up,own,dfs,rnd⟩ Q:=by
 refine bh rfl (Q1:=fun s'=>ARun P d ops rest s' Q) ?_ (fun s' e=>e)
 intro G a w hr Q'
 have hs:s<sz:=by simpa using hs
 have hxr:=Sj hr xs
 have ha':xs.map (St.ev ⟨sz,fr,up,own,dfs,rnd⟩)=args:=ha
 rw [ha'] at hxr
 have hrun:(execOp a.eval (⟨some s,.call ⟨.value (.func g),xs.toArray,ats⟩,ty,pos,aft,none⟩:Oper)).run P w=.ok (.enter g (xs.map a.eval).toArray) w:=by
  have:=R8 (P:=P) (dst:=some s) (ty:=ty) (pos:=pos) (aft:=aft) (gd:=none) (ats:=ats) (f:=.func g) (xs:=xs) (g:=g) (va:=#[]) (vc:=#[]) (a:=a) (w:=w) hcall rfl
  simpa using this
 refine R7 (by intro c h;cases h) hrun (h d G w _ (by rw [←ha'];simp) (fun i y u hy hu=>(hxr i y u hy hu).lift) hr.heap hr.tags hr.top) ?_
 rintro e w' ⟨v,G',r,H',rfl,hrep,hH,hT,hk,hpo⟩
 obtain ⟨O,rfl,hrn⟩:=hp r H' hpo
 have h3:=hr.called (U:=up) (O:=own++O) hH hT hk rfl rfl (fun o ho=>by
  have:=hr.defsAt o ho
  rw [←C1,E5 (Ak.1 this).1]
  exact this) hr.low
 obtain ⟨h4,k4⟩:=h3.took hrep.lift (s:=s) hs
 exact ⟨v,rfl,_,_,h4,(hk.less (Km d)).trans k4,rfl,rfl,rfl,hrn⟩
end
end Go.SX
