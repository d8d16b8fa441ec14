/- On the way (part 11). -/
import Derived.Test.YtofbdcbjpdpllaaGreatDoorInvertTellsCardSaidPart10
set_option linter.all false
namespace Go.SX.Nb
open Go Go.SX Go.Proofs
variable [ErrAt]
set_option maxRecDepth 4000
theorem To (o:Int) (t:Str) (y:Expr):Ab (.mk o t noV [y])=.agg [A5 o,Ac t,A5 0,A5 0,Ac [],.slice false 6 [.agg (B7 y)]]:=by
 rw [Af]
 show AV.agg [_,_,_,_,_,.slice false 6 [Ab y]]=_
 rw [Af y]
 rfl
theorem ag (o:Int) (t:Str) (y z:Expr):Ab (.mk o t noV [y,z])=.agg [A5 o,Ac t,A5 0,A5 0,Ac [],.slice false 6 [.agg (B7 y),.agg (B7 z)]]:=by
 rw [Af]
 show AV.agg [_,_,_,_,_,.slice false 6 [Ab y,Ab z]]=_
 rw [Af y,Af z]
 rfl
/-- What may be handed to it as the tree back. -/
structure YOk (y:Expr):Prop where
 ok:okE 33 y
 size:sizeE y≤1048576
theorem YOk.of {y:Expr} (h:Ax y=true):YOk y:=by
 have:=F6 h
 exact ⟨Fo (by decide) this.1,by omega⟩
theorem AEy {x:Expr} (hx:Ax x=true) (hg:Bq Cw x=true):okE 30 (cR x)∧sizeE (cR x)≤300:=by
 have n1:okE 30 A6∧sizeE A6≤300:=⟨Lh (by decide),by decide⟩
 unfold cR oR
 split
 ·rename_i h
  have hl:1-sdR x<x.kids.length:=by omega
  rw [Cz,Ae hl]
  rw [Cb,Ah] at hg
  have hm:=Bb hl
  exact F6 (Zd (Lj hx hm) ((Bd _ _).1 hg.2 _ hm) [] [] (fun v h=>by cases h)).1
 exact n1
theorem zy {x:Expr} (h:Ax x=true):depthE x≤30:=by
 unfold Ax at h
 simp only [Ah,decide_eq_true_eq] at h
 exact h.1.1
theorem AEz (o:Int) (t:Str) (v:Val) (x y:Expr):sizeE (.mk o t v [x,y])=1+(sizeE x+(sizeE y+0)):=rfl
theorem AJn (o:Int) (t:Str) (v:Val) (x:Expr):sizeE (.mk o t v [x])=1+(sizeE x+0):=rfl
theorem YOk.bin {x y:Expr} {t:Str} (ht:t.length≤1048576) (hx:okE 30 x∧sizeE x≤300) (hy:okE 30 y∧sizeE y≤300):YOk (H5 x t y):=
 ⟨Fo (by decide) (Qh ht hx.1 hy.1),by unfold H5;rw [AEz];omega⟩
theorem YOk.one {x:Expr} {o:Int} {t:Str} (ht:t.length≤1048576) (hx:okE 30 x∧sizeE x≤300):YOk (.mk o t noV [x]):=
 ⟨Fo (by decide) (show okE 31 _ from ⟨ht,by show 1≤1048576;decide,fun z hz=>by
  have hz:z=x:=by simpa [Expr.kids] using hz
  subst hz;exact hx.1⟩),by rw [AJn];omega⟩
theorem YOk.join {y:Expr} {t:Str} {n:Int} (ht:t.length≤1048576) (hy:okE 30 y∧sizeE y≤300):YOk (Eo t [y,H5 (Eo Wk [y]) [45] (Ei ⟨1,n,[]⟩)]):=by
 refine ⟨di ht (Fo (by decide) hy.1) (Qh (by decide) (V6 (by decide) hy.1) i6),?_⟩
 unfold Eo H5 Ei
 rw [AEz,AEz,AJn]
 have:sizeE (.mk 1 [] ⟨1,n,[]⟩ [])=1:=rfl
 omega
section
variable {n:Nat} {x y:Expr} {a:Str}
theorem AW0 (h:(!Ax y)=true):I3 (n+1) x a y=(A6,false):=by rw [I3,if_pos h]
theorem AW1 (h:(!Ax y)=false) (h2:(x.op==2)=true):I3 (n+1) x a y=(y,x.text==a):=by rw [I3,if_neg (by rw [h];simp),if_pos h2]
theorem AW2 (h:(!Ax y)=false) (h2:(x.op==2)=false) (h3:(decide (x.kids.length<1) || decide (2<x.kids.length))=true):I3 (n+1) x a y=(A6,false):=by rw [I3,if_neg (by rw [h];simp),if_neg (by rw [h2];simp),if_pos h3]
theorem AW3 (h:(!Ax y)=false) (h2:(x.op==2)=false) (h3:(decide (x.kids.length<1) || decide (2<x.kids.length))=false) (h4:((x.kids.length==2)&&decide (0<(Cm (oR x)).length))=true):I3 (n+1) x a y=(A6,false):=by rw [I3,if_neg (by rw [h];simp),if_neg (by rw [h2];simp),if_neg (by rw [h3];simp),if_pos h4]
theorem AW4 (h:(!Ax y)=false) (h2:(x.op==2)=false) (h3:(decide (x.kids.length<1) || decide (2<x.kids.length))=false) (h4:((x.kids.length==2)&&decide (0<(Cm (oR x)).length))=false) (h5:((Cm (eR x)).length==0)=true):I3 (n+1) x a y=(A6,false):=by rw [I3,if_neg (by rw [h];simp),if_neg (by rw [h2];simp),if_neg (by rw [h3];simp),if_neg (by rw [h4];simp),if_pos h5]
theorem qx (h:(!Ax y)=false) (h2:(x.op==2)=false) (h3:(decide (x.kids.length<1) || decide (2<x.kids.length))=false) (h4:((x.kids.length==2)&&decide (0<(Cm (oR x)).length))=false) (h5:((Cm (eR x)).length==0)=false):I3 (n+1) x a y=match Lk x y with
  | none=>(A6,false)
  | some z=>I3 n (eR x) a z:=by rw [I3,if_neg (by rw [h];simp),if_neg (by rw [h2];simp),if_neg (by rw [h3];simp),if_neg (by rw [h4];simp),if_neg (by rw [h5];simp)];rfl
end
theorem AIx (x:Expr) (t:Str) (y:Expr) (Hp:List AObj):AFun Tryz.prog 102 [Ab x,Ac t,Ab y] Hp (Ab (H5 x t y)):=by
 refine Aj [.cell 6 26] [0,1,2] Tryz.func102 Tryz.ntmps102 (fun d=>?_)
 refine Z1 ?_;refine La ?_;refine A2 [1,3,5,6] ?_;refine Z14 ?_;refine Z80 ?_;refine nw ?_;exact A8 (Ai (Ap jA jS)) ⟨by unfold H5;rw [ag],rfl⟩ (hlow:=by have:=Ag Hp.length (H5 x t y);unfold H5 at this;rw [ag] at this;exact this)

set_option maxHeartbeats 2000000 in
theorem c53 (a:Str) (ha:a.length≤1048576):∀(n:Nat) (x y:Expr),sizeE x≤n→Ax x=true→Bq Cw x=true→YOk y→∀Hp:List AObj,AFun Tryz.prog 53 [Ab x,Ac a,Ab y] Hp (.tup [Ab (I3 n x a y).1,At (I3 n x a y).2]):=by
 intro n
 induction n with
 | zero=>exact fun x y h=>by rw [Ds] at h;omega
 | succ n ih =>
 intro x y hs hx hg hy Hp
 have hxs:=(F6 hx).2
 have hcr:=AEy hx hg
 have kz:∀i,sizeE (x.kids.getD i A6)≤1048576:=Pf (by omega)
 refine Aj [.cell 6 26,.tmp 7] [0,1,2] Tryz.func53 Tryz.ntmps53 (fun d=>?_)
 refine ABc ?_;refine A2 [1,3,5,6] ?_;refine Z25 ?_;refine A9 Tryz.call22 (c22 33 y hy.ok (by decide) hy.size _) ?_;refine A4 ?_;refine A2 [1,3,5,6,17] ?_
 refine A3 (fun ht17=>?_) (fun ht17=>?_)
 ·have hm:=AW0 (n:=n) (x:=x) (a:=a) ht17
  refine Z19 ?_;refine D7 18 _ Du ?_;exact AJu
 have hyr:=F6 (show Ax y=true by simpa using ht17)
 refine Nm ?_;refine A2 [1,3,5,6,21] ?_
 refine A3 (fun ht21=>?_) (fun ht21=>?_)
 ·have hm:=AW1 (n:=n) (x:=x) (a:=a) ht17 ht21
  refine Hc [0,0,2,0,14,1,63] [5] [.q 5 [] [],.s [] (some 0) [] []] (fun _=>Hp) (fun B=>[.cells 26 (if B 0=true then B7 y else [A5 0,Ac [],A5 0,A5 0,Ac [],.nil])]) Am (by kernel_rfl) rfl rfl (fun _=>rfl) ?_
  apply Y.q
  ·intro B hT hF
   refine Xu ?_;exact ar
  case hTF=>decide
  refine f7 (u:=Hp.length) (n:=0) (t':=26) (cs:=[A5 0,Ac [],A5 0,A5 0,Ac [],.nil]) (cs':=B7 y) Tryz.sizeOf26 (fun B hT hF hB=>⟨rfl,by simp [hB],by simp [upd],rfl⟩) ?_;refine Hd (tn:=[5]) (O:=[.cells 26 (B7 y)]) ?_;refine AMy ?_;refine Z10 ?_;exact ABt
 refine Z3 ?_;refine O8 ?_;refine Z70 ?_;refine A4 ?_;refine A2 [1,3,5,6,36] ?_
 refine A3 (fun ht36=>?_) (fun ht36=>?_)
 ·have hm:=AW2 (n:=n) (x:=x) (a:=a) ht17 ht21 (by simp only [B8,Dg,decide_eq_true_eq] at ht36 ⊢;omega)
  refine Z19 ?_;refine D7 37 _ Du ?_;exact AJu
 have h36:(decide (x.kids.length<1) || decide (2<x.kids.length))=false:=by simp only [B8,Df,decide_eq_false_iff_not] at ht36 ⊢;omega
 have hkl:1≤x.kids.length∧x.kids.length≤2:=by simp only [Df,decide_eq_false_iff_not] at h36;omega
 have hat:sdR x<x.kids.length:=by unfold sdR;split<;>omega
 have hme:eR x∈x.kids:=by unfold eR;rw [Cz,Ae hat];exact Bb hat
 have hse:=cr hs hme
 have hxe:=Lj hx hme
 have hge:Bq Cw (eR x)=true:=X2 hg _
 refine Z58 ?_;refine A2 [1,3,5,6,8] ?_
 refine Hw ⟨232,Aa 1 (Ac a) (Aa 3 (.ro (B7 x)) (Aa 5 (.ro (B7 y)) (Aa 6 (.ptr (oid Hp.length 0) 0) (Aa 8 (A5 ((sdR x:Nat):Int)) (fun _=>.any))))),Hp,[.cells 26 [A5 0,Ac [],A5 0,A5 0,Ac [],.nil]],[],none⟩ ?_ ?_
 ·refine Z1 ?_
  refine A4 (h:=Ad (0) (Ab (x.kids.getD 0 A6)) (fun _=>Dy (by omega))) (hr:=?_)
  refine A4 ?_;refine A9 Tryz.call100 (ALk (x.kids.getD 0 A6) (kz 0) _) ?_;refine Z0 ?_;refine A2 [1,3,5,6,8,44] ?_
  refine A3 (fun ht44=>?_) (fun ht44=>?_)
  ·have hA:((sdR x:Nat):Int)=(x.kids.length:Int)-1:=by
    have h0:(Cm (x.kids.getD 0 A6)).length=0:=by simpa using ht44
    have:sdR x=x.kids.length-1:=by unfold sdR;rw [h0];rfl
    omega
   refine Z22 ?_
   refine A4 (h:=Q.sub64 (h1:=fun _=>by simp only [B8];omega) (h2:=fun _=>by simp only [B8];omega)) (hr:=?_)
   refine A4 ?_;refine A2 [1,3,5,6,8] ?_;refine Md ?_
   rw [hA]
   first|exact Az rfl|(simp only [B8];exact Az rfl)
  have hA:((sdR x:Nat):Int)=0:=by
   have h0:¬(Cm (x.kids.getD 0 A6)).length=0:=by simpa using ht44
   have:sdR x=0:=by unfold sdR;rw [if_neg (by simpa using h0)]
   omega
  refine Di [1,3,5,6,8] ?_;refine ABk ?_
  rw [hA]
  first|exact Az rfl|(simp only [B8];exact Az rfl)
 refine Z14 ?_
 refine A4 (h:=Ad (sdR x) (Ab (eR x)) (fun _=>Dy hat)) (hr:=?_)
 refine We ?_;refine A2 [1,3,5,6,8,9] ?_;refine Z19 ?_;refine La ?_;refine D7 54 _ Du ?_;refine G4 ?_;refine A2 [1,3,5,6,8,9,10] ?_
 refine W.joinP ⟨232,Aa 1 (Ac a) (Aa 3 (.ro (B7 x)) (Aa 5 (.ro (B7 y)) (Aa 6 (.ptr (oid Hp.length 0) 0) (Aa 8 (A5 ((sdR x:Nat):Int)) (Aa 9 (.ptr (oid Hp.length 1) 0) (Aa 10 (.ptr (oid Hp.length 2) 0) (fun _=>.any))))))),Hp,[.cells 26 [A5 0,Ac [],A5 0,A5 0,Ac [],.nil],.cells 26 (B7 (eR x)),.cells 26 (B7 (cR x))],[],none⟩ (((x.kids.length==2)&&decide (0<(Cm (oR x)).length))=false) ?_ (fun hQ=>?_)
 ·refine Z21 ?_;refine A2 [1,3,5,6,8,9,10,58] ?_
  refine A3 (fun ht58=>?_) (fun ht58=>?_)
  ·have h58:x.kids.length=2:=by simp at ht58;omega
   have hmo:oR x∈x.kids:=by
    have ho:1-sdR x<x.kids.length:=by omega
    unfold oR;rw [Cz,Ae ho];exact Bb ho
   have hor:=Lj hx hmo
   have hC:cR x=B4 (oR x):=if_pos h58
   refine Z46 ?_
   refine A4 (h:=Ad (1-sdR x) (Ab (oR x)) (fun _=>Dy (by omega))) (hr:=?_)
   refine A4 ?_;refine A9 Tryz.call100 (ALk (oR x) (kz _) _) ?_;refine Z0 ?_;refine A2 [1,3,5,6,8,9,10,67] ?_
   refine A3 (fun ht67=>?_) (fun ht67=>?_)
   ·have hm:=AW3 (n:=n) (a:=a) ht17 ht21 h36 (by simp [h58];simpa using ht67)
    refine Z19 ?_;refine D7 68 _ Du ?_;refine ns ?_;exact ABt
   refine Z3 ?_;refine Z29 ?_;refine Z0 ?_
   refine A4 (h:=Ad (1-sdR x) (Ab (oR x)) (fun _=>Dy (by omega))) (hr:=?_)
   refine A4 ?_;refine A9 Tryz.call101 (AVz 30 (oR x) (F6 hor).1 (by decide) (Ik hor) (X2 hg _) (F6 hor).2 (zy hor) _) ?_;refine G4 ?_;refine A2 [1,3,5,6,8,9,10] ?_
   refine K.thJP ?_ ?_
   ·rw [hC];exact Az rfl
   first|(simp [h58];done)|(simp [h58];simpa using ht67)
  have h58:¬x.kids.length=2:=by simp at ht58;omega
  have hC:cR x=A6:=if_neg h58
  refine Di [1,3,5,6,8,9,10] ?_;refine Jf ?_
  refine K.thJP ?_ ?_
  ·rw [hC];exact Az rfl
  first|(simp [h58];done)|(simp [h58];simpa using ht67)
 refine Z25 ?_;refine A9 Tryz.call100 (ALk (eR x) (kz _) _) ?_;refine Z0 ?_;refine A2 [1,3,5,6,8,9,10,79] ?_
 refine A3 (fun ht79=>?_) (fun ht79=>?_)
 ·have hm:=AW4 (n:=n) (a:=a) ht17 ht21 h36 hQ (by simpa using ht79)
  refine Z19 ?_;refine D7 80 _ Du ?_;exact AJu
 refine U9 ?_;refine Z70 ?_;refine Z0 ?_;refine A2 [1,3,5,6,8,9,10,11] ?_;refine Z21 ?_;refine Z70 ?_;refine Z0 ?_;refine A2 [1,3,5,6,8,9,10,11,12] ?_;refine Z16 ?_
 refine Hw ⟨232,Aa 1 (Ac a) (Aa 3 (.ro (B7 x)) (Aa 5 (.ro (B7 y)) (Aa 6 (.ptr (oid Hp.length 0) 0) (Aa 8 (A5 ((sdR x:Nat):Int)) (Aa 9 (.ptr (oid Hp.length 1) 0) (Aa 10 (.ptr (oid Hp.length 2) 0) (Aa 11 (At (qd (cR x) 1)) (Aa 12 (At (qd (cR x) 2)) (Aa 99 (At ((x.op==3) || (x.op==4))) (fun _=>.any)))))))))),Hp,[.cells 26 [A5 0,Ac [],A5 0,A5 0,Ac [],.nil],.cells 26 (B7 (eR x)),.cells 26 (B7 (cR x))],[],none⟩ ?_ ?_
 ·refine Z21 ?_;refine A2 [1,3,5,6,8,9,10,11,12,99] ?_
  refine A3 (fun ht99=>?_) (fun ht99=>?_)
  ·refine Di [1,3,5,6,8,9,10,11,12,99] ?_;refine ABk ?_
   rw [ht99];exact Az rfl
  refine Z29 ?_;refine Z0 ?_;refine A2 [1,3,5,6,8,9,10,11,12,99] ?_;refine Md ?_
  rw [ht99];exact Az rfl
 refine A3 (fun ht99=>?_) (fun ht99=>?_)
 ·have hu:=show Lk x y=_ from if_pos ht99
  have hm:=(qx (n:=n) (a:=a) ht17 ht21 h36 hQ (by simpa using ht79)).trans (by rw [hu])
  have r1:=ih (eR x) (.mk x.op [] noV [y]) hse hxe hge (YOk.one (Av _) hyr)
  simp only [To] at r1
  refine fh ?_;refine Z80 ?_;refine A9 Tryz.call53 (r1 _) ?_;refine Z0 ?_;exact AKl
 refine O7 ?_;refine A2 [1,3,5,6,8,9,10,11,12,116] ?_
 refine A3 (fun ht116=>?_) (fun ht116=>?_)
 ·have hu:=show Lk x y=_ from (if_neg (D6.1 ht99)).trans (if_pos ht116)
  have hm:=(qx (n:=n) (a:=a) ht17 ht21 h36 hQ (by simpa using ht79)).trans (by rw [hu])
  have r1:=ih (eR x) (Eo qb [y]) hse hxe hge (YOk.one (by decide) hyr)
  simp only [Eo,To] at r1
  refine Z14 ?_;refine Z80 ?_;refine A9 Tryz.call53 (r1 _) ?_;refine Z0 ?_;exact AKl
 refine O7 ?_;refine U7 ?_;refine A2 [1,3,5,6,8,9,10,11,12,133] ?_
 refine A3 (fun ht133=>?_) (fun ht133=>?_)
 ·have hu:=show Lk x y=_ from (if_neg (D6.1 ht99)).trans ((if_neg (D6.1 ht116)).trans (if_pos ht133))
  have hm:=(qx (n:=n) (a:=a) ht17 ht21 h36 hQ (by simpa using ht79)).trans (by rw [hu])
  have r1:=ih (eR x) (H5 y [45] (cR x)) hse hxe hge (YOk.bin (by decide) hyr hcr)
  refine AK7 ?_;refine Cd Tryz.call102 (AIx y [45] (cR x) _) ?_;exact AFz
 refine O7 ?_;refine wd ?_;refine Z0 ?_;refine A2 [1,3,5,6,8,9,10,11,12,153] ?_
 refine A3 (fun ht153=>?_) (fun ht153=>?_)
 ·have hu:=show Lk x y=_ from (if_neg (D6.1 ht99)).trans ((if_neg (D6.1 ht116)).trans ((if_neg (D6.1 ht133)).trans (if_pos ht153)))
  have hm:=(qx (n:=n) (a:=a) ht17 ht21 h36 hQ (by simpa using ht79)).trans (by rw [hu])
  have r1:=ih (eR x) (H5 y [43] (cR x)) hse hxe hge (YOk.bin (by decide) hyr hcr)
  refine AK7 ?_;refine Cd Tryz.call102 (AIx y [43] (cR x) _) ?_;exact AFz
 refine O7 ?_;refine U7 ?_;refine A2 [1,3,5,6,8,9,10,12,177] ?_
 refine A3 (fun ht177=>?_) (fun ht177=>?_)
 ·have hu:=show Lk x y=_ from (if_neg (D6.1 ht99)).trans ((if_neg (D6.1 ht116)).trans ((if_neg (D6.1 ht133)).trans ((if_neg (D6.1 ht153)).trans (if_pos ht177))))
  have hm:=(qx (n:=n) (a:=a) ht17 ht21 h36 hQ (by simpa using ht79)).trans (by rw [hu])
  have r1:=ih (eR x) (H5 (cR x) [45] y) hse hxe hge (YOk.bin (by decide) hcr hyr)
  refine AK7 ?_;refine Cd Tryz.call102 (AIx (cR x) [45] y _) ?_;exact AFz
 refine O7 ?_;refine U7 ?_;refine A2 [1,5,6,8,9,10,197] ?_
 refine A3 (fun ht197=>?_) (fun ht197=>?_)
 ·refine Z2 ?_;refine A2 [1,5,6,8,9,10,13] ?_
  refine Hw ⟨232,Aa 1 (Ac a) (Aa 5 (.ro (B7 y)) (Aa 6 (.ptr (oid Hp.length 0) 0) (Aa 9 (.ptr (oid Hp.length 1) 0) (Aa 10 (.ptr (oid Hp.length 2) 0) (Aa 13 (Ac (if ((sdR x:Nat):Int)=1 then Rv else Zf)) (fun _=>.any)))))),Hp,[.cells 26 [A5 0,Ac [],A5 0,A5 0,Ac [],.nil],.cells 26 (B7 (eR x)),.cells 26 (B7 (cR x))],[],none⟩ ?_ ?_
  ·refine Z1 ?_;refine A2 [1,5,6,9,10,13,210] ?_
   refine A3 (fun ht210=>?_) (fun ht210=>?_)
   ·refine Z48 ?_;refine A2 [1,5,6,9,10,13] ?_;refine Md ?_
    first|(rw [if_pos (by simpa using ht210)];exact Az rfl)|(rw [if_neg (by simpa using ht210)];exact Az rfl)
   refine Di [1,5,6,9,10,13] ?_;refine ABk ?_
   first|(rw [if_pos (by simpa using ht210)];exact Az rfl)|(rw [if_neg (by simpa using ht210)];exact Az rfl)
  refine Z21 ?_;refine Wg ?_;refine Wh ?_;refine La ?_;refine D7 216 _ (K6 1 [] ⟨1,((cR x).val.s.length:Int),[]⟩) ?_;refine G4 ?_;refine A2 [1,5,6,9,13,14] ?_
  have hu:=show Lk x y=_ from (if_neg (D6.1 ht99)).trans ((if_neg (D6.1 ht116)).trans ((if_neg (D6.1 ht133)).trans ((if_neg (D6.1 ht153)).trans ((if_neg (D6.1 ht177)).trans (if_pos ht197)))))
  have hm:=(qx (n:=n) (a:=a) ht17 ht21 h36 hQ (by simpa using ht79)).trans (by rw [hu])
  have r1:=ih (eR x) (Eo (if ((sdR x:Nat):Int)=1 then Rv else Zf) [y,H5 (Eo Wk [y]) [45] (Ei ⟨1,((cR x).val.s.length:Int),[]⟩)]) hse hxe hge (YOk.join (by split<;>decide) hyr)
  simp only [Eo,To,ag] at r1
  have b1:=AIx (Eo Wk [y]) [45] (Ei ⟨1,((cR x).val.s.length:Int),[]⟩)
  simp only [Eo,To] at b1
  refine C3 [0,0,0,0,0,16,48,0,240,504,1020,2047,4095,4095,16383,32767] 14 Am (by kernel_rfl) ?_;refine Xu ?_;refine ANw ?_;refine Aq ?_;refine Cd Tryz.call102 (b1 _) ?_;refine ANw ?_;exact AFz
 refine Z18 ?_
 have hu:=show Lk x y=_ from (if_neg (D6.1 ht99)).trans ((if_neg (D6.1 ht116)).trans ((if_neg (D6.1 ht133)).trans ((if_neg (D6.1 ht153)).trans ((if_neg (D6.1 ht177)).trans (if_neg (D6.1 ht197))))))
 have hm:=(qx (n:=n) (a:=a) ht17 ht21 h36 hQ (by simpa using ht79)).trans (by rw [hu])
 refine Z19 ?_;refine D7 231 _ Du ?_;refine jb ?_;exact ABt

theorem c33 (s:Str) (hs:s.length≤1048576) (hcl:∀n Dv,n≤30→DeepC (Ey s).1 Dv n→cp (Ey s).1 Dv n) (Hp:List AObj):AFun Tryz.prog 33 [Ac s] Hp (.tup [Ab (J2 s).1,.agg [A5 (J2 s).2.1,A5 (J2 s).2.2]]):=by
 refine Aj [.cell 2 26,.cell 3 69] [0] Tryz.func33 Tryz.ntmps33 (fun d=>?_)
 refine Z34 ?_;refine La ?_;refine A2 [0,2,3] ?_;refine Z2 ?_;refine A9 Tryz.call71 (c71 s hs _) ?_;refine Z11 ?_;refine ANc ?_;refine Sp ?_;refine Z31 ?_;refine A2 [2,3,4,5,15] ?_
 refine A3 (fun ht15=>?_) (fun ht15=>?_)
 ·have e:J2 s=(A6,(Ey s).2.1,((Ey s).2.2:Int)):=if_pos ht15
  refine Hc [0,0,1,7] [2] [.q 2 [] [],.s [] (some 0) [] []] (fun _=>Hp) (fun _=>[.cells 26 [A5 0,Ac [],A5 0,A5 0,Ac [],.nil],.cells 69 [A5 0,A5 0],.cells 69 [A5 (Ey s).2.1,A5 ((Ey s).2.2:Nat)]]) Am (by kernel_rfl) rfl rfl (fun _=>rfl) ?_
  apply Y.q
  ·intro B hT hF
   exact ANh
  case hTF=>decide
  refine AN1 ?_;refine AFs ?_;exact AJx
 have e0:¬((Ey s).2.1 != 0)=true:=by rw [ht15];simp
 have hz:(Ey s).2.1=0:=by simpa using ht15
 have hle:=s9 hz
 have hlen:=sq hz
 have hpos:=hle.pos
 refine Z58 ?_
 refine A9 Tryz.call72 (c72 (Ey s).1 0 hpos hle (by have:=hlen;omega) hcl _) ?_
 refine Z72 ?_;refine La ?_;refine Z6 ?_;refine G4 ?_;refine wq ?_;refine Z31 ?_;refine A2 [2,3,4,5,6,7,26] ?_
 refine A3 (fun ht26=>?_) (fun ht26=>?_)
 ·have e:J2 s=(A6,(atM (Ey s).1 0).2.2.1,(atM (Ey s).1 0).2.2.2):=by unfold J2 gq;rw [if_neg e0,if_pos ht26]
  refine Hc [0,0,1,7] [2] [.q 2 [] [],.s [] (some 0) [] []] (fun _=>Hp) (fun _=>[.cells 26 [A5 0,Ac [],A5 0,A5 0,Ac [],.nil],.cells 69 [A5 0,A5 0],.cells 69 [A5 (atM (Ey s).1 0).2.2.1,A5 (atM (Ey s).1 0).2.2.2],.cells 26 (B7 (atM (Ey s).1 0).1)]) Am (by kernel_rfl) rfl rfl (fun _=>rfl) ?_
  apply Y.q
  ·intro B hT hF
   exact ANh
  case hTF=>decide
  refine AN1 ?_;refine AFs ?_;exact AJx
 have e1:¬((atM (Ey s).1 0).2.2.1 != 0)=true:=by rw [ht26];simp
 obtain ⟨k,hk0,hk⟩:=AH6 hle (by omega) hpos (show (atM (Ey s).1 0).2.2.1=0 by simpa using ht26)
 have hkt:(atM (Ey s).1 0).2.1.toNat=k:=by rw [hk0];simp
 rw [hk0]
 refine Re ?_
 refine A4 (h:=Ad (k) (Ls (B1 (Ey s).1 k)) (fun _=>Up hk)) (hr:=?_)
 refine Z11 ?_;refine A2 [2,3,4,6,7,34] ?_
 refine A3 (fun ht34=>?_) (fun ht34=>?_)
 ·have e:J2 s=(A6,8,((B1 (Ey s).1 k).at_:Int)):=by unfold J2 gq;rw [if_neg e0,if_neg e1,hkt,if_pos ht34]
  refine Hc [0,0,0,6,14,30,62,1,255] [7] [.q 7 [] [],.s [] (some 0) [] []] (fun _=>Hp) (fun _=>[.cells 26 [A5 0,Ac [],A5 0,A5 0,Ac [],.nil],.cells 69 [A5 0,A5 0],.cells 69 [A5 (atM (Ey s).1 0).2.2.1,A5 (atM (Ey s).1 0).2.2.2],.cells 26 (B7 (atM (Ey s).1 0).1)]) Am (by kernel_rfl) rfl rfl (fun _=>rfl) ?_
  apply Y.q
  ·intro B hT hF
   refine ABq ?_;refine Z9 ?_
   refine Aq (h:=Ad (k) (Ls (B1 (Ey s).1 k)) (fun _=>Up hk)) (hr:=?_)
   refine Z9 ?_;exact AJy
  case hTF=>decide
  refine AKs ?_;refine Hd (tn:=[7])  ?_;refine AFs ?_;exact AJx
 have e:J2 s=((atM (Ey s).1 0).1,0,0):=by unfold J2 gq;rw [if_neg e0,if_neg e1,hkt,if_neg (by rw [ht34];simp)]
 refine Z58 ?_;refine jm ?_;refine AFu ?_;refine nu ?_;exact A8 (As (Ap jA jS) (Ap jA jS)) ⟨by rw [e,Af]<;>rfl,rfl⟩ (hlow:=by have:=low_agg (n:=Hp.length) (atM (Ey s).1 0).1;simp at this ⊢;exact this)

/-! The chapter's example. -/
theorem AW5 (s:Str) (hs:s.length≤1048576) (Hp:List AObj):AFun Tryz.prog 33 [Ac s] Hp (.tup [Ab (J2 s).1,.agg [A5 (J2 s).2.1,A5 (J2 s).2.2]]):=by
 by_cases h:(Ey s).2.1=0
 ·exact c33 s hs (fun n Dv hn hd=>y6 (s9 h) (by have:=sq h;omega) n Dv hn hd) Hp
 refine c33 s hs (fun n Dv hn hd=>?_) Hp
 intro o Hp S t ho hi hS ht hop
 have:(Ey s).1=[]:=by
  unfold Ey at h ⊢
  split
  ·rfl
  rename_i h4
  rw [if_neg h4] at h
  cases hf:(Cv s).find? (fun it=>it.2 != 0) with
  | some it=>rfl
  | none=>rw [hf] at h;exact absurd rfl h
 rw [this] at hi
 cases hi
def iS:Str:=[115,116,114,40,49,48,32,45,32,97,41]
def iX:Expr:=Eo lm [H5 (Ei ⟨1,10,[]⟩) [45] (Bh [97])]
def iY:Expr:=H5 (Ei ⟨1,10,[]⟩) [45] (Eo qb [Bh [98]])
theorem AIy:J2 iS=(iX,0,0):=by kernel_rfl
theorem AW6:ofI iX [97] [98]=some iY:=by kernel_rfl
theorem AMp:W0 iY=([49,48,32,45,32,110,117,109,40,98,41],0):=by kernel_rfl
theorem ARh:okE 30 iX:=(F6 (by kernel_rfl)).1
theorem ARi:okE 30 iY:=(F6 (by kernel_rfl)).1
theorem i_p (Hp:List AObj):AFun Tryz.prog 33 [Ac iS] Hp (.tup [Ab iX,.agg [A5 0,A5 0]]):=by
 have:=AW5 iS (by decide) Hp
 rwa [AIy] at this
theorem i_o (Hp:List AObj):AFun Tryz.prog 14 [Ab iX,Ac [97],Ac [98]] Hp (.tup [Ab iY,At true]):=by
 have:=c14 30 iX ARh (by decide) (by kernel_rfl) [97] [98] (by decide) (by decide) Hp
 rwa [AW6] at this
theorem i_s (Hp:List AObj):AFun Tryz.prog 34 [Ab iY] Hp (.tup [Ac [49,48,32,45,32,110,117,109,40,98,41],A5 0]):=by
 have:=c34 30 iY ARi (by decide) (by kernel_rfl) Hp
 rwa [AMp] at this
/-- What peel makes is in range. -/
theorem AF0 {o:Int} {t:Str} {k:List Expr} (h:∀e∈k,Bq Cw e=true):Bq Cw (.mk o t noV k)=true:=by
 rw [Cb,Ah]
 exact ⟨rfl,(Bd _ _).2 h⟩
theorem mn {v:Val} (h0 : -9223372036854775808≤v.n) (h1:v.n≤9223372036854775807):Bq Cw (Ei v)=true:=by
 rw [Cb,Ah]
 refine ⟨?_,rfl⟩
 unfold Cw
 simp only [Ah,decide_eq_true_eq]
 exact ⟨h0,h1⟩
theorem AF1 {x y:Expr} {p:Expr×Expr} (hn:Bq Ch x=true) (hx:Bq Cw x=true) (hy:Bq Cw y=true) (hp:Hu x y=some p):Bq Ch p.1=true∧Bq Cw p.1=true∧Bq Cw p.2=true:=by
 have hn0:=hn
 have hx0:=hx
 rw [Cb,Ah] at hn0 hx0
 unfold Hu at hp
 cases ha:Gf x with
 | none=>rw [ha] at hp;cases hp
 | some s =>
  rw [ha] at hp
  simp only at hp
  cases hu:Li x s y with
  | none=>rw [hu] at hp;cases hp
  | some z =>
   rw [hu] at hp
   simp only at hp
   split at hp
   ·injection hp with hp
    subst hp
    have hk:=gz ha
    refine ⟨(Bd _ _).1 hn0.2 _ hk,(Bd _ _).1 hx0.2 _ hk,?_⟩
    show Bq Cw z=true
    have two:∀{t:Str} {o:Int} {a b:Expr},Bq Cw a=true→Bq Cw b=true→Bq Cw (.mk o t noV [a,b])=true:=@fun t o a b h1 h2=>AF0 (fun e he=>by
     have he:e=a∨e=b:=by simpa using he
     rcases he with rfl|rfl
     ·exact h1
     exact h2)
    have one:∀{t:Str} {o:Int},Bq Cw (.mk o t noV [y])=true:=@fun t o=>AF0 (fun e he=>by rw [Br.1 he];exact hy)
    have hc:∀{k:Int} {w:Val},Nw s.c k=some w→Fine w:=@fun k w h=>by
     rcases Vz ha with e|⟨e,_⟩|⟨e,_⟩
     ·have hz:s.c=A6:=by
       unfold Gf at ha
       rw [e] at ha
       simp only at ha
       split at ha
       ·injection ha with ha;rw [←ha]
       cases ha
      rw [hz] at h
      unfold Nw at h
      have hr:Ar A6=false:=by kernel_rfl
      rw [hr] at h
      simp at h
     ·have hin:s.c∈x.kids:=by rw [e];simp
      exact APr
     have hin:s.c∈x.kids:=by rw [e];simp
     exact APr
    unfold Li at hu
    split at hu
    ·injection hu with hu;rw [←hu];exact one
    split at hu
    ·injection hu with hu;rw [←hu];exact one
    split at hu
    ·unfold ADj at hu
     split at hu
     ·cases hu
     rename_i w hw
     have fw:=hc hw
     have rv:=mn fw.lo fw.hi
     injection hu with hu
     rw [←hu]
     repeat' split
     ·exact two hy rv
     ·exact two rv hy
     exact two hy rv
    split at hu
    ·unfold ln at hu
     split at hu
     ·cases hu
     rename_i w hw
     have fw:=(hc hw).len
     injection hu with hu
     rw [←hu]
     exact two hy (two one (mn (by show _≤((w.s.length:Nat):Int);omega) (by show ((w.s.length:Nat):Int)≤_;omega)))
    cases hu
   cases hp
theorem mo:∀(n:Nat) (x y:Expr),Bq Ch x=true→Bq Cw x=true→Bq Cw y=true→Bq Cw (Gg n x y).2=true
 | 0,_,_,_,_,h=>h
 | n+1,x,y,hn,hx,h=>by
  rw [Gg]
  split
  ·exact h
  split
  ·exact h
  rename_i p hp
  obtain ⟨a,b,c⟩:=AF1 hn hx h hp
  exact mo n p.1 p.2 a b c
theorem Tp {x:Expr} {a b:Str} {y:Expr} (hg:Bq Cw x=true) (h:ofI x a b=some y):Ar x=true∧Ar y=true∧Bq Cw y=true:=by
 unfold ofI at h
 split at h
 ·cases h
 rename_i h0
 simp only [dt,Df,Ka] at h0
 split at h
 ·injection h with h
  rw [←h]
  exact ⟨h0.1.1,Zi _ _ _ (by rw [Nq];exact h0.2),mo _ _ _ (Ik (by rw [←C4];exact h0.1.1)) hg rfl⟩
 cases h
theorem c8 (Hp:List AObj):AFun Tryz.prog 8 [] Hp (At true):=by
 refine Aj [.tmp 0] [] Tryz.func8 Tryz.ntmps8 (fun d=>?_)
 refine Z2 ?_;refine A2 [] ?_;refine E9 ?_;refine A9 Tryz.call33 (i_p _) ?_;refine Z53 ?_;refine ABh ?_;refine A2 [1,2] ?_;refine Z2 ?_;refine A9 Tryz.call14 (i_o _) ?_;refine Z94 ?_;refine Wj ?_;refine Z2 ?_;refine A9 Tryz.call34 (i_s _) ?_;refine L9 ?_;refine A2 [2,4,5,6] ?_;refine fg ?_;refine Z42 ?_;refine Z42 ?_;refine Z0 ?_;refine A2 [0] ?_;refine Fg ?_;exact wl

/-- sound.Check. -/
def H2 (c:List Col) (l:List Mov):Int×Int:=if V2 c l then (((Ej c l).1.length-1:Nat),(Ej c l).2) else (0,1)
theorem AIz {c:List Col} {ms:List Mov} {k:Nat} {m:Mov} (hk:ms[k]? = some m) (h:NS c ms k) (he:(Do (colsAt c ms k) m).2≠0):(Ej c ms).1.length=k+1:=by
 unfold NS at h
 rw [h,Tj hk,Ej,if_pos (by simpa using he)]
 have:=N0 c ms k
 simp [this]
theorem zz {c:List Col} {l:List Mov} (h:V2 c l=false):H2 c l=(0,1):=if_neg (by rw [h];simp)
theorem AA0 {c:List Col} {l:List Mov} (h:V2 c l=true) (hr:Ej c l=(F9 c l l.length,0)):H2 c l=((l.length:Int),0):=by
 unfold H2
 rw [if_pos h,hr]
 simp only [N0]
 rfl
theorem qy {c:List Col} {l:List Mov} {n:Nat} {e:Int} (h:V2 c l=true) (h1:(Ej c l).1.length=n+1) (h2:(Ej c l).2=e):H2 c l=((n:Int),e):=by
 unfold H2
 rw [if_pos h,h1,h2]
 rfl
theorem c59 (c:List Col) (hc:OkCols c) (hc2:c.length≤1000000) (l:List Mov) (h:OkMovs l) (Hp:List AObj):AFun Tryz.prog 59 [B0 c,Gi l] Hp (.tup [A5 (H2 c l).1,A5 (H2 c l).2]):=by
 refine Aj [.cell 4 3,.cell 5 35] [0,1] Tryz.func59 Tryz.ntmps59 (fun d=>?_)
 refine Z34 ?_;refine La ?_;refine A2 [0,1,4,5] ?_;refine Z8 ?_;refine A9 Tryz.call92 (c92 c hc l h _) ?_;refine A4 ?_;refine A2 [0,1,4,5,12] ?_
 refine A3 (fun ht12=>?_) (fun ht12=>?_)
 ·have hm:=zz (by simpa using ht12)
  refine E9 ?_;refine AFu ?_;refine Z68 ?_;exact A8 (As (L5 jA) (L5 jA)) ⟨by rw [hm]<;>rfl,rfl⟩
 have hmay:V2 c l=true:=by simpa using ht12
 obtain ⟨hmv,hl8⟩:=AE3 hmay h
 refine Xr ?_;refine Z17 ?_;refine A2 [0,1,4,5,6] ?_;refine Z89 ?_
 refine L8 (fun hlow=>?_)
 refine Z0 ?_;refine R.callO Tryz.call94 (c94 c l _) ?_
 rintro _ _ ⟨rfl,rfl⟩
 refine ⟨[.cells 27 [B0 c]],by simp,?_⟩
 rw [show oid (Hp++[AObj.cells 3 [A5 0],AObj.cells 35 [A5 0],AObj.cells 3 [A5 0]]).length 0=oid Hp.length 3 by simp [oid]]
 simp only [Ef,Dx]
 refine A2 [4,5,6,15] ?_;refine J6 ?_
 refine Nh (m:=4) Tryz.call143 (fun FR as' bd' hFR has hbd=>?_)
 have hFRl:∀s,Low (Hp.length+6) (FR s):=by
  intro s
  rw [hFR]
  refine Og ?_
  revert s
  repeat (first|exact By|refine Bx (by first|(simp [oid,or_imp,forall_and];done)|(simp [oid,or_imp,forall_and];exact ⟨fun m _ a _=>Ag _ a,fun m _ a _=>Ag _ a⟩)|(simp [oid,or_imp,forall_and]<;>omega)) ?_)
 have hOl:∀{n e k:Int} {q:List Col} {lp:AObj},ObjLow (Hp.length+6) lp→∀x∈Hp++[AObj.cells 3 [A5 n],AObj.cells 35 [A5 e],AObj.cells 3 [A5 k],AObj.cells 27 [B0 (q)],AObj.defs,lp],ObjLow (Hp.length+6) x:=by
  intro n e k q lp hlp x hx
  refine Lz (fun x hx=>P4 (by omega) (hlow x hx)) (fun x hx=>?_) x hx
  simp only [C0,Fb,or_false] at hx
  rcases hx with rfl|rfl|rfl|rfl|rfl|rfl
  ·intro y hy;rw [Br.1 hy];simp
  ·intro y hy;rw [Br.1 hy];simp
  ·intro y hy;rw [Br.1 hy];simp
  ·intro y hy;rw [Br.1 hy];exact Io
  ·trivial
  exact hlp
 refine ⟨_,AVg (oid Hp.length 5) (oid Hp.length 3) l hmv (by omega) (colsAt c l) (Qg hc fun m hm=>h.each m hm) (fun k=>Hp++[AObj.cells 3 [A5 0],AObj.cells 35 [A5 0],AObj.cells 3 [A5 (k:Int)],AObj.cells 27 [B0 (colsAt c l k)],AObj.defs,AObj.loop LoopState.ready none FR 25 #[16,17] as' bd' (oid Hp.length 4)]) (fun k=>Hp++[AObj.cells 3 [A5 0],AObj.cells 35 [A5 0],AObj.cells 3 [A5 ((k+1:Nat):Int)],AObj.cells 27 [B0 (colsAt c l k)],AObj.defs,AObj.loop LoopState.ready none FR 25 #[16,17] as' bd' (oid Hp.length 4)]) (NS c l) (fun V=>(∃(q:List Col),V=Hp++[AObj.cells 3 [A5 0],AObj.cells 35 [A5 0],AObj.cells 3 [A5 (l.length:Int)],AObj.cells 27 [B0 (q)],AObj.defs,AObj.loop LoopState.ready none FR 25 #[16,17] as' bd' (oid Hp.length 4)]∧Ej c l=(F9 c l l.length,0))∨(∃(e:Int) (n:Nat) (q:List Col),V=Hp++[AObj.cells 3 [A5 (n:Int)],AObj.cells 35 [A5 e],AObj.cells 3 [A5 (n:Int)],AObj.cells 27 [B0 (q)],AObj.defs,AObj.loop LoopState.done (some Code.ret) FR 25 #[16,17] as' bd' (oid Hp.length 4)]∧e≠0∧(Ej c l).2=e∧(Ej c l).1.length=n+1)) (fun k=>by simp) (fun k=>by simp) (by simp [oid]) (by simp [oid]) (fun k=>(fun x hx=>by rw [Aw];exact hOl (lp:=AObj.loop LoopState.ready none FR 25 #[16,17] as' bd' (oid Hp.length 4)) (by exact ⟨hFRl,by simp [oid]⟩) x hx)) (fun k=>(fun x hx=>by rw [Aw];exact hOl (lp:=AObj.loop LoopState.ready none FR 25 #[16,17] as' bd' (oid Hp.length 4)) (by exact ⟨hFRl,by simp [oid]⟩) x hx)) AQu (fun k=>by rw [Bv];rfl) (fun k=>by rw [Bv];rfl) (fun k m hk he=>by rw [Fu];simp only [V4 hk];rfl) (fun k m X hk hN=>?_) (fun hN=>.inl ⟨_,rfl,AE1 hN⟩),?_⟩
 ·generalize hV:Hp++[AObj.cells 3 [A5 0],AObj.cells 35 [A5 0],AObj.cells 3 [A5 (k:Int)],AObj.cells 27 [B0 (colsAt c l k)],AObj.defs,AObj.loop LoopState.ready none FR 25 #[16,17] as' bd' (oid Hp.length 4)]++X=V
  have hL:V[oid Hp.length 5]? = some (AObj.loop LoopState.ready none FR 25 #[16,17] as' bd' (oid Hp.length 4)):=by rw [←hV,C1,Bv];rfl
  have hA0:V[oid Hp.length 2]? = some (AObj.cells 3 [A5 (k:Int)]):=by rw [←hV,C1,Bv];rfl
  have hB0:V[oid Hp.length 0]? = some (AObj.cells 3 [A5 0]):=by rw [←hV,C1,Bv];rfl
  have hC0:V[oid Hp.length 1]? = some (AObj.cells 35 [A5 0]):=by rw [←hV,C1,Bv];rfl
  refine Na (pd:=none) (fr:=FR) (sz:=25) (ps:=#[16,17]) (df:=oid Hp.length 4) (asg:=as') (bd:=bd') hL rfl (by decide) (fun d=>?_)
  subst hFR has hbd
  refine Di [4,5,6,17] ?_;refine Z48 ?_;refine A2 [4,5,6,8] ?_
  refine ⟨rfl,none,hL,?_⟩
  generalize hbz:(AObj.loop LoopState.busy _ _ _ _ _ _ _)=bz
  have hA:(V.set (oid Hp.length 5) bz)[oid Hp.length 2]? = some (AObj.cells 3 [A5 (k:Int)]):=by rw [F8 (E8 (by decide))];exact hA0
  have hB:(V.set (oid Hp.length 5) bz)[oid Hp.length 0]? = some (AObj.cells 3 [A5 0]):=by rw [F8 (E8 (by decide))];exact hB0
  have hC:(V.set (oid Hp.length 5) bz)[oid Hp.length 1]? = some (AObj.cells 35 [A5 0]):=by rw [F8 (E8 (by decide))];exact hC0
  refine J6 ?_;refine Z8 ?_;refine A2 [4,5,6,8,19] ?_
  refine A3 (fun ht19=>?_) (fun ht19=>?_)
  ·have he:(Do (colsAt c l k) m).2≠0:=by simpa using ht19
   refine E9 ?_
   refine A4 (h:=Fi hA) (hr:=?_)
   refine A4 ?_
   refine Hb jS hB ?_ ?_
   ·simp
   refine Hb jS (AM7 hC (E8 (by decide))) ?_ ?_
   ·simp
   refine A2 [] ?_;refine nz ?_
   subst hbz
   refine K.rdR (rm hL (E8 (by decide)) (E8 (by decide))) ?_
   refine .inl ⟨he,Hp++[AObj.cells 3 [A5 (k:Int)],AObj.cells 35 [A5 (Do (colsAt c l k) m).2],AObj.cells 3 [A5 (k:Int)],AObj.cells 27 [B0 (colsAt c l k)],AObj.defs,_],?_,by simp,(fun x hx=>by rw [Aw];exact hOl (lp:=_) (by exact ⟨hFRl,by simp [oid]⟩) x hx),.inr ⟨_,_,_,rfl,he,AM6 hk hN he,AIz hk hN he⟩⟩
   subst hV
   simp only [C1,Fu,Ef,Dx,List.set_cons_succ,List.set_cons_zero]
  have he:(Do (colsAt c l k) m).2=0:=by simpa using ht19
  refine Z3 ?_;refine Kd ?_
  refine A4 (h:=Fi hA) (hr:=?_)
  refine A4 (h:=Q.add64 (h2:=fun _=>by have hkl:=(Ak.1 hk).1;omega)) (hr:=?_)
  refine Hb jS hA ?_ ?_
  ·simp
  refine fe ?_
  subst hbz
  refine AG9 ?_
  refine .inr ⟨he,rfl,tz hk hN he,?_⟩
  subst hV
  simp only [C1,Fu,Ef,Dx,List.set_cons_succ,List.set_cons_zero]
  rfl
 rintro r H' (⟨q,rfl,hrun⟩|⟨e,n,q,rfl,hne,hrun,hlen⟩)
 ·refine ⟨Hp,_,_,_,rfl,rfl,fun h=>h,?_,rfl,by simp,?_⟩
  ·intro o ho
   have:o=oid Hp.length 4:=by simpa using ho
   subst this
   rw [Bv]
   rfl
  refine Z12 ?_;refine Z2 ?_;refine AFu ?_;refine Z73 ?_;exact A8 (As (L5 jA) (L5 jA)) ⟨by rw [AA0 hmay hrun],rfl⟩
 refine ⟨Hp,_,_,_,rfl,rfl,fun h=>h,?_,rfl,by simp,?_⟩
 ·intro o ho
  have:o=oid Hp.length 4:=by simpa using ho
  subst this
  rw [Bv]
  rfl
 refine Z13 ?_;exact A8 (As (L5 jA) (L5 jA)) ⟨by rw [qy hmay hlen hrun],rfl⟩

/-! mig.Parse: the first fault is thrown. -/
end Go.SX.Nb
namespace Go.SX
variable [GI:GlobInv]
open Classical
section
variable {P:Program} {d:Nat}
variable {sz:Nat} {dfs:List Nat} {rnd:Option Nat} {l0:List Oper} {up own:(Nat→Bool)→List AObj} {KP:List PanicEntry→St→Prop} {E:List Oper→(Nat→AV)→Prop} {S:List SegY} {l:List Oper} {fr:Nat→AV} {ty:TypeId} {pos:String} {aft:Array Edge} {s:Nat} {T F:List Nat}
end
section
variable {P:Program} {d:Nat} {ops:Array Oper}
end
end Go.SX
