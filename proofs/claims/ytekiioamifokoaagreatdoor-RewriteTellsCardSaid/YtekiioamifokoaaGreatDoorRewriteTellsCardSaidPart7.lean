/- On the way (part 7). -/
import Derived.Lib.SliceRun
import Derived.Test.YtekiioamifokoaaGreatDoorRewriteTellsCardSaidPart6
set_option linter.all false
namespace Go.SX.Nb
open Go Go.SX Go.Proofs
variable [ErrAt]
set_option maxRecDepth 4000
theorem F6 {ks:List Int} {i:Nat} (h:i<ks.length):(ks.map A4)[i]? = some (A4 (ks.getD i 0)):=by
 rw [Ch,Ac h,Cq,Ac h]
 rfl
theorem AI8 {e:Expr} (h:E5 e=true) (h3:(e.op==3)=true):e.kids.length=1:=by
 have h3':e.op=3:=by simpa using h3
 have:=N4 h (by rw [h3'];rfl) (by rw [h3'];rfl)
 rw [←this,h3'];rfl
theorem AI9 {e:Expr} (h:E5 e=true) (h4:(e.op==4)=true):e.kids.length=1:=by
 have h4':e.op=4:=by simpa using h4
 have:=N4 h (by rw [h4'];rfl) (by rw [h4'];rfl)
 rw [←this,h4'];rfl
theorem fw {e:Expr} (h:E5 e=true) (h5:(e.op==5)=true):e.kids.length=2:=by
 have h5':e.op=5:=by simpa using h5
 have:=N4 h (by rw [h5'];rfl) (by rw [h5'];rfl)
 rw [←this,h5']
 exact Rp _
theorem AIa {e:Expr} (h:E5 e=true) (h1:(e.op==1)=false) (h2:(e.op==2)=false) (h3:(e.op==3)=false) (h4:(e.op==4)=false) (h5:(e.op==5)=false):e.kids.length=(Ft e.text).kids.length:=by
 have:=N4 h h1 h2
 rw [←this]
 unfold Qt
 rw [h3,h4,h5]
 rfl
theorem AEg {a b:Bool} (h:(a&&b)=true):a=true:=by cases a<;>simp_all
theorem AOz (c:List Col) (hc:OkCols c):∀(n:Nat) (e:Expr),okE n e→F7 E5 e=true→∀Hp:List AObj,AFun Tryz.prog 137 [A7 e,Ai c] Hp (.tup [A4 (Ey c e).1,A4 (Ey c e).2]):=by
 intro n
 induction n with
 | zero=>exact fun e h=>h.elim
 | succ n ih =>
 intro e hok hnd Hp
 have hnd0:=hnd
 rw [Ht,Az] at hnd0
 refine Ah [.tmp 4,.tmp 5] [0,1] Tryz.func137 Tryz.ntmps137 (fun d=>?_)
 refine zn ?_;refine Z30 ?_;refine A2 [1,2,17] ?_
 refine A3 (fun ht17=>?_) (fun ht17=>?_)
 ·have hk:=ku (c:=c) ht17
  refine Z1 ?_;refine Z8 ?_;exact AGw
 refine np ?_;refine A2 [1,2,23] ?_
 refine A3 (fun ht23=>?_) (fun ht23=>?_)
 ·have hk:=br (c:=c) ht17 ht23
  refine Z16 ?_;refine Aa Tryz.call41 (c41 c hc e.text _) ?_;refine A5 ?_;refine A2 [1,6] ?_;refine Z7 ?_;refine A2 [1,6,29] ?_
  refine A3 (fun ht29=>?_) (fun ht29=>?_)
  ·have hk2:V8 c e.text=(0,9):=if_pos (by simpa using ht29)
   refine Z1 ?_;refine Z41 ?_;refine Gg ?_;exact AHd
  have hneg:¬(At e.text c<0):=by simpa using ht29
  obtain ⟨j,hj,hjl⟩:=Fl hneg
  have hk2:V8 c e.text=(c[j].kind,0):=by
   unfold V8
   rw [if_neg hneg,hj,Int.toNat_natCast,Cq,Ac hjl]
   rfl
  rw [hj]
  refine Nr ?_
  refine A5 (h:=Ad (j) (Bl c[j]) (fun _=>Ar hjl)) (hr:=?_)
  refine Z75 ?_;refine Z41 ?_;exact AHd
 refine Z4 ?_;refine Zh ?_;refine A2 [1,2,7] ?_;refine Z25 ?_;refine A2 [1,2,7,8] ?_
 refine Bg (α:=Nat) (fun x=>⟨237,A6 1 (Ai c) (A6 2 (.ro (D0 e)) (A6 7 (.slice true 1 (((e.kids.take x).map fun y=>(Ey c y).1).map A4)) (A6 8 (A4 (x:Nat)) (fun _=>.any)))),Hp,[],[],none⟩) (fun x=>x≤e.kids.length∧∀(j:Nat) (y:Expr),j<x→e.kids[j]? = some y→((Ey c y).2 != 0)=false) (fun x=>e.kids.length-x) (0) ⟨Ao _,fun j y h=>by omega⟩ (B4 (by simp)) rfl (fun x hx=>?_)
 refine Z99 ?_;refine A2 [1,2,7,8,40] ?_
 refine A3 (fun ht40=>?_) (fun ht40=>?_)
 ·have hlt:x<e.kids.length:=by simpa using ht40
  have hkl:=hok.2.1
  refine Sj ?_
  refine A5 (h:=Ad (x) (A7 e.kids[x]) (fun _=>Ar hlt)) (hr:=?_)
  refine Z0 ?_;refine Aa Tryz.call137 (ih e.kids[x] (hok.2.2 _ (As hlt)) ((J7 _ _).1 hnd0.2 _ (As hlt)) _) ?_;refine Z82 ?_;refine A2 [1,2,7,8,9,10] ?_;refine Z7 ?_;refine A2 [1,2,7,8,9,10,54] ?_
  refine A3 (fun ht54=>?_) (fun ht54=>?_)
  ·have hkb:=kv (c:=c) ht17 ht23 hlt hx.2 ht54
   refine Z16 ?_;refine Z41 ?_;exact AK8
  refine vl ?_
  refine D5 jU Tryz.type3 ?_ ?_ ?_
  ·simp only [Ag,Bx,B8,Bq,Tryz.t3];omega
  ·simp only [Ag,Bx,B8,Bq,Tryz.t3];omega
  refine Kk ?_;refine A2 [1,2,7,8] ?_;refine Z87 ?_;refine A2 [1,2,7,8] ?_
  refine Au (x+1) ⟨hlt,Bw hlt hx.2 ht54⟩ (by omega) (Bk ?_)
  simp only [show Tryz.t3.size=1 from rfl,bt]
  rfl
 have hxe:e.kids.take x=e.kids:=Cu (by simp at ht40;omega)
 have hka:=kw (c:=c) ht17 ht23 (fun j y hj hy=>hx.2 j y (by have:=hx.1;simp at ht40;omega) hy)
 have hrf:=AEe hnd0.1 ht17 ht23 (ks:=e.kids.map fun y=>(Ey c y).1) (by simp)
 have hks:(e.kids.map fun y=>(Ey c y).1).length=e.kids.length:=by simp
 rw [hxe]
 generalize (e.kids.map fun y=>(Ey c y).1)=ks at *
 refine Z36 ?_;refine Z1 ?_;refine A2 [2,7,12] ?_
 refine Np ⟨237,A6 11 (A4 (H1 e.op e.text ks).1) (A6 12 (B0 (H1 e.op e.text ks).2) (fun _=>.any)),Hp,[],[],none⟩ ?_ ?_
 ·refine Ju ?_;refine Z34 ?_;refine A2 [2,7,12,94] ?_
  refine A3 (fun ht94=>?_) (fun ht94=>?_)
  ·have hl:=AI8 hnd0.1 ht94
   refine Z61 ?_
   refine A5 (h:=Ad (0) (A4 (ks.getD 0 0)) (fun _=>F6 (by omega))) (hr:=?_)
   refine AGz ?_;refine Z0 ?_;refine Ww ?_
   unfold H1
   simp only [ht17,ht23,ht40,ht94,H9,Fb,Db,Ce,Ay,↓reduceIte]<;>rfl
  refine Z34 ?_;refine A2 [2,7,12,102] ?_
  refine A3 (fun ht102=>?_) (fun ht102=>?_)
  ·have hl:=AI9 hnd0.1 ht102
   refine Z61 ?_
   refine A5 (h:=Ad (0) (A4 (ks.getD 0 0)) (fun _=>F6 (by omega))) (hr:=?_)
   refine A5 ?_;refine Aa Tryz.call169 (Y6 (ks.getD 0 0) 3 _) ?_;refine Z0 ?_;refine Ww ?_
   unfold H1
   simp only [ht17,ht23,ht40,ht94,ht102,H9,Fb,Db,Ce,Ay,↓reduceIte]<;>rfl
  refine Z1 ?_;refine Z52 ?_;refine Qg ?_;refine Z0 ?_;refine A2 [2,7,12,110] ?_
  refine A3 (fun ht110=>?_) (fun ht110=>?_)
  ·have hl:=fw hnd0.1 (AEg ht110)
   refine Z61 ?_
   refine A5 (h:=Ad (0) (A4 (ks.getD 0 0)) (fun _=>F6 (by omega))) (hr:=?_)
   refine A5 ?_;refine Aa Tryz.call169 (Y6 (ks.getD 0 0) 3 _) ?_;refine nh ?_
   refine B7 (h:=Ad (1) (A4 (ks.getD 1 0)) (fun _=>F6 (by omega))) (hr:=?_)
   refine B7 ?_;refine Bm Tryz.call169 (fun hB=>Y6 (ks.getD 1 0) 3 _) ?_;refine Z8 ?_;refine Ww ?_
   unfold H1
   simp only [ht17,ht23,ht40,ht94,ht102,ht110,H9,Fb,Db,Ce,Ay,↓reduceIte]<;>rfl
  refine Z1 ?_;refine Z21 ?_;refine Bm Tryz.call170 (fun hB=>AM2 e.text _) ?_;refine B7 ?_;refine Z0 ?_;refine A2 [2,7,12,134] ?_
  refine A3 (fun ht134=>?_) (fun ht134=>?_)
  ·have hl:=fw hnd0.1 (AEg ht134)
   refine Wv [0,1,3,7,15,31,63,127,31,287,799,2047,4095,4095,16383] 14 Ap (by kernel_rfl) ?_;refine Av ?_
   refine Av (h:=Ad (0) (A4 (ks.getD 0 0)) (fun _=>F6 (by omega))) (hr:=?_)
   refine Z37 ?_;refine H.go ?_
   refine H.go (h:=Ad (1) (A4 (ks.getD 1 0)) (fun _=>F6 (by omega))) (hr:=?_)
   refine Z85 ?_
   refine H.go (h:=Ad (0) (A4 (ks.getD 0 0)) (fun _=>F6 (by omega))) (hr:=?_)
   refine H.go ?_;refine H.call Tryz.call169 (fun hB=>Y6 (ks.getD 1 0) (ks.getD 0 0) _) ?_;refine Z10 ?_;refine ee ?_;refine Ww ?_
   unfold H1
   simp only [ht17,ht23,ht40,ht94,ht102,ht110,ht134,H9,Fb,Db,Ce,Ay,↓reduceIte]<;>rfl
  refine ek ?_;refine Z0 ?_;refine A2 [2,7,12,157] ?_
  refine A3 (fun ht157=>?_) (fun ht157=>?_)
  ·have hl:=fw hnd0.1 (AEg ht157)
   refine Z61 ?_
   refine A5 (h:=Ad (0) (A4 (ks.getD 0 0)) (fun _=>F6 (by omega))) (hr:=?_)
   refine AH0 ?_;refine nh ?_
   refine B7 (h:=Ad (1) (A4 (ks.getD 1 0)) (fun _=>F6 (by omega))) (hr:=?_)
   refine B7 ?_;refine Bm Tryz.call169 (fun hB=>Y6 (ks.getD 1 0) 2 _) ?_;refine Z8 ?_;refine Ww ?_
   unfold H1
   simp only [ht17,ht23,ht40,ht94,ht102,ht110,ht134,ht157,H9,Fb,Db,Ce,Ay,↓reduceIte]<;>rfl
  refine Z34 ?_;refine A2 [2,7,12,176] ?_
  refine A3 (fun ht176=>?_) (fun ht176=>?_)
  ·have hl:=fw hnd0.1 ht176
   rw [ht176,Fb] at ht110 ht134 ht157
   refine Z61 ?_
   refine A5 (h:=Ad (0) (A4 (ks.getD 0 0)) (fun _=>F6 (by omega))) (hr:=?_)
   refine AGz ?_;refine nh ?_
   refine B7 (h:=Ad (1) (A4 (ks.getD 1 0)) (fun _=>F6 (by omega))) (hr:=?_)
   refine B7 ?_;refine Bm Tryz.call169 (fun hB=>Y6 (ks.getD 1 0) 1 _) ?_;refine Z8 ?_;refine Ww ?_
   unfold H1
   simp only [ht17,ht23,ht40,ht94,ht102,ht110,ht134,ht157,ht176,H9,Fb,Db,Ce,Ay,↓reduceIte]<;>rfl
  have hl0:=AIa hnd0.1 ht17 ht23 ht94 ht102 ht176
  unfold Ft at hl0
  refine ek ?_;refine Z0 ?_;refine A2 [2,7,12,190] ?_
  refine A3 (fun ht190=>?_) (fun ht190=>?_)
  ·have hl:e.kids.length=1:=by rw [hl0,if_pos ht190];rfl
   refine Z61 ?_
   refine A5 (h:=Ad (0) (A4 (ks.getD 0 0)) (fun _=>F6 (by omega))) (hr:=?_)
   refine AH0 ?_;refine Z0 ?_;refine Ww ?_
   unfold H1
   simp only [ht17,ht23,ht40,ht94,ht102,ht110,ht134,ht157,ht176,ht190,H9,Fb,Db,Ce,Ay,↓reduceIte]<;>rfl
  rw [if_neg (by rw [ht190];simp)] at hl0
  refine Z34 ?_;refine A2 [2,7,12,203] ?_
  refine A3 (fun ht203=>?_) (fun ht203=>?_)
  ·have hl:e.kids.length=1:=by rw [hl0,if_pos ht203];rfl
   refine Z61 ?_
   refine A5 (h:=Ad (0) (A4 (ks.getD 0 0)) (fun _=>F6 (by omega))) (hr:=?_)
   refine AGz ?_;refine Z0 ?_;refine Ww ?_
   unfold H1
   simp only [ht17,ht23,ht40,ht94,ht102,ht110,ht134,ht157,ht176,ht190,ht203,H9,Fb,Db,Ce,Ay,↓reduceIte]<;>rfl
  rw [if_neg (by rw [ht203];simp)] at hl0
  refine ek ?_;refine Z0 ?_;refine A2 [2,7,12,211] ?_
  refine A3 (fun ht211=>?_) (fun ht211=>?_)
  ·have hl:e.kids.length=2:=by rw [hl0,if_pos ht211];rfl
   refine Z61 ?_
   refine A5 (h:=Ad (0) (A4 (ks.getD 0 0)) (fun _=>F6 (by omega))) (hr:=?_)
   refine AH0 ?_;refine nh ?_
   refine B7 (h:=Ad (1) (A4 (ks.getD 1 0)) (fun _=>F6 (by omega))) (hr:=?_)
   refine B7 ?_;refine Bm Tryz.call169 (fun hB=>Y6 (ks.getD 1 0) 1 _) ?_;refine Z8 ?_;refine Ww ?_
   unfold H1
   simp only [ht17,ht23,ht40,ht94,ht102,ht110,ht134,ht157,ht176,ht190,ht203,ht211,H9,Fb,Db,Ce,Ay,↓reduceIte]<;>rfl
  rw [if_neg (by rw [ht211];simp)] at hl0
  refine Z34 ?_;refine A2 [2,7,12,230] ?_
  refine A3 (fun ht230=>?_) (fun ht230=>?_)
  ·have hl:e.kids.length=1:=by rw [hl0,if_pos ht230];rfl
   refine Z61 ?_;refine Ww ?_
   unfold H1
   simp only [ht17,ht23,ht40,ht94,ht102,ht110,ht134,ht157,ht176,ht190,ht203,ht211,ht230,H9,Fb,Db,Ce,Ay,↓reduceIte]<;>rfl
  rw [if_neg (by rw [ht230];simp)] at hl0
  have hl:2≤e.kids.length:=by rw [hl0];split<;>simp
  have hl3:=hok.2.1
  refine Er [0,0,2,6,15,31,0,0,128,384,960,1984,63,8191] 13 Ap (by kernel_rfl) ?_;refine Z37 ?_
  rw [Ag]
  refine Av ?_
  refine Av (h:=Ad ((ks.length-2)) (A4 (ks.getD (ks.length-2) 0)) (fun _=>F6 (by omega))) (hr:=?_)
  refine Rb ?_
  rw [Ag]
  refine Av ?_
  refine Av (h:=Ad ((ks.length-1)) (A4 (ks.getD (ks.length-1) 0)) (fun _=>F6 (by omega))) (hr:=?_)
  refine Z10 ?_;refine ee ?_;refine A2 [2,7,13,14] ?_;refine Zj ?_;refine Bm Tryz.call169 (fun hB=>Y6 (ks.getD (ks.length-1) 0) (ks.getD (ks.length-2) 0) _) ?_;refine Z52 ?_;refine B7 ?_
  refine B7 (h:=Ad (0) (A4 (ks.getD 0 0)) (fun _=>F6 (by omega))) (hr:=?_)
  refine B7 ?_;refine Bm Tryz.call169 (fun hB=>Y6 (ks.getD 0 0) 3 _) ?_;refine B7 ?_;refine Z0 ?_;refine A2 [12,13,14] ?_;refine Z1 ?_;refine A2 [11,12,13,14] ?_;refine Z1 ?_;refine A2 [11,12,14,92] ?_
  refine A3 (fun ht92=>?_) (fun ht92=>?_)
  ·refine Z45 ?_;refine Ww ?_
   unfold H1
   simp only [ht17,ht23,ht40,ht94,ht102,ht110,ht134,ht157,ht176,ht190,ht203,ht211,ht230,ht92,H9,Fb,Db,Ce,Ay,↓reduceIte]<;>rfl
  refine Ep [11,12] ?_;refine Gc ?_;refine Z81 ?_;refine B4 ?_
  unfold H1
  simp only [ht17,ht23,ht40,ht94,ht102,ht110,ht134,ht157,ht176,ht190,ht203,ht211,ht230,ht92,H9,Fb,Db,Ce,Ay,↓reduceIte]<;>rfl
 refine Z7 ?_;refine A2 [11,235] ?_
 refine A3 (fun ht235=>?_) (fun ht235=>?_)
 ·refine Z1 ?_;refine Z41 ?_;exact AL8
 refine Rc ?_;refine Z50 ?_;exact AL8
theorem c88 (n:Nat) (e:Expr) (hok:okE n e) (hn:n≤1048576) (hs:sizeE e≤1048576) (c:List Col) (hc:OkCols c) (Hp:List AObj):AFun Tryz.prog 88 [A7 e,Ai c] Hp (.tup [A4 (Ej e c).1,A4 (Ej e c).2]):=by
 refine Ah [.tmp 4,.tmp 5] [0,1] Tryz.func88 Tryz.ntmps88 (fun d=>?_)
 refine zn ?_;refine Z25 ?_;refine Aa Tryz.call87 (c87 n e hok hn hs _) ?_;refine Z95 ?_;refine Bm Tryz.call40 (fun hB=>c40 c hc _) ?_;refine Z80 ?_;refine A2 [1,2,13] ?_
 refine A3 (fun ht13=>?_) (fun ht13=>?_)
 ·have hk:Ej e c=(0,1):=by unfold Ej;rw [D6,Md,if_pos ht13]
  refine Z1 ?_;exact AGw
 have hk:Ej e c=Ey c e:=by unfold Ej;rw [D6,Md,if_neg (by rw [ht13];simp)]
 have hr:Bc e=true:=by rw [D6];simp only [Dn,Mh] at ht13;exact ht13.1
 refine Nr ?_;refine Aa Tryz.call137 (AOz c hc n e hok (Vb hr) _) ?_;refine Z75 ?_;exact AKh

theorem ky {e:Expr} {c:List Col} {w:Int} (h:((Ej e c).2 != 0)=false):((((Ej e c).1 != 0)&&((Ej e c).1 != w))) = !Y4 e c w:=by
 unfold Y4
 have h0:(Ej e c).2=0:=by simpa using h
 rw [h0]
 show (!((Ej e c).1==0) && !((Ej e c).1==w)) = !(true&&(((Ej e c).1==w) || ((Ej e c).1==0)))
 cases (Ej e c).1==0<;>cases (Ej e c).1==w<;>rfl
theorem AEh {c:List Col} {m:Mov} (h:(m.kind==3)=false):Bf c m=m.give:=by unfold Bf;rw [if_neg (by rw [h];simp)]
theorem t4 {c:List Col} {m:Mov} {s:Str} {y:Col} (h:(m.kind==3)=true) (ht:m.take=[s]) (hg:m.give=[y]) (hf:At s c<0):Bf c m=[y]:=by
 unfold Bf
 rw [if_pos h,ht,hg]
 exact if_pos hf
theorem kz {c:List Col} {m:Mov} {s:Str} {y:Col} (h:(m.kind==3)=true) (ht:m.take=[s]) (hg:m.give=[y]) (hf:¬At s c<0):Bf c m=[⟨y.name,(c.getD (At s c).toNat ⟨[],0⟩).kind⟩]:=by
 unfold Bf
 rw [if_pos h,ht,hg]
 exact if_neg hf
theorem l3 (l:List Col):∀x∈l.map Bl,x.cells.length=2:=by
 intro x hx
 obtain ⟨c,_,rfl⟩:=Cj.1 hx
 rfl
theorem t6 {c:Col} {y:AV} (h:y∈(Bl c).cells):y=Ab c.name∨y=A4 c.kind:=by
 have h':y∈[Ab c.name,A4 c.kind]:=h
 simpa using h'
theorem l4 (l:List Col):∀x∈l.map Bl,∀y∈x.cells,y.one=true:=by
 intro x hx y hy
 obtain ⟨c,_,rfl⟩:=Cj.1 hx
 rcases t6 hy with rfl|rfl<;>rfl
theorem Y7 (l:List Col):∀x∈l.map Bl,∀y∈x.cells,y.strip=y:=by
 intro x hx y hy
 obtain ⟨c,_,rfl⟩:=Cj.1 hx
 rcases t6 hy with rfl|rfl<;>rfl
theorem fx {α:Type} {l:List α} (h:l.length=1):∃y,l=[y]:=by
 match l,h with
 | [y],_=>exact ⟨y,rfl⟩
theorem W6 {c:List Col} {s:Str} (hf:¬At s c<0):(c.map Bl)[(At s c).toNat]? = some (Bl (c.getD (At s c).toNat ⟨[],0⟩)):=by
 obtain ⟨j,hj,hjl⟩:=Fl hf
 rw [hj,Int.toNat_natCast,Ch,Ac hjl,Cq,Ac hjl]
 rfl
theorem c43 (n:Nat) (e:Expr) (hok:okE n e) (hn:n≤1048576) (hs:sizeE e≤1048576) (w:Int) (c:List Col) (hc:OkCols c) (Hp:List AObj):AFun Tryz.prog 43 [A7 e,A4 w,Ai c] Hp (A4 (Pm e c w)):=by
 refine Ah [.tmp 6] [0,1,2] Tryz.func43 Tryz.ntmps43 (fun d=>?_)
 refine Z1 ?_;refine A2 [1,2,3] ?_;refine Z1 ?_;refine Aa Tryz.call88 (c88 n e hok hn hs c hc _) ?_;refine Z82 ?_;refine A2 [1,7,8] ?_;refine Z7 ?_;refine A2 [1,7,8,16] ?_
 refine A3 (fun ht16=>?_) (fun ht16=>?_)
 ·have hm:Pm e c w=(Ej e c).2:=if_pos ht16
  refine Z1 ?_;exact AKl
 refine np ?_;refine Z5 ?_;refine Z80 ?_;refine A2 [24] ?_
 refine A3 (fun ht24=>?_) (fun ht24=>?_)
 ·rw [ky ht16] at ht24
  have hm:Pm e c w=10:=by unfold Pm;rw [if_neg (by rw [ht16];simp),if_pos ht24]
  refine Z2 ?_;exact AKl
 rw [ky ht16] at ht24
 have hm:Pm e c w=0:=by unfold Pm;rw [if_neg (by rw [ht16];simp),if_neg (by rw [ht24];simp)]
 refine Of ?_;exact AKm

theorem AP0 (c:List Col) (hc:OkCols c) (m:Mov) (h:OkMov m) (h3:(m.kind==3)=false) (Hp:List AObj):AFun Tryz.prog 84 [Ai c,G5 m] Hp (Ai (Bf c m)):=by
 refine Ah [.tmp 4] [0,1] Tryz.func84 Tryz.ntmps84 (fun d=>?_)
 refine nb ?_;refine Z29 ?_;refine Z0 ?_
 refine D5 jU Tryz.type69 ?_ ?_ ?_
 ·have:=h.gives2;simp [Tryz.t69];omega
 ·have:=h.gives2;simp [Tryz.t69];omega
 refine Kk ?_;refine ADd ?_;refine A2 [0,3,5,13] ?_
 refine A3 (fun ht13=>?_) (fun ht13=>?_)
 ·rw [h3] at ht13;cases ht13
 refine Nr ?_;exact AK0

theorem AP1 (c:List Col) (hc:OkCols c) (m:Mov) (h:OkMov m) (h3:(m.kind==3)=true) (s:Str) (y:Col) (ht:m.take=[s]) (hg:m.give=[y]) (Hp:List AObj):AFun Tryz.prog 84 [Ai c,G5 m] Hp (Ai (Bf c m)):=by
 have hgv:=t4 (c:=c) h3 ht hg
 have hgy:=kz (c:=c) h3 ht hg
 obtain ⟨kd,tk,gv,ah,bk⟩:=m
 simp only at ht hg h3
 subst ht hg
 refine Ah [.tmp 4] [0,1] Tryz.func84 Tryz.ntmps84 (fun d=>?_)
 refine nb ?_;refine Ef ?_;refine R.buildObj0 (n:=0) jU Tryz.sizeOf69 ?_;refine Z0 ?_
 refine R.appendObj (k:=2) (n:=1) jU Tryz.type69 (show [Bl y]≠[] by simp) ?_ ?_ (fun cc hcc=>?_)
 ·simp [Tryz.t69]
 ·simp
 have e0:My [Bl y]++List.replicate ((cc-[Bl y].length)*2) AV.any=Ab y.name::A4 y.kind::List.replicate ((cc-1)*2) AV.any:=rfl
 rw [e0]
 clear e0
 refine A5 ?_;refine ADd ?_;refine A2 [0,3,5,13] ?_
 refine A3 (fun ht13=>?_) (fun ht13=>?_)
 ·refine Z16 ?_
  refine A5 (h:=Ad (0) (Ab s) (fun _=>rfl)) (hr:=?_)
  refine A5 ?_;refine Aa Tryz.call41 (c41 c hc s _) ?_;refine A5 ?_;refine A2 [0,5,6] ?_;refine Z1 ?_;refine A2 [0,5,6,21] ?_
  refine A3 (fun ht21=>?_) (fun ht21=>?_)
  ·have hf:¬At s c<0:=by simp at ht21;omega
   obtain ⟨jj,hjj,hjc⟩:=Fl hf
   refine Z74 ?_
   refine A5 (h:=Ad ((At s c).toNat) (Bl (c.getD (At s c).toNat ⟨[],0⟩)) (fun _=>W6 hf)) (hr:=?_)
   refine Z0 ?_;refine R.indexAddrSl (n:=1) 0 jU Tryz.sizeOf69 (by decide) ?_
   refine A5 (h:=Q.fieldAddrPtr (hc:=rfl)) (hr:=?_)
   refine dt (y:=A4 (c.getD (At s c).toNat ⟨[],0⟩).kind) (ys:=[A4 (c.getD (At s c).toNat ⟨[],0⟩).kind]) (n:=1) (cs:=Ab y.name::A4 y.kind::List.replicate ((cc-1)*2) AV.any) (cs':=Ab y.name::A4 (c.getD (At s c).toNat ⟨[],0⟩).kind::List.replicate ((cc-1)*2) AV.any) (t':=69) jS ?_ (hc:=rfl) (hput:=rfl) (hfit:=by simp)
   refine A2 [5] ?_;refine Gf ?_;refine Z93 ?_;exact ADb
  have hf:At s c<0:=by simp at ht21;omega
  refine Z4 ?_;refine AJg ?_;exact ADb
 rw [h3] at ht13;cases ht13

end Go.SX.Nb
namespace Go.SX
variable [GI:GlobInv]
open Classical
variable {P:Program} {d:Nat} {ops:Array Oper} {rest:List Oper} {sz:Nat} {fr:Nat→AV} {up own:List AObj} {dfs:List Nat} {rnd:Option Nat} {Q:St→Prop} {s:Nat} {ty:TypeId} {pos:String} {aft:Array Edge}
/-- Whether a slice is nil is known only of one that has elements. -/
theorem R.eqlNil {t e u:TypeId} {x y:Operand} {o:Bool} {k:Nat} {xs:List AV} (ht:P.underlying t=some (.slice e)) (hg:P.eqGuardType P.depth t=false)
  (hr:∀b:Bool,(b=true→xs=[])→ARun P d ops rest ⟨sz,A6 s (.v (.bool b)) fr,up,own,dfs,rnd⟩ Q)
  (hx:Bb fr x=.slice o k xs:=by exact sL0) (hy:Bb fr y=.nil:=by exact sL0) (hs:Nat.blt s sz=true:=by rfl):
  ARun P d ops (⟨some s,.binOp .eql t x y u,ty,pos,aft,none⟩::rest) ⟨sz,fr,up,own,dfs,rnd⟩ Q:=by
 refine Wf rfl (Q1:=fun s'=>∃b:Bool,(b=true→xs=[])∧s'=⟨sz,A6 s (.v (.bool b)) fr,up,own,dfs,rnd⟩) ?_ (by rintro _ ⟨b,hb,rfl⟩;exact hr b hb)
 intro G a w hrel Q'
 have h1:=hrel.eval x
 rw [show St.ev ⟨sz,fr,up,own,dfs,rnd⟩ x=.slice o k xs from hx] at h1
 have h2:=hrel.eval y
 rw [show St.ev ⟨sz,fr,up,own,dfs,rnd⟩ y=.nil from hy] at h2
 have key:∀b:Bool,(b=true→xs=[])→(execOp a.eval ⟨some s,.binOp .eql t x y u,ty,pos,aft,none⟩).run P w=.ok (.value (.bool b)) w →
   Oper.wpIn (Fr ((St.mk sz fr up own dfs rnd).rnd.map G.blk)) 0 P ⟨some s,.binOp .eql t x y u,ty,pos,aft,none⟩ a w (Post d ⟨sz,fr,up,own,dfs,rnd⟩ G w (fun s'=>∃b:Bool,(b=true→xs=[])∧s'=⟨sz,A6 s (.v (.bool b)) fr,up,own,dfs,rnd⟩)) Q':=fun b hb hv =>
  Dd (by intro c h;cases h) hv ⟨G,_,hrel.put (y:=.v (.bool b)) (by simpa using hs) (.v _ _),Gb d G w,rfl,rfl,rfl,b,hb,rfl⟩
 generalize hya:a.eval y=vy at h2
 generalize hxa:a.eval x=vx at h1
 cases h2
 cases h1 with
 | slice0=>exact key true (fun _=>rfl) (by simp only [execOp,hxa,hya,eqGuard];simp [Lib.run_eql_slice_nil _ _ _ _ _ _ _ _ ht,hg])
 | sliceE=>exact key false (fun h=>by cases h) (by simp only [execOp,hxa,hya,eqGuard];simp [Lib.run_eql_slice_nil _ _ _ _ _ _ _ _ ht,hg])
 | slice=>exact key false (fun h=>by cases h) (by simp only [execOp,hxa,hya,eqGuard];simp [Lib.run_eql_slice_nil _ _ _ _ _ _ _ _ ht,hg])
/-! A guarded slice that may be appended to. -/
end Go.SX
namespace Go.SX
variable [GI:GlobInv]
open Classical
section
variable {P:Program} {d:Nat}
/-- A call that returns and may leave more objects than it found; they are the caller's. -/
def ACallO (P:Program) (g:FuncId) (args:List AV) (H:List AObj) (post:AV→List AObj→Prop):Prop:=
 ∀(d:Nat) (G:Gh) (w:World) (vs:Array Value),vs.size=args.length→(∀(i:Nat) (y:AV) (u:Value),args[i]? = some y→vs[i]? = some u→Rep G w (some (.slot (d+1) i)) y u)→HeapRel G H w→TagOK G w→GI.bd≤d →
  CallsIn Fence.wide 0 P g vs w (fun e w'=>∃(v:Value) (G':Gh) (r:AV) (H':List AObj),e=.returned v∧Rep G' w' none r v∧HeapRel G' H' w'∧TagOK G' w'∧Keep (d+1) G w G' w'∧post r H')
/-- What is asked at a body's end: the first j of its objects are handed back. -/
def FO (P:Program) (rs:List ResultVar) (n:Nat) (post:AV→List AObj→Prop) (e:Exit) (st':St):Prop:=
 (e=.normal∨e=.ret)∧st'.defs=[]∧∃(r:AV) (rv:ResultVar) (j:Nat),rs=[rv]∧ResV P st' rv r∧Low (n+j) r∧(∀x∈st'.up++st'.own.take j,ObjLow (n+j) x)∧j≤st'.own.length∧post r (st'.up++st'.own.take j)
theorem ACallO.ofBody {g:FuncId} {fn:Func} {c:Code} {args:List AV} {H:List AObj} {post:AV→List AObj→Prop} {rs:List ResultVar} {n:Nat} (hf:P.funcs[g]? = some fn) (hb:fn.body=some c) (hrs:fn.results=rs.toArray)
  (hn:fn.ntmps=n) (hargs:args.length≤n) (h:∀d,AW P (d+1) c ⟨n,argsF args,H,[],[],none⟩ (FO P rs H.length post)):ACallO P g args H post:=by
 intro d G w vs hvs hrep hH hT hTop
 refine callsIn_of_wp_marks hf hb trivial ?_
 have hst:StRel (d+1) G ⟨n,argsF args,H,[],[],none⟩ { tmps:=vs++Array.replicate (fn.ntmps-vs.size) undef,defers:=[] } w:=by
  refine ⟨?_,fun s=>?_,by simpa using hH,(by rw [Gp hTop];rfl),(fun o ho=>by simp at ho),M7,(fun o ho=>by simp at ho),hT,(fun l hl=>by cases hl),fun x hx=>?_,Nc hTop⟩
  ·simp only [Mg,cx,hvs,hn];omega
  ·show Rep G w _ (args.getD s (.v undef)) _
   rw [Cq,Ke]
   rcases C0 s args.length with h'|h'
   ·rw [Ac h',Lk (by omega),Eb (by omega)]
    exact hrep s _ _ (Ac h') (Eb (by omega))
   rw [Fv h',Oj (by omega)]
   simp only [Option.getD_none]
   have:((Array.replicate (fn.ntmps-vs.size) undef)[s-vs.size]?).getD undef=undef:=by
    rw [Ok];split<;>rfl
   rw [this]
   exact .v _ _
  obtain ⟨i,hi⟩:=C9 hx
  have hob:=hH.obj i x hi
  show ObjLow H.length x
  rw [←hH.n]
  exact hob.low
 have hw:=h d G _ w hst
 refine wpIn_mono hw ?_
 rintro e a' w' ⟨G1,st',h1,k1,e1,e2,e3,hcase,hdefs,r,rv,j,rfl,hres,hlow,hobjs,hj,hpost⟩
 have fin:LeavesInM Fence.wide 0 P fn a'.tmps (fun e w'=>∃(v:Value) (G':Gh) (r:AV) (H':List AObj),e=.returned v∧Rep G' w' none r v∧HeapRel G' H' w'∧TagOK G' w'∧Keep (d+1) G w G' w'∧post r H') a'.defers .returning w':=by
  rw [h1.defs,hdefs,Gp hTop]
  obtain ⟨v,hv,hr⟩:=hres.run h1
  have hupl:st'.up.length=H.length:=e1
  have hgn:G1.n=st'.up.length+st'.own.length:=by rw [h1.heap.n,Ax]
  have hget:∀(i:Nat) (x:AObj),(st'.up++st'.own.take j)[i]? = some x→(st'.up++st'.own)[i]? = some x:=fun i x hx=>by
   rcases C0 i st'.up.length with h'|h'
   ·rw [Dw h'] at hx ⊢;exact hx
   rw [Dx h'] at hx ⊢
   rw [Hb] at hx
   split at hx
   ·exact hx
   cases hx
  refine ⟨v,by simp [Ge,hrs,hv],v,{ G1 with n:=H.length+j },r,st'.up++st'.own.take j,rfl,hr.cut hlow,⟨fun i x hx=>(h1.heap.obj i x (hget i x hx)).cut (hobjs x (Bi hx)),?_,fun a b ha hb' e=>?_⟩,
   ⟨h1.tags.ex,h1.tags.obj,h1.tags.tail,h1.tags.globCut (by rw [hgn];omega)⟩,?_,hpost⟩
  ·show H.length+j=_
   rw [Ax,Bx,rc hj,hupl]
  ·exact h1.heap.inj a b (by rw [hgn];simp only at ha;omega) (by rw [hgn];simp only at hb';omega) e
  have hGn:G.n=H.length:=hH.n
  exact ⟨k1.fix,k1.slot,by rw [hGn];exact Nat.le_add_right _ _,k1.blk,k1.os,k1.tape,k1.output,k1.size,k1.old.cut (by rw [hgn];omega)⟩
 rcases hcase with rfl|rfl
 ·exact fin
 exact fin
end
section
variable {P:Program} {d:Nat} {ops:Array Oper} {rest:List Oper} {sz s:Nat} {fr:Nat→AV} {up own:List AObj} {dfs:List Nat} {rnd:Option Nat} {Q:St→Prop} {ty:TypeId} {pos:String} {aft:Array Edge}
theorem ACallO.body {g:FuncId} {fn:Func} {c:Code} {args:List AV} {H:List AObj} {post:AV→List AObj→Prop} {fr':Nat→AV} (rs:List ResultVar) (l:List Nat) {n:Nat} (hf:P.funcs[g]? = some fn) (hn:fn.ntmps=n)
  (h:∀d,AW P (d+1) c ⟨n,fr',H,[],[],none⟩ (FO P rs H.length post)) (hb:fn.body=some c:=by rfl) (hrs:fn.results=rs.toArray:=by rfl) (hargs:args.length≤n:=by exact sL2)
  (hk:Ob l (argsF args)=fr':=by exact sL0):ACallO P g args H post:=
 ACallO.ofBody hf hb hrs hn hargs (fun d=>af l hk (h d))
/-- The end of such a body. -/
theorem K.finO {rs:List ResultVar} {n:Nat} {post:AV→List AObj→Prop} {r:AV} {rv:ResultVar} {st:St} (j:Nat) (hres:ResV P st rv r) (hp:post r (st.up++st.own.take j)) (hlow:Low (n+j) r) (hobj:∀x∈st.up++st.own.take j,ObjLow (n+j) x)
  (hd:st.defs=[]:=by rfl) (hr:rs=[rv]:=by rfl) (hj:j≤st.own.length:=by simp):FO P rs n post .ret st:=⟨.inr rfl,hd,r,rv,j,hr,hres,hlow,hobj,hj,hp⟩
/-- A call of such a function. -/
theorem R.callO {g:FuncId} {xs:List Operand} {ats:Array TypeId} {args:List AV} {post:AV→List AObj→Prop} (hcall:∀args w,(callFunc g args).run P w=.ok (.enter g args) w)
  (h:ACallO P g args (up++own) post) (hp:∀r H',post r H'→∃O,H'=up++(own++O)∧ARun P d ops rest ⟨sz,A6 s r fr,up,own++O,dfs,rnd⟩ Q)
  (ha:xs.map (Bb fr)=args:=by exact sL0) (hs:Nat.blt s sz=true:=by rfl):
  ARun P d ops (⟨some s,.call ⟨.value (.func g),xs.toArray,ats⟩,ty,pos,aft,none⟩::rest) ⟨sz,fr,up,own,dfs,rnd⟩ Q:=by
 refine Wf rfl (Q1:=fun s'=>ARun P d ops rest s' Q) ?_ (fun s' e=>e)
 intro G a w hr Q'
 have hs:s<sz:=by simpa using hs
 have hxr:=Sd hr xs
 have ha':xs.map (St.ev ⟨sz,fr,up,own,dfs,rnd⟩)=args:=ha
 rw [ha'] at hxr
 have hrun:(execOp a.eval (⟨some s,.call ⟨.value (.func g),xs.toArray,ats⟩,ty,pos,aft,none⟩:Oper)).run P w=.ok (.enter g (xs.map a.eval).toArray) w:=by
  have:=R6 (P:=P) (dst:=some s) (ty:=ty) (pos:=pos) (aft:=aft) (gd:=none) (ats:=ats) (f:=.func g) (xs:=xs) (g:=g) (va:=#[]) (vc:=#[]) (a:=a) (w:=w) hcall rfl
  simpa using this
 refine R5 (by intro c h;cases h) hrun (h d G w _ (by rw [←ha'];simp) (fun i y u hy hu=>(hxr i y u hy hu).lift) hr.heap hr.tags hr.top) ?_
 rintro e w' ⟨v,G',r,H',rfl,hrep,hH,hT,hk,hpo⟩
 obtain ⟨O,rfl,hrn⟩:=hp r H' hpo
 have h3:=hr.called (U:=up) (O:=own++O) hH hT hk rfl rfl (fun o ho=>by
  have:=hr.defsAt o ho
  rw [←Bp,Dw (Ae.1 this).1]
  exact this) hr.low
 obtain ⟨h4,k4⟩:=h3.took hrep.lift (s:=s) hs
 exact ⟨v,rfl,_,_,h4,(hk.less (J0 d)).trans k4,rfl,rfl,rfl,hrn⟩
end
end Go.SX
