/- Texts on the way to this: FuseNames answers true for whatever it is handed: over right steps there is a tree for each column, of its kind or of none, or the error says that a tree grew too large. (part 8) -/
import Derived.Lib.SliceRun
import Derived.Test.YtepoiomaocjhfaaGreatDoorFuseNamesCardSaidPart7
set_option linter.all false
namespace Go.SX.Nb
open Go Go.SX Go.Proofs
variable [ErrAt]
set_option maxRecDepth 4000
theorem Cq {ks:List Int} {i:Nat} (h:i<ks.length):(ks.map A2)[i]? = some (A2 (ks.getD i 0)):=by
 rw [List.getElem?_map,List.getElem?_eq_getElem h,List.getD_eq_getElem?_getD,List.getElem?_eq_getElem h]
 rfl
theorem vi {e:Expr} (h:C8 e=true) (h3:(e.op==3)=true):e.kids.length=1:=by
 have h3':e.op=3:=by simpa using h3
 have:=I5 h (by rw [h3'];rfl) (by rw [h3'];rfl)
 rw [←this,h3'];rfl
theorem vj {e:Expr} (h:C8 e=true) (h4:(e.op==4)=true):e.kids.length=1:=by
 have h4':e.op=4:=by simpa using h4
 have:=I5 h (by rw [h4'];rfl) (by rw [h4'];rfl)
 rw [←this,h4'];rfl
theorem Ub {e:Expr} (h:C8 e=true) (h5:(e.op==5)=true):e.kids.length=2:=by
 have h5':e.op=5:=by simpa using h5
 have:=I5 h (by rw [h5'];rfl) (by rw [h5'];rfl)
 rw [←this,h5']
 exact L4 _
theorem vk {e:Expr} (h:C8 e=true) (h1:(e.op==1)=false) (h2:(e.op==2)=false) (h3:(e.op==3)=false) (h4:(e.op==4)=false) (h5:(e.op==5)=false):e.kids.length=(Ca e.text).kids.length:=by
 have:=I5 h h1 h2
 rw [←this]
 unfold Bq
 rw [h3,h4,h5]
 rfl
theorem qz {a b:Bool} (h:(a&&b)=true):a=true:=by cases a<;>simp_all
theorem ABv (c:List Col) (hc:OkCols c):∀(n:Nat) (e:Expr),okE n e→Cs C8 e=true→∀Hp:List AObj,AFun Tryz.prog 134 [A4 e,A9 c] Hp (.tup [A2 (B9 c e).1,A2 (B9 c e).2]):=by
 intro n
 induction n with
 | zero=>exact fun e h=>h.elim
 | succ n ih =>
 intro e hok hnd Hp
 have hnd0:=hnd
 rw [Ef,Bool.and_eq_true] at hnd0
 refine ACall.body [.tmp 4,.tmp 5] [0,1] Tryz.func134 Tryz.ntmps134 (fun d=>?_)
 refine jm ?_;refine Z35 ?_;refine R.fin [1,2,17] ?_
 refine W.cond (fun ht17=>?_) (fun ht17=>?_)
 ·have hk:=Wk (c:=c) ht17
  refine Z1 ?_;refine Z23 ?_;refine Z42 ?_;exact oz
 refine Z5 ?_;refine Z35 ?_;refine R.fin [1,2,23] ?_
 refine W.cond (fun ht23=>?_) (fun ht23=>?_)
 ·have hk:=Sc (c:=c) ht17 ht23
  refine Z17 ?_;refine R.call Tryz.call50 (c50 c hc e.text _) ?_;refine R.go ?_;refine R.fin [1,6] ?_;refine Z8 ?_;refine R.fin [1,6,29] ?_
  refine W.cond (fun ht29=>?_) (fun ht29=>?_)
  ·have hk2:F0 c e.text=(0,9):=if_pos (by simpa using ht29)
   refine Z94 ?_;refine K.thR ?_;exact ug
  have hneg:¬(Aj e.text c<0):=by simpa using ht29
  obtain ⟨j,hj,hjl⟩:=Em hneg
  have hk2:F0 c e.text=(c[j].kind,0):=by
   unfold F0
   rw [if_neg hneg,hj,Int.toNat_natCast,List.getD_eq_getElem?_getD,List.getElem?_eq_getElem hjl]
   rfl
  rw [hj]
  refine O8 ?_
  refine R.go (h:=Q.indexAddr (j) (Ak c[j]) (fun _=>Ae hjl)) (hr:=?_)
  refine Z76 ?_;refine Z42 ?_;exact ug
 refine Z5 ?_;refine Xs ?_;refine Ic ?_;refine R.fin [1,2,7] ?_;refine Z31 ?_;refine R.fin [1,2,7,8] ?_
 refine AW.loopC (α:=Nat) (fun x=>⟨237,A3 1 (A9 c) (A3 2 (.ro (Bt e)) (A3 7 (.slice true 1 (((e.kids.take x).map fun y=>(B9 c y).1).map A2)) (A3 8 (A2 (x:Nat)) (fun _=>.any)))),Hp,[],[],none⟩) (fun x=>x≤e.kids.length∧∀(j:Nat) (y:Expr),j<x→e.kids[j]? = some y→((B9 c y).2 != 0)=false) (fun x=>e.kids.length-x) (0) ⟨Nat.zero_le _,fun j y h=>by omega⟩ (StLe.of_eq (by simp)) rfl (fun x hx=>?_)
 refine P1 ?_;refine R.fin [1,2,7,8,40] ?_
 refine W.cond (fun ht40=>?_) (fun ht40=>?_)
 ·have hlt:x<e.kids.length:=by simpa using ht40
  have hkl:=hok.2.1
  refine Tl ?_
  refine R.go (h:=Q.indexAddr (x) (A4 e.kids[x]) (fun _=>Ae hlt)) (hr:=?_)
  refine Z0 ?_;refine R.call Tryz.call134 (ih e.kids[x] (hok.2.2 _ (List.getElem_mem hlt)) ((Co _ _).1 hnd0.2 _ (List.getElem_mem hlt)) _) ?_;refine Z89 ?_;refine R.fin [1,2,7,8,9,10] ?_;refine Z8 ?_;refine R.fin [1,2,7,8,9,10,54] ?_
  refine W.cond (fun ht54=>?_) (fun ht54=>?_)
  ·have hkb:=Wl (c:=c) ht17 ht23 hlt hx.2 ht54
   refine Z17 ?_;refine Z42 ?_;exact xl
  refine Z5 ?_;refine V5 ?_;refine Z75 ?_
  refine R.append jU Tryz.type3 ?_ ?_ ?_
  ·simp only [List.length_map,List.length_take,List.length_cons,List.length_nil,Tryz.t3];omega
  ·simp only [List.length_map,List.length_take,List.length_cons,List.length_nil,Tryz.t3];omega
  refine Ic ?_;refine R.fin [1,2,7,8] ?_;refine P0 ?_;refine R.fin [1,2,7,8] ?_
  refine K.lpN (x+1) ⟨hlt,Av hlt hx.2 ht54⟩ (by omega) (StCut.of_eq ?_)
  simp only [show Tryz.t3.size=1 from rfl,Sd]
  rfl
 have hxe:e.kids.take x=e.kids:=List.take_of_length_le (by simp at ht40;omega)
 have hka:=Wm (c:=c) ht17 ht23 (fun j y hj hy=>hx.2 j y (by have:=hx.1;simp at ht40;omega) hy)
 have hrf:=qr hnd0.1 ht17 ht23 (ks:=e.kids.map fun y=>(B9 c y).1) (by simp)
 have hks:(e.kids.map fun y=>(B9 c y).1).length=e.kids.length:=by simp
 rw [hxe]
 generalize (e.kids.map fun y=>(B9 c y).1)=ks at *
 refine Z47 ?_;refine Z1 ?_;refine R.fin [2,7,12] ?_;refine Z19 ?_;refine Z41 ?_;refine R.fin [2,7,12,94] ?_
 refine W.cond (fun ht94=>?_) (fun ht94=>?_)
 ·have hl:=vi hnd0.1 ht94
  refine Z61 ?_
  refine R.go (h:=Q.indexAddr (0) (A2 (ks.getD 0 0)) (fun _=>Cq (by omega))) (hr:=?_)
  refine tz ?_;refine Z0 ?_;refine Oz ?_
  refine W.cond (fun ht235=>?_) (fun ht235=>?_)
  ·refine Z94 ?_
   have hq:=ht235
   try simp only [Bool.not_eq_true',Bool.not_eq_false'] at hq
   try simp only [ht92,Bool.true_or,Bool.false_or,Bool.true_and] at hq
   first|exact absurd ht235 (by decide)|exact K.fin (V.two V.tmp V.tmp) ⟨by rw [hka,←hrf];unfold Bz C3;simp only [ht17,ht23,ht40,ht94,ht235,hq,Bool.false_and,Bool.true_and,Bool.true_or,Bool.false_or,if_true,if_false,Bool.false_eq_true,↓reduceIte]<;>rfl,rfl⟩
  refine Md ?_
  have hq:=ht235
  try simp only [Bool.not_eq_true',Bool.not_eq_false'] at hq
  try simp only [ht92,Bool.true_or,Bool.false_or,Bool.true_and] at hq
  first|exact absurd ht235 (by decide)|exact K.fin (V.two V.tmp V.tmp) ⟨by rw [hka,←hrf];unfold Bz C3;simp only [ht17,ht23,ht40,ht94,ht235,hq,Bool.false_and,Bool.true_and,Bool.true_or,Bool.false_or,if_true,if_false,Bool.false_eq_true,↓reduceIte]<;>rfl,rfl⟩
 refine Z41 ?_;refine R.fin [2,7,12,102] ?_
 refine W.cond (fun ht102=>?_) (fun ht102=>?_)
 ·have hl:=vj hnd0.1 ht102
  refine Z61 ?_
  refine R.go (h:=Q.indexAddr (0) (A2 (ks.getD 0 0)) (fun _=>Cq (by omega))) (hr:=?_)
  refine R.go ?_;refine R.call Tryz.call166 (Q9 (ks.getD 0 0) 3 _) ?_;refine Z0 ?_;refine Oz ?_
  refine W.cond (fun ht235=>?_) (fun ht235=>?_)
  ·refine Z94 ?_
   have hq:=ht235
   try simp only [Bool.not_eq_true',Bool.not_eq_false'] at hq
   try simp only [ht92,Bool.true_or,Bool.false_or,Bool.true_and] at hq
   first|exact absurd ht235 (by decide)|exact K.fin (V.two V.tmp V.tmp) ⟨by rw [hka,←hrf];unfold Bz C3;simp only [ht17,ht23,ht40,ht94,ht102,ht235,hq,Bool.false_and,Bool.true_and,Bool.true_or,Bool.false_or,if_true,if_false,Bool.false_eq_true,↓reduceIte]<;>rfl,rfl⟩
  refine Md ?_
  have hq:=ht235
  try simp only [Bool.not_eq_true',Bool.not_eq_false'] at hq
  try simp only [ht92,Bool.true_or,Bool.false_or,Bool.true_and] at hq
  first|exact absurd ht235 (by decide)|exact K.fin (V.two V.tmp V.tmp) ⟨by rw [hka,←hrf];unfold Bz C3;simp only [ht17,ht23,ht40,ht94,ht102,ht235,hq,Bool.false_and,Bool.true_and,Bool.true_or,Bool.false_or,if_true,if_false,Bool.false_eq_true,↓reduceIte]<;>rfl,rfl⟩
 refine Z1 ?_;refine Z56 ?_;refine Mf ?_;refine Z0 ?_;refine R.fin [2,7,12,110] ?_
 refine W.cond (fun ht110=>?_) (fun ht110=>?_)
 ·have hl:=Ub hnd0.1 (qz ht110)
  refine Z61 ?_
  refine R.go (h:=Q.indexAddr (0) (A2 (ks.getD 0 0)) (fun _=>Cq (by omega))) (hr:=?_)
  refine R.go ?_;refine R.call Tryz.call166 (Q9 (ks.getD 0 0) 3 _) ?_;refine dv ?_
  refine G.go (h:=Q.indexAddr (1) (A2 (ks.getD 1 0)) (fun _=>Cq (by omega))) (hr:=?_)
  refine G.go ?_;refine G.call Tryz.call166 (fun hB=>Q9 (ks.getD 1 0) 3 _) ?_;refine Z23 ?_;refine Oz ?_
  refine W.cond (fun ht235=>?_) (fun ht235=>?_)
  ·refine Z94 ?_
   have hq:=ht235
   try simp only [Bool.not_eq_true',Bool.not_eq_false'] at hq
   try simp only [ht92,Bool.true_or,Bool.false_or,Bool.true_and] at hq
   first|exact absurd ht235 (by decide)|exact K.fin (V.two V.tmp V.tmp) ⟨by rw [hka,←hrf];unfold Bz C3;simp only [ht17,ht23,ht40,ht94,ht102,ht110,ht235,hq,Bool.false_and,Bool.true_and,Bool.true_or,Bool.false_or,if_true,if_false,Bool.false_eq_true,↓reduceIte]<;>rfl,rfl⟩
  refine Md ?_
  have hq:=ht235
  try simp only [Bool.not_eq_true',Bool.not_eq_false'] at hq
  try simp only [ht92,Bool.true_or,Bool.false_or,Bool.true_and] at hq
  first|exact absurd ht235 (by decide)|exact K.fin (V.two V.tmp V.tmp) ⟨by rw [hka,←hrf];unfold Bz C3;simp only [ht17,ht23,ht40,ht94,ht102,ht110,ht235,hq,Bool.false_and,Bool.true_and,Bool.true_or,Bool.false_or,if_true,if_false,Bool.false_eq_true,↓reduceIte]<;>rfl,rfl⟩
 refine Z1 ?_;refine Z27 ?_;refine G.call Tryz.call145 (fun hB=>c145 e.text _) ?_;refine G.go ?_;refine Z0 ?_;refine R.fin [2,7,12,134] ?_
 refine W.cond (fun ht134=>?_) (fun ht134=>?_)
 ·have hl:=Ub hnd0.1 (qz ht134)
  refine W.drawQ0 [0,1,3,7,15,31,63,127,31,287,799,2047,4095,4095,16383] 14 Ad (by kernel_rfl) ?_;refine D.go ?_
  refine D.go (h:=Q.indexAddr (0) (A2 (ks.getD 0 0)) (fun _=>Cq (by omega))) (hr:=?_)
  refine Z53 ?_;refine H.go ?_
  refine H.go (h:=Q.indexAddr (1) (A2 (ks.getD 1 0)) (fun _=>Cq (by omega))) (hr:=?_)
  refine Z45 ?_
  refine H.go (h:=Q.indexAddr (0) (A2 (ks.getD 0 0)) (fun _=>Cq (by omega))) (hr:=?_)
  refine H.go ?_;refine H.call Tryz.call166 (fun hB=>Q9 (ks.getD 1 0) (ks.getD 0 0) _) ?_;refine Z14 ?_;refine V7 ?_;refine Oz ?_
  refine W.cond (fun ht235=>?_) (fun ht235=>?_)
  ·refine Z94 ?_
   have hq:=ht235
   try simp only [Bool.not_eq_true',Bool.not_eq_false'] at hq
   try simp only [ht92,Bool.true_or,Bool.false_or,Bool.true_and] at hq
   first|exact absurd ht235 (by decide)|exact K.fin (V.two V.tmp V.tmp) ⟨by rw [hka,←hrf];unfold Bz C3;simp only [ht17,ht23,ht40,ht94,ht102,ht110,ht134,ht235,hq,Bool.false_and,Bool.true_and,Bool.true_or,Bool.false_or,if_true,if_false,Bool.false_eq_true,↓reduceIte]<;>rfl,rfl⟩
  refine Md ?_
  have hq:=ht235
  try simp only [Bool.not_eq_true',Bool.not_eq_false'] at hq
  try simp only [ht92,Bool.true_or,Bool.false_or,Bool.true_and] at hq
  first|exact absurd ht235 (by decide)|exact K.fin (V.two V.tmp V.tmp) ⟨by rw [hka,←hrf];unfold Bz C3;simp only [ht17,ht23,ht40,ht94,ht102,ht110,ht134,ht235,hq,Bool.false_and,Bool.true_and,Bool.true_or,Bool.false_or,if_true,if_false,Bool.false_eq_true,↓reduceIte]<;>rfl,rfl⟩
 refine Z1 ?_;refine Z83 ?_;refine Z0 ?_;refine R.fin [2,7,12,157] ?_
 refine W.cond (fun ht157=>?_) (fun ht157=>?_)
 ·have hl:=Ub hnd0.1 (qz ht157)
  refine Z61 ?_
  refine R.go (h:=Q.indexAddr (0) (A2 (ks.getD 0 0)) (fun _=>Cq (by omega))) (hr:=?_)
  refine u6 ?_;refine dv ?_
  refine G.go (h:=Q.indexAddr (1) (A2 (ks.getD 1 0)) (fun _=>Cq (by omega))) (hr:=?_)
  refine G.go ?_;refine G.call Tryz.call166 (fun hB=>Q9 (ks.getD 1 0) 2 _) ?_;refine Z23 ?_;refine Oz ?_
  refine W.cond (fun ht235=>?_) (fun ht235=>?_)
  ·refine Z94 ?_
   have hq:=ht235
   try simp only [Bool.not_eq_true',Bool.not_eq_false'] at hq
   try simp only [ht92,Bool.true_or,Bool.false_or,Bool.true_and] at hq
   first|exact absurd ht235 (by decide)|exact K.fin (V.two V.tmp V.tmp) ⟨by rw [hka,←hrf];unfold Bz C3;simp only [ht17,ht23,ht40,ht94,ht102,ht110,ht134,ht157,ht235,hq,Bool.false_and,Bool.true_and,Bool.true_or,Bool.false_or,if_true,if_false,Bool.false_eq_true,↓reduceIte]<;>rfl,rfl⟩
  refine Md ?_
  have hq:=ht235
  try simp only [Bool.not_eq_true',Bool.not_eq_false'] at hq
  try simp only [ht92,Bool.true_or,Bool.false_or,Bool.true_and] at hq
  first|exact absurd ht235 (by decide)|exact K.fin (V.two V.tmp V.tmp) ⟨by rw [hka,←hrf];unfold Bz C3;simp only [ht17,ht23,ht40,ht94,ht102,ht110,ht134,ht157,ht235,hq,Bool.false_and,Bool.true_and,Bool.true_or,Bool.false_or,if_true,if_false,Bool.false_eq_true,↓reduceIte]<;>rfl,rfl⟩
 refine Z41 ?_;refine R.fin [2,7,12,176] ?_
 refine W.cond (fun ht176=>?_) (fun ht176=>?_)
 ·have hl:=Ub hnd0.1 ht176
  rw [ht176,Bool.true_and] at ht110 ht134 ht157
  refine Z61 ?_
  refine R.go (h:=Q.indexAddr (0) (A2 (ks.getD 0 0)) (fun _=>Cq (by omega))) (hr:=?_)
  refine tz ?_;refine dv ?_
  refine G.go (h:=Q.indexAddr (1) (A2 (ks.getD 1 0)) (fun _=>Cq (by omega))) (hr:=?_)
  refine G.go ?_;refine G.call Tryz.call166 (fun hB=>Q9 (ks.getD 1 0) 1 _) ?_;refine Z23 ?_;refine Oz ?_
  refine W.cond (fun ht235=>?_) (fun ht235=>?_)
  ·refine Z94 ?_
   have hq:=ht235
   try simp only [Bool.not_eq_true',Bool.not_eq_false'] at hq
   try simp only [ht92,Bool.true_or,Bool.false_or,Bool.true_and] at hq
   first|exact absurd ht235 (by decide)|exact K.fin (V.two V.tmp V.tmp) ⟨by rw [hka,←hrf];unfold Bz C3;simp only [ht17,ht23,ht40,ht94,ht102,ht110,ht134,ht157,ht176,ht235,hq,Bool.false_and,Bool.true_and,Bool.true_or,Bool.false_or,if_true,if_false,Bool.false_eq_true,↓reduceIte]<;>rfl,rfl⟩
  refine Md ?_
  have hq:=ht235
  try simp only [Bool.not_eq_true',Bool.not_eq_false'] at hq
  try simp only [ht92,Bool.true_or,Bool.false_or,Bool.true_and] at hq
  first|exact absurd ht235 (by decide)|exact K.fin (V.two V.tmp V.tmp) ⟨by rw [hka,←hrf];unfold Bz C3;simp only [ht17,ht23,ht40,ht94,ht102,ht110,ht134,ht157,ht176,ht235,hq,Bool.false_and,Bool.true_and,Bool.true_or,Bool.false_or,if_true,if_false,Bool.false_eq_true,↓reduceIte]<;>rfl,rfl⟩
 have hl0:=vk hnd0.1 ht17 ht23 ht94 ht102 ht176
 unfold Ca at hl0
 refine Z1 ?_;refine Z83 ?_;refine Z0 ?_;refine R.fin [2,7,12,190] ?_
 refine W.cond (fun ht190=>?_) (fun ht190=>?_)
 ·have hl:e.kids.length=1:=by rw [hl0,if_pos ht190];rfl
  refine Z61 ?_
  refine R.go (h:=Q.indexAddr (0) (A2 (ks.getD 0 0)) (fun _=>Cq (by omega))) (hr:=?_)
  refine u6 ?_;refine Z0 ?_;refine Oz ?_
  refine W.cond (fun ht235=>?_) (fun ht235=>?_)
  ·refine Z94 ?_
   have hq:=ht235
   try simp only [Bool.not_eq_true',Bool.not_eq_false'] at hq
   try simp only [ht92,Bool.true_or,Bool.false_or,Bool.true_and] at hq
   first|exact absurd ht235 (by decide)|exact K.fin (V.two V.tmp V.tmp) ⟨by rw [hka,←hrf];unfold Bz C3;simp only [ht17,ht23,ht40,ht94,ht102,ht110,ht134,ht157,ht176,ht190,ht235,hq,Bool.false_and,Bool.true_and,Bool.true_or,Bool.false_or,if_true,if_false,Bool.false_eq_true,↓reduceIte]<;>rfl,rfl⟩
  refine Md ?_
  have hq:=ht235
  try simp only [Bool.not_eq_true',Bool.not_eq_false'] at hq
  try simp only [ht92,Bool.true_or,Bool.false_or,Bool.true_and] at hq
  first|exact absurd ht235 (by decide)|exact K.fin (V.two V.tmp V.tmp) ⟨by rw [hka,←hrf];unfold Bz C3;simp only [ht17,ht23,ht40,ht94,ht102,ht110,ht134,ht157,ht176,ht190,ht235,hq,Bool.false_and,Bool.true_and,Bool.true_or,Bool.false_or,if_true,if_false,Bool.false_eq_true,↓reduceIte]<;>rfl,rfl⟩
 rw [if_neg (by rw [ht190];simp)] at hl0
 refine Z41 ?_;refine R.fin [2,7,12,203] ?_
 refine W.cond (fun ht203=>?_) (fun ht203=>?_)
 ·have hl:e.kids.length=1:=by rw [hl0,if_pos ht203];rfl
  refine Z61 ?_
  refine R.go (h:=Q.indexAddr (0) (A2 (ks.getD 0 0)) (fun _=>Cq (by omega))) (hr:=?_)
  refine tz ?_;refine Z0 ?_;refine Oz ?_
  refine W.cond (fun ht235=>?_) (fun ht235=>?_)
  ·refine Z94 ?_
   have hq:=ht235
   try simp only [Bool.not_eq_true',Bool.not_eq_false'] at hq
   try simp only [ht92,Bool.true_or,Bool.false_or,Bool.true_and] at hq
   first|exact absurd ht235 (by decide)|exact K.fin (V.two V.tmp V.tmp) ⟨by rw [hka,←hrf];unfold Bz C3;simp only [ht17,ht23,ht40,ht94,ht102,ht110,ht134,ht157,ht176,ht190,ht203,ht235,hq,Bool.false_and,Bool.true_and,Bool.true_or,Bool.false_or,if_true,if_false,Bool.false_eq_true,↓reduceIte]<;>rfl,rfl⟩
  refine Md ?_
  have hq:=ht235
  try simp only [Bool.not_eq_true',Bool.not_eq_false'] at hq
  try simp only [ht92,Bool.true_or,Bool.false_or,Bool.true_and] at hq
  first|exact absurd ht235 (by decide)|exact K.fin (V.two V.tmp V.tmp) ⟨by rw [hka,←hrf];unfold Bz C3;simp only [ht17,ht23,ht40,ht94,ht102,ht110,ht134,ht157,ht176,ht190,ht203,ht235,hq,Bool.false_and,Bool.true_and,Bool.true_or,Bool.false_or,if_true,if_false,Bool.false_eq_true,↓reduceIte]<;>rfl,rfl⟩
 rw [if_neg (by rw [ht203];simp)] at hl0
 refine Z1 ?_;refine Z83 ?_;refine Z0 ?_;refine R.fin [2,7,12,211] ?_
 refine W.cond (fun ht211=>?_) (fun ht211=>?_)
 ·have hl:e.kids.length=2:=by rw [hl0,if_pos ht211];rfl
  refine Z61 ?_
  refine R.go (h:=Q.indexAddr (0) (A2 (ks.getD 0 0)) (fun _=>Cq (by omega))) (hr:=?_)
  refine u6 ?_;refine dv ?_
  refine G.go (h:=Q.indexAddr (1) (A2 (ks.getD 1 0)) (fun _=>Cq (by omega))) (hr:=?_)
  refine G.go ?_;refine G.call Tryz.call166 (fun hB=>Q9 (ks.getD 1 0) 1 _) ?_;refine Z23 ?_;refine Oz ?_
  refine W.cond (fun ht235=>?_) (fun ht235=>?_)
  ·refine Z94 ?_
   have hq:=ht235
   try simp only [Bool.not_eq_true',Bool.not_eq_false'] at hq
   try simp only [ht92,Bool.true_or,Bool.false_or,Bool.true_and] at hq
   first|exact absurd ht235 (by decide)|exact K.fin (V.two V.tmp V.tmp) ⟨by rw [hka,←hrf];unfold Bz C3;simp only [ht17,ht23,ht40,ht94,ht102,ht110,ht134,ht157,ht176,ht190,ht203,ht211,ht235,hq,Bool.false_and,Bool.true_and,Bool.true_or,Bool.false_or,if_true,if_false,Bool.false_eq_true,↓reduceIte]<;>rfl,rfl⟩
  refine Md ?_
  have hq:=ht235
  try simp only [Bool.not_eq_true',Bool.not_eq_false'] at hq
  try simp only [ht92,Bool.true_or,Bool.false_or,Bool.true_and] at hq
  first|exact absurd ht235 (by decide)|exact K.fin (V.two V.tmp V.tmp) ⟨by rw [hka,←hrf];unfold Bz C3;simp only [ht17,ht23,ht40,ht94,ht102,ht110,ht134,ht157,ht176,ht190,ht203,ht211,ht235,hq,Bool.false_and,Bool.true_and,Bool.true_or,Bool.false_or,if_true,if_false,Bool.false_eq_true,↓reduceIte]<;>rfl,rfl⟩
 rw [if_neg (by rw [ht211];simp)] at hl0
 refine Z41 ?_;refine R.fin [2,7,12,230] ?_
 refine W.cond (fun ht230=>?_) (fun ht230=>?_)
 ·have hl:e.kids.length=1:=by rw [hl0,if_pos ht230];rfl
  refine Z61 ?_;refine Oz ?_
  refine W.cond (fun ht235=>?_) (fun ht235=>?_)
  ·refine Z94 ?_
   have hq:=ht235
   try simp only [Bool.not_eq_true',Bool.not_eq_false'] at hq
   try simp only [ht92,Bool.true_or,Bool.false_or,Bool.true_and] at hq
   first|exact absurd ht235 (by decide)|exact K.fin (V.two V.tmp V.tmp) ⟨by rw [hka,←hrf];unfold Bz C3;simp only [ht17,ht23,ht40,ht94,ht102,ht110,ht134,ht157,ht176,ht190,ht203,ht211,ht230,ht235,hq,Bool.false_and,Bool.true_and,Bool.true_or,Bool.false_or,if_true,if_false,Bool.false_eq_true,↓reduceIte]<;>rfl,rfl⟩
  refine Md ?_
  have hq:=ht235
  try simp only [Bool.not_eq_true',Bool.not_eq_false'] at hq
  try simp only [ht92,Bool.true_or,Bool.false_or,Bool.true_and] at hq
  first|exact absurd ht235 (by decide)|exact K.fin (V.two V.tmp V.tmp) ⟨by rw [hka,←hrf];unfold Bz C3;simp only [ht17,ht23,ht40,ht94,ht102,ht110,ht134,ht157,ht176,ht190,ht203,ht211,ht230,ht235,hq,Bool.false_and,Bool.true_and,Bool.true_or,Bool.false_or,if_true,if_false,Bool.false_eq_true,↓reduceIte]<;>rfl,rfl⟩
 rw [if_neg (by rw [ht230];simp)] at hl0
 have hl:2≤e.kids.length:=by rw [hl0];split<;>simp
 have hl3:=hok.2.1
 refine W.drawQ [0,0,2,6,15,31,0,0,128,384,960,1984,63,8191] 13 Ad (by kernel_rfl) ?_;refine Z53 ?_
 rw [List.length_map]
 refine D.go ?_
 refine D.go (h:=Q.indexAddr ((ks.length-2)) (A2 (ks.getD (ks.length-2) 0)) (fun _=>Cq (by omega))) (hr:=?_)
 refine Z81 ?_
 rw [List.length_map]
 refine D.go ?_
 refine D.go (h:=Q.indexAddr ((ks.length-1)) (A2 (ks.getD (ks.length-1) 0)) (fun _=>Cq (by omega))) (hr:=?_)
 refine Z14 ?_;refine V7 ?_;refine R.fin [2,7,13,14] ?_;refine Jd ?_;refine G.call Tryz.call166 (fun hB=>Q9 (ks.getD (ks.length-1) 0) (ks.getD (ks.length-2) 0) _) ?_;refine Z56 ?_;refine G.go ?_
 refine G.go (h:=Q.indexAddr (0) (A2 (ks.getD 0 0)) (fun _=>Cq (by omega))) (hr:=?_)
 refine G.go ?_;refine G.call Tryz.call166 (fun hB=>Q9 (ks.getD 0 0) 3 _) ?_;refine G.go ?_;refine Z0 ?_;refine R.fin [12,13,14] ?_;refine Z1 ?_;refine R.fin [11,12,13,14] ?_;refine Z1 ?_;refine R.fin [11,12,14,92] ?_
 refine W.cond (fun ht92=>?_) (fun ht92=>?_)
 ·refine Z11 ?_;refine Oz ?_
  refine W.cond (fun ht235=>?_) (fun ht235=>?_)
  ·refine Z94 ?_
   have hq:=ht235
   try simp only [Bool.not_eq_true',Bool.not_eq_false'] at hq
   try simp only [ht92,Bool.true_or,Bool.false_or,Bool.true_and] at hq
   first|exact absurd ht235 (by decide)|exact K.fin (V.two V.tmp V.tmp) ⟨by rw [hka,←hrf];unfold Bz C3;simp only [ht17,ht23,ht40,ht94,ht102,ht110,ht134,ht157,ht176,ht190,ht203,ht211,ht230,ht92,ht235,hq,Bool.false_and,Bool.true_and,Bool.true_or,Bool.false_or,if_true,if_false,Bool.false_eq_true,↓reduceIte]<;>rfl,rfl⟩
  refine Md ?_
  have hq:=ht235
  try simp only [Bool.not_eq_true',Bool.not_eq_false'] at hq
  try simp only [ht92,Bool.true_or,Bool.false_or,Bool.true_and] at hq
  first|exact absurd ht235 (by decide)|exact K.fin (V.two V.tmp V.tmp) ⟨by rw [hka,←hrf];unfold Bz C3;simp only [ht17,ht23,ht40,ht94,ht102,ht110,ht134,ht157,ht176,ht190,ht203,ht211,ht230,ht92,ht235,hq,Bool.false_and,Bool.true_and,Bool.true_or,Bool.false_or,if_true,if_false,Bool.false_eq_true,↓reduceIte]<;>rfl,rfl⟩
 refine Z16 ?_;refine Z85 ?_
 refine W.cond (fun ht235=>?_) (fun ht235=>?_)
 ·refine Z94 ?_
  have hq:=ht235
  try simp only [Bool.not_eq_true',Bool.not_eq_false'] at hq
  try simp only [ht92,Bool.true_or,Bool.false_or,Bool.true_and] at hq
  first|exact absurd ht235 (by decide)|exact K.fin (V.two V.tmp V.tmp) ⟨by rw [hka,←hrf];unfold Bz C3;simp only [ht17,ht23,ht40,ht94,ht102,ht110,ht134,ht157,ht176,ht190,ht203,ht211,ht230,ht92,ht235,hq,Bool.false_and,Bool.true_and,Bool.true_or,Bool.false_or,if_true,if_false,Bool.false_eq_true,↓reduceIte]<;>rfl,rfl⟩
 refine Md ?_
 have hq:=ht235
 try simp only [Bool.not_eq_true',Bool.not_eq_false'] at hq
 try simp only [ht92,Bool.true_or,Bool.false_or,Bool.true_and] at hq
 first|exact absurd ht235 (by decide)|exact K.fin (V.two V.tmp V.tmp) ⟨by rw [hka,←hrf];unfold Bz C3;simp only [ht17,ht23,ht40,ht94,ht102,ht110,ht134,ht157,ht176,ht190,ht203,ht211,ht230,ht92,ht235,hq,Bool.false_and,Bool.true_and,Bool.true_or,Bool.false_or,if_true,if_false,Bool.false_eq_true,↓reduceIte]<;>rfl,rfl⟩

theorem c99 (n:Nat) (e:Expr) (hok:okE n e) (hn:n≤1048576) (hs:sizeE e≤1048576) (c:List Col) (hc:OkCols c) (Hp:List AObj):AFun Tryz.prog 99 [A4 e,A9 c] Hp (.tup [A2 (Cb e c).1,A2 (Cb e c).2]):=by
 refine ACall.body [.tmp 4,.tmp 5] [0,1] Tryz.func99 Tryz.ntmps99 (fun d=>?_)
 refine jm ?_;refine Z31 ?_;refine R.call Tryz.call47 (c47 n e hok hn hs _) ?_;refine Jc ?_;refine G.call Tryz.call48 (fun hB=>c48 c hc _) ?_;refine Z66 ?_;refine R.fin [1,2,13] ?_
 refine W.cond (fun ht13=>?_) (fun ht13=>?_)
 ·have hk:Cb e c=(0,1):=by unfold Cb;rw [Ci,Ho,if_pos ht13]
  exact xp
 have hk:Cb e c=B9 c e:=by unfold Cb;rw [Ci,Ho,if_neg (by rw [ht13];simp)]
 have hr:Af e=true:=by rw [Ci];simp only [Bool.or_eq_false_iff,Bool.not_eq_false'] at ht13;exact ht13.1
 refine O8 ?_;refine R.call Tryz.call134 (ABv c hc n e hok (Nr hr) _) ?_;refine Z76 ?_;exact xu

theorem Wo {e:Expr} {c:List Col} {w:Int} (h:((Cb e c).2 != 0)=false):((((Cb e c).1 != 0)&&((Cb e c).1 != w))) = !Ko e c w:=by
 unfold Ko
 have h0:(Cb e c).2=0:=by simpa using h
 rw [h0]
 show (!((Cb e c).1==0) && !((Cb e c).1==w)) = !(true&&(((Cb e c).1==w) || ((Cb e c).1==0)))
 cases (Cb e c).1==0<;>cases (Cb e c).1==w<;>rfl
theorem r6 {c:List Col} {m:Mov} (h:(m.kind==3)=false):Ah c m=m.give:=by unfold Ah;rw [if_neg (by rw [h];simp)]
theorem bo {c:List Col} {m:Mov} {s:Str} {y:Col} (h:(m.kind==3)=true) (ht:m.take=[s]) (hg:m.give=[y]) (hf:Aj s c<0):Ah c m=[y]:=by
 unfold Ah
 rw [if_pos h,ht,hg]
 exact if_pos hf
theorem Wp {c:List Col} {m:Mov} {s:Str} {y:Col} (h:(m.kind==3)=true) (ht:m.take=[s]) (hg:m.give=[y]) (hf:¬Aj s c<0):Ah c m=[⟨y.name,(c.getD (Aj s c).toNat ⟨[],0⟩).kind⟩]:=by
 unfold Ah
 rw [if_pos h,ht,hg]
 exact if_neg hf
theorem Wq (l:List Col):∀x∈l.map Ak,x.cells.length=2:=by
 intro x hx
 obtain ⟨c,_,rfl⟩:=List.mem_map.1 hx
 rfl
theorem bq {c:Col} {y:AV} (h:y∈(Ak c).cells):y=A6 c.name∨y=A2 c.kind:=by
 have h':y∈[A6 c.name,A2 c.kind]:=h
 simpa using h'
theorem Wr (l:List Col):∀x∈l.map Ak,∀y∈x.cells,y.one=true:=by
 intro x hx y hy
 obtain ⟨c,_,rfl⟩:=List.mem_map.1 hx
 rcases bq hy with rfl|rfl<;>rfl
theorem Qa (l:List Col):∀x∈l.map Ak,∀y∈x.cells,y.strip=y:=by
 intro x hx y hy
 obtain ⟨c,_,rfl⟩:=List.mem_map.1 hx
 rcases bq hy with rfl|rfl<;>rfl
theorem Uc {α:Type} {l:List α} (h:l.length=1):∃y,l=[y]:=by
 match l,h with
 | [y],_=>exact ⟨y,rfl⟩
theorem Of {c:List Col} {s:Str} (hf:¬Aj s c<0):(c.map Ak)[(Aj s c).toNat]? = some (Ak (c.getD (Aj s c).toNat ⟨[],0⟩)):=by
 obtain ⟨j,hj,hjl⟩:=Em hf
 rw [hj,Int.toNat_natCast,List.getElem?_map,List.getElem?_eq_getElem hjl,List.getD_eq_getElem?_getD,List.getElem?_eq_getElem hjl]
 rfl
theorem c69 (n:Nat) (e:Expr) (hok:okE n e) (hn:n≤1048576) (hs:sizeE e≤1048576) (w:Int) (c:List Col) (hc:OkCols c) (Hp:List AObj):AFun Tryz.prog 69 [A4 e,A2 w,A9 c] Hp (A2 (Ih e c w)):=by
 refine ACall.body [.tmp 6] [0,1,2] Tryz.func69 Tryz.ntmps69 (fun d=>?_)
 refine Z1 ?_;refine R.fin [1,2,3] ?_;refine Z1 ?_;refine R.call Tryz.call99 (c99 n e hok hn hs c hc _) ?_;refine Z89 ?_;refine R.fin [1,7,8] ?_;refine Z8 ?_;refine R.fin [1,7,8,16] ?_
 refine W.cond (fun ht16=>?_) (fun ht16=>?_)
 ·have hm:Ih e c w=(Cb e c).2:=if_pos ht16
  refine Z1 ?_;exact y6
 refine Z5 ?_;refine Z35 ?_;refine Z7 ?_;refine Z66 ?_;refine R.fin [24] ?_
 refine W.cond (fun ht24=>?_) (fun ht24=>?_)
 ·rw [Wo ht16] at ht24
  have hm:Ih e c w=10:=by unfold Ih;rw [if_neg (by rw [ht16];simp),if_pos ht24]
  refine Z2 ?_;exact y6
 rw [Wo ht16] at ht24
 have hm:Ih e c w=0:=by unfold Ih;rw [if_neg (by rw [ht16];simp),if_neg (by rw [ht24];simp)]
 refine Kf ?_;exact y8

theorem ABw (c:List Col) (hc:OkCols c) (m:Mov) (h:OkMov m) (h3:(m.kind==3)=false) (Hp:List AObj):AFun Tryz.prog 67 [A9 c,E3 m] Hp (A9 (Ah c m)):=by
 refine ACall.body [.tmp 4] [0,1] Tryz.func67 Tryz.ntmps67 (fun d=>?_)
 refine Xx ?_;refine Xs ?_;refine Z0 ?_
 refine R.append jU Tryz.type58 ?_ ?_ ?_
 ·have:=h.gives2;simp [Tryz.t58];omega
 ·have:=h.gives2;simp [Tryz.t58];omega
 refine Ic ?_;refine ow ?_;refine R.fin [0,3,5,13] ?_
 refine W.cond (fun ht13=>?_) (fun ht13=>?_)
 ·rw [h3] at ht13;cases ht13
 refine O8 ?_;exact xd

theorem ABx (c:List Col) (hc:OkCols c) (m:Mov) (h:OkMov m) (h3:(m.kind==3)=true) (s:Str) (y:Col) (ht:m.take=[s]) (hg:m.give=[y]) (Hp:List AObj):AFun Tryz.prog 67 [A9 c,E3 m] Hp (A9 (Ah c m)):=by
 have hgv:=bo (c:=c) h3 ht hg
 have hgy:=Wp (c:=c) h3 ht hg
 obtain ⟨kd,tk,gv,ah,bk⟩:=m
 simp only at ht hg h3
 subst ht hg
 refine ACall.body [.tmp 4] [0,1] Tryz.func67 Tryz.ntmps67 (fun d=>?_)
 refine Xx ?_;refine D3 ?_;refine R.buildObj0 (n:=0) jU Tryz.sizeOf58 ?_;refine Z0 ?_
 refine R.appendObj (k:=2) (n:=1) jU Tryz.type58 (show [Ak y]≠[] by simp) ?_ ?_ (fun cc hcc=>?_)
 ·simp [Tryz.t58]
 ·simp
 have e0:Hy [Ak y]++List.replicate ((cc-[Ak y].length)*2) AV.any=A6 y.name::A2 y.kind::List.replicate ((cc-1)*2) AV.any:=rfl
 rw [e0]
 clear e0
 refine R.go ?_;refine ow ?_;refine R.fin [0,3,5,13] ?_
 refine W.cond (fun ht13=>?_) (fun ht13=>?_)
 ·refine Z17 ?_
  refine R.go (h:=Q.indexAddr (0) (A6 s) (fun _=>rfl)) (hr:=?_)
  refine R.go ?_;refine R.call Tryz.call50 (c50 c hc s _) ?_;refine R.go ?_;refine R.fin [0,5,6] ?_;refine Z1 ?_;refine R.fin [0,5,6,21] ?_
  refine W.cond (fun ht21=>?_) (fun ht21=>?_)
  ·have hf:¬Aj s c<0:=by simp at ht21;omega
   obtain ⟨jj,hjj,hjc⟩:=Em hf
   refine Z29 ?_
   refine R.go (h:=Q.indexAddr ((Aj s c).toNat) (Ak (c.getD (Aj s c).toNat ⟨[],0⟩)) (fun _=>Of hf)) (hr:=?_)
   refine Z0 ?_;refine R.indexAddrSl (n:=1) 0 jU Tryz.sizeOf58 (by decide) ?_
   refine R.go (h:=Q.fieldAddrPtr (hc:=rfl)) (hr:=?_)
   refine R.storeOwn (y:=A2 (c.getD (Aj s c).toNat ⟨[],0⟩).kind) (ys:=[A2 (c.getD (Aj s c).toNat ⟨[],0⟩).kind]) (n:=1) (cs:=A6 y.name::A2 y.kind::List.replicate ((cc-1)*2) AV.any) (cs':=A6 y.name::A2 (c.getD (Aj s c).toNat ⟨[],0⟩).kind::List.replicate ((cc-1)*2) AV.any) (t':=58) jS ?_ (hc:=rfl) (hput:=rfl) (hfit:=by simp)
   refine R.fin [5] ?_;refine K.thN ?_;refine Z79 ?_;exact ot
  have hf:Aj s c<0:=by simp at ht21;omega
  refine Z5 ?_;refine wq ?_;exact ot
 rw [h3] at ht13;cases ht13

end Go.SX.Nb
namespace Go.SX
variable [GI:GlobInv]
open Classical
variable {P:Program} {d:Nat} {ops:Array Oper} {rest:List Oper} {sz:Nat} {fr:Nat→AV} {up own:List AObj} {dfs:List Nat} {rnd:Option Nat} {Q:St→Prop} {s:Nat} {ty:TypeId} {pos:String} {aft:Array Edge}
/-- Whether a slice is nil is known only of one that has elements. -/
theorem R.eqlNil {t e u:TypeId} {x y:Operand} {o:Bool} {k:Nat} {xs:List AV} (ht:P.underlying t=some (.slice e)) (hg:P.eqGuardType P.depth t=false)
  (hr:∀b:Bool,(b=true→xs=[])→ARun P d ops rest ⟨sz,A3 s (.v (.bool b)) fr,up,own,dfs,rnd⟩ Q)
  (hx:Ai fr x=.slice o k xs:=by exact sL0) (hy:Ai fr y=.nil:=by exact sL0) (hs:Nat.blt s sz=true:=by rfl):
  ARun P d ops (⟨some s,.binOp .eql t x y u,ty,pos,aft,none⟩::rest) ⟨sz,fr,up,own,dfs,rnd⟩ Q:=by
 refine ARun.op rfl (Q1:=fun s'=>∃b:Bool,(b=true→xs=[])∧s'=⟨sz,A3 s (.v (.bool b)) fr,up,own,dfs,rnd⟩) ?_ (by rintro _ ⟨b,hb,rfl⟩;exact hr b hb)
 intro G a w hrel Q'
 have h1:=hrel.eval x
 rw [show St.ev ⟨sz,fr,up,own,dfs,rnd⟩ x=.slice o k xs from hx] at h1
 have h2:=hrel.eval y
 rw [show St.ev ⟨sz,fr,up,own,dfs,rnd⟩ y=.nil from hy] at h2
 have key:∀b:Bool,(b=true→xs=[])→(execOp a.eval ⟨some s,.binOp .eql t x y u,ty,pos,aft,none⟩).run P w=.ok (.value (.bool b)) w →
   Oper.wpIn (Fr ((St.mk sz fr up own dfs rnd).rnd.map G.blk)) 0 P ⟨some s,.binOp .eql t x y u,ty,pos,aft,none⟩ a w (Post d ⟨sz,fr,up,own,dfs,rnd⟩ G w (fun s'=>∃b:Bool,(b=true→xs=[])∧s'=⟨sz,A3 s (.v (.bool b)) fr,up,own,dfs,rnd⟩)) Q':=fun b hb hv =>
  Bm (by intro c h;cases h) hv ⟨G,_,hrel.put (y:=.v (.bool b)) (by simpa using hs) (.v _ _),Keep.refl d G w,rfl,rfl,rfl,b,hb,rfl⟩
 generalize hya:a.eval y=vy at h2
 generalize hxa:a.eval x=vx at h1
 cases h2
 cases h1 with
 | slice0=>exact key true (fun _=>rfl) (by simp only [execOp,hxa,hya,eqGuard];simp [Lib.run_eql_slice_nil _ _ _ _ _ _ _ _ ht,hg])
 | sliceE=>exact key false (fun h=>by cases h) (by simp only [execOp,hxa,hya,eqGuard];simp [Lib.run_eql_slice_nil _ _ _ _ _ _ _ _ ht,hg])
 | slice=>exact key false (fun h=>by cases h) (by simp only [execOp,hxa,hya,eqGuard];simp [Lib.run_eql_slice_nil _ _ _ _ _ _ _ _ ht,hg])
/-! A guarded slice that may be appended to. -/
end Go.SX
namespace Go.SX
variable [GI:GlobInv]
open Classical
section
variable {P:Program} {d:Nat}
/-- A call that returns and may leave more objects than it found; they are the caller's. -/
def ACallO (P:Program) (g:FuncId) (args:List AV) (H:List AObj) (post:AV→List AObj→Prop):Prop:=
 ∀(d:Nat) (G:Gh) (w:World) (vs:Array Value),vs.size=args.length→(∀(i:Nat) (y:AV) (u:Value),args[i]? = some y→vs[i]? = some u→Rep G w (some (.slot (d+1) i)) y u)→HeapRel G H w→TagOK G w→GI.bd≤d →
  CallsIn Fence.wide 0 P g vs w (fun e w'=>∃(v:Value) (G':Gh) (r:AV) (H':List AObj),e=.returned v∧Rep G' w' none r v∧HeapRel G' H' w'∧TagOK G' w'∧Keep (d+1) G w G' w'∧post r H')
/-- What is asked at a body's end: the first j of its objects are handed back. -/
def FO (P:Program) (rs:List ResultVar) (n:Nat) (post:AV→List AObj→Prop) (e:Exit) (st':St):Prop:=
 (e=.normal∨e=.ret)∧st'.defs=[]∧∃(r:AV) (rv:ResultVar) (j:Nat),rs=[rv]∧ResV P st' rv r∧Low (n+j) r∧(∀x∈st'.up++st'.own.take j,ObjLow (n+j) x)∧j≤st'.own.length∧post r (st'.up++st'.own.take j)
theorem ACallO.ofBody {g:FuncId} {fn:Func} {c:Code} {args:List AV} {H:List AObj} {post:AV→List AObj→Prop} {rs:List ResultVar} {n:Nat} (hf:P.funcs[g]? = some fn) (hb:fn.body=some c) (hrs:fn.results=rs.toArray)
  (hn:fn.ntmps=n) (hargs:args.length≤n) (h:∀d,AW P (d+1) c ⟨n,argsF args,H,[],[],none⟩ (FO P rs H.length post)):ACallO P g args H post:=by
 intro d G w vs hvs hrep hH hT hTop
 refine callsIn_of_wp_marks hf hb trivial ?_
 have hst:StRel (d+1) G ⟨n,argsF args,H,[],[],none⟩ { tmps:=vs++Array.replicate (fn.ntmps-vs.size) undef,defers:=[] } w:=by
  refine ⟨?_,fun s=>?_,by simpa using hH,(by rw [Dp hTop];rfl),(fun o ho=>by simp at ho),List.nodup_nil,(fun o ho=>by simp at ho),hT,(fun l hl=>by cases hl),fun x hx=>?_,Nat.le_succ_of_le hTop⟩
  ·simp only [Array.size_append,Array.size_replicate,hvs,hn];omega
  ·show Rep G w _ (args.getD s (.v undef)) _
   rw [List.getD_eq_getElem?_getD,Array.getD_eq_getD_getElem?]
   rcases Nat.lt_or_ge s args.length with h'|h'
   ·rw [List.getElem?_eq_getElem h',Array.getElem?_append_left (by omega),Array.getElem?_eq_getElem (by omega)]
    exact hrep s _ _ (List.getElem?_eq_getElem h') (Array.getElem?_eq_getElem (by omega))
   rw [List.getElem?_eq_none h',Array.getElem?_append_right (by omega)]
   simp only [Option.getD_none]
   have:((Array.replicate (fn.ntmps-vs.size) undef)[s-vs.size]?).getD undef=undef:=by
    rw [Array.getElem?_replicate];split<;>rfl
   rw [this]
   exact .v _ _
  obtain ⟨i,hi⟩:=List.getElem?_of_mem hx
  have hob:=hH.obj i x hi
  show ObjLow H.length x
  rw [←hH.n]
  exact hob.low
 have hw:=h d G _ w hst
 refine wpIn_mono hw ?_
 rintro e a' w' ⟨G1,st',h1,k1,e1,e2,e3,hcase,hdefs,r,rv,j,rfl,hres,hlow,hobjs,hj,hpost⟩
 have fin:LeavesInM Fence.wide 0 P fn a'.tmps (fun e w'=>∃(v:Value) (G':Gh) (r:AV) (H':List AObj),e=.returned v∧Rep G' w' none r v∧HeapRel G' H' w'∧TagOK G' w'∧Keep (d+1) G w G' w'∧post r H') a'.defers .returning w':=by
  rw [h1.defs,hdefs,Dp hTop]
  obtain ⟨v,hv,hr⟩:=hres.run h1
  have hupl:st'.up.length=H.length:=e1
  have hgn:G1.n=st'.up.length+st'.own.length:=by rw [h1.heap.n,List.length_append]
  have hget:∀(i:Nat) (x:AObj),(st'.up++st'.own.take j)[i]? = some x→(st'.up++st'.own)[i]? = some x:=fun i x hx=>by
   rcases Nat.lt_or_ge i st'.up.length with h'|h'
   ·rw [List.getElem?_append_left h'] at hx ⊢;exact hx
   rw [List.getElem?_append_right h'] at hx ⊢
   rw [List.getElem?_take] at hx
   split at hx
   ·exact hx
   cases hx
  refine ⟨v,by simp [Di,hrs,hv],v,{ G1 with n:=H.length+j },r,st'.up++st'.own.take j,rfl,hr.cut hlow,⟨fun i x hx=>(h1.heap.obj i x (hget i x hx)).cut (hobjs x (List.mem_of_getElem? hx)),?_,fun a b ha hb' e=>?_⟩,
   ⟨h1.tags.ex,h1.tags.obj,h1.tags.tail,h1.tags.globCut (by rw [hgn];omega)⟩,?_,hpost⟩
  ·show H.length+j=_
   rw [List.length_append,List.length_take,Nat.min_eq_left hj,hupl]
  ·exact h1.heap.inj a b (by rw [hgn];simp only at ha;omega) (by rw [hgn];simp only at hb';omega) e
  have hGn:G.n=H.length:=hH.n
  exact ⟨k1.fix,k1.slot,by rw [hGn];exact Nat.le_add_right _ _,k1.blk,k1.os,k1.tape,k1.output,k1.size,k1.old.cut (by rw [hgn];omega)⟩
 rcases hcase with rfl|rfl
 ·exact fin
 exact fin
end
section
variable {P:Program} {d:Nat} {ops:Array Oper} {rest:List Oper} {sz s:Nat} {fr:Nat→AV} {up own:List AObj} {dfs:List Nat} {rnd:Option Nat} {Q:St→Prop} {ty:TypeId} {pos:String} {aft:Array Edge}
theorem ACallO.body {g:FuncId} {fn:Func} {c:Code} {args:List AV} {H:List AObj} {post:AV→List AObj→Prop} {fr':Nat→AV} (rs:List ResultVar) (l:List Nat) {n:Nat} (hf:P.funcs[g]? = some fn) (hn:fn.ntmps=n)
  (h:∀d,AW P (d+1) c ⟨n,fr',H,[],[],none⟩ (FO P rs H.length post)) (hb:fn.body=some c:=by rfl) (hrs:fn.results=rs.toArray:=by rfl) (hargs:args.length≤n:=by exact sL1)
  (hk:Ip l (argsF args)=fr':=by exact sL0):ACallO P g args H post:=
 ACallO.ofBody hf hb hrs hn hargs (fun d=>AW.keep l hk (h d))
/-- The end of such a body. -/
theorem K.finO {rs:List ResultVar} {n:Nat} {post:AV→List AObj→Prop} {r:AV} {rv:ResultVar} {st:St} (j:Nat) (hres:ResV P st rv r) (hp:post r (st.up++st.own.take j)) (hlow:Low (n+j) r) (hobj:∀x∈st.up++st.own.take j,ObjLow (n+j) x)
  (hd:st.defs=[]:=by rfl) (hr:rs=[rv]:=by rfl) (hj:j≤st.own.length:=by simp):FO P rs n post .ret st:=⟨.inr rfl,hd,r,rv,j,hr,hres,hlow,hobj,hj,hp⟩
/-- A call of such a function. -/
theorem R.callO {g:FuncId} {xs:List Operand} {ats:Array TypeId} {args:List AV} {post:AV→List AObj→Prop} (hcall:∀args w,(callFunc g args).run P w=.ok (.enter g args) w)
  (h:ACallO P g args (up++own) post) (hp:∀r H',post r H'→∃O,H'=up++(own++O)∧ARun P d ops rest ⟨sz,A3 s r fr,up,own++O,dfs,rnd⟩ Q)
  (ha:xs.map (Ai fr)=args:=by exact sL0) (hs:Nat.blt s sz=true:=by rfl):
  ARun P d ops (⟨some s,.call ⟨.value (.func g),xs.toArray,ats⟩,ty,pos,aft,none⟩::rest) ⟨sz,fr,up,own,dfs,rnd⟩ Q:=by
 refine ARun.op rfl (Q1:=fun s'=>ARun P d ops rest s' Q) ?_ (fun s' e=>e)
 intro G a w hr Q'
 have hs:s<sz:=by simpa using hs
 have hxr:=Li hr xs
 have ha':xs.map (St.ev ⟨sz,fr,up,own,dfs,rnd⟩)=args:=ha
 rw [ha'] at hxr
 have hrun:(execOp a.eval (⟨some s,.call ⟨.value (.func g),xs.toArray,ats⟩,ty,pos,aft,none⟩:Oper)).run P w=.ok (.enter g (xs.map a.eval).toArray) w:=by
  have:=Kt (P:=P) (dst:=some s) (ty:=ty) (pos:=pos) (aft:=aft) (gd:=none) (ats:=ats) (f:=.func g) (xs:=xs) (g:=g) (va:=#[]) (vc:=#[]) (a:=a) (w:=w) hcall rfl
  simpa using this
 refine Ks (by intro c h;cases h) hrun (h d G w _ (by rw [←ha'];simp) (fun i y u hy hu=>(hxr i y u hy hu).lift) hr.heap hr.tags hr.top) ?_
 rintro e w' ⟨v,G',r,H',rfl,hrep,hH,hT,hk,hpo⟩
 obtain ⟨O,rfl,hrn⟩:=hp r H' hpo
 have h3:=hr.called (U:=up) (O:=own++O) hH hT hk rfl rfl (fun o ho=>by
  have:=hr.defsAt o ho
  rw [←List.append_assoc,List.getElem?_append_left (List.getElem?_eq_some_iff.1 this).1]
  exact this) hr.low
 obtain ⟨h4,k4⟩:=h3.took hrep.lift (s:=s) hs
 exact ⟨v,rfl,_,_,h4,(hk.less (Nat.le_succ d)).trans k4,rfl,rfl,rfl,hrn⟩
end
end Go.SX
