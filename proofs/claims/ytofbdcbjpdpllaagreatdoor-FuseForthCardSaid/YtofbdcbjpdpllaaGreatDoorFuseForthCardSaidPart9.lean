/- On the way (part 9). -/
import Derived.Test.YtofbdcbjpdpllaaGreatDoorFuseForthCardSaidPart8
set_option linter.all false
namespace Go.SX.Nb
open Go Go.SX Go.Proofs
variable [ErrAt]
set_option maxRecDepth 4000
theorem c17 (c:List Col) (hc:OkCols c) (hc2:c.length≤1000000) (l:List Mov) (h:OkMovs l) (row:List Val) (hrr:∀v∈row, -9223372036854775808≤v.n∧v.n≤9223372036854775807) (hrl:row.length≤1048576) (Hp:List AObj):AFun Tryz.prog 17 [Am c,Ew l,Cv row] Hp (.tup [Cv (Bp c l row).1,A5 (Bp c l row).2]):=by
 refine Af [.tmp 6,.tmp 7] [0,1,2] Tryz.func17 Tryz.ntmps17 (fun d=>?_)
 refine Z1 ?_;refine Wb ?_;refine AF3 ?_;refine Z75 ?_;refine A2 [0,1,2,8,9] ?_;refine Z36 ?_;refine Z7 ?_;refine Bt Tryz.call12 (fun hB=>c12 c hc row hrl _) ?_;refine Qu ?_;refine A2 [1,2,8,26] ?_
 refine A3 (fun ht26=>?_) (fun ht26=>?_)
 ·have hm:Bp c l row=([],1):=if_pos ht26
  refine Z2 ?_;refine AF9 ?_;exact Z41
 have hm0:Bp c l row=fwM c l row l.length:=if_neg (by rw [ht26];simp)
 have h26:((Cq c l).2 != 0)=false∧Gs c row=true:=by simpa using ht26
 obtain ⟨hmay,hst,hss⟩:=Ep h26.1
 have hR0:=Td h26.2 hrr
 have hmvo:=If hmay
 have hlen:=h.len
 rw [hss]
 refine Lm ?_;refine Aa Tryz.call49 (c49 row hrl _) ?_;refine A4 ?_;refine A2 [1,8,10] ?_;refine Z36 ?_;refine A2 [8,10,29,30,31] ?_
 refine B7 (α:=Nat) (fun x=>⟨51,A7 8 (Gb (Bx c l l.length)) (A7 10 (Cv (fwM c l row x).1) (A7 29 (Ew l) (A7 30 (A5 (l.length:Nat)) (A7 31 (A5 (x:Nat)) (fun _=>.any))))),Hp,[],[],none⟩) (fun x=>x≤l.length∧(fwM c l row x).2=0∧RowI (colsAt c l x) (fwM c l row x).1) (fun x=>l.length-x) (0) ⟨Ar _,rfl,hR0⟩ (Bo (by simp [fwM])) rfl (fun x hx=>?_)
 refine Z2 ?_;refine A2 [8,10,29,30,31,32] ?_
 refine Dm (fun ht32=>?_) (fun ht32=>?_)
 ·have hlt:x<l.length:=by simpa using ht32
  obtain ⟨hxl,hfx,hR⟩:=hx
  obtain ⟨m,hm⟩:∃m,m=l[x]:=⟨_,rfl⟩
  have hml:l[x]? = some m:=by rw [hm];exact Ab hlt
  have hmx:(l.map Gw)[x]? = some (Gw m):=by rw [hm];exact Ax hlt
  have hmo:=h.each m (B0 hml)
  have hmv:=hmvo m (B0 hml)
  have hCx:=Fe hc (fun m hm=>h.each m hm) x
  have htn:=Ls hst hml
  refine Pl ?_
  refine A4 (h:=Ac (x) (Gw m) (fun _=>hmx)) (hr:=?_)
  refine gi ?_;refine A2 [8,10,11,12,29,30,31] ?_;refine W.draw [0,0,3,7,0,0,63,127,255,255,511,2047] 11 An (by kernel_rfl) ?_;refine Z11 ?_
  refine Al (h:=Ac (x) (Am (colsAt c l x)) (fun _=>We (Gk (by omega)))) (hr:=?_)
  refine Z40 ?_;refine E1 Tryz.call50 (c50 (colsAt c l x) hCx m hmo (fwM c l row x).1 hR.fine hR.len _) ?_;refine Z84 ?_;refine jv ?_;refine A2 [8,9,10,29,30,31] ?_;refine Z1 ?_;refine A2 [8,9,10,29,30,31,47] ?_
  refine A3 (fun ht47=>?_) (fun ht47=>?_)
  ·have hm2:Bp c l row=([],(Er (colsAt c l x) m (fwM c l row x).1).2):=by rw [hm0];exact AHj hml hfx (by simpa using ht47)
   refine Z1 ?_;refine AF9 ?_;refine Z45 ?_;exact A8 (Ay A6 A6) ⟨by rw [hm2]<;>rfl,rfl⟩
  have hnx:=Te hml hfx
  have hok:(Er (colsAt c l x) m (fwM c l row x).1).2=0:=by simpa using ht47
  have hRn:=Uz htn hmv (fun e he=>hmo.ahead.rng e he) hR hok
  refine Z97 ?_;refine A2 [8,10,29,30,31] ?_
  refine Bb (x+1) ⟨hlt,by rw [hnx];exact hok,by rw [hnx,Fq hml];exact hRn⟩ (by omega) ?_
  rw [hnx]
  exact D4 (own:=[]) (fun _=>.refl _) (by repeat (first|exact Be|refine Bd (by first|exact Ce|exact Es|exact Lz|exact Gy|exact D8|exact F3|exact Low.ro _ Ju|(simp [or_imp,forall_and];done)) ?_)) (by simp) (by simp)
 have hxe:x=l.length:=by simp at ht32;have:=hx.1;omega
 subst hxe
 have hm1:Bp c l row=((fwM c l row l.length).1,0):=by rw [hm0];exact Mw rfl hx.2.1
 refine Z28 ?_;refine Z17 ?_;refine Z31 ?_;exact A8 (Ay A6 A6) ⟨by rw [hm1],rfl⟩ (hlow:=by simpa using (Es (n:=Hp.length) (k:=3) (o:=false) (l:=(fwM c l row l.length).1)))

theorem Ok {n k:Nat} {o:Bool} {a:List Expr} {e:Expr}:Low n (.slice o k (a.map A9++[.agg (Eb e)])):=by
 have:=Mk (n:=n) (k:=k) (o:=o) (a:=a) (e:=e)
 rwa [At] at this
theorem dk {c:List Col} {t:List Expr}:∀{l:List Expr},(∀(j:Nat) (y:Expr),l[j]? = some y→((Fj y c t).2 != 0)=false)→C6 c t l=(l.map (fun e=>(Fj e c t).1),0)
 | [],_=>rfl
 | x::r,h=>by
  have h1:=h 0 x rfl
  have ih:=dk (c:=c) (t:=t) (l:=r) (fun j y hy=>h (j+1) y hy)
  rw [C6,if_neg (by rw [h1];simp),if_neg (by rw [ih];simp),ih]
  rfl
theorem dl {c:List Col} {t:List Expr}:∀{l:List Expr} {x:Nat} {y:Expr},(∀(j:Nat) (z:Expr),j<x→l[j]? = some z→((Fj z c t).2 != 0)=false)→l[x]? = some y→((Fj y c t).2 != 0)=true→C6 c t l=([],(Fj y c t).2)
 | [],_,_,_,h,_=>by simp at h
 | a::r,0,y,h0,h,h1=>by
  have:a=y:=by simpa using h
  subst this
  rw [C6,if_pos h1]
 | a::r,x+1,y,h0,h,h1=>by
  have h2:=h0 0 a (by omega) rfl
  have ih:=dl (c:=c) (t:=t) (l:=r) (x:=x) (y:=y) (fun j z hj hz=>h0 (j+1) z (by omega) hz) (by simpa using h) h1
  rw [C6,if_neg (by rw [h2];simp),if_pos (by rw [ih];exact h1),ih]
theorem c65 (l:List Expr) (hl:l.length≤1048576) (hlo:∀e∈l,okE 61 e) (c:List Col) (hc:OkCols c) (by_:List Expr) (hbl:by_.length≤1048576) (hbo:∀e∈by_,okE 61 e) (Hp:List AObj):AFun Tryz.prog 65 [Cj l,Am c,Cj by_] Hp (.tup [Cj (C6 c by_ l).1,A5 (C6 c by_ l).2]):=by
 refine Af [.tmp 6,.tmp 7] [0,1,2] Tryz.func65 Tryz.ntmps65 (fun d=>?_)
 refine Z1 ?_;refine Wb ?_;refine Z2 ?_;refine A2 [0,1,2,8] ?_;refine Z67 ?_;refine N7 8 6 ?_;refine Z22 ?_;refine ABp ?_
 refine B7 (α:=Nat) (fun x=>⟨35,A7 1 (Am c) (A7 2 (Cj by_) (A7 8 (.slice true 6 (((l.take x).map (fun e=>(Fj e c by_).1)).map A9)) (A7 13 (Cj l) (A7 14 (A5 (l.length:Nat)) (A7 15 (A5 (x:Nat)) (fun _=>.any)))))),Hp,[],[],none⟩) (fun x=>x≤l.length∧∀(j:Nat) (y:Expr),j<x→l[j]? = some y→((Fj y c by_).2 != 0)=false) (fun x=>l.length-x) (0) ⟨Ar _,fun j y h=>by omega⟩ (Bo (by simp)) rfl (fun x hx=>?_)
 refine Z2 ?_;refine A2 [1,2,8,13,14,15,16] ?_
 refine Dm (fun ht16=>?_) (fun ht16=>?_)
 ·have hlt:x<l.length:=by simpa using ht16
  refine Qr ?_
  refine A4 (h:=Ac (x) (A9 l[x]) (fun _=>Ax hlt)) (hr:=?_)
  refine Rn ?_;refine A2 [1,2,8,10,13,14,15] ?_;refine Z17 ?_;refine Aa Tryz.call110 (AR2 l[x] (hlo _ (B1 hlt)) c hc by_ hbl hbo _) ?_;refine Xj ?_;refine A2 [1,2,8,11,12,13,14,15] ?_;refine Z8 ?_;refine A2 [1,2,8,11,12,13,14,15,27] ?_
  refine A3 (fun ht27=>?_) (fun ht27=>?_)
  ·have hm:=dl hx.2 (Ab hlt) ht27
   refine Z1 ?_;refine Ru 6 6 false ?_;refine Z88 ?_;refine C4 ?_;exact AFd
  refine og ?_;refine Z57 ?_
  refine Eu jU Tryz.type26 ?_ ?_ ?_
  ·simp only [Aj,Ci,Aw,Az,Tryz.t26];omega
  ·simp only [Aj,Ci,Aw,Az,Tryz.t26];omega
  refine L1 ?_;refine ABp ?_;refine Qv ?_;refine ALz ?_
  rw [Ns hlt,By]
  rw [Bz,Ek,At]
  simp only [show Tryz.t26.size=6 from rfl]
  exact D4 (own:=[]) (fun _=>.refl _) (by repeat (first|exact Be|refine Bd (by first|(simp [or_imp,forall_and];done)|exact Ok|exact Ce|exact D8) ?_)) (by simp) (by simp)
 have hxe:l.length≤x:=by simpa using ht16
 have hm:C6 c by_ l=(l.map (fun e=>(Fj e c by_).1),0):=dk fun j y hy=>hx.2 j y (by have:=(Ad.1 hy).1;omega) hy
 refine Z28 ?_;refine Z17 ?_;refine Z31 ?_;exact A8 (Ay A6 A6) ⟨by rw [hm,E8 hxe],rfl⟩ (hlow:=by simp only [Qg,B5,El,or_false];rintro y (rfl|rfl);exact Ce;simp)

theorem c66 (m:Mov) (c:List Col) (l:List Expr) (Hp:List AObj):AFun Tryz.prog 66 [Gw m,Am c,Cj l] Hp (.fn (.func 111) [] [.ro [Am c],.ro (J6 m),.ro [Cj l]]):=by
 refine Af [.tmp 6] [0,1,2] Tryz.func66 Tryz.ntmps66 (fun d=>?_)
 refine Z27 ?_;refine A2 [3,4,5] ?_;refine ABi ?_;refine Z48 ?_;exact A8 (Ah A6) (hlow:=by simp [or_imp,forall_and,Av])

theorem rr {take:List Str} {c:List Col} {l:List Expr} {k:Nat} {y:Col} (hcl:c.length=l.length) (hy:c[k]? = some y) (h:take.contains y.name=true):Ea take (c.take (k+1)) (l.take (k+1))=Ea take (c.take k) (l.take k):=by
 induction c generalizing l k with
 | nil=>simp at hy
 | cons a r ih =>
  cases l with
  | nil=>simp at hcl
  | cons b s =>
   cases k with
   | zero =>
    have:a=y:=by simpa using hy
    subst this
    simp only [List.take_succ_cons,List.take_zero]
    rw [Ea,if_pos h]
   | succ k =>
    have ih':=ih (l:=s) (k:=k) (by simpa using hcl) (by simpa using hy)
    rw [List.take_succ_cons,List.take_succ_cons,List.take_succ_cons,List.take_succ_cons,Ea,Ea,ih']
theorem AE7 {take:List Str} {c:List Col} {l:List Expr} {k:Nat} {y:Col} {e:Expr} (hcl:c.length=l.length) (hy:c[k]? = some y) (he:l[k]? = some e) (h:take.contains y.name=false):Ea take (c.take (k+1)) (l.take (k+1))=Ea take (c.take k) (l.take k)++[e]:=by
 induction c generalizing l k with
 | nil=>simp at hy
 | cons a r ih =>
  cases l with
  | nil=>simp at hcl
  | cons b s =>
   cases k with
   | zero =>
    have h1:a=y:=by simpa using hy
    have h2:b=e:=by simpa using he
    subst h1
    subst h2
    simp only [List.take_succ_cons,List.take_zero]
    rw [Ea,if_neg (by rw [h];simp)]
    rfl
   | succ k =>
    have ih':=ih (l:=s) (k:=k) (by simpa using hcl) (by simpa using hy) (by simpa using he)
    rw [List.take_succ_cons,List.take_succ_cons,List.take_succ_cons,List.take_succ_cons,Ea,Ea,ih']
    split<;>rfl
theorem rt {n:Nat} {m:Mov}:Low n (.ro (J6 m)):=by
 refine .ro _ fun y hy=>?_
 simp only [B5,El,or_false] at hy
 rcases hy with rfl|rfl|rfl|rfl|rfl
 ·exact .v _
 ·exact yo
 ·exact D8
 ·exact Ce
 exact Ce
theorem ARn (l0:Nat) (m:Mov) (c:List Col) (l:List Expr) (hc:c.length≤1048576) (hcl:c.length=l.length) (ht:m.take.length≤1048576) (U:Nat→List AObj) (hlen:∀k,(U k).length=(U 0).length) (hll:l0<(U 0).length)
  (hlw:∀k,∀x∈U k,ObjLow (U 0).length x) (hn:∀k y,c[k]? = some y→m.take.contains y.name=true→U (k+1)=U k)
  (hy:∀k y e X,c[k]? = some y→l[k]? = some e→m.take.contains y.name=false→AYield Tryz.prog l0 [A9 e] (U k++X) (fun b H'=>b=true∧H'=U (k+1)++X)):ACall Tryz.prog 111 [.yield l0,.ro [Am c],.ro (J6 m),.ro [Cj l]] (U 0) (fun _ H'=>H'=U c.length):=by
 refine Af [] [0,1,2,3] Tryz.func111 Tryz.ntmps111 (fun d=>?_)
 refine Z17 ?_;refine A2 [0,2,3,7,8,9] ?_
 refine B7 (α:=Nat) (fun x=>⟨30,A7 0 (.yield l0) (A7 2 (.ro (J6 m)) (A7 3 (.ro [Cj l]) (A7 7 (Am c) (A7 8 (A5 (c.length:Nat)) (A7 9 (A5 (x:Nat)) (fun _=>.any)))))),U x,[],[],none⟩) (fun x=>x≤c.length) (fun x=>c.length-x) (0) (Ar _) (Bo (by simp)) rfl (fun x hx=>?_)
 refine Z2 ?_;refine A2 [0,2,3,7,8,9,10] ?_
 refine Dm (fun ht10=>?_) (fun ht10=>?_)
 ·have hlt:x<c.length:=by simpa using ht10
  have hle:x<l.length:=by omega
  refine Pl ?_
  refine A4 (h:=Ac (x) (Bq c[x]) (fun _=>Ax hlt)) (hr:=?_)
  refine gi ?_;refine A2 [0,2,3,5,6,7,8,9] ?_;refine Z27 ?_;refine Aa Tryz.call96 (c96 m.take _ ht _) ?_;refine Z0 ?_;refine Z39 ?_
  refine Bi (h:=Ac (x) (A9 l[x]) (fun _=>Ax hle)) (hr:=?_)
  refine Bi ?_
  refine G.yield (l:=l0) (C:=((!m.take.contains c[x].name)==true)) (args:=[A9 l[x]]) (fun hC=>hy x c[x] _ _ (Ab hlt) (Ab hle) (by simpa using hC)) ?_
  intro b V O hV hb hb0
  have hVO:V=U (x+1)∧O=[AObj.cells 41 [Ae c[x].name,A5 c[x].kind]]∧(m.take.contains c[x].name=false→b=true):=by
   cases hcn:m.take.contains c[x].name with
   | true =>
    obtain ⟨h1,h2⟩:=hb0 (by rw [hcn];rfl)
    exact ⟨h1.trans (hn x c[x] (Ab hlt) hcn).symm,h2,fun e=>by cases e⟩
   | false =>
    obtain ⟨h1,h2⟩:=hb (by rw [hcn];rfl)
    have h3:=Rd h2 (by rw [hV,hlen x,hlen (x+1)])
    exact ⟨h3.1,h3.2,fun _=>h1⟩
  obtain ⟨rfl,rfl,hbt⟩:=hVO
  refine ⟨fun _=>by rw [hlen (x+1)];exact hlw (x+1),fun o ho=>(by cases ho),?_⟩
  refine Qu ?_;refine A2 [0,2,3,7,8,9,28] ?_
  refine A3 (fun ht28=>?_) (fun ht28=>?_)
  ·exfalso
   have hcf:m.take.contains c[x].name=false:=by simp at ht28 ⊢;exact ht28.1
   rw [hbt hcf] at ht28
   simp at ht28
  refine Z97 ?_;refine A2 [0,2,3,7,8,9] ?_;refine gm ?_
  exact D4 (own:=[]) (fun _=>.refl _) (by repeat (first|exact Be|refine Bd (by first|(simp [or_imp,forall_and];done)|exact rt|(simp [or_imp,forall_and,Av];done)|(have:=hlen (x+1);simp;omega)) ?_)) (by simp) (by simp)
 have hxe:x=c.length:=by simp at ht10;omega
 exact AMn

theorem AE8 {n:Nat} {m:Mov} {t:TypeId}:ObjLow n (.cells t (J6 m)):=Ju
theorem AE9 {c:List Col} {l:List Mov} (h:((Cq c l).2 != 0)=true):Fc c l=([],1):=if_pos h
theorem zg {c:List Col} {l:List Mov} (h:((Cq c l).2 != 0)=false):Fc c l=H0 c (Iv c) l:=if_neg (by rw [h];simp)
theorem AEa {c:List Col} {ms:List Mov} {k:Nat} {m:Mov} (h:ms[k]? = some m):Cj (Cd c ms (k+1))=.slice false 6 ((Ea m.take (colsAt c ms k) (Cd c ms k)).map A9++(C6 (colsAt c ms k) (Cd c ms k) m.ahead).1.map A9):=by
 rw [Cd,h,←By]
theorem c30 (c:List Col) (hc:OkCols c) (hc2:c.length≤1000000) (l:List Mov) (h:OkMovs l) (Hp:List AObj):AFun Tryz.prog 30 [Am c,Ew l] Hp (.tup [Cj (Fc c l).1,A5 (Fc c l).2]):=by
 refine Af [.tmp 4,.tmp 5] [0,1] Tryz.func30 Tryz.ntmps30 (fun d=>?_)
 refine ge ?_;refine AF3 ?_;refine Z75 ?_;refine A2 [0,1,6,7] ?_;refine Z8 ?_;refine A2 [0,1,6,22] ?_
 refine A3 (fun ht22=>?_) (fun ht22=>?_)
 ·have hm:=AE9 ht22
  refine Z2 ?_;refine Ru 4 6 false ?_;refine A4 ?_;exact AM4
 have hm:=zg ht22
 obtain ⟨hmay,hst,hss⟩:=Ep ht22
 have hmvo:=If hmay
 rw [hss]
 refine Lm ?_;refine Aa Tryz.call64 (c64 c (by omega) _) ?_;refine A4 ?_;refine A2 [1,6,8] ?_;refine Z36 ?_;refine A2 [6,8,25,26,27] ?_
 refine AW.loopG (α:=Nat×List AObj×List Nat) (fun s=>⟨65,A7 6 (Gb (Bx c l l.length)) (A7 8 (Cj (Cd c l s.1)) (A7 25 (Ew l) (A7 26 (A5 (l.length:Nat)) (A7 27 (A5 (s.1:Nat)) (fun _=>.any))))),Hp,s.2.1,s.2.2,none⟩) (fun s=>s.1≤l.length∧Lc c l s.1∧TOk (Cd c l s.1)∧(Cd c l s.1).length=(colsAt c l s.1).length∧(∀x∈s.2.1,ObjLow (Hp.length+s.2.1.length) x)∧∀o∈s.2.2,(Hp++s.2.1)[o]? = some .defs) (fun s=>l.length-s.1) ((0,[],[])) ⟨Ar _,AKh,rn hc,by simp [Cd,Iv,colsAt],(fun x hx=>(F5 hx).elim),fun o ho=>(F5 ho).elim⟩ (Bo (by simp [Cd])) rfl (fun s hs=>?_)
 obtain ⟨k,O,Df⟩:=s
 obtain ⟨hk0,hnf,hTo,hTl,hOo,hDo⟩:=hs
 dsimp only at hk0 hnf hTo hTl hOo hDo ⊢
 refine Z2 ?_;refine A2 [6,8,25,26,27,28] ?_
 refine Dm (fun ht28=>?_) (fun ht28=>?_)
 ·have hlt:k<l.length:=by simpa using ht28
  have hll:=h.len
  have hmk:l[k]? = some l[k]:=Ab hlt
  have hmo:=h.each _ (B1 hlt)
  have hCo:=Fe hc (fun m hm=>h.each m hm) k
  refine Pl ?_
  refine A4 (h:=Ac (k) (Gw l[k]) (fun _=>Ax hlt)) (hr:=?_)
  refine A4 ?_;refine R.alloc (n:=O.length) (ho:=rfl) jZ ?_;refine A4 ?_
  refine fq (n:=O.length+0) (ho:=oat.trans rfl) (hset:=by rw [AAy]<;>simp only [List.set_cons_succ,List.set_cons_zero]<;>rfl) jS ?_
  refine A2 [6,8,9,10,25,26,27] ?_;refine De [0,1,0,0,12,28,0,127,255,511,511,1023,4095] 12 An (by kernel_rfl) ?_;refine Al ?_
  refine Al (h:=Q.loadOwn (n:=O.length+0) (ho:=oat.trans rfl)) (hr:=?_)
  refine Z11 ?_
  refine Al (h:=Ac (k) (Am (colsAt c l k)) (fun _=>We (Gk (by omega)))) (hr:=?_)
  refine Z11 ?_
  refine E1 Tryz.call65 (c65 l[k].ahead hmo.ahead.len hmo.ahead.ok (colsAt c l k) hCo (Cd c l k) (by have:=hCo.1;omega) hTo.ok _) ?_
  refine Z84 ?_;refine jv ?_;refine A2 [6,8,9,10,11,12,25,26,27] ?_;refine Z8 ?_;refine A2 [6,8,9,10,11,12,25,26,27,44] ?_
  refine A3 (fun ht44=>?_) (fun ht44=>?_)
  ·have hm2:=rl hmk hnf ht44
   refine Z1 ?_;refine Ru 4 6 false ?_;refine A4 ?_;refine Z52 ?_;refine Z6 ?_;refine K.lgR ?_;refine C4 ?_;exact A8 (Ay A6 A6) ⟨by rw [hm,hm2]<;>rfl,rfl⟩
  refine x5 ?_
  refine R.alloc (n:=O.length+1) (hn:=by simp) (ho:=by simp only [Bn,Et,Ec]<;>rfl) jZ ?_
  refine Rl (O.length+1) 6 ?_ (ho:=oat.trans rfl) (hset:=by rw [AAy]<;>simp only [List.set_cons_succ,List.set_cons_zero]<;>rfl)
  refine N8 (fun hlow=>?_)
  refine A2 [6,8,9,10,11,13,25,26,27] ?_;refine Ma ?_;refine De [0,0,0,6,14,0,63] 6 An (by kernel_rfl) ?_
  refine Al (h:=Q.loadOwnN (n:=O.length+0) (ho:=oat.trans rfl)) (hr:=?_)
  refine Z11 ?_
  refine Al (h:=Ac (k) (Am (colsAt c l k)) (fun _=>We (Gk (by omega)))) (hr:=?_)
  refine Qt ?_;refine Aa Tryz.call66 (c66 l[k] (colsAt c l k) (Cd c l k) _) ?_;refine A2 [6,11,13,25,26,27,52] ?_;refine Jk ?_
  refine Ob (m:=O.length+2) (hm:=by simp) (ha:=rfl) Tryz.call111 (fun FR as' bd' hFR has hbd=>?_)
  generalize hCd:colsAt c l k=C at *
  generalize hTd:Cd c l k=T at *
  generalize hmd:l[k]=m at *
  have hFRl:∀s,Low (Hp.length+(O.length+4)) (FR s):=by
   intro s
   rw [hFR]
   refine P4 ?_
   revert s
   repeat (first|exact Be|refine Bd (by first|exact Ce|exact F3|exact Gy|(simp [oid,or_imp,forall_and,Av];done)|(simp [oid,or_imp,forall_and]<;>try omega)) ?_)
  have hstl:∀q,(Ea m.take (C.take q) (T.take q)).length≤1048576:=fun q=>by
   have h1:=Km (take:=m.take) (c:=C.take q) (l:=T.take q) (by simp [hTl])
   have h2:=He (C.take q) m.take
   have h3:=hCo.1
   rw [Ci] at h2
   omega
  have hOl:∀{j:Nat} {o:Bool} {lp:AObj},ObjLow (Hp.length+(O.length+4)) lp→∀x∈O++[AObj.cells 48 (J6 m),AObj.cells 24 [AV.slice o 6 ((Ea m.take (C.take j) (T.take j)).map A9)],AObj.defs,lp],ObjLow (Hp.length+(O.length+4)) x:=by
   intro j o lp hlp x hx
   rcases E7.1 hx with hx|hx
   ·exact Oe (by omega) (hOo x hx)
   simp only [B5,El,or_false] at hx
   rcases hx with rfl|rfl|rfl|rfl
   ·exact AE8
   ·intro y hy
    rw [Bl.1 hy]
    exact Ce
   ·trivial
   exact hlp
  refine ⟨_,ACall.heapEq (by rw [Bn];rfl) (ARn (oid Hp.length (O.length+3)) m C T hCo.1 hTl.symm hmo.takes (fun j=>Hp++(O++[AObj.cells 48 (J6 m),AObj.cells 24 [AV.slice true 6 ((Ea m.take (C.take j) (T.take j)).map A9)],AObj.defs,AObj.loop LoopState.ready none FR 65 #[53] as' bd' (oid Hp.length (O.length+2))])) (fun j=>by simp) (by simp [oid]) (fun j x hx=>?_) (fun j y hk hcn=>by simp only [rr hTl.symm hk hcn]) (fun q y e X hk hke hcn=>?_)),?_⟩
  ·have:=Lp (fun x hx=>Oe (by omega) (hlow x hx)) (hOl (o:=true) (lp:=AObj.loop LoopState.ready none FR 65 #[53] as' bd' (oid Hp.length (O.length+2))) ⟨hFRl,by simp [oid]⟩) x hx
   simpa using this
  ·generalize hV:Hp++(O++[AObj.cells 48 (J6 m),AObj.cells 24 [AV.slice true 6 ((Ea m.take (C.take q) (T.take q)).map A9)],AObj.defs,AObj.loop LoopState.ready none FR 65 #[53] as' bd' (oid Hp.length (O.length+2))])++X=V
   have hL:V[(oid Hp.length (O.length+3))]? = some (AObj.loop LoopState.ready none FR 65 #[53] as' bd' (oid Hp.length (O.length+2))):=by rw [←hV,Bn,Bn,Sq];rfl
   have hA0:V[(oid Hp.length (O.length+1))]? = some (AObj.cells 24 [AV.slice true 6 ((Ea m.take (C.take q) (T.take q)).map A9)]):=by rw [←hV,Bn,Bn,Sq];rfl
   refine O5 (pd:=none) (fr:=FR) (sz:=65) (ps:=#[53]) (df:=(oid Hp.length (O.length+2))) (asg:=as') (bd:=bd') hL rfl (by decide) (fun d=>?_)
   subst hFR has hbd
   refine Hq [13,53] ?_;refine ABg ?_;refine A2 [13,14] ?_
   refine ⟨rfl,none,hL,?_⟩
   generalize hbz:(AObj.loop LoopState.busy _ _ _ _ _ _ _)=bz
   have hA:(V.set (oid Hp.length (O.length+3)) bz)[(oid Hp.length (O.length+1))]? = some (AObj.cells 24 [AV.slice true 6 ((Ea m.take (C.take q) (T.take q)).map A9)]):=by rw [Dr (Cn (by omega))];exact hA0
   refine Jk ?_
   refine W.drawT0 [0,0,1,0,15,31,63,31] [0] [.s [54] (some 0) [] [],.q 3 [] []] (fun B=>(V.set (oid Hp.length (O.length+3)) bz).set (oid Hp.length (O.length+1)) (if B 0=true then AObj.cells 24 [AV.slice false 6 ((Ea m.take (C.take q) (T.take q)).map A9)] else AObj.cells 24 [AV.slice true 6 ((Ea m.take (C.take q) (T.take q)).map A9)])) (fun _=>[.cells 26 (Eb e)]) An (by kernel_rfl) (by simp only [Aq,if_false];exact Is hA) rfl (fun B=>by simp) ?_
   refine U4 (o:=(oid Hp.length (O.length+1))) (t':=24) (cs:=[.slice true 6 ((Ea m.take (C.take q) (T.take q)).map A9)]) (cs':=[.slice false 6 ((Ea m.take (C.take q) (T.take q)).map A9)]) Tryz.isAgg24 (fun B hB=>⟨by simp only [hB];exact getset hA,by simp only [upd,if_true,Dy],rfl⟩) ?_
   apply Y.q
   ·intro B hT hF
    refine Z11 ?_;exact Z62
   case hTF=>decide
   refine Y.appendPut3 (tn:=[0]) (U:=(V.set (oid Hp.length (O.length+3)) bz).set (oid Hp.length (O.length+1)) (AObj.cells 24 [AV.slice false 6 ((Ea m.take (C.take q) (T.take q)).map A9)])) (O:=[.cells 26 (Eb e)]) (o:=(oid Hp.length (O.length+1))) (t':=24) (cs:=[.slice false 6 ((Ea m.take (C.take q) (T.take q)).map A9)]) (by kernel_rfl) jU Tryz.type26 Tryz.sizeOf26 Tryz.sizeOf24 (Ag (getset hA)) ?_ ?_ ?_
   ·have:=hstl q;simp [Tryz.t26];omega
   ·have:=hstl q;simp [Tryz.t26];omega
   refine Io jS (getset hA) ?_ ?_
   ·exact Ok
   refine Z78 ?_
   subst hbz
   refine K.rdN (t7 hL (Cn (by omega)) (Cn (by omega))) ?_
   refine ⟨rfl,?_⟩
   subst hV
   simp only [Bn,AAz,Et,Ec,List.set_cons_succ,List.set_cons_zero]
   rw [AE7 hTl.symm hk hke hcn,By,Bz,Ek,At]
  rintro r H' rfl
  simp only [Mu,hTl ▸ Mu]
  refine ⟨Hp,_,_,_,rfl,rfl,fun h=>h,?_,(oat (i:=3)).trans rfl,by simp,?_⟩
  ·intro o ho
   rcases B5.1 ho with rfl|ho
   ·rw [Sq]
    rfl
   rw [←Bn]
   exact Ag (hDo o ho)
  refine Z10 ?_;refine K8 ?_
  refine ARun.ownEq (O++[AObj.cells 48 (J6 m),AObj.cells 24 [AV.slice true 6 ((Ea m.take C T).map A9)],AObj.defs,AObj.loop LoopState.exhausted none FR 65 #[53] as' bd' (oid Hp.length (O.length+2))]) (by rw [show O.length+2+1=O.length+3 from rfl,AAy]<;>rfl) ?_
  refine fp (n:=O.length+1) (ho:=oat.trans rfl) (hset:=by rw [AAy]<;>simp only [List.set_cons_succ,List.set_cons_zero]<;>rfl) jA ?_
  refine A4 ?_
  refine Eu jU Tryz.type26 ?_ ?_ ?_
  ·have h1:=Km (take:=m.take) hTl.symm;have h2:=He C m.take;have h3:=hCo.1;have h4:=Ml (c:=C) (by_:=T) m.ahead (by simpa using ht44);have h5:=hmo.ahead.len;simp only [Aj,Tryz.t26];omega
  ·have h1:=Km (take:=m.take) hTl.symm;have h2:=He C m.take;have h3:=hCo.1;have h4:=Ml (c:=C) (by_:=T) m.ahead (by simpa using ht44);have h5:=hmo.ahead.len;simp only [Aj,Tryz.t26];omega
  refine R.wk 62 _ (.strip true 6 _) ?_;refine A4 ?_;refine A2 [6,8,25,26,27] ?_;refine Qv ?_;refine A2 [6,8,25,26,27] ?_
  have hlp:ObjLow (Hp.length+(O.length+4)) (AObj.loop LoopState.exhausted none FR 65 #[53] as' bd' (oid Hp.length (O.length+2))):=⟨hFRl,by simp [oid]⟩
  have hOn:=hOl (j:=C.length) (o:=false) hlp
  have hse:Ea m.take (C.take C.length) (T.take C.length)=Ea m.take C T:=by rw [Mu,E8 (by omega)]
  rw [hse] at hOn
  refine K.lgN (k+1,O++[AObj.cells 48 (J6 m),AObj.cells 24 [AV.slice false 6 ((Ea m.take C T).map A9)],AObj.defs,AObj.loop LoopState.exhausted none FR 65 #[53] as' bd' (oid Hp.length (O.length+2))],(oid Hp.length (O.length+2))::Df) ⟨hlt,?_,?_,?_,?_,?_⟩ (by dsimp only;omega) (Cg ?_) (by simp)
  ·subst hCd hTd hmd;exact iy hmk hnf ht44
  ·subst hCd hTd hmd;exact ut hmk hmo hTo ht44
  ·subst hCd hTd hmd;exact mn hmk (hmvo _ (B1 hlt)) (Ls hst hmk) hTl ht44
  ·simpa using hOn
  ·intro o ho
   rcases B5.1 ho with rfl|ho
   ·dsimp only;rw [Sq];rfl
   dsimp only;rw [←Bn];exact Ag (hDo o ho)
  dsimp only
  rw [AEa hmk,hCd,hTd]
  rfl
 have hke:k=l.length:=by simp at ht28;omega
 subst hke
 have hm2:=rm hnf
 refine K.lgE ?_;refine Fh ?_;refine Z17 ?_;refine Z9 ?_;exact A8 (Ay A6 A6) ⟨by rw [hm,hm2],rfl⟩ (hlow:=by simp only [Qg,B5,El,or_false];rintro y (rfl|rfl);exact Ce;simp)

/-! slices.Backward of moves. -/
theorem AOo (l0:Nat) (ms:List Mov) (hml:ms.length≤1048576) (U:Nat→List AObj) (N:Nat→Prop) (Z:List AObj→Prop) (hlen:∀k,(U k).length=(U 0).length) (hll:l0<(U 0).length)
  (hlw:∀k,∀x∈U k,ObjLow (U 0).length x) (h0:N 0)
  (hy:∀k m X,k<ms.length→ms[ms.length-1-k]? = some m→N k→AYield Tryz.prog l0 [A5 ((ms.length-1-k:Nat):Int),Gw m] (U k++X) (fun b H'=>(b=true∧N (k+1)∧H'=U (k+1)++X)∨(b=false∧∃V,H'=V++X∧V.length=(U 0).length∧(∀x∈V,ObjLow (U 0).length x)∧Z V)))
  (hR:N ms.length→Z (U ms.length)):ACall Tryz.prog 112 [.yield l0,.ro [Ew ms]] (U 0) (fun _ H'=>Z H'):=by
 refine Af [] [0,1] Tryz.func112 Tryz.ntmps112 (fun d=>?_)
 refine Z1 ?_
 refine A4 (h:=Q.sub64 (h2:=fun _=>by simp only [Aj];omega)) (hr:=?_)
 refine A4 ?_;refine A2 [0,1,3] ?_
 refine B7 (α:=Nat×Int) (fun s=>⟨19,A7 0 (.yield l0) (A7 1 (.ro [Ew ms]) (A7 3 (A5 s.2) (fun _=>.any))),U s.1,[],[],none⟩) (fun s=>s.1≤ms.length∧N s.1∧s.2=(ms.length:Int)-1-(s.1:Int)) (fun s=>ms.length-s.1) ((0,(ms.length:Int)-1)) ⟨Ar _,h0,by simp⟩ (Bo (by simp)) rfl (fun s hs=>?_)
 obtain ⟨x,i⟩:=s
 obtain ⟨hx,hN,hi⟩:=hs
 dsimp only at hx hN hi ⊢
 refine Z8 ?_;refine A2 [0,1,3,8] ?_
 refine A3 (fun ht8=>?_) (fun ht8=>?_)
 ·have hlt:x<ms.length:=by simp at ht8;omega
  have hlt2:ms.length-1-x<ms.length:=by omega
  have hi2:i=((ms.length-1-x:Nat):Int):=by omega
  subst hi2
  refine Z50 ?_;refine Z27 ?_
  refine A4 (h:=Ac (ms.length-1-x) (Gw ms[ms.length-1-x]) (fun _=>Ax hlt2)) (hr:=?_)
  refine A4 ?_
  refine R.yield (l:=l0) (args:=[A5 ((ms.length-1-x:Nat):Int),Gw ms[ms.length-1-x]]) (hy x ms[ms.length-1-x] _ hlt (Ab hlt2) hN) ?_
  intro b V O hV hb
  have hVO:O=[]∧((b=true∧N (x+1)∧V=U (x+1))∨(b=false∧V.length=(U 0).length∧(∀y∈V,ObjLow (U 0).length y)∧Z V)):=by
   rcases hb with ⟨h1,h2,h3⟩|⟨h1,V',h2,h3,h4,h5⟩
   ·have h6:=Rd h3 (by rw [hV,hlen x,hlen (x+1)])
    exact ⟨h6.2,.inl ⟨h1,h2,h6.1⟩⟩
   obtain ⟨rfl,rfl⟩:=Rd h2 (by rw [hV,hlen x,h3])
   exact ⟨rfl,.inr ⟨h1,h3,h4,h5⟩⟩
  obtain ⟨rfl,hVO⟩:=hVO
  have hVl:V.length=(U 0).length:=by rw [hV,hlen x]
  have hVw:∀y∈V,ObjLow (U 0).length y:=by
   rcases hVO with ⟨_,_,rfl⟩|⟨_,_,h,_⟩
   ·exact hlw _
   exact h
  refine ⟨fun _=>by rw [hVl];exact hVw,fun o ho=>(by cases ho),?_⟩
  refine A4 ?_;refine A2 [0,1,3,18] ?_
  refine A3 (fun ht18=>?_) (fun ht18=>?_)
  ·have hZ:Z V:=by
    rcases hVO with ⟨h1,_,_⟩|⟨_,_,_,h⟩
    ·rw [h1] at ht18;cases ht18
    exact h
   refine Gn ?_;refine Z33 ?_;exact A8 .nores (hp:=hZ)
  have hVn:N (x+1)∧V=U (x+1):=by
   rcases hVO with ⟨_,h2,h3⟩|⟨h1,_,_,_⟩
   ·exact ⟨h2,h3⟩
   rw [h1] at ht18;cases ht18
  obtain ⟨hN1,rfl⟩:=hVn
  refine Z81 ?_;refine A2 [0,1,3] ?_
  refine Bb (x+1,((ms.length-1-x:Nat):Int)-1) ⟨hlt,hN1,by dsimp only;omega⟩ (by dsimp only;omega) ?_
  exact Cg rfl
 have hxe:x=ms.length:=by simp at ht8;omega
 refine x7 ?_;exact Fv .nores (hp:=by rw [hxe];exact hR (hxe ▸ hN))

theorem c69 (l:List Mov) (Hp:List AObj):AFun Tryz.prog 69 [Ew l] Hp (.fn (.func 112) [] [.ro [Ew l]]):=by
 refine Af [.tmp 2] [0] Tryz.func69 Tryz.ntmps69 (fun d=>?_)
 refine Z90 ?_;refine ABi ?_;exact AL6

theorem Zp {n k:Nat} {o:Bool} {l:List Val}:∀z∈[AV.slice o k (l.map C3)],Low n z:=fun z hz=>by rw [Bl.1 hz];exact Es
/-- Where the way back stands behind k moves. -/
structure BkAt (c:List Col) (l:List Mov) (row:List Val) (k:Nat):Prop where
 ok:(bkM c l row k).2=0
 row:RowI (colsAt c l (l.length-k)) (bkM c l row k).1
theorem BkAt.zero {c:List Col} {l:List Mov} {row:List Val} (h:RowI (colsAt c l l.length) row):BkAt c l row 0:=⟨rfl,h⟩
theorem BkAt.fin {c:List Col} {l:List Mov} {row:List Val} (h:BkAt c l row l.length):bkM c l row l.length=((bkM c l row l.length).1,0):=Mw rfl h.ok
theorem BkAt.next {c:List Col} {l:List Mov} {row:List Val} {k:Nat} {m:Mov} (h:BkAt c l row k) (hk:k<l.length) (hm:l[l.length-1-k]? = some m) (hg:∀e∈m.back,Dw Hs e=true) (he:(D7 (colsAt c l (l.length-1-k)) (colsAt c l (l.length-1-k+1)) m (bkM c l row k).1).2=0):BkAt c l row (k+1):=by
 have e:=Tf hm h.ok
 have hr:=h.row
 rw [show l.length-k=l.length-1-k+1 by omega] at hr
 refine ⟨by rw [e];exact he,?_⟩
 rw [e,show l.length-(k+1)=l.length-1-k by omega]
 exact ADx hg hr he
theorem V1 {c:List Col} {l:List Mov} {row:List Val} (h:(((Cq c l).2 != 0) || !Gs (colsAt c l l.length) row)=false):Dz c l row=bkM c l row l.length:=if_neg (by rw [h];simp)
theorem AOq {U:List AObj} {l a b c e:Nat} {x y X Y Z T:AObj} (h:U[l]? = some x) (ha:a≠l) (hb:b≠l) (hc:c≠l) (he:e≠l):(((((U.set l y).set a X).set b Y).set c Z).set e T)[l]? = some y:=by rw [Dr he];exact AL2 h ha hb hc
theorem zh (c:List Col) (l:List Mov):(Cq c l).1.length≤l.length+1:=by
 unfold Cq J7
 repeat' split
 all_goals first|exact Ar _|exact Yy c l
theorem dm {c:List Col} {l:List Mov} (h:((Cq c l).2 != 0)=false):((Cq c l).1.map Am)[l.length]? = some (Am (colsAt c l l.length))∧((((Cq c l).1.map Am).length:Nat):Int)-1=((l.length:Nat):Int):=by
 obtain ⟨_,_,hss⟩:=Ep h
 rw [hss]
 refine ⟨We (Gk (Ak _)),?_⟩
 rw [Aj,Hi]
 omega
theorem c67 (l:List Mov) (Hp:List AObj):AFun Tryz.prog 67 [Ew l] Hp (.fn (.func 112) [] [.ro [Ew l]]):=by
 refine Af [.tmp 2] [0] Tryz.func67 Tryz.ntmps67 (fun d=>?_)
 refine Z43 ?_;refine Z2 ?_;refine Aa Tryz.call69 (c69 l _) ?_;refine A4 ?_;exact AL6

theorem c31 (c:List Col) (hc:OkCols c) (hc2:c.length≤1000000) (l:List Mov) (h:OkMovs l) (row:List Val) (hrr:∀v∈row, -9223372036854775808≤v.n∧v.n≤9223372036854775807) (hrl:row.length≤1048576) (Hp:List AObj):AFun Tryz.prog 31 [Am c,Ew l,Cv row] Hp (.tup [Cv (Dz c l row).1,A5 (Dz c l row).2]):=by
 refine Af [.cell 6 28,.cell 7 35] [0,1,2] Tryz.func31 Tryz.ntmps31 (fun d=>?_)
 refine Z35 ?_;refine Pm ?_;refine A2 [0,1,2,6,7] ?_;refine AF3 ?_;refine Z22 ?_;refine Pm ?_;refine Z19 ?_;refine Iq ?_;refine A2 [1,2,6,7,8,9] ?_;refine Z67 ?_
 have hlen:=h.len
 have hsl:((Cq c l).1.map Am).length≤2000000:=by rw [Aj];have:=zh c l;omega
 have hcn:=Fe hc (fun m hm=>h.each m hm) l.length
 refine Z22 ?_;refine Wa ?_
 refine Bi (h:=Ac (l.length) (Am (colsAt c l l.length)) (fun hB=>(dm (by simpa using hB)).1) (hn:=fun hB=>(dm (by simpa using hB)).2)) (hr:=?_)
 refine Z7 ?_;refine Bt Tryz.call12 (fun hB=>c12 (colsAt c l l.length) hcn row hrl _) ?_;refine Qu ?_;refine A2 [1,2,6,7,8,9,31] ?_
 refine A3 (fun ht31=>?_) (fun ht31=>?_)
 ·have hm:Dz c l row=([],1):=if_pos ht31
  refine Fp ?_;refine Iq ?_;refine Rl 0 3 ?_;refine Iq ?_;refine Z31 ?_;refine C4 ?_;exact ANd
 have hm:=V1 ht31
 have h31:((Cq c l).2 != 0)=false∧Gs (colsAt c l l.length) row=true:=by simpa using ht31
 obtain ⟨hmay,hst,hss⟩:=Ep h31.1
 have hmvo:=If hmay
 have hlen:=h.len
 have hR0:=Td h31.2 hrr
 have hol:((Bx c l l.length).map Am).length=l.length+1:=by rw [Aj,Hi]
 rw [hss]
 refine Lm ?_;refine Aa Tryz.call49 (c49 row hrl _) ?_;refine Z19 ?_;refine A2 [1,6,7,8,9,10] ?_;refine Z67 ?_
 refine N8 (fun hlow=>?_)
 refine A4 ?_;refine Aa Tryz.call67 (c67 l _) ?_;refine A2 [6,7,8,9,10,35] ?_;refine Jk ?_
 refine Ob (m:=5) Tryz.call112 (fun FR as' bd' hFR has hbd=>?_)
 have hFRl:∀s,Low (Hp.length+7) (FR s):=by
  intro s
  rw [hFR]
  refine P4 ?_
  revert s
  repeat (first|exact Be|refine Bd (by first|(simp [oid,or_imp,forall_and];done)|exact Gy|exact D8|exact Es|(simp [oid,or_imp,forall_and];exact ⟨fun m _ a _=>Av _ a,fun m _ a _=>Av _ a⟩)|(simp [oid,or_imp,forall_and]<;>omega)) ?_)
 have hOl:∀{e e2:Int} {t:List Val} {lp:AObj},ObjLow (Hp.length+7) lp→∀x∈Hp++[AObj.cells 28 [AV.nil],AObj.cells 35 [A5 e],AObj.cells 59 [Gb (Bx c l l.length)],AObj.cells 35 [A5 e2],AObj.cells 28 [Cv (t)],AObj.defs,lp],ObjLow (Hp.length+7) x:=by
  intro e e2 t lp hlp x hx
  refine Lp (fun x hx=>Oe (by omega) (hlow x hx)) (fun x hx=>?_) x hx
  simp only [B5,El,or_false] at hx
  rcases hx with rfl|rfl|rfl|rfl|rfl|rfl|rfl
  ·intro y hy;rw [Bl.1 hy];simp
  ·intro y hy;rw [Bl.1 hy];simp
  ·intro y hy;rw [Bl.1 hy];exact F3
  ·intro y hy;rw [Bl.1 hy];simp
  ·exact Zp
  ·trivial
  exact hlp
 refine ⟨_,AOo (oid Hp.length 6) l h.len (fun k=>Hp++[AObj.cells 28 [AV.nil],AObj.cells 35 [A5 0],AObj.cells 59 [Gb (Bx c l l.length)],AObj.cells 35 [A5 0],AObj.cells 28 [Cv ((bkM c l row k).1)],AObj.defs,AObj.loop LoopState.ready none FR 57 #[36,37] as' bd' (oid Hp.length 5)]) (BkAt c l row) (fun V=>(∃t,V=Hp++[AObj.cells 28 [AV.nil],AObj.cells 35 [A5 0],AObj.cells 59 [Gb (Bx c l l.length)],AObj.cells 35 [A5 0],AObj.cells 28 [Cv (t)],AObj.defs,AObj.loop LoopState.ready none FR 57 #[36,37] as' bd' (oid Hp.length 5)]∧Dz c l row=(t,0)∧RowI c t)∨(∃(e:Int) (t:List Val),V=Hp++[AObj.cells 28 [AV.nil],AObj.cells 35 [A5 e],AObj.cells 59 [Gb (Bx c l l.length)],AObj.cells 35 [A5 e],AObj.cells 28 [Cv (t)],AObj.defs,AObj.loop LoopState.done (some Code.ret) FR 57 #[36,37] as' bd' (oid Hp.length 5)]∧Dz c l row=([],e))) (fun k=>by simp) (by simp [oid]) (fun k=>(fun x hx=>by rw [Ai];exact hOl (lp:=AObj.loop LoopState.ready none FR 57 #[36,37] as' bd' (oid Hp.length 5)) (by exact ⟨hFRl,by simp [oid]⟩) x hx)) (.zero hR0) (fun k m X hk hm hN=>?_) (fun hN=>.inl ⟨_,rfl,by rw [V1 ht31];exact hN.fin,by have:=hN.row;rw [O2] at this;exact this⟩),?_⟩
 ·generalize hV:Hp++[AObj.cells 28 [AV.nil],AObj.cells 35 [A5 0],AObj.cells 59 [Gb (Bx c l l.length)],AObj.cells 35 [A5 0],AObj.cells 28 [Cv ((bkM c l row k).1)],AObj.defs,AObj.loop LoopState.ready none FR 57 #[36,37] as' bd' (oid Hp.length 5)]++X=V
  have hL:V[oid Hp.length 6]? = some (AObj.loop LoopState.ready none FR 57 #[36,37] as' bd' (oid Hp.length 5)):=by rw [←hV,Bn,Bm];rfl
  have hA0:V[oid Hp.length 0]? = some (AObj.cells 28 [AV.nil]):=by rw [←hV,Bn,Bm];rfl
  have hB0:V[oid Hp.length 1]? = some (AObj.cells 35 [A5 0]):=by rw [←hV,Bn,Bm];rfl
  have hS0:V[oid Hp.length 2]? = some (AObj.cells 59 [Gb (Bx c l l.length)]):=by rw [←hV,Bn,Bm];rfl
  have hE0:V[oid Hp.length 3]? = some (AObj.cells 35 [A5 0]):=by rw [←hV,Bn,Bm];rfl
  have hZ0:V[oid Hp.length 4]? = some (AObj.cells 28 [Cv (bkM c l row k).1]):=by rw [←hV,Bn,Bm];rfl
  refine O5 (pd:=none) (fr:=FR) (sz:=57) (ps:=#[36,37]) (df:=oid Hp.length 5) (asg:=as') (bd:=bd') hL rfl (by decide) (fun d=>?_)
  subst hFR has hbd
  refine Hq [6,7,8,9,10,36,37] ?_
  have hmo:=h.each m (B0 hm)
  have hmv:=hmvo m (B0 hm)
  have htn:=Ls hst hm
  have hcn:=Fq (c:=c) hm
  have hCo:=Fe hc (fun m hm=>h.each m hm) (l.length-1-k+1)
  have hCi:=Fe hc (fun m hm=>h.each m hm) (l.length-1-k)
  have herr:=fun hb=>AHk (row:=row) hk hm hN.ok hb
  have hnxt:=hN.next hk hm (fun e he=>hmo.back.rng e he)
  have htb:=Tf hm hN.ok
  have htl:=hN.row
  rw [show l.length-k=l.length-1-k+1 by omega] at htl
  have hik:l.length-1-k<l.length:=by omega
  have hsy:∀y∈colsAt c l (l.length-1-k),¬0≤Jp y.name m.take→∃j:Nat,B6 y.name (colsAt c l (l.length-1-k+1))=j∧j<(colsAt c l (l.length-1-k+1)).length:=fun y hy hn=>by
   rw [hcn]
   exact AE6 htn hy hn
  generalize l.length-1-k=i at *
  refine Z2 ?_;refine A2 [6,7,8,9,10,11,37] ?_;refine ABg ?_;refine A2 [6,7,8,9,10,11,12] ?_
  refine ⟨rfl,none,hL,?_⟩
  generalize hbz:(AObj.loop LoopState.busy _ _ _ _ _ _ _)=bz
  have hA:(V.set (oid Hp.length 6) bz)[oid Hp.length 0]? = some (AObj.cells 28 [AV.nil]):=by rw [Dr (Cn (by decide))];exact hA0
  have hB:(V.set (oid Hp.length 6) bz)[oid Hp.length 1]? = some (AObj.cells 35 [A5 0]):=by rw [Dr (Cn (by decide))];exact hB0
  have hS:(V.set (oid Hp.length 6) bz)[oid Hp.length 2]? = some (AObj.cells 59 [Gb (Bx c l l.length)]):=by rw [Dr (Cn (by decide))];exact hS0
  have hE:(V.set (oid Hp.length 6) bz)[oid Hp.length 3]? = some (AObj.cells 35 [A5 0]):=by rw [Dr (Cn (by decide))];exact hE0
  have hZ:(V.set (oid Hp.length 6) bz)[oid Hp.length 4]? = some (AObj.cells 28 [Cv (bkM c l row k).1]):=by rw [Dr (Cn (by decide))];exact hZ0
  refine Jk ?_
  refine Ip [0,0,3,7,0,0,32,112,240,0,0,2047,4095,8191,8191,16383,65535] [15] [.q 14 [] [0],.q 1 [] [],.s [] (some 0) [] []] (fun B=>if B 0=true then ((V.set (oid Hp.length 6) bz).set (oid Hp.length 4) (AObj.cells 28 [Cv (D7 (colsAt c l i) (colsAt c l (i+1)) m (bkM c l row k).1).1])) else (V.set (oid Hp.length 6) bz)) (fun _=>[AObj.cells 48 (J6 m)]) An (by kernel_rfl) rfl rfl (fun B=>by split<;>simp) ?_
  apply Y.q
  ·intro B hT hF
   first|simp only [hF 0 (sm 0),Aq,if_false]|skip
   refine Al (h:=Ca hS) (hr:=?_)
   refine Al ?_
   refine Al (h:=Ac (i) (Am (colsAt c l i)) (fun _=>We (Gk (by omega)))) (hr:=?_)
   refine Al ?_
   refine Al (h:=Ca hS) (hr:=?_)
   refine Z11 ?_
   refine Al (h:=Ac ((i+1)) (Am (colsAt c l (i+1))) (fun _=>We (Gk (by omega)))) (hr:=?_)
   refine Z11 ?_
   refine Al (h:=Ca hZ) (hr:=?_)
   refine E1 Tryz.call68 (c68 (colsAt c l i) (colsAt c l (i+1)) hCi.len hCo m hmo (Fx (Kl hmv)).2 hsy (bkM c l row k).1 htl.fine htl.len _) ?_;exact oa
  case hTF=>decide
  apply Y.q
  ·intro B hT hF
   first|simp only [hF 0 (sm 0),Aq,if_false]|skip
   exact Xh
  case hTF=>decide
  refine Y.storeUp (o:=oid Hp.length 4) (t':=28) (ys:=[Cv (D7 (colsAt c l i) (colsAt c l (i+1)) m (bkM c l row k).1).1]) (cs:=[Cv (bkM c l row k).1]) (cs':=[Cv (D7 (colsAt c l i) (colsAt c l (i+1)) m (bkM c l row k).1).1]) Tryz.sizeOf28 (fun B hB=>⟨by simp only [hB];exact hZ,by simp [upd,hB],rfl,Zp⟩) ?_
  refine Ha (tn:=[15]) (U:=((V.set (oid Hp.length 6) bz).set (oid Hp.length 4) (AObj.cells 28 [Cv (D7 (colsAt c l i) (colsAt c l (i+1)) m (bkM c l row k).1).1]))) ?_
  refine Fu jS (b6 hE (Cn (by decide))) ?_ ?_
  ·simp
  refine A2 [6,7,9] ?_;refine Fp ?_
  have hE2:(((V.set (oid Hp.length 6) bz).set (oid Hp.length 4) (AObj.cells 28 [Cv (D7 (colsAt c l i) (colsAt c l (i+1)) m (bkM c l row k).1).1])).set (oid Hp.length 3) (AObj.cells 35 [A5 (D7 (colsAt c l i) (colsAt c l (i+1)) m (bkM c l row k).1).2]))[oid Hp.length 3]? = some (AObj.cells 35 [A5 (D7 (colsAt c l i) (colsAt c l (i+1)) m (bkM c l row k).1).2]):=getset (b6 hE (Cn (by decide)))
  refine A4 (h:=Ca hE2) (hr:=?_)
  refine A4 ?_;refine A2 [6,7,9,54] ?_
  refine A3 (fun ht54=>?_) (fun ht54=>?_)
  ·have herr:=herr (by simpa using ht54)
   refine Ip [0,0,3] [1] [.q 1 [] [],.s [] (some 0) [] []] (fun B=>if B 0=true then ((((V.set (oid Hp.length 6) bz).set (oid Hp.length 4) (AObj.cells 28 [Cv (D7 (colsAt c l i) (colsAt c l (i+1)) m (bkM c l row k).1).1])).set (oid Hp.length 3) (AObj.cells 35 [A5 (D7 (colsAt c l i) (colsAt c l (i+1)) m (bkM c l row k).1).2])).set (oid Hp.length 0) (AObj.cells 28 [AV.nil])) else (((V.set (oid Hp.length 6) bz).set (oid Hp.length 4) (AObj.cells 28 [Cv (D7 (colsAt c l i) (colsAt c l (i+1)) m (bkM c l row k).1).1])).set (oid Hp.length 3) (AObj.cells 35 [A5 (D7 (colsAt c l i) (colsAt c l (i+1)) m (bkM c l row k).1).2]))) (fun _=>[AObj.cells 48 (J6 m)]) An (by kernel_rfl) rfl rfl (fun B=>by split<;>simp) ?_
   apply Y.q
   ·intro B hT hF
    refine Al (h:=Ca (show (if B 0=true then ((((V.set (oid Hp.length 6) bz).set (oid Hp.length 4) (AObj.cells 28 [Cv (D7 (colsAt c l i) (colsAt c l (i+1)) m (bkM c l row k).1).1])).set (oid Hp.length 3) (AObj.cells 35 [A5 (D7 (colsAt c l i) (colsAt c l (i+1)) m (bkM c l row k).1).2])).set (oid Hp.length 0) (AObj.cells 28 [AV.nil])) else (((V.set (oid Hp.length 6) bz).set (oid Hp.length 4) (AObj.cells 28 [Cv (D7 (colsAt c l i) (colsAt c l (i+1)) m (bkM c l row k).1).1])).set (oid Hp.length 3) (AObj.cells 35 [A5 (D7 (colsAt c l i) (colsAt c l (i+1)) m (bkM c l row k).1).2])))[oid Hp.length 3]? = some (AObj.cells 35 [A5 (D7 (colsAt c l i) (colsAt c l (i+1)) m (bkM c l row k).1).2]) by split;exact b6 hE2 (Cn (by decide));exact hE2)) (hr:=?_)
    exact an
   case hTF=>decide
   refine Y.storeUp (o:=oid Hp.length 0) (t':=28) (ys:=[.nil]) (cs:=[.nil]) (cs':=[.nil]) Tryz.sizeOf28 (fun B hB=>⟨by simp only [hB];exact b6 (b6 hA (Cn (by decide))) (Cn (by decide)),by simp [upd,hB],rfl,by simp⟩) ?_
   refine Ha (tn:=[1]) (U:=((((V.set (oid Hp.length 6) bz).set (oid Hp.length 4) (AObj.cells 28 [Cv (D7 (colsAt c l i) (colsAt c l (i+1)) m (bkM c l row k).1).1])).set (oid Hp.length 3) (AObj.cells 35 [A5 (D7 (colsAt c l i) (colsAt c l (i+1)) m (bkM c l row k).1).2])).set (oid Hp.length 0) (AObj.cells 28 [AV.nil]))) ?_
   refine Fu jS (b6 (b6 (b6 hB (Cn (by decide))) (Cn (by decide))) (Cn (by decide))) ?_ ?_
   ·simp
   refine A2 [] ?_;refine Gn ?_;refine K.blR ?_
   subst hbz
   refine K.rdR (AOq hL (Cn (by decide)) (Cn (by decide)) (Cn (by decide)) (Cn (by decide))) ?_
   refine .inr ⟨rfl,Hp++[AObj.cells 28 [AV.nil],AObj.cells 35 [A5 (D7 (colsAt c l i) (colsAt c l (i+1)) m (bkM c l row k).1).2],AObj.cells 59 [Gb (Bx c l l.length)],AObj.cells 35 [A5 (D7 (colsAt c l i) (colsAt c l (i+1)) m (bkM c l row k).1).2],AObj.cells 28 [Cv ((D7 (colsAt c l i) (colsAt c l (i+1)) m (bkM c l row k).1).1)],AObj.defs,_],?_,by simp,(fun x hx=>by rw [Ai];exact hOl (lp:=_) (by exact ⟨hFRl,by simp [oid]⟩) x hx),.inr ⟨_,_,rfl,by rw [V1 ht31];exact herr⟩⟩
   subst hV
   simp only [Bn,Gf,Et,Ec,List.set_cons_succ,List.set_cons_zero]
  have hB1:=hnxt (by simpa using ht54)
  refine ww ?_
  subst hbz
  refine AFp ?_
  refine .inl ⟨rfl,hB1,?_⟩
  subst hV
  simp only [Bn,Gf,Et,Ec,List.set_cons_succ,List.set_cons_zero]
  rw [htb,show (D7 (colsAt c l i) (colsAt c l (i+1)) m (bkM c l row k).1).2=0 by simpa using ht54]
 rintro r H' (⟨t,rfl,hrun,_⟩|⟨e,t,rfl,hrun⟩)
 ·refine ⟨Hp,_,_,_,rfl,rfl,fun h=>h,?_,rfl,by simp,?_⟩
  ·intro o ho
   have:o=oid Hp.length 5:=by simpa using ho
   subst this
   rw [Bm]
   rfl
  refine Z10 ?_;refine Z2 ?_;refine AF7 ?_;refine Z31 ?_;exact A8 (Ay (Gv jA) (Gv jA)) ⟨by rw [hrun],rfl⟩ (hlow:=by simp only [Qg,B5,El,or_false];rintro y (rfl|rfl);exact Es;simp)
 refine ⟨Hp,_,_,_,rfl,rfl,fun h=>h,?_,rfl,by simp,?_⟩
 ·intro o ho
  have:o=oid Hp.length 5:=by simpa using ho
  subst this
  rw [Bm]
  rfl
 refine W.nilOwn 0 3 ?_;refine Gn ?_;exact ALm

/-! mig.Parse: the first fault is o8. -/
inductive PR (α:Type) where
 | ok (r:α) (i:Nat)
 | bad (e a:Int)
def PR.bind {α β:Type} (x:PR α) (f:α→Nat→PR β):PR β:=match x with
 | .ok r i=>f r i
 | .bad e a=>.bad e a
def dn {α:Type} (L:List Tok) (i:Nat) (e:Int):PR α:=.bad e (Ao L i).at_
def isP (L:List Tok) (s:Str) (i:Nat):Bool:=(((Ao L i).kind==5) || ((Ao L i).kind==2))&&((Ao L i).text==s)
def Dp (L:List Tok) (s:Str) (i:Nat):PR Unit:=if isP L s i then .ok () (i+1) else dn L i 8
def Ix (L:List Tok) (i:Nat):PR Str:=if (Ao L i).kind != 1 then dn L i 8 else .ok (Ao L i).text (i+1)
def uz (L:List Tok) (nm:Str) (j:Nat):PR Col:=if ((Ao L j).kind != 2) || (Vn (Ao L j).text==0) then dn L j 8 else .ok ⟨nm,Vn (Ao L j).text⟩ (j+1)
def Lu (L:List Tok) (i:Nat):PR Col:=(Ix L i).bind (uz L)
def Ov (L:List Tok) (i:Nat):PR Expr:=if (atM L i).2.2.1 != 0 then .bad (atM L i).2.2.1 (atM L i).2.2.2 else .ok (atM L i).1 (atM L i).2.1.toNat
def Ex (m:Mov) (c:Col):Mov:={ m with give:=m.give++[c] }
def v6 (m:Mov) (x:Expr):Mov:={ m with ahead:=m.ahead++[x] }
def Gl (L:List Tok) (m:Mov) (i:Nat):PR Mov:=(Lu L i).bind fun c j=>(Dp L [61] j).bind fun _ j=>(Ov L j).bind fun x j=>.ok (v6 (Ex m c) x) j
def Vu (L:List Tok) (n:Int) (k:Nat) (i:Nat):Bool:=decide ((k:Int)<n) || ((n==0)&&(decide ((k:Int)<2) || isP L [44] i))
/-- Things with commas between, behind the first k. -/
def Tg (L:List Tok) (n:Int) (one:Mov→Nat→PR Mov):Nat→Nat→Mov→Nat→PR Mov
 | 0,_,m,i=>.ok m i
 | f+1,k,m,i=>if Vu L n k i then (Dp L [44] i).bind fun _ j=>(one m j).bind fun m j=>Tg L n one f (k+1) m j else .ok m i
def Jw (L:List Tok) (n:Int) (one:Mov→Nat→PR Mov) (m:Mov) (i:Nat):PR Mov:=(one m i).bind fun m j=>Tg L n one (L.length+1) 1 m j
def AEb:Str:=[98,97,99,107]
def Lh:Str:=[105,110,116,111]
def toW:Str:=[116,111]
def v7 (m:Mov) (x:Expr):Mov:={ m with back:=m.back++[x] }
def Vw (L:List Tok) (m:Mov) (i:Nat):PR Mov:=(Ov L i).bind fun x j=>.ok (v7 m x) j
def Hj (L:List Tok) (m:Mov) (i:Nat):PR Mov:=(Dp L AEb i).bind fun _ j=>Jw L m.take.length (Vw L) m j
def Lv (L:List Tok) (m:Mov) (i:Nat):PR Mov:=(Ix L i).bind fun s j=>(Dp L toW j).bind fun _ j=>(Ix L j).bind fun t j=>.ok ⟨m.kind,[s],[⟨t,0⟩],[Cw s],[Cw t]⟩ j
def takeS (m:Mov) (s:Str):Mov:={ m with take:=[s] }
def v8 (m:Mov) (s:Str):Mov:={ m with take:=m.take++[s] }
def Th (L:List Tok) (m:Mov) (i:Nat):PR Mov:=(Ix L i).bind fun s j=>.ok (v8 m s) j
def Jx (L:List Tok) (m:Mov) (i:Nat):PR Mov:=
 if m.kind==1 then Gl L m i
 else if m.kind==2 then (Ix L i).bind fun s j=>Hj L (takeS m s) j
 else if m.kind==3 then Lv L m i
 else if m.kind==4 then (Ix L i).bind fun s j=>(Dp L Lh j).bind fun _ j=>(Jw L 0 (Gl L) (takeS m s) j).bind fun m j=>Hj L m j
 else if m.kind==5 then (Jw L 0 (Th L) m i).bind fun m j=>(Dp L Lh j).bind fun _ j=>(Gl L m j).bind fun m j=>Hj L m j
 else if m.kind==6 then (Gl L m i).bind fun m j=>Hj L (takeS m (m.give.getD 0 ⟨[],0⟩).name) j
 else .ok m i
def migWords:List Str:=[[],[97,100,100],[100,114,111,112],[114,101,110,97,109,101],[115,112,108,105,116],[109,101,114,103,101],[114,101,116,121,112,101]]
def Fl (k:Int):Str:=if (decide (k<1) || decide (6<k))=true then [] else migWords.getD k.toNat []
def J1 (s:Str):Int:=if Fl 1==s then 1 else if Fl 2==s then 2 else if Fl 3==s then 3 else if Fl 4==s then 4 else if Fl 5==s then 5 else if Fl 6==s then 6 else 0
def Q6 (L:List Tok) (i:Nat):PR Mov:=
 if ((Ao L i).kind != 2) || (J1 (Ao L i).text==0) then dn L i 8
 else (Jx L ⟨J1 (Ao L i).text,[],[],[],[]⟩ (i+1)).bind fun m j=>(Dp L [59] j).bind fun _ j=>.ok m j
/-- Moves, behind some. -/
def Ol (L:List Tok):Nat→List Mov→Nat→PR (List Mov)
 | 0,l,i=>.ok l i
 | f+1,l,i=>if (Ao L i).kind != 0 then (if (l.length:Int)==8 then dn L i 3 else (Q6 L i).bind fun m j=>Ol L f (l++[m]) j) else .ok l i
def Ld (L:List Tok):PR (List Mov):=Ol L 9 [] 0
/-- The moves; the fault's code and place. -/
def ru (s:Str):List Mov×Int×Int:=
 if (Ic s).2.1 != 0 then ([],(Ic s).2.1,(Ic s).2.2)
 else match Ld (Ic s).1 with
  | .ok l _=>(l,0,0)
  | .bad e a=>([],e,a)
end Go.SX.Nb
namespace Go.SX
variable [GI:GlobInv]
open Classical
section
variable {P:Program} {d:Nat}
variable {sz:Nat} {dfs:List Nat} {rnd:Option Nat} {l0:List Oper} {up own:(Nat→Bool)→List AObj} {KP:List PanicEntry→St→Prop} {E:List Oper→(Nat→AV)→Prop} {S:List SegY} {l:List Oper} {fr:Nat→AV} {ty:TypeId} {pos:String} {aft:Array Edge} {s:Nat} {T F:List Nat}
end
section
variable {P:Program} {d:Nat} {ops:Array Oper}
theorem AW.upEq {c:Code} {sz:Nat} {fr:Nat→AV} {up up' own:List AObj} {dfs:List Nat} {rnd:Option Nat} {K:Exit→St→Prop} (e:up=up') (h:AW P d c ⟨sz,fr,up',own,dfs,rnd⟩ K):AW P d c ⟨sz,fr,up,own,dfs,rnd⟩ K:=e ▸ h
end
end Go.SX
namespace Go.SX
def S8:=@AW.upEq
end Go.SX
namespace Go.SX
variable [GI:GlobInv]
open Classical
section
variable {P:Program} {d:Nat} {st:St} {ty:TypeId} {pos:String} {aft:Array Edge} {gd:Option (Nat×Bool)}
/-- A variable of its own, not laid yet. -/
theorem AOp.allocP {t:TypeId} {z:Value} {k s:Nat} (hz:∀w,(zeroValue t).run P w=.ok z w) (hk:z.cells.size=k) (hs:s<st.sz):
  AOp P d ⟨some s,.alloc t,ty,pos,aft,gd⟩ st (·=st.set s (.cellp k)):=by
 subst hk
 intro G a w h Q'
 let G':Gh:={ G with tag:=fun b o=>if b=w.heap.size∧o<z.cells.size then .tail (.slot d s) else G.tag b o }
 have hfree:∀o,G.tag w.heap.size o=.free:=fun o=>Ge h.tags _ o (Ak _)
 have hne:∀b o,G.tag b o≠.free→¬(b=w.heap.size∧o<z.cells.size):=fun b o hb hc=>by rw [hc.1] at hb;exact hb (hfree o)
 have hkeep:∀b o,G.tag b o≠.free→G'.tag b o=G.tag b o:=fun b o hb=>by simp only [G'];rw [if_neg (hne b o hb)]
 have hcell:∀b o,G.tag b o≠.free→(w.alloc (.cells z.cells t)).cell? ⟨b,o,none⟩=w.cell? ⟨b,o,none⟩:=fun b o hb=>by
  refine World.cell?_alloc_old _ _ _ ?_
  show b≠w.heap.size
  rintro rfl
  exact hb (hfree o)
 have T:Turn G w G' (w.alloc (.cells z.cells t)):=by
  refine ⟨fun b o hb=>⟨by rw [hkeep b o (by rw [hb];simp)];exact hb,hcell b o (by rw [hb];simp)⟩,fun b o L hb=>by rw [hkeep b o (by rw [hb];simp)];exact hb,fun b o i hb=>by rw [hkeep b o (by rw [hb];simp)];exact hb,Ak _,fun o ho=>rfl,rfl,rfl,rfl,by simp,f8 _ (fun b o hb=>.inl (by simp only [G'];rw [if_neg (by omega)])) (fun i hi=>.inl ⟨hi,rfl⟩)⟩
 have h1:StRel d G' st a (w.alloc (.cells z.cells t)):=by
  refine h.turn (U:=st.up) (O:=st.own) T ⟨fun i x hx=>T.objRel ?_ ?_ (h.heap.obj i x hx) (fun b hb=>?_),h.heap.n,h.heap.inj⟩ rfl h.defsAt ⟨fun b o hb=>?_,fun b o i hb=>?_,fun b o L hb=>?_,h.tags.globKeep T.old⟩ h.low
  ·rw [h.heap.n];exact (Ad.1 hx).1
  ·have:=(h.heap.obj i x hx).blt
   show (w.heap.push _)[G.blk i]? = _
   rw [Oo,if_neg (by omega)]
  ·have:=hb.lt
   show (w.heap.push _)[b]? = _
   rw [Oo,if_neg (by omega)]
  ·simp only [G'] at hb
   split at hb
   ·rename_i hc
    obtain ⟨rfl,hlt⟩:=hc
    exact ⟨z.cells[o],by rw [World.cell?_alloc_new];exact F9 hlt⟩
   rw [hcell b o hb]
   exact h.tags.ex b o hb
  ·simp only [G'] at hb
   split at hb
   ·cases hb
   rw [World.frozen?_alloc_old]
   ·exact h.tags.obj b o i hb
   show b≠w.heap.size
   rintro rfl
   rw [hfree] at hb;cases hb
  simp only [G'] at hb
  split at hb
  ·rename_i hc
   obtain ⟨rfl,hlt⟩:=hc
   exact World.frozen?_alloc_new _ _ _ _
  rw [World.frozen?_alloc_old]
  ·exact h.tags.tail b o L hb
  show b≠w.heap.size
  rintro rfl
  rw [hfree] at hb;cases hb
 have hrun:(execOp a.eval (⟨some s,.alloc t,ty,pos,aft,gd⟩:Oper)).run P w=.ok (.value (.pointer (some ⟨w.heap.size,0,none⟩))) (w.alloc (.cells z.cells t)):=by
  simp [execOp,Instr.alloc,hz,newVar,newRow]
 refine Dt (by intro c h;cases h) hrun ⟨G',_,h1.put (s:=s) (y:=.cellp z.cells.size) hs ?_,T.keep d,rfl,rfl,rfl,rfl⟩
 exact .cellp _ _ _ ⟨_,rfl,fun o ho=>by simp [G',ho]⟩

/-- It is laid: from now on nobody writes it. -/
theorem AOp.storeP {t:TypeId} {x:Operand} {r k:Nat} {y:AV} (hsz:∀w,(sizeOf t).run P w=.ok k w) (hf:st.fr r=.cellp k) (hx:st.ev x=y) (hk:y.cells.length=k) (hk0:0<k) (h1:y.cells.all AV.one=true):
  AOp P d ⟨none,.store t (.tmp r) x,ty,pos,aft,gd⟩ st (·=st.set r (.ro y.cells)):=by
 intro G a w h Q'
 have hone:∀c∈y.cells,c.one=true:=fun c hc=>B2.1 h1 c hc
 obtain ⟨hc,hcc⟩:=(hx ▸ h.eval x).cells hone
 have hsl:=h.slots r
 rw [hf] at hsl
 generalize hv:a.tmps.getD r undef=v at hsl
 cases hsl with
 | cellp l k b ho =>
  obtain ⟨L,hL,ht⟩:=ho
  injection hL with hL
  subst hL
  let us:=(a.eval x).cells.toList
  have hul:us.length=k:=by simp only [us,Array.length_toList];omega
  have huone:∀u∈us,u.oneCell'=true:=fun u hu=>by
   obtain ⟨j,hj⟩:=Cm hu
   have hj':(a.eval x).cells[j]? = some u:=by rw [←Rb];exact hj
   have hlt:j<y.cells.length:=by rw [←hc];exact (On.1 hj').1
   exact (hcc j _ u (Ab hlt) hj').one (hone _ (B1 hlt))
  have hrun0:=run_storeCells_cells (P:=P) b 0 us 0 w (fun j hj=>by
    obtain ⟨u,hu⟩:=h.tags.ex b j (by rw [ht j (by omega)];simp)
    simp only [Nat.add_zero,C0];rw [hu];rfl) (fun j hj=>by simpa using h.tags.tail _ _ _ (ht j (by omega))) huone
  simp only [Nat.add_zero] at hrun0
  let W:=w.setCells b 0 us
  let G':Gh:={ G with tag:=fun b' o=>if b'=b∧o<k then .fix else G.tag b' o }
  have htag:∀b' o,G.tag b' o≠.tail (.slot d r)→G'.tag b' o=G.tag b' o:=fun b' o hb=>by
   simp only [G']
   rw [if_neg]
   rintro ⟨rfl,ho⟩
   exact hb (ht o ho)
  have hout:∀b' o,¬(b'=b∧o<k)→W.cell? ⟨b',o,none⟩=w.cell? ⟨b',o,none⟩:=fun b' o hn =>
   World.cell?_setCells_out _ us 0 w ⟨b',o,none⟩ (fun hb _=>by
    simp only at hb ⊢
    exact .inr (Sg fun h''=>hn ⟨hb,by omega⟩))
  have hcell:∀b' o,G.tag b' o≠.tail (.slot d r)→W.cell? ⟨b',o,none⟩=w.cell? ⟨b',o,none⟩:=fun b' o hb=>hout b' o (fun hn=>hb (by rw [hn.1];exact ht o hn.2))
  have hnb:∀i,i<G.n→G.blk i≠b:=Oq h.heap h.tags (ht 0 hk0)
  have hheap:∀b',b'≠b→W.heap[b']? = w.heap[b']? := fun b' hb=>Eg _ _ _ _ _ hb
  have hsize:W.heap.size=w.heap.size:=Ef _ _ _ _
  have hstill:Still G w G' W:=M3 (fun b' hb'=>hheap b' (fun e=>L9 (ht 0 hk0) (e ▸ hb'))) (Jf hsize.symm) (fun b' o _=>by
   by_cases hc:b'=b∧o<k
   ·exact .inr ⟨_,by rw [hc.1];exact ht o hc.2⟩
   exact .inl (by simp only [G'];rw [if_neg hc])) (fun i hi=>.inl ⟨hi,rfl⟩)
  have hfix:∀b' o,G.tag b' o=.fix→G'.tag b' o=.fix∧W.cell? ⟨b',o,none⟩=w.cell? ⟨b',o,none⟩:=fun b' o hb=>⟨by rw [htag b' o (by rw [hb];simp)];exact hb,hcell b' o (by rw [hb];simp)⟩
  have htail:∀b' o L,L≠.slot d r→G.tag b' o=.tail L→G'.tag b' o=.tail L:=fun b' o L hL hb=>by
   rw [htag b' o (by rw [hb];intro e;injection e with e;exact hL e)];exact hb
  have hobj:∀b' o i,G.tag b' o=.obj i→G'.tag b' o=.obj i:=fun b' o i hb=>by rw [htag b' o (by rw [hb];simp)];exact hb
  have hrep:∀{l:Option Loc} {z:AV} {u:Value},l≠some (.slot d r)→Rep G w l z u→Rep G' W l z u:=fun hl hz =>
   hz.mono (G':=G') hfix (Ak _) (fun _ _=>rfl) (fun L hL b' o ht'=>htail b' o L (fun e=>hl (by rw [hL,e])) ht')
  have hkeep:Keep d G w G' W:=⟨hfix,fun b' o e s he ht'=>htail b' o _ (by rintro ⟨⟩;omega) ht',Ak _,fun _ _=>rfl,I2 _ _ _ _,Gp _ _ _ _,Fg _ _ _ _,Jf hsize.symm,hstill⟩
  have hvec:∀j u,us[j]? = some u→W.cell? ⟨b,j,none⟩=some u:=fun j u hu=>by
   have hj:=(Ad.1 hu).1
   have hex:∃u',w.cell? ⟨b,j,none⟩=some u':=h.tags.ex b j (by rw [ht j (by omega)];simp)
   obtain ⟨u',hu'⟩:=hex
   have hbk:∃vs e fz,w.heap[b]? = some (.cells vs e fz):=by
    simp only [World.cell?] at hu'
    split at hu'
    ·rename_i vs e fz hb;exact ⟨vs,e,fz,hb⟩
    cases hu'
   obtain ⟨vs,e,fz,hbk⟩:=hbk
   have hlen:0+us.length≤vs.size:=by
    rw [hul,C0]
    rcases Bv vs.size k with h'|h'
    ·exfalso
     obtain ⟨u2,hu2⟩:=h.tags.ex b vs.size (by rw [ht _ h'];simp)
     simp [World.cell?,hbk] at hu2
    exact h'
   obtain ⟨vs',b1,b2,b3⟩:=M6 b e fz us 0 w vs hbk hlen
   have b3':=b3 j
   rw [if_pos (by omega)] at b3'
   show (w.setCells b 0 us).cell? ⟨b,j,none⟩=some u
   simp only [World.cell?,b1]
   rw [b3',Nat.sub_zero]
   exact hu
  have hst:StRel d G' (st.set r (.ro y.cells)) a W:=by
   refine ⟨h.size,fun s=>?_,⟨fun i z hz=>?_,h.heap.n,h.heap.inj⟩,h.defs,h.defsAt,h.defsNodup,h.defsGe,⟨fun b' o hb=>?_,fun b' o i hb=>?_,fun b' o L hb=>?_,h.tags.globKeep hstill⟩,h.rnd,h.low,h.top⟩
   ·show Rep G' W _ (A7 r (.ro y.cells) st.fr s) _
    unfold A7
    by_cases hs:s=r
    ·subst hs
     rw [if_pos rfl,hv]
     refine .ro _ _ ⟨b,0,none⟩ (fun j=>(a.eval x).cells.getD j undef) rfl hone (fun j c hj=>?_) (fun j c hj=>?_)
     all_goals
      have hlt:j<y.cells.length:=(Ad.1 hj).1
      have hu:(a.eval x).cells[j]? = some ((a.eval x).cells[j]'(by omega)):=F9 _
      have e1:(a.eval x).cells.getD j undef=(a.eval x).cells[j]'(by omega):=by rw [Kw,hu];rfl
      rw [e1]
     ·refine ⟨by simp only [G',C0];rw [if_pos ⟨trivial,by omega⟩],?_⟩
      rw [C0]
      exact hvec j _ (by simp only [us];rw [Rb];exact hu)
     exact hrep (by simp) (hcc j c _ hj hu)
    rw [if_neg hs]
    exact hrep (by simp;exact fun e=>hs e) (h.slots s)
   ·have hob:=h.heap.obj i z hz
    have hi:i<G.n:=by rw [h.heap.n];exact (Ad.1 hz).1
    have hb:=hheap (G.blk i) (hnb i hi)
    cases z with
    | cells t cs =>
     obtain ⟨vs,a1,a2,a3,a4⟩:=hob
     exact ⟨vs,hb.trans a1,a2,fun j y u p q=>hrep (by simp) (a3 j y u p q),fun j hj=>hobj _ _ _ (a4 j hj)⟩
    | loop sta pd fr sz ps asg bd df =>
     obtain ⟨fn,tmps,a1,a2,a3,a4⟩:=hob
     exact ⟨fn,tmps,hb.trans a1,a2,fun s=>hrep (by simp) (a3 s),a4⟩
    | defs=>exact hb.trans hob
    | dead=>exact hb.trans hob
    | bld t e bs=>exact BldRel.turn hob rfl (fun b' o ho=>hobj b' o i ho) hb (fun b' ha=>hheap b' (fun e=>by
      have:=ha.tag h.tags (o:=0) (by rw [e,ht 0 hk0];simp)
      rw [e,ht 0 hk0] at this;cases this))
    | gone =>
     obtain ⟨vs,t,fz,a1,a2⟩:=hob
     exact ⟨vs,t,fz,hb.trans a1,fun j hj=>(hfix _ _ (a2 j hj)).1⟩
   ·by_cases hc:b'=b∧o<k
    ·obtain ⟨rfl,ho⟩:=hc
     exact ⟨us[o]'(by omega),hvec o _ (Ab _)⟩
    rw [hout b' o hc]
    simp only [G',if_neg hc] at hb
    exact h.tags.ex b' o hb
   ·rw [World.frozen?_setCells]
    simp only [G'] at hb
    split at hb
    ·cases hb
    exact h.tags.obj b' o i hb
   rw [World.frozen?_setCells]
   simp only [G'] at hb
   split at hb
   ·cases hb
   exact h.tags.tail b' o L hb
  have hrun:(execOp a.eval (⟨none,.store t (.tmp r) x,ty,pos,aft,gd⟩:Oper)).run P w=.ok .skip W:=
   I4 hsz (show a.eval (.tmp r)=_ from hv) (by omega) hrun0
  exact I9 (by intro c h;cases h) hrun ⟨G',_,hst,hkeep,rfl,rfl,rfl,rfl⟩
end
section
variable {P:Program} {d:Nat} {sz:Nat} {dfs:List Nat} {rnd:Option Nat} {l0:List Oper} {up own:(Nat→Bool)→List AObj} {KP:List PanicEntry→St→Prop} {E:List Oper→(Nat→AV)→Prop} {S:List SegY} {l:List Oper} {fr:Nat→AV} {ty:TypeId} {pos:String} {aft:Array Edge} {s:Nat} {T F:List Nat}
theorem Y.allocP {t:TypeId} {z:Value} {k:Nat} (hz:∀w,(zeroValue t).run P w=.ok z w) (h:ChainY P d l0 sz up own dfs rnd KP E S l (A7 s (.cellp k) fr)) (hk:z.cells.size=k:=by rfl) (hs:Nat.blt s sz=true:=by rfl):
  ChainY P d l0 sz up own dfs rnd KP E (.s [s] none T F::S) (⟨some s,.alloc t,ty,pos,aft,none⟩::l) fr:=by
 refine ⟨_,l,[(s,.cellp k)],rfl,⟨rfl,rfl,fun B f _ _ _ hf=>.of ?_⟩,h⟩
 exact AOp.allocP (st:=⟨sz,f,up B,own B,dfs,rnd⟩) hz hk (by simpa using hs)
theorem Y.storeP {t:TypeId} {x:Operand} {r k:Nat} {y:AV} {ys:List AV} (hsz:∀w,(Go.sizeOf t).run P w=.ok k w) (h:ChainY P d l0 sz up own dfs rnd KP E S l (A7 r (.ro ys) fr))
  (hf:fr r=.cellp k:=by exact sL0) (hx:Bc fr x=y:=by exact sL0) (hc:y.cells=ys:=by exact sL0)
  (hk:ys.length=k:=by rfl) (hk0:0<k:=by decide) (h1:ys.all AV.one=true:=by exact sL2):
  ChainY P d l0 sz up own dfs rnd KP E (.s [r] none T F::S) (⟨none,.store t (.tmp r) x,ty,pos,aft,none⟩::l) fr:=by
 subst hc
 refine ⟨_,l,[(r,.ro y.cells)],rfl,⟨rfl,rfl,fun B f _ _ _ hfr=>.of ?_⟩,h⟩
 have e:f r=fr r:=hfr r (by simp [lk,X3,Op.operands])
 have ex:Bc f x=y:=by rw [agr hfr (by simp [Op.operands])];exact hx
 exact AOp.storeP (st:=⟨sz,f,up B,own B,dfs,rnd⟩) hsz (e.trans hf) ex hk hk0 h1
end
end Go.SX
