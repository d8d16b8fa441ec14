/- On the way (part 5). -/
import Derived.Test.YtcmnamfkljlglaaGreatDoorBothWritesCardSaidPart4
set_option linter.all false
namespace Go.SX.Nb
open Go Go.SX Go.Proofs
variable [ErrAt]
set_option maxRecDepth 4000
inductive Expr where
 | mk (op:Int) (text:Str) (val:Val) (kids:List Expr)
def Expr.op:Expr→Int|.mk o _ _ _=>o
def Expr.text:Expr→Str|.mk _ t _ _=>t
def Expr.val:Expr→Val|.mk _ _ v _=>v
def Expr.kids:Expr→List Expr|.mk _ _ _ k=>k
mutual
def Al:Expr→AV
 | .mk o t v k=>.agg [.v (.int .i64 o),.v (sv t),.v (.int .i64 v.kind),.v (.int .i64 v.n),.v (sv v.s),.slice false 6 (R7 k)]
def R7:List Expr→List AV
  | []=>[]
  | e::r=>Al e::R7 r
 end
theorem Un:∀l,R7 l=l.map Al
 | []=>rfl
 | e::r=>by rw [R7,Un r];rfl
theorem I7 (e:Expr):Al e=.agg [.v (.int .i64 e.op),.v (sv e.text),.v (.int .i64 e.val.kind),.v (.int .i64 e.val.n),.v (sv e.val.s),.slice false 6 (e.kids.map Al)]:=by
 cases e with
 | mk o t v k=>rw [Al,Un];rfl
attribute [go_sem] I7
def Nn:Str:=[32,111,114,32,32,97,110,100,32,32,61,32,33,61,32,60,32,60,61,32,62,32,62,61,32,32,43,32,45,32,38,32,32,42,32,47,32,37,32]
def Kr (v:Val):Bool:=v.kind==0&&v.n==0&&v.s==[]
def Do (e:Expr):Bool:=
 if e.op==1 then ((C8 e.val&&decide (0≤e.val.n))&&(e.text==[]))&&((e.kids.length:Int)==0)
 else if e.op==2 then (Kr e.val&&D9 e.text)&&((e.kids.length:Int)==0)
 else if e.op==3 || e.op==4 then (Kr e.val&&(e.text==[]))&&((e.kids.length:Int)==1)
 else if e.op==5 then (Kr e.val&&Nm e.text Nn)&&((e.kids.length:Int)==2)
 else if e.op==6 then Kr e.val&&(C5 e.text==(e.kids.length:Int))
 else false
theorem AHc (e:Expr) (hs:e.text.length≤1048576) (Hp:List AObj):AFun Tryz.prog 102 [Al e] Hp (Ar (Do e)):=by
 refine ACall.body [.tmp 2] [0] Tryz.func102 Tryz.ntmps102 (fun d=>?_)
 refine Pp ?_;refine Z1 ?_;refine me ?_
 refine R.go (h:=Q.eqlAgg Sn (Gs e.val.kind e.val.n 0 0 e.val.s [])) (hr:=?_)
 refine R.go ?_;refine R.fin [1,3] ?_;refine Z8 ?_;refine R.fin [1,3,9] ?_;refine Z95 ?_;refine R.fin [1,3,9,10] ?_
 refine W.cond (fun ht10=>?_) (fun ht10=>?_)
 ·refine Z1 ?_;refine R.call Tryz.call51 (c51 e.val _) ?_;refine R.go ?_;refine Ot ?_;refine Z29 ?_;refine Uc ?_;exact ba
 refine Z1 ?_;refine R.fin [1,3,9,32] ?_
 refine W.cond (fun ht32=>?_) (fun ht32=>?_)
 ·refine Z1 ?_;refine Z10 ?_;refine G.call Tryz.call111 (fun hB=>x6 e.text hs _) ?_;refine Z53 ?_;exact ba
 refine Z8 ?_;refine R.fin [1,3,9,46] ?_
 refine W.cond (fun ht46=>?_) (fun ht46=>?_)
 ·refine Z3 ?_
  refine W.cond (fun ht46=>?_) (fun ht46=>?_)
  ·refine Z1 ?_;refine Z10 ?_;refine Uc ?_;exact ba
  refine Z1 ?_;refine R.fin [1,3,9,61] ?_
  refine W.cond (fun ht61=>?_) (fun ht61=>?_)
  ·refine Z1 ?_;refine AEl ?_;refine Z53 ?_;exact ba
  refine Z1 ?_;refine R.fin [1,3,75] ?_
  refine W.cond (fun ht75=>?_) (fun ht75=>?_)
  ·refine AE7 ?_;refine Z63 ?_;refine H.call Tryz.call126 (fun hB=>AFj e.text _) ?_;refine g5 ?_;refine D.tail ?_;refine G.go ?_;exact ba
  refine Z19 ?_;exact ADo
 refine Z31 ?_;refine R.fin [1,3,9,46] ?_;refine K.thN ?_
 refine W.cond (fun ht46=>?_) (fun ht46=>?_)
 ·refine Z1 ?_;refine Z10 ?_;refine Uc ?_;exact ba
 refine Z1 ?_;refine R.fin [1,3,9,61] ?_
 refine W.cond (fun ht61=>?_) (fun ht61=>?_)
 ·refine Z1 ?_;refine AEl ?_;refine Z53 ?_;exact ba
 refine Z1 ?_;refine R.fin [1,3,75] ?_
 refine W.cond (fun ht75=>?_) (fun ht75=>?_)
 ·refine AE7 ?_;refine Z63 ?_;refine H.call Tryz.call126 (fun hB=>AFj e.text _) ?_;refine g5 ?_;refine D.tail ?_;refine G.go ?_;exact ba
 refine Z19 ?_;exact ADo

mutual
def Cj (d:Int):Expr→List (Int×Expr)
 | .mk o t v k=>(d,.mk o t v k)::Bp (d+1) k
def Bp (d:Int):List Expr→List (Int×Expr)
  | []=>[]
  | e::r=>Cj d e++Bp d r
 end
theorem Ho (d:Int) (e:Expr):Cj d e=(d,e)::Bp (d+1) e.kids:=by cases e;rfl
theorem Kc (d:Int):∀a b,Bp d (a++b)=Bp d a++Bp d b
 | [],b=>rfl
 | e::r,b=>by rw [Fa,Bp,Bp,Kc d r b,C9]
theorem bo (d:Int) (l:List Expr) {x:Nat} (h:x<l.length):Bp d (l.take (x+1))=Bp d (l.take x)++Cj d l[x]:=by
 rw [Gp h,Kc]
 simp [Bp]
theorem Pv (d:Int) (l:List Expr) {x:Nat} (h:x<l.length):Bp d l=Bp d (l.take x)++(Cj d l[x]++Bp d (l.drop (x+1))):=by
 have e:l=l.take x++(l[x]::l.drop (x+1)):=by rw [←Gx h,jg]
 conv=>lhs;rw [e]
 rw [Kc,Bp]
mutual
def sizeE:Expr→Nat
 | .mk _ _ _ k=>1+E6 k
def E6:List Expr→Nat
  | []=>0
  | e::r=>sizeE e+E6 r
 end
theorem I8 (e:Expr):sizeE e=1+E6 e.kids:=by cases e;rfl
theorem R8:∀(l:List Expr) {x:Nat} (h:x<l.length),sizeE l[x]≤E6 l
 | e::r,0,_=>by simp only [List.getElem_cons_zero,E6];omega
 | e::r,x+1,h=>by
  have:=R8 r (x:=x) (by simpa using h)
  simp only [List.getElem_cons_succ,E6]
  omega
theorem bp (e:Expr) {x:Nat} (h:x<e.kids.length):sizeE e.kids[x]+1≤sizeE e:=by
 have:=R8 e.kids h
 rw [I8 e]
 omega
/-- Each node has few kids. -/
def okE:Nat→Expr→Prop
 | 0,_=>False
 | n+1,e=>e.text.length≤1048576∧e.kids.length≤1048576∧∀y∈e.kids,okE n y
/-- Who takes what a tree yields: item k is taken at U k; it goes on (go k) to U (k + 1), or ends at F k. Behind U k there may stand others' objects. -/
structure Takes (P:Program) (l:Nat) (L:List (Int×Expr)) (go:Nat→Bool) (U F:Nat→List AObj) (n0:Nat):Prop where
 lenU:∀k,(U k).length=n0
 lenF:∀k,(F k).length=n0
 lowU:∀k,∀x∈U k,ObjLow n0 x
 lowF:∀k,∀x∈F k,ObjLow n0 x
 lt:l<n0
 y:∀(X:List AObj) (k:Nat) (it:Int×Expr),L[k]? = some it→(∀j,j<k→go j=true)→AYield P l [A5 it.1,Al it.2] (U k++X) (fun b H'=>b=go k∧H'=(if go k then U (k+1) else F k)++X)
theorem ObjLow.le {m m':Nat} (h:m≤m') {x:AObj} (hx:ObjLow m x):ObjLow m' x:=by
 cases x with
 | cells t cs=>exact fun y hy=>(hx y hy).mono h
 | loop s pd fr sz ps as' bd df=>exact ⟨fun s=>(hx.1 s).mono h,Cg hx.2 h⟩
 | defs=>trivial
 | dead=>trivial
 | bld _ _ _=>trivial
 | gone=>trivial
/-- What the walk over n items from k0 on comes to. -/
def bq (go:Nat→Bool) (U F:Nat→List AObj) (k0 n:Nat) (X:List AObj):AV→List AObj→Prop:=fun r H' =>
 ((∀j,j<n→go (k0+j)=true)∧r=Ar true∧H'=U (k0+n)++X)∨(∃j,j<n∧(∀i,i<j→go (k0+i)=true)∧go (k0+j)=false∧r=Ar false∧H'=F (k0+j)++X)
mutual
theorem Dg (m:Nat):∀e,Low m (Al e)
 | .mk o t v k=>by
  rw [Al]
  refine .agg _ fun y hy=>?_
  simp only [C2,Fd,or_false] at hy
  rcases hy with rfl|rfl|rfl|rfl|rfl|rfl
  ·exact .v _
  ·exact .v _
  ·exact .v _
  ·exact .v _
  ·exact .v _
  exact low_slice.2 (Uo m k)
theorem Uo (m:Nat):∀l,∀y∈R7 l,Low m y
  | [],y,hy=>by cases hy
  | e::r,y,hy=>by
    rw [R7] at hy
    rcases C2.1 hy with rfl|h
    · exact Dg m e
    exact Uo m r y h
 end
theorem Pw {V O A B own:List AObj} (h:V++O=A++(B++own)) (hl:V.length=(A++B).length):V=A++B∧O=own:=by
 rw [←C9] at h
 exact Qh h hl
theorem Lk {m:Nat} {A X:List AObj} (hA:∀x∈A,ObjLow m x) (hX:∀x∈X,ObjLow m x):∀x∈A++X,ObjLow m x:=fun x hx=>by
 rcases G7.1 hx with h|h
 ·exact hA x h
 exact hX x h
theorem gy {P:Program} {l:Nat} {L:List (Int×Expr)} {go:Nat→Bool} {U F:Nat→List AObj} {n0 k n K:Nat} {X own V O:List AObj} {r:AV} (T:Takes P l L go U F n0) (hV:V.length=(U K++X).length) (hp:bq go U F k n (X++own) r (V++O)):
  ∃b,r=Ar b∧O=own∧(if b then (∀j,j<n→go (k+j)=true)∧V=U (k+n)++X else ∃j,j<n∧(∀i,i<j→go (k+i)=true)∧go (k+j)=false∧V=F (k+j)++X)∧((∀x∈U K++X,ObjLow V.length x)→∀x∈V,ObjLow V.length x):=by
 have hn:n0≤V.length:=by rw [hV,Aw,T.lenU];omega
 rcases hp with ⟨h1,h2,h3⟩|⟨j,hj,h1,h2,h3,h4⟩
 ·obtain ⟨e1,e2⟩:=Pw h3 (by rw [hV];simp [T.lenU])
  refine ⟨true,h2,e2,⟨h1,e1⟩,fun h=>?_⟩
  rw [e1] at h ⊢
  exact Lk (fun x hx=>ObjLow.le (by rw [Aw,T.lenU];omega) (T.lowU _ x hx)) (fun x hx=>h x (Xz _ hx))
 obtain ⟨e1,e2⟩:=Pw h4 (by rw [hV];simp [T.lenU,T.lenF])
 refine ⟨false,h3,e2,⟨j,hj,h1,h2,e1⟩,fun h=>?_⟩
 rw [e1] at h ⊢
 exact Lk (fun x hx=>ObjLow.le (by rw [Aw,T.lenF];omega) (T.lowF _ x hx)) (fun x hx=>h x (Xz _ hx))
theorem br (d:Int) (l:List Expr) {x:Nat} (h:x<l.length):(Bp d (l.take (x+1))).length=(Bp d (l.take x)).length+(Cj d l[x]).length:=by rw [bo d l h,Aw]
theorem rp {d0:Int} {e:Expr} {x:Nat} (h:x<e.kids.length) {j:Nat} {it:Int×Expr} (hj:(Cj (d0+1) e.kids[x])[j]? = some it):(Cj d0 e)[1+(Bp (d0+1) (e.kids.take x)).length+j]? = some it:=by
 rw [Ho d0 e,show 1+(Bp (d0+1) (e.kids.take x)).length+j=((Bp (d0+1) (e.kids.take x)).length+j)+1 by omega,Tq,Pv (d0+1) e.kids h,Dj (by omega)]
 rw [show (Bp (d0+1) (e.kids.take x)).length+j-(Bp (d0+1) (e.kids.take x)).length=j by omega,De (Ac.1 hj).1]
 exact hj
theorem mn (d0:Int) (e:Expr) {x:Nat} (h:x<e.kids.length):1+(Bp (d0+1) (e.kids.take x)).length+(Cj (d0+1) e.kids[x]).length≤(Cj d0 e).length:=by
 rw [Ho d0 e,Bo,Pv (d0+1) e.kids h]
 simp only [Aw]
 omega
theorem AHd {l:Nat} {L:List (Int×Expr)} {go:Nat→Bool} {U F:Nat→List AObj} {n0:Nat} (T:Takes Tryz.prog l L go U F n0):∀(n:Nat) (e:Expr),okE n e→∀(d0:Int) (k0:Nat) (X:List AObj),0≤d0→d0+n≤1099511627776→(∀(j:Nat) (it:Int×Expr),(Cj d0 e)[j]? = some it→L[k0+j]? = some it)→(∀j,j<k0→go j=true)→ACall Tryz.prog 124 [Al e,A5 d0,.yield l] (U k0++X) (bq go U F k0 (Cj d0 e).length X):=by
 intro n
 induction n with
 | zero=>exact fun e h=>h.elim
 | succ n ih =>
 intro e hok d0 k0 X hd hdn hit hgo
 have hlen0:(U k0++X).length=n0+X.length:=by rw [Aw,T.lenU]
 refine Ae [.tmp 6] [0,1,2] Tryz.func124 Tryz.ntmps124 (fun d=>?_)
 refine Z1 ?_;refine A0 [1,2,3] ?_;refine Z27 ?_
 refine R.yield0 (T.y X k0 (d0,e) (hit 0 _ (by rw [Ho];rfl)) hgo) ?_
 intro b Vv hV hb
 refine A2 ?_;refine A0 [1,2,3,13] ?_
 refine A1 (fun ht13=>?_) (fun ht13=>?_)
 ·have hb':b=false:=by simpa using ht13
  subst hb'
  refine Sl ?_;refine C4 ?_;exact A7 (Ai A3) (Or.inr ⟨0,by rw [Ho];simp,fun i hi=>by omega,hb.1.symm,rfl,by have:=hb.2;rw [show go k0=false from hb.1.symm] at this;exact this⟩)
 have hb':b=true:=by simpa using ht13
 subst hb'
 have hgo0:go (k0+0)=true:=hb.1.symm
 have hVe:Vv=U (k0+1)++X:=by have:=hb.2;rw [show go k0=true from hb.1.symm] at this;exact this
 subst hVe
 have h0x:0≤e.kids.length∧∀j,j<1+(Bp (d0+1) (e.kids.take 0)).length→go (k0+j)=true:=⟨Ah _,fun j hj=>by
  have:j=0:=by simp [Bp] at hj;omega
  subst this
  exact hgo0⟩
 refine Z3 ?_;refine Z76 ?_;refine A0 [1,2,15,16,17] ?_
 refine Be (α:=Nat) (fun x=>⟨28,A4 1 (A5 d0) (A4 2 (.yield l) (A4 15 (.slice false 6 (e.kids.map Al)) (A4 16 (A5 e.kids.length) (A4 17 (A5 (x:Nat)) (fun _=>.any))))),U (k0+(1+(Bp (d0+1) (e.kids.take x)).length))++X,[],[],none⟩) (fun x=>x≤e.kids.length∧∀j,j<1+(Bp (d0+1) (e.kids.take x)).length→go (k0+j)=true) (fun x=>e.kids.length-x) (0) h0x (B0 (by simp [Bp])) rfl (fun x hx=>?_)
 refine Z2 ?_;refine A0 [1,2,15,16,17,18] ?_
 refine Dn (fun ht18=>?_) (fun ht18=>?_)
 ·have hlt:x<e.kids.length:=by simpa using ht18
  have hkl:=hok.2.1
  refine Po ?_
  refine A2 (h:=A9 (x) (Al e.kids[x]) (fun _=>Ak hlt)) (hr:=?_)
  refine Pr ?_;refine A0 [1,2,8,15,16,17] ?_;refine Z39 ?_
  refine R.callG Tryz.call124 (args:=[Al e.kids[x],A5 (d0+1),.yield l]) (by rw [C9];exact ih e.kids[x] (hok.2.2 _ (Az hlt)) (d0+1) (k0+(1+(Bp (d0+1) (e.kids.take x)).length)) (X++_) (by omega) (by omega) (fun j it hj=>by have:=hit _ it (rp hlt hj);rwa [←N9] at this) (fun j hj=>by rcases Bh j k0 with h|h;exact hgo j h;have:=hx.2 (j-k0) (by omega);rwa [show k0+(j-k0)=j by omega] at this)) ?_
  intro r Vv O hV hp
  obtain ⟨b,rfl,rfl,hc,hlowV⟩:=gy T hV hp
  refine ⟨hlowV,fun o ho=>by simp at ho,?_⟩
  refine A2 ?_;refine A0 [1,2,15,16,17,26] ?_
  refine A1 (fun ht26=>?_) (fun ht26=>?_)
  ·have hb':b=false:=by simpa using ht26
   subst hb'
   obtain ⟨j,hj,h1,h2,h3⟩:=hc
   refine Sl ?_;refine Z41 ?_
   have hil:=mn d0 e hlt
   refine A7 (Ai A3) (Or.inr ⟨1+(Bp (d0+1) (e.kids.take x)).length+j,by omega,fun i hi=>?_,by rwa [N9] at h2,rfl,by rwa [N9] at h3⟩)
   rcases Bh i (1+(Bp (d0+1) (e.kids.take x)).length) with h|h
   ·exact hx.2 i h
   have:=h1 (i-(1+(Bp (d0+1) (e.kids.take x)).length)) (by omega)
   rwa [show k0+(1+(Bp (d0+1) (e.kids.take x)).length)+(i-(1+(Bp (d0+1) (e.kids.take x)).length))=k0+i by omega] at this
  have hb':b=true:=by simpa using ht26
  subst hb'
  obtain ⟨h1,h3⟩:=hc
  refine Ka ?_;refine A0 [1,2,15,16,17] ?_
  subst h3
  have hll:=br (d0+1) e.kids hlt
  have e1:k0+(1+(Bp (d0+1) (e.kids.take (x+1))).length)=k0+(1+(Bp (d0+1) (e.kids.take x)).length)+(Cj (d0+1) e.kids[x]).length:=by omega
  refine As (x+1) ⟨hlt,fun j hj=>?_⟩ (by omega) ?_
  ·rcases Bh j (1+(Bp (d0+1) (e.kids.take x)).length) with h|h
   ·exact hx.2 j h
   have:=h1 (j-(1+(Bp (d0+1) (e.kids.take x)).length)) (by omega)
   rwa [show k0+(1+(Bp (d0+1) (e.kids.take x)).length)+(j-(1+(Bp (d0+1) (e.kids.take x)).length))=k0+j by omega] at this
  simp only [e1]
  exact Cv (own:=[]) (fun _=>.refl _) (by repeat (first|exact Bd|refine Bc (by first|(simp [Dg];done)|(have:=T.lt;simp [T.lenU];omega)) ?_)) (by simp) (by simp)
 have hxe:e.kids.take x=e.kids:=D5 (by simp at ht18;omega)
 refine Z30 ?_;refine Sl ?_
 have hl2:(Cj d0 e).length=1+(Bp (d0+1) (e.kids.take x)).length:=by rw [Ho,hxe,Bo];omega
 exact A7 (Ai A3) (Or.inl ⟨fun j hj=>hx.2 j (by omega),rfl,by rw [hl2]⟩)

def Ox:=@ObjLow.le
abbrev Hh (e:Expr):List AV:=[.v (.int .i64 e.op),.v (sv e.text),.v (.int .i64 e.val.kind),.v (.int .i64 e.val.n),.v (sv e.val.s),.slice false 6 (e.kids.map Al)]
/-- What taking all of a tree comes to. -/
def Up (go:Nat→Bool) (U F:Nat→List AObj) (n:Nat) (H':List AObj):Prop:=
 ((∀j,j<n→go j=true)∧H'=U n)∨(∃j,j<n∧(∀i,i<j→go i=true)∧go j=false∧H'=F j)
theorem AHe {l:Nat} {e:Expr} {go:Nat→Bool} {U F:Nat→List AObj} {n0:Nat} (T:Takes Tryz.prog l (Cj 1 e) go U F n0) (n:Nat) (hok:okE n e) (hn:n≤1048576):ACall Tryz.prog 123 [.yield l,.ro (Hh e)] (U 0) (fun r H'=>Up go U F (Cj 1 e).length H'):=by
 refine Ae [] [0,1] Tryz.func123 Tryz.ntmps123 (fun d=>?_)
 refine Z31 ?_;refine R.callG Tryz.call124 (args:=[Al e,A5 1,.yield l]) (AHd T n e hok 1 0 [] (by omega) (by omega) (fun j it hj=>by rwa [Bn]) (fun j hj=>by omega)) ?_
 intro r Vv O hV hp
 have hO:O=[]:=by
  have h1:(Vv++O).length=n0:=by rcases hp with ⟨_,_,h⟩|⟨j,_,_,_,_,h⟩<;>rw [h]<;>simp [T.lenU,T.lenF]
  have h2:=T.lenU 0
  rw [Aw,hV,h2] at h1
  exact M8 (by omega)
 subst hO
 rw [Iy] at hp
 have hq:Up go U F (Cj 1 e).length Vv:=by
  rcases hp with ⟨h1,_,h⟩|⟨j,h1,h2,h3,_,h⟩
  ·exact .inl ⟨fun j hj=>by have:=h1 j hj;rwa [Bn] at this,by rw [h];simp⟩
  exact .inr ⟨j,h1,fun i hi=>by have:=h2 i hi;rwa [Bn] at this,by rwa [Bn] at h3,by rw [h];simp⟩
 refine ⟨fun h=>?_,fun o ho=>by simp at ho,?_⟩
 ·rcases hq with ⟨_,h⟩|⟨j,_,_,_,h⟩<;>rw [h]
  ·rw [T.lenU];exact T.lowU _
  rw [T.lenF];exact T.lowF _
 refine A0 [] ?_;exact K.finN .nores (hp:=hq)

theorem AHf (e:Expr) (Hp:List AObj):AFun Tryz.prog 101 [Al e] Hp (.fn (.func 123) [] [.ro (Hh e)]):=by
 refine Ae [.tmp 2] [0] Tryz.func101 Tryz.ntmps101 (fun d=>?_)
 refine Pp ?_;refine Dv ?_;refine U2 ?_;refine A2 ?_;refine Z4 ?_;exact A7 (Ai A3) (hlow:=by have:=Dg Hp.length e;rw [I7] at this;simpa using this)

def goM (e:Expr) (k:Nat):Bool:=match (Cj 1 e)[k]? with
 | some it => !((!Do it.2 || decide ((30:Int)<it.1)) || decide ((300:Int)<(k:Int)+1))
 | none=>true
def Bb (e:Expr):Bool:=(List.range (Cj 1 e).length).all (goM e)
mutual
theorem Wz:∀(n:Nat) (e:Expr),okE n e→∀d,∀it∈Cj d e,it.2.text.length≤1048576
 | 0,_,h,_,_,_=>h.elim
 | n+1,e,h,d,it,hit=>by
  rw [Ho] at hit
  rcases C2.1 hit with rfl|h'
  ·exact h.1
  exact X0 n e.kids h.2.2 (d+1) it h'
 termination_by n e=>(n,0)
theorem X0:∀(n:Nat) (l:List Expr),(∀y∈l,okE n y)→∀d,∀it∈Bp d l,it.2.text.length≤1048576
  | n,[],_,_,_,h=>by cases h
  | n,e::r,h,d,it,hit=>by
    rw [Bp] at hit
    rcases G7.1 hit with h'|h'
    · exact Wz n e (h e (by simp)) d it h'
    exact X0 n r (fun y hy=>h y (by simp [hy])) d it h'
  termination_by n l=>(n,l.length+1)
 end
theorem gz {U:List AObj} {i j:Nat} {x y:AObj} (h:U[i]? = some x) (hne:j≠i):(U.set j y)[i]? = some x:=by rw [Fb hne];exact h
theorem ABn {e:Expr} {k:Nat} {it:Int×Expr} (hit:(Cj 1 e)[k]? = some it) (h:∀j,j<k→goM e j=true):(k:Int)≤300:=by
 rcases Nat.eq_zero_or_pos k with h0|h0
 ·omega
 have hl:=(Ac.1 hit).1
 have:=h (k-1) (by omega)
 unfold goM at this
 rw [Aa (by omega)] at this
 simp at this
 omega
theorem Ys {e:Expr} {k:Nat} {it:Int×Expr} (hit:(Cj 1 e)[k]? = some it):goM e k = !((!Do it.2 || decide ((30:Int)<it.1)) || decide ((300:Int)<(k:Int)+1)):=by
 unfold goM;rw [hit]
theorem c76 (n:Nat) (e:Expr) (hok:okE n e) (hn:n≤1048576) (Hp:List AObj):AFun Tryz.prog 76 [Al e] Hp (Ar (Bb e)):=by
 refine Ae [.cell 2 4] [0,4,5] Tryz.func76 Tryz.ntmps76 (fun d=>?_)
 refine Z2 ?_;refine O0 ?_;refine A0 [1,2,4,5] ?_;refine Dv ?_;refine Z34 ?_;refine A0 [1,2,3,4,5] ?_;refine Z52 ?_
 refine Qs (fun hlow=>?_)
 refine A2 ?_;refine A6 Tryz.call101 (AHf e _) ?_;refine A0 [2,3,4,5,7] ?_;refine Ii ?_
 refine W.rangeV (m:=2) Tryz.call123 (fun FR as' bd' hFR has hbd=>?_)
 have hFRl:∀s,Low (Hp.length+4) (FR s):=by
  intro s
  rw [hFR]
  refine Y8 ?_
  revert s
  repeat (first|exact Bd|refine Bc (by simp [oid,Dg]<;>try omega) ?_)
 have hOl:∀{k:Nat},∀x∈[AObj.cells 4 [Ar false],AObj.cells 3 [A5 (k:Nat)],AObj.defs,AObj.loop LoopState.ready none FR 23 #[8,9] as' bd' (oid Hp.length 2)],ObjLow (Hp.length+4) x:=by
  intro k x hx
  simp only [C2,Fd,or_false] at hx
  rcases hx with rfl|rfl|rfl|rfl
  ·exact ve
  ·exact ve
  ·trivial
  exact ⟨hFRl,by simp [oid]⟩
 have hOf:∀{k:Nat},∀x∈[AObj.cells 4 [Ar false],AObj.cells 3 [A5 ((k:Nat)+1)],AObj.defs,AObj.loop LoopState.done (some Code.ret) FR 23 #[8,9] as' bd' (oid Hp.length 2)],ObjLow (Hp.length+4) x:=by
  intro k x hx
  simp only [C2,Fd,or_false] at hx
  rcases hx with rfl|rfl|rfl|rfl
  ·exact ve
  ·exact ve
  ·trivial
  exact ⟨hFRl,by simp [oid]⟩
 refine ⟨fun _ H'=>Up (goM e) (fun k=>Hp++[AObj.cells 4 [Ar false],AObj.cells 3 [A5 (k:Nat)],AObj.defs,AObj.loop LoopState.ready none FR 23 #[8,9] as' bd' (oid Hp.length 2)]) (fun k=>Hp++[AObj.cells 4 [Ar false],AObj.cells 3 [A5 ((k:Nat)+1)],AObj.defs,AObj.loop LoopState.done (some Code.ret) FR 23 #[8,9] as' bd' (oid Hp.length 2)]) (Cj 1 e).length H',AHe (l:=oid Hp.length 3) (go:=goM e) (U:=fun k=>Hp++[AObj.cells 4 [Ar false],AObj.cells 3 [A5 (k:Nat)],AObj.defs,AObj.loop LoopState.ready none FR 23 #[8,9] as' bd' (oid Hp.length 2)]) (F:=fun k=>Hp++[AObj.cells 4 [Ar false],AObj.cells 3 [A5 ((k:Nat)+1)],AObj.defs,AObj.loop LoopState.done (some Code.ret) FR 23 #[8,9] as' bd' (oid Hp.length 2)]) (n0:=Hp.length+4) ⟨fun k=>by simp,fun k=>by simp,fun k x hx=>?_,fun k x hx=>?_,by simp [oid],fun X k it hit hgo=>?_⟩ n hok hn,?_⟩
 ·exact Lk (fun x hx=>Ox (by omega) (hlow x hx)) hOl x hx
 ·exact Lk (fun x hx=>Ox (by omega) (hlow x hx)) hOf x hx
 ·have hk3:=ABn hit hgo
  generalize hV:(Hp++[AObj.cells 4 [Ar false],AObj.cells 3 [A5 (k:Nat)],AObj.defs,AObj.loop LoopState.ready none FR 23 #[8,9] as' bd' (oid Hp.length 2)]++X)=V
  have hL:V[oid Hp.length 3]? = some (AObj.loop LoopState.ready none FR 23 #[8,9] as' bd' (oid Hp.length 2)):=by rw [←hV,C9,Dh];rfl
  have hA0:V[oid Hp.length 1]? = some (AObj.cells 3 [A5 (k:Nat)]):=by rw [←hV,C9,Dh];rfl
  have hB0:V[oid Hp.length 0]? = some (AObj.cells 4 [Ar false]):=by rw [←hV,C9,Dh];rfl
  refine Ye (pd:=none) (fr:=FR) (sz:=23) (ps:=#[8,9]) (df:=oid Hp.length 2) (asg:=as') (bd:=bd') hL rfl (by decide) (fun d=>?_)
  subst hFR has hbd
  refine Mr [2,3,8,9] ?_;refine Z2 ?_;refine A0 [2,3,4,9] ?_;refine Mf ?_;refine Z34 ?_;refine A0 [2,3,4,5] ?_
  refine ⟨rfl,none,hL,?_⟩
  generalize hbz:(AObj.loop LoopState.busy _ _ _ _ _ _ _)=bz
  have hA:(V.set (oid Hp.length 3) bz)[oid Hp.length 1]? = some (AObj.cells 3 [A5 (k:Nat)]):=by rw [Fb (D8 (by decide))];exact hA0
  have hB:(V.set (oid Hp.length 3) bz)[oid Hp.length 0]? = some (AObj.cells 4 [Ar false]):=by rw [Fb (D8 (by decide))];exact hB0
  refine Ii ?_;refine Dv ?_
  refine A2 (h:=Ml hA) (hr:=?_)
  refine A2 ?_
  refine Ol jS hA ?_ ?_
  ·simp
  refine A0 [2,3,4,5] ?_;refine Z2 ?_;refine A6 Tryz.call102 (AHc it.2 (Wz n e hok 1 it (Ay hit)) _) ?_;refine Z29 ?_;refine Z0 ?_
  refine B8 (h:=Ml (U6 hA)) (hr:=?_)
  refine Z50 ?_;refine A0 [2,22] ?_
  refine A1 (fun ht22=>?_) (fun ht22=>?_)
  ·have hgf:goM e k=false:=by rw [Ys hit,ht22];rfl
   refine Dv ?_
   refine Ol jS (gz (j:=oid Hp.length 1) hB (D8 (by decide))) ?_ ?_
   ·simp
   refine A0 [] ?_;refine Fq ?_;refine K.blR ?_
   subst hbz
   refine K.rdR (jp hL (D8 (by decide)) (D8 (by decide))) ?_
   refine ⟨hgf.symm,?_⟩
   rw [if_neg (by rw [hgf];simp)]
   subst hV
   simp only [C9,K1,Fa,Ez,List.set_cons_succ,List.set_cons_zero]
   try rfl
  have hgt:goM e k=true:=by rw [Ys hit,ht22];rfl
  refine Me ?_;refine K.blN ?_
  subst hbz
  refine K.rdN (AA4 hL (D8 (by decide))) ?_
  refine ⟨hgt.symm,?_⟩
  rw [if_pos hgt]
  subst hV
  simp only [C9,K1,Fa,Ez,List.set_cons_succ,List.set_cons_zero]
  try rfl
 rintro r H' (⟨h1,rfl⟩|⟨j,hj,h1,h2,rfl⟩)
 ·refine ⟨Hp,_,_,_,rfl,rfl,fun h=>h,?_,rfl,by simp,?_⟩
  ·intro o ho
   have:o=oid Hp.length 2:=by simpa using ho
   subst this
   rw [Dh]
   rfl
  refine Z11 ?_;refine Dv ?_;refine Z22 ?_;exact A7 (Ai (H9 jA)) ⟨by rw [show Bb e=true from B9.2 fun j hj=>h1 j (Pf.1 hj)],rfl⟩
 refine ⟨Hp,_,_,_,rfl,rfl,fun h=>h,?_,rfl,by simp,?_⟩
 ·intro o ho
  have:o=oid Hp.length 2:=by simpa using ho
  subst this
  rw [Dh]
  rfl
 refine Fq ?_;refine Z6 ?_;exact A7 (Ai (H9 jA)) ⟨by rw [show Bb e=false from Of.2 ⟨j,Pf.2 hj,by rw [h2];simp⟩],rfl⟩

def Dt (s:Str):Expr:=.mk 2 s ⟨0,0,[]⟩ []
theorem rq (s:Str):Le (.agg [A5 2,Ax s,A5 0,A5 0,Ax [],.nil]) (Al (Dt s)):=by
 rw [I7]
 refine .agg _ _ rfl (by simp [AV.one,Value.oneCell',sv]) fun i y y' h1 h2=>?_
 match i with
 | 0=>simp at h1 h2;subst h1;subst h2;exact .inl rfl
 | 1=>simp at h1 h2;subst h1;subst h2;exact .inl rfl
 | 2=>simp at h1 h2;subst h1;subst h2;exact .inl rfl
 | 3=>simp at h1 h2;subst h1;subst h2;exact .inl rfl
 | 4=>simp at h1 h2;subst h1;subst h2;exact .inl rfl
 | 5=>simp at h1 h2;subst h1;subst h2;exact .inr ⟨rfl,6,rfl⟩
 | i+6=>simp at h1
theorem rr (s:Str) (h:s.length≤1048576):okE 1 (Dt s):=⟨h,by simp [Dt,Expr.kids],fun y hy=>by cases hy⟩
def R9 (c:List Col) (x:Nat) (y:Col):Bool := !(((!Bb (Dt y.name)) || (E3 y.kind==[])) || (Bg y.name c != (x:Int)))
def Px (c:List Col):Bool:=c.zipIdx.all fun x=>R9 c x.2 x.1
theorem colsP_true {c:List Col}:Px c=true↔∀(j:Nat) (y:Col),c[j]? = some y→R9 c j y=true:=Ov
theorem c50 (c:List Col) (hc:OkCols c) (Hp:List AObj):AFun Tryz.prog 50 [Ad c] Hp (Ar (Px c)):=by
 refine Ae [.tmp 2] [0] Tryz.func50 Tryz.ntmps50 (fun d=>?_)
 refine ga ?_;refine A0 [0,5,6,7] ?_
 refine Be (α:=Nat) (fun x=>⟨32,A4 0 (Ad c) (A4 5 (Ad c) (A4 6 (A5 c.length) (A4 7 (A5 (x:Nat)) (fun _=>.any)))),Hp,[],[],none⟩) (fun x=>x≤c.length∧∀(j:Nat) (y:Col),j<x→c[j]? = some y→R9 c j y=true) (fun x=>c.length-x) (0) (by simp) (B0 (by simp)) rfl (fun x hx=>?_)
 refine Z2 ?_;refine A0 [0,5,6,7,8] ?_
 refine Dn (fun ht8=>?_) (fun ht8=>?_)
 ·have hlt:x<c.length:=by simpa using ht8
  have hcl:=hc.len
  refine Uh ?_
  refine A2 (h:=A9 (x) (Cb c[x]) (fun _=>Ak hlt)) (hr:=?_)
  refine fy ?_;refine A0 [0,3,4,5,6,7] ?_;refine Z1 ?_;refine Mm (places:=#[(0,1),(1,1),(2,3),(5,1)]) jU (fun w=>by simp) jZ ?_;refine R.wk 14 _ (rq c[x].name) ?_;refine A6 Tryz.call76 (c76 1 (Dt c[x].name) (rr _ (hc.names _ (Az hlt))) (by decide) _) ?_;refine Z29 ?_;refine Bj Tryz.call77 (fun hB=>c77 c[x].kind _) ?_;refine Qv ?_;refine B8 ?_;refine Bj Tryz.call71 (fun hB=>c71 c hc c[x].name _) ?_;refine Kl ?_;refine A0 [0,5,6,7,30] ?_
  refine A1 (fun ht30=>?_) (fun ht30=>?_)
  ·refine Ym ?_
   exact A7 (Ai A3) ⟨by rw [show Px c=false from Gw.2 fun h=>by have:=colsP_true.1 h x c[x] (Aa hlt);unfold R9 at this;rw [ht30] at this;cases this],rfl⟩
  refine Ka ?_;refine A0 [0,5,6,7] ?_
  refine As (x+1) ⟨hlt,Fz hlt hx.2 (by unfold R9;rw [ht30];rfl)⟩ (by omega) ?_
  exact Cv (own:=[]) (fun _=>.refl _) (by repeat (first|exact Bd|refine Bc (by simp) ?_)) (by simp) (by simp)
 refine Z30 ?_;refine Z33 ?_;exact A7 (Ai A3) ⟨by rw [colsP_true.2 (H2 (by simp at ht8;omega) hx.2)],rfl⟩

def Uq (c:List Col):Bool:=decide ((c.length:Int)≤12)&&Px c
theorem c72 (c:List Col) (hc:OkCols c) (Hp:List AObj):AFun Tryz.prog 72 [Ad c] Hp (Ar (Uq c)):=by
 refine Ae [.tmp 2] [0] Tryz.func72 Tryz.ntmps72 (fun d=>?_)
 refine Z49 ?_;refine md ?_;refine Bj Tryz.call50 (fun hB=>c50 c hc _) ?_;refine Z56 ?_;exact A7 (Ai A3) ⟨by unfold Uq;simp,rfl⟩

theorem Yt (s:Str) (h:s≠[]):Lib.contains [] s=false:=by
 cases s with
 | nil=>exact absurd rfl h
 | cons a r=>rfl
theorem contains_cons (b:UInt8) (l s:Str):Lib.contains (b::l) s=(s.isPrefixOf (b::l) || Lib.contains l s):=by
 unfold Lib.contains
 have hge:=Lib.index_ge l s
 rw [Lib.index]
 by_cases hp:s.isPrefixOf (b::l)=true
 ·rw [if_pos hp,hp];rfl
 rw [if_neg hp]
 have hp':s.isPrefixOf (b::l)=false:=Gw.2 hp
 rw [hp',Av]
 by_cases hi:Lib.index l s = -1
 ·rw [hi];rfl
 have:(Lib.index l s == -1)=false:=by simpa using hi
 rw [this,if_neg (by simp)]
 rw [decide_eq_decide]
 omega
/-- Words between blanks. -/
def Mv:List Str→Str
 | []=>[32]
 | w::r=>32::(w++Mv r)
theorem X1 (sub:Str):∀(w R:Str),(32:UInt8)∉w→Lib.contains (w++R) (32::sub)=Lib.contains R (32::sub)
 | [],R,_=>rfl
 | b::w,R,h=>by
  have hb:b≠32:=fun e=>h (by simp [e])
  rw [Fa,contains_cons,X1 sub w R (fun hm=>h (by simp [hm]))]
  have:(32::sub).isPrefixOf (b::(w++R))=false:=by
   simp [List.isPrefixOf,Ne.symm hb]
  rw [this,Av]
theorem S0:∀(s w:Str) (R:Str),(32:UInt8)∉s→(32:UInt8)∉w→(s++[32]).isPrefixOf (w++32::R)=(s==w)
 | [],[],R,_,_=>by simp [List.isPrefixOf]
 | [],b::w,R,_,hw=>by
  have hb:(32:UInt8)≠b:=fun e=>hw (by simp [e])
  simp [List.isPrefixOf,hb]
 | a::s,[],R,hs,_=>by
  have hb:a≠(32:UInt8):=fun e=>hs (by simp [e])
  simp [List.isPrefixOf,hb]
 | a::s,b::w,R,hs,hw=>by
  have ih:=S0 s w R (fun h=>hs (by simp [h])) (fun h=>hw (by simp [h]))
  rw [Fa,Fa,List.isPrefixOf,ih]
  rfl
theorem bt:∀ws,∃R,Mv ws=32::R
 | []=>⟨[],rfl⟩
 | w::r=>⟨_,rfl⟩
theorem Jd (s:Str) (hs:(32:UInt8)∉s):∀(ws:List Str),(∀w∈ws,(32:UInt8)∉w)→Lib.contains (Mv ws) ([32]++s++[32])=ws.any (·==s)
 | [],_=>by
  rw [Mv,contains_cons,Yt _ (by simp),Ib]
  cases s<;>simp [List.isPrefixOf]
 | w::r,h=>by
  have hw:=h w (by simp)
  obtain ⟨R,hR⟩:=bt r
  have ih:=Jd s hs r (fun x hx=>h x (by simp [hx]))
  have e1:([32]++s++[32]:Str)=32::(s++[32]):=rfl
  rw [Mv,contains_cons,e1,X1 _ w _ hw,←e1,ih,List.any_cons]
  congr 1
  rw [e1,hR]
  have:=S0 s w R hs hw
  rw [List.isPrefixOf,this]
  simp only [beq_self_eq_true,B5]
  by_cases hsw:s=w
  ·subst hsw;rfl
  rw [beq_eq_false_iff_ne.2 hsw,beq_eq_false_iff_ne.2 (Ne.symm hsw)]
theorem Wl:Lj=Mv words:=by kernel_rfl
theorem bu:∀w∈words,(32:UInt8)∉w:=by decide
theorem bv (s:Str):Lib.contains s [32]=s.contains 32:=by
 induction s with
 | nil=>rfl
 | cons b l ih =>
  rw [contains_cons,ih,List.contains_cons]
  congr 1
  simp [List.isPrefixOf]
theorem Ur (s:Str) (h1:s≠[]) (h2:(32:UInt8)∉s):Im s=Hn s:=by
 unfold Im
 rw [bv,Wl,Jd s h2 words bu]
 have e1:(s==[])=false:=by simpa using h1
 have e2:s.contains 32=false:=by simpa using h2
 rw [e1,e2]
 rfl
set_option maxRecDepth 8000
theorem rt {p:UInt8→Bool} (h:((List.range 256).all fun n=>p (UInt8.ofNat n))=true) (c:UInt8):p c=true:=by
 have:=B9.1 h c.toNat (Pf.2 c.toNat_lt)
 simpa using this
theorem i3 (c:UInt8):tails.contains c=Kn c:=by
 have:=rt (p:=fun c=>tails.contains c==Kn c) (by kernel_rfl) c
 simpa using this
theorem Yu (c:UInt8):letters.contains c=G8 c:=by
 have:=rt (p:=fun c=>letters.contains c==G8 c) (by kernel_rfl) c
 simpa using this
theorem i4:Kn 32=false:=by kernel_rfl
theorem jr (s of:Str):(mh s of==(s.length:Int))=s.all (of.contains ·):=by
 unfold mh Lib.trimLeftS
 induction s with
 | nil=>rfl
 | cons c r ih =>
  rw [en,List.all_cons]
  cases hc:of.contains c with
  | true =>
   simp only [if_true,B5]
   rw [←ih,K5]
   have:=(eo (fun x=>of.contains x) (l:=r)).length_le
   simp only [beq_iff_eq,Bo]
   omega
  | false =>
   simp only [A8,if_false,Bl]
   rw [beq_eq_false_iff_ne]
   simp only [Bo]
   omega
theorem Ff (s:Str):D9 s=Ko s:=by
 cases s with
 | nil=>rfl
 | cons c r =>
  unfold D9
  rw [jr]
  have e1:((c::r).all fun x=>tails.contains x)=(c::r).all Kn:=by
   congr 1
   funext x
   exact i3 x
  have e2:(mh ((c::r).take 1) letters==1)=G8 c:=by
   have:=jr [c] letters
   rw [←Yu c]
   simpa using this
  rw [e1,e2]
  have e3:((c::r:Str)==[])=false:=rfl
  have e4:decide (((c::r).length:Int)≤16)=decide ((c::r).length≤16):=by
   rw [decide_eq_decide];omega
  rw [e3,e4]
  show _=(decide ((c::r).length≤16)&&G8 c && !Hn (c::r)&&(c::r).all Kn)
  cases ha:(c::r).all Kn with
  | false=>simp
  | true =>
   have hb:(32:UInt8)∉(c::r):=fun hm=>by
    have:=B9.1 ha 32 hm
    rw [i4] at this
    cases this
   rw [Ur _ (by simp) hb]
   simp
theorem i5 (s:Str):Bb (Dt s)=Ko s:=by
 have e:Cj 1 (Dt s)=[(1,Dt s)]:=by rw [Ho];rfl
 unfold Bb
 rw [e]
 show ((List.range 1).all (goM (Dt s)))=_
 have g:goM (Dt s) 0=Do (Dt s):=by
  unfold goM
  rw [e]
  simp
 simp only [Y1,List.range_zero,Ez,List.all_cons,List.all_nil,Qg]
 rw [g,←Ff]
 simp [Do,Dt,Expr.op,Expr.val,Expr.text,Expr.kids,Kr]
theorem Yv (k:Int):(E3 k==[])=(decide (k<1) || decide ((3:Int)<k)):=by
 unfold E3
 by_cases h:k<1∨3<k
 ·rw [if_pos h]
  have:(decide (k<1) || decide ((3:Int)<k))=true:=by simpa using h
  rw [this];rfl
 rw [if_neg h]
 have:(decide (k<1) || decide ((3:Int)<k))=false:=by simp;omega
 rw [this]
 have hk:k=1∨k=2∨k=3:=by omega
 rcases hk with rfl|rfl|rfl<;>rfl
theorem K3 (c:List Col):Px c=Fi c:=by
 unfold Px Fi
 congr 1
 funext x
 unfold R9 Pu
 rw [i5,Yv,←Bool.or_assoc (!Ko x.1.name)]
theorem Ks (c:List Col):Uq c=Ct c:=by unfold Uq Ct;rw [K3]
set_option maxRecDepth 4000
def G4 (l:List Tok) (i:Nat):Tok:=l.getD i ⟨0,[],0⟩
end Go.SX.Nb
