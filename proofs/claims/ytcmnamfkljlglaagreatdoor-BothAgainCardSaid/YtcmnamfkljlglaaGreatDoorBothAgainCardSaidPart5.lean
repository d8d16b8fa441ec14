/- On the way (part 5). -/
import Derived.Test.YtcmnamfkljlglaaGreatDoorBothAgainCardSaidPart4
set_option linter.all false
namespace Go.SX.Nb
open Go Go.SX Go.Proofs
variable [ErrAt]
set_option maxRecDepth 4000
inductive Expr where
 | mk (op:Int) (text:Str) (val:Val) (kids:List Expr)
def Expr.op:Expr→Int|.mk o _ _ _=>o
def Expr.text:Expr→Str|.mk _ t _ _=>t
def Expr.val:Expr→Val|.mk _ _ v _=>v
def Expr.kids:Expr→List Expr|.mk _ _ _ k=>k
mutual
def Af:Expr→AV
 | .mk o t v k=>.agg [.v (.int .i64 o),.v (sv t),.v (.int .i64 v.kind),.v (.int .i64 v.n),.v (sv v.s),.slice false 6 (Ly k)]
def Ly:List Expr→List AV
  | []=>[]
  | e::r=>Af e::Ly r
 end
theorem O0:∀l,Ly l=l.map Af
 | []=>rfl
 | e::r=>by rw [Ly,O0 r];rfl
theorem Fx (e:Expr):Af e=.agg [.v (.int .i64 e.op),.v (sv e.text),.v (.int .i64 e.val.kind),.v (.int .i64 e.val.n),.v (sv e.val.s),.slice false 6 (e.kids.map Af)]:=by
 cases e with
 | mk o t v k=>rw [Af,O0];rfl
attribute [go_sem] Fx
def Jd:Str:=[32,111,114,32,32,97,110,100,32,32,61,32,33,61,32,60,32,60,61,32,62,32,62,61,32,32,43,32,45,32,38,32,32,42,32,47,32,37,32]
def I0 (v:Val):Bool:=v.kind==0&&v.n==0&&v.s==[]
def D5 (e:Expr):Bool:=
 if e.op==1 then ((Cn e.val&&decide (0≤e.val.n))&&(e.text==[]))&&((e.kids.length:Int)==0)
 else if e.op==2 then (I0 e.val&&D4 e.text)&&((e.kids.length:Int)==0)
 else if e.op==3 || e.op==4 then (I0 e.val&&(e.text==[]))&&((e.kids.length:Int)==1)
 else if e.op==5 then (I0 e.val&&Jc e.text Jd)&&((e.kids.length:Int)==2)
 else if e.op==6 then I0 e.val&&(Be e.text==(e.kids.length:Int))
 else false
theorem og (e:Expr) (hs:e.text.length≤1048576) (Hp:List AObj):AFun Tryz.prog 102 [Af e] Hp (Ag (D5 e)):=by
 refine ACall.body [.tmp 2] [0] Tryz.func102 Tryz.ntmps102 (fun d=>?_)
 refine Sf ?_;refine Z3 ?_;refine eu ?_
 refine R.go (h:=Q.eqlAgg Sj (Gf e.val.kind e.val.n 0 0 e.val.s [])) (hr:=?_)
 refine R.go ?_;refine R.fin [1,3] ?_;refine Z28 ?_;refine R.fin [1,3,9] ?_;refine Z96 ?_;refine R.fin [1,3,9,10] ?_
 refine W.cond (fun ht10=>?_) (fun ht10=>?_)
 ·refine Z3 ?_;refine R.call Tryz.call51 (c51 e.val _) ?_;refine R.go ?_;refine Z42 ?_;refine Z1 ?_;refine Z73 ?_;refine Z42 ?_;exact Xj
 refine Z3 ?_;refine R.fin [1,3,9,32] ?_
 refine W.cond (fun ht32=>?_) (fun ht32=>?_)
 ·refine Z3 ?_;refine Z11 ?_;refine G.call Tryz.call111 (fun hB=>f7 e.text hs _) ?_;refine Sg ?_;exact Xj
 refine Z28 ?_;refine R.fin [1,3,9,46] ?_
 refine W.cond (fun ht46=>?_) (fun ht46=>?_)
 ·refine Z9 ?_
  refine W.cond (fun ht46=>?_) (fun ht46=>?_)
  ·refine Z3 ?_;refine Z73 ?_;refine Z42 ?_;exact Xj
  refine Z3 ?_;refine R.fin [1,3,9,61] ?_
  refine W.cond (fun ht61=>?_) (fun ht61=>?_)
  ·refine Z3 ?_;refine Z11 ?_;refine lq ?_;exact Xj
  refine Z3 ?_;refine R.fin [1,3,75] ?_
  refine W.cond (fun ht75=>?_) (fun ht75=>?_)
  ·refine lj ?_;refine Z69 ?_;refine H.call Tryz.call126 (fun hB=>mn e.text _) ?_;refine Z69 ?_;refine H.go ?_;refine D.tail ?_;refine Z45 ?_;refine Z4 ?_;exact Z39
  refine Z18 ?_;exact l6
 refine Z20 ?_;refine R.fin [1,3,9,46] ?_;refine K.thN ?_
 refine W.cond (fun ht46=>?_) (fun ht46=>?_)
 ·refine Z3 ?_;refine Z73 ?_;refine Z42 ?_;exact Xj
 refine Z3 ?_;refine R.fin [1,3,9,61] ?_
 refine W.cond (fun ht61=>?_) (fun ht61=>?_)
 ·refine Z3 ?_;refine Z11 ?_;refine lq ?_;exact Xj
 refine Z3 ?_;refine R.fin [1,3,75] ?_
 refine W.cond (fun ht75=>?_) (fun ht75=>?_)
 ·refine lj ?_;refine Z69 ?_;refine H.call Tryz.call126 (fun hB=>mn e.text _) ?_;refine Z69 ?_;refine H.go ?_;refine D.tail ?_;refine Z45 ?_;refine Z4 ?_;exact Z39
 refine Z18 ?_;exact l6

mutual
def B9 (d:Int):Expr→List (Int×Expr)
 | .mk o t v k=>(d,.mk o t v k)::At (d+1) k
def At (d:Int):List Expr→List (Int×Expr)
  | []=>[]
  | e::r=>B9 d e++At d r
 end
theorem Eo (d:Int) (e:Expr):B9 d e=(d,e)::At (d+1) e.kids:=by cases e;rfl
theorem Gr (d:Int):∀a b,At d (a++b)=At d a++At d b
 | [],b=>rfl
 | e::r,b=>by rw [Dv,At,At,Gr d r b,B8]
theorem Sn (d:Int) (l:List Expr) {x:Nat} (h:x<l.length):At d (l.take (x+1))=At d (l.take x)++B9 d l[x]:=by
 rw [G7 h,Gr]
 simp [At]
theorem Kv (d:Int) (l:List Expr) {x:Nat} (h:x<l.length):At d l=At d (l.take x)++(B9 d l[x]++At d (l.drop (x+1))):=by
 have e:l=l.take x++(l[x]::l.drop (x+1)):=by rw [←Hc h,Vz]
 conv=>lhs;rw [e]
 rw [Gr,At]
mutual
def Kw:Expr→Nat
 | .mk _ _ _ k=>1+Ek k
def Ek:List Expr→Nat
  | []=>0
  | e::r=>Kw e+Ek r
 end
theorem So (e:Expr):Kw e=1+Ek e.kids:=by cases e;rfl
/-- Each node has few kids. -/
def okE:Nat→Expr→Prop
 | 0,_=>False
 | n+1,e=>e.text.length≤1048576∧e.kids.length≤1048576∧∀y∈e.kids,okE n y
/-- Who takes what a tree yields: item k is taken at U k; it goes on (go k) to U (k + 1), or ends at F k. Behind U k there may stand others' objects. -/
structure Takes (P:Program) (l:Nat) (L:List (Int×Expr)) (go:Nat→Bool) (U F:Nat→List AObj) (n0:Nat):Prop where
 lenU:∀k,(U k).length=n0
 lenF:∀k,(F k).length=n0
 lowU:∀k,∀x∈U k,ObjLow n0 x
 lowF:∀k,∀x∈F k,ObjLow n0 x
 lt:l<n0
 y:∀(X:List AObj) (k:Nat) (it:Int×Expr),L[k]? = some it→(∀j,j<k→go j=true)→AYield P l [A3 it.1,Af it.2] (U k++X) (fun b H'=>b=go k∧H'=(if go k then U (k+1) else F k)++X)
theorem ObjLow.le {m m':Nat} (h:m≤m') {x:AObj} (hx:ObjLow m x):ObjLow m' x:=by
 cases x with
 | cells t cs=>exact fun y hy=>(hx y hy).mono h
 | loop s pd fr sz ps as' bd df=>exact ⟨fun s=>(hx.1 s).mono h,Dh hx.2 h⟩
 | defs=>trivial
 | dead=>trivial
 | bld _ _ _=>trivial
 | gone=>trivial
/-- What the walk over n items from k0 on comes to. -/
def Sp (go:Nat→Bool) (U F:Nat→List AObj) (k0 n:Nat) (X:List AObj):AV→List AObj→Prop:=fun r H' =>
 ((∀j,j<n→go (k0+j)=true)∧r=Ag true∧H'=U (k0+n)++X)∨(∃j,j<n∧(∀i,i<j→go (k0+i)=true)∧go (k0+j)=false∧r=Ag false∧H'=F (k0+j)++X)
mutual
theorem C0 (m:Nat):∀e,Low m (Af e)
 | .mk o t v k=>by
  rw [Af]
  refine .agg _ fun y hy=>?_
  simp only [Cd,E8,or_false] at hy
  rcases hy with rfl|rfl|rfl|rfl|rfl|rfl
  ·exact .v _
  ·exact .v _
  ·exact .v _
  ·exact .v _
  ·exact .v _
  exact low_slice.2 (O1 m k)
theorem O1 (m:Nat):∀l,∀y∈Ly l,Low m y
  | [],y,hy=>by cases hy
  | e::r,y,hy=>by
    rw [Ly] at hy
    rcases Cd.1 hy with rfl|h
    · exact C0 m e
    exact O1 m r y h
 end
theorem Kx {V O A B own:List AObj} (h:V++O=A++(B++own)) (hl:V.length=(A++B).length):V=A++B∧O=own:=by
 rw [←B8] at h
 exact Lc h hl
theorem Hr {m:Nat} {A X:List AObj} (hA:∀x∈A,ObjLow m x) (hX:∀x∈X,ObjLow m x):∀x∈A++X,ObjLow m x:=fun x hx=>by
 rcases Em.1 hx with h|h
 ·exact hA x h
 exact hX x h
theorem V8 {P:Program} {l:Nat} {L:List (Int×Expr)} {go:Nat→Bool} {U F:Nat→List AObj} {n0 k n K:Nat} {X own V O:List AObj} {r:AV} (T:Takes P l L go U F n0) (hV:V.length=(U K++X).length) (hp:Sp go U F k n (X++own) r (V++O)):
  ∃b,r=Ag b∧O=own∧(if b then (∀j,j<n→go (k+j)=true)∧V=U (k+n)++X else ∃j,j<n∧(∀i,i<j→go (k+i)=true)∧go (k+j)=false∧V=F (k+j)++X)∧((∀x∈U K++X,ObjLow V.length x)→∀x∈V,ObjLow V.length x):=by
 have hn:n0≤V.length:=by rw [hV,Ai,T.lenU];omega
 rcases hp with ⟨h1,h2,h3⟩|⟨j,hj,h1,h2,h3,h4⟩
 ·obtain ⟨e1,e2⟩:=Kx h3 (by rw [hV];simp [T.lenU])
  refine ⟨true,h2,e2,⟨h1,e1⟩,fun h=>?_⟩
  rw [e1] at h ⊢
  exact Hr (fun x hx=>ObjLow.le (by rw [Ai,T.lenU];omega) (T.lowU _ x hx)) (fun x hx=>h x (U4 _ hx))
 obtain ⟨e1,e2⟩:=Kx h4 (by rw [hV];simp [T.lenU,T.lenF])
 refine ⟨false,h3,e2,⟨j,hj,h1,h2,e1⟩,fun h=>?_⟩
 rw [e1] at h ⊢
 exact Hr (fun x hx=>ObjLow.le (by rw [Ai,T.lenF];omega) (T.lowF _ x hx)) (fun x hx=>h x (U4 _ hx))
theorem Sq (d:Int) (l:List Expr) {x:Nat} (h:x<l.length):(At d (l.take (x+1))).length=(At d (l.take x)).length+(B9 d l[x]).length:=by rw [Sn d l h,Ai]
theorem b8 {d0:Int} {e:Expr} {x:Nat} (h:x<e.kids.length) {j:Nat} {it:Int×Expr} (hj:(B9 (d0+1) e.kids[x])[j]? = some it):(B9 d0 e)[1+(At (d0+1) (e.kids.take x)).length+j]? = some it:=by
 rw [Eo d0 e,show 1+(At (d0+1) (e.kids.take x)).length+j=((At (d0+1) (e.kids.take x)).length+j)+1 by omega,Qs,Kv (d0+1) e.kids h,Cb (by omega)]
 rw [show (At (d0+1) (e.kids.take x)).length+j-(At (d0+1) (e.kids.take x)).length=j by omega,C8 (A8.1 hj).1]
 exact hj
theorem Y1 (d0:Int) (e:Expr) {x:Nat} (h:x<e.kids.length):1+(At (d0+1) (e.kids.take x)).length+(B9 (d0+1) e.kids[x]).length≤(B9 d0 e).length:=by
 rw [Eo d0 e,Bj,Kv (d0+1) e.kids h]
 simp only [Ai]
 omega
theorem oh {l:Nat} {L:List (Int×Expr)} {go:Nat→Bool} {U F:Nat→List AObj} {n0:Nat} (T:Takes Tryz.prog l L go U F n0):∀(n:Nat) (e:Expr),okE n e→∀(d0:Int) (k0:Nat) (X:List AObj),0≤d0→d0+n≤1099511627776→(∀(j:Nat) (it:Int×Expr),(B9 d0 e)[j]? = some it→L[k0+j]? = some it)→(∀j,j<k0→go j=true)→ACall Tryz.prog 124 [Af e,A3 d0,.yield l] (U k0++X) (Sp go U F k0 (B9 d0 e).length X):=by
 intro n
 induction n with
 | zero=>exact fun e h=>h.elim
 | succ n ih =>
 intro e hok d0 k0 X hd hdn hit hgo
 have hlen0:(U k0++X).length=n0+X.length:=by rw [Ai,T.lenU]
 refine Ac [.tmp 6] [0,1,2] Tryz.func124 Tryz.ntmps124 (fun d=>?_)
 refine Z3 ?_;refine A0 [1,2,3] ?_;refine Z25 ?_
 refine R.yield0 (T.y X k0 (d0,e) (hit 0 _ (by rw [Eo];rfl)) hgo) ?_
 intro b Vv hV hb
 refine A2 ?_;refine A0 [1,2,3,13] ?_
 refine A1 (fun ht13=>?_) (fun ht13=>?_)
 ·have hb':b=false:=by simpa using ht13
  subst hb'
  refine Z0 ?_;refine Rb ?_;exact A5 (Aa A4) (Or.inr ⟨0,by rw [Eo];simp,fun i hi=>by omega,hb.1.symm,rfl,by have:=hb.2;rw [show go k0=false from hb.1.symm] at this;exact this⟩)
 have hb':b=true:=by simpa using ht13
 subst hb'
 have hgo0:go (k0+0)=true:=hb.1.symm
 have hVe:Vv=U (k0+1)++X:=by have:=hb.2;rw [show go k0=true from hb.1.symm] at this;exact this
 subst hVe
 have h0x:0≤e.kids.length∧∀j,j<1+(At (d0+1) (e.kids.take 0)).length→go (k0+j)=true:=⟨Au _,fun j hj=>by
  have:j=0:=by simp [At] at hj;omega
  subst this
  exact hgo0⟩
 refine Z9 ?_;refine Z93 ?_;refine A0 [1,2,15,16,17] ?_
 refine Bz (α:=Nat) (fun x=>⟨28,A6 1 (A3 d0) (A6 2 (.yield l) (A6 15 (.slice false 6 (e.kids.map Af)) (A6 16 (A3 e.kids.length) (A6 17 (A3 (x:Nat)) (fun _=>.any))))),U (k0+(1+(At (d0+1) (e.kids.take x)).length))++X,[],[],none⟩) (fun x=>x≤e.kids.length∧∀j,j<1+(At (d0+1) (e.kids.take x)).length→go (k0+j)=true) (fun x=>e.kids.length-x) (0) h0x (Bf (by simp [At])) rfl (fun x hx=>?_)
 refine Z0 ?_;refine A0 [1,2,15,16,17,18] ?_
 refine C5 (fun ht18=>?_) (fun ht18=>?_)
 ·have hlt:x<e.kids.length:=by simpa using ht18
  have hkl:=hok.2.1
  refine Z65 ?_
  refine A2 (h:=Ab (x) (Af e.kids[x]) (fun _=>As hlt)) (hr:=?_)
  refine Z57 ?_;refine A0 [1,2,8,15,16,17] ?_;refine Z31 ?_
  refine R.callG Tryz.call124 (args:=[Af e.kids[x],A3 (d0+1),.yield l]) (by rw [B8];exact ih e.kids[x] (hok.2.2 _ (Bc hlt)) (d0+1) (k0+(1+(At (d0+1) (e.kids.take x)).length)) (X++_) (by omega) (by omega) (fun j it hj=>by have:=hit _ it (b8 hlt hj);rwa [←Kk] at this) (fun j hj=>by rcases B3 j k0 with h|h;exact hgo j h;have:=hx.2 (j-k0) (by omega);rwa [show k0+(j-k0)=j by omega] at this)) ?_
  intro r Vv O hV hp
  obtain ⟨b,rfl,rfl,hc,hlowV⟩:=V8 T hV hp
  refine ⟨hlowV,fun o ho=>by simp at ho,?_⟩
  refine A2 ?_;refine A0 [1,2,15,16,17,26] ?_
  refine A1 (fun ht26=>?_) (fun ht26=>?_)
  ·have hb':b=false:=by simpa using ht26
   subst hb'
   obtain ⟨j,hj,h1,h2,h3⟩:=hc
   refine Z0 ?_;refine Z47 ?_;refine Z53 ?_
   have hil:=Y1 d0 e hlt
   refine A5 (Aa A4) (Or.inr ⟨1+(At (d0+1) (e.kids.take x)).length+j,by omega,fun i hi=>?_,by rwa [Kk] at h2,rfl,by rwa [Kk] at h3⟩)
   rcases B3 i (1+(At (d0+1) (e.kids.take x)).length) with h|h
   ·exact hx.2 i h
   have:=h1 (i-(1+(At (d0+1) (e.kids.take x)).length)) (by omega)
   rwa [show k0+(1+(At (d0+1) (e.kids.take x)).length)+(i-(1+(At (d0+1) (e.kids.take x)).length))=k0+i by omega] at this
  have hb':b=true:=by simpa using ht26
  subst hb'
  obtain ⟨h1,h3⟩:=hc
  refine Z50 ?_;refine A0 [1,2,15,16,17] ?_
  subst h3
  have hll:=Sq (d0+1) e.kids hlt
  have e1:k0+(1+(At (d0+1) (e.kids.take (x+1))).length)=k0+(1+(At (d0+1) (e.kids.take x)).length)+(B9 (d0+1) e.kids[x]).length:=by omega
  refine B0 (x+1) ⟨hlt,fun j hj=>?_⟩ (by omega) ?_
  ·rcases B3 j (1+(At (d0+1) (e.kids.take x)).length) with h|h
   ·exact hx.2 j h
   have:=h1 (j-(1+(At (d0+1) (e.kids.take x)).length)) (by omega)
   rwa [show k0+(1+(At (d0+1) (e.kids.take x)).length)+(j-(1+(At (d0+1) (e.kids.take x)).length))=k0+j by omega] at this
  simp only [e1]
  exact Bs (own:=[]) (fun _=>.refl _) (by repeat (first|exact Ao|refine An (by first|(simp [C0];done)|(have:=T.lt;simp [T.lenU];omega)) ?_)) (by simp) (by simp)
 have hxe:e.kids.take x=e.kids:=Ev (by simp at ht18;omega)
 refine Z29 ?_;refine Z0 ?_;refine Z47 ?_
 have hl2:(B9 d0 e).length=1+(At (d0+1) (e.kids.take x)).length:=by rw [Eo,hxe,Bj];omega
 exact A5 (Aa A4) (Or.inl ⟨fun j hj=>hx.2 j (by omega),rfl,by rw [hl2]⟩)

def K3:=@ObjLow.le
abbrev Sr (e:Expr):List AV:=[.v (.int .i64 e.op),.v (sv e.text),.v (.int .i64 e.val.kind),.v (.int .i64 e.val.n),.v (sv e.val.s),.slice false 6 (e.kids.map Af)]
/-- What taking all of a tree comes to. -/
def O2 (go:Nat→Bool) (U F:Nat→List AObj) (n:Nat) (H':List AObj):Prop:=
 ((∀j,j<n→go j=true)∧H'=U n)∨(∃j,j<n∧(∀i,i<j→go i=true)∧go j=false∧H'=F j)
theorem oi {l:Nat} {e:Expr} {go:Nat→Bool} {U F:Nat→List AObj} {n0:Nat} (T:Takes Tryz.prog l (B9 1 e) go U F n0) (n:Nat) (hok:okE n e) (hn:n≤1048576):ACall Tryz.prog 123 [.yield l,.ro (Sr e)] (U 0) (fun r H'=>O2 go U F (B9 1 e).length H'):=by
 refine Ac [] [0,1] Tryz.func123 Tryz.ntmps123 (fun d=>?_)
 refine Z20 ?_;refine R.callG Tryz.call124 (args:=[Af e,A3 1,.yield l]) (oh T n e hok 1 0 [] (by omega) (by omega) (fun j it hj=>by rwa [C4]) (fun j hj=>by omega)) ?_
 intro r Vv O hV hp
 have hO:O=[]:=by
  have h1:(Vv++O).length=n0:=by rcases hp with ⟨_,_,h⟩|⟨j,_,_,_,_,h⟩<;>rw [h]<;>simp [T.lenU,T.lenF]
  have h2:=T.lenU 0
  rw [Ai,hV,h2] at h1
  exact Lf (by omega)
 subst hO
 rw [Hb] at hp
 have hq:O2 go U F (B9 1 e).length Vv:=by
  rcases hp with ⟨h1,_,h⟩|⟨j,h1,h2,h3,_,h⟩
  ·exact .inl ⟨fun j hj=>by have:=h1 j hj;rwa [C4] at this,by rw [h];simp⟩
  exact .inr ⟨j,h1,fun i hi=>by have:=h2 i hi;rwa [C4] at this,by rwa [C4] at h3,by rw [h];simp⟩
 refine ⟨fun h=>?_,fun o ho=>by simp at ho,?_⟩
 ·rcases hq with ⟨_,h⟩|⟨j,_,_,_,h⟩<;>rw [h]
  ·rw [T.lenU];exact T.lowU _
  rw [T.lenF];exact T.lowF _
 refine A0 [] ?_;exact K.finN .nores (hp:=hq)

theorem ol (e:Expr) (Hp:List AObj):AFun Tryz.prog 101 [Af e] Hp (.fn (.func 123) [] [.ro (Sr e)]):=by
 refine Ac [.tmp 2] [0] Tryz.func101 Tryz.ntmps101 (fun d=>?_)
 refine Sf ?_;refine Ds ?_;refine Nr ?_;refine A2 ?_;refine Z4 ?_;exact A5 (Aa A4) (hlow:=by have:=C0 Hp.length e;rw [Fx] at this;simpa using this)

def goM (e:Expr) (k:Nat):Bool:=match (B9 1 e)[k]? with
 | some it => !((!D5 it.2 || decide ((30:Int)<it.1)) || decide ((300:Int)<(k:Int)+1))
 | none=>true
def B1 (e:Expr):Bool:=(List.range (B9 1 e).length).all (goM e)
mutual
theorem Pw:∀(n:Nat) (e:Expr),okE n e→∀d,∀it∈B9 d e,it.2.text.length≤1048576
 | 0,_,h,_,_,_=>h.elim
 | n+1,e,h,d,it,hit=>by
  rw [Eo] at hit
  rcases Cd.1 hit with rfl|h'
  ·exact h.1
  exact Px n e.kids h.2.2 (d+1) it h'
 termination_by n e=>(n,0)
theorem Px:∀(n:Nat) (l:List Expr),(∀y∈l,okE n y)→∀d,∀it∈At d l,it.2.text.length≤1048576
  | n,[],_,_,_,h=>by cases h
  | n,e::r,h,d,it,hit=>by
    rw [At] at hit
    rcases Em.1 hit with h'|h'
    · exact Pw n e (h e (by simp)) d it h'
    exact Px n r (fun y hy=>h y (by simp [hy])) d it h'
  termination_by n l=>(n,l.length+1)
 end
theorem V9 {U:List AObj} {i j:Nat} {x y:AObj} (h:U[i]? = some x) (hne:j≠i):(U.set j y)[i]? = some x:=by rw [Da hne];exact h
theorem jl {e:Expr} {k:Nat} {it:Int×Expr} (hit:(B9 1 e)[k]? = some it) (h:∀j,j<k→goM e j=true):(k:Int)≤300:=by
 rcases Nat.eq_zero_or_pos k with h0|h0
 ·omega
 have hl:=(A8.1 hit).1
 have:=h (k-1) (by omega)
 unfold goM at this
 rw [A9 (by omega)] at this
 simp at this
 omega
theorem Re {e:Expr} {k:Nat} {it:Int×Expr} (hit:(B9 1 e)[k]? = some it):goM e k = !((!D5 it.2 || decide ((30:Int)<it.1)) || decide ((300:Int)<(k:Int)+1)):=by
 unfold goM;rw [hit]
theorem c76 (n:Nat) (e:Expr) (hok:okE n e) (hn:n≤1048576) (Hp:List AObj):AFun Tryz.prog 76 [Af e] Hp (Ag (B1 e)):=by
 refine Ac [.cell 2 4] [0,4,5] Tryz.func76 Tryz.ntmps76 (fun d=>?_)
 refine Z0 ?_;refine Hj jZ ?_;refine A0 [1,2,4,5] ?_;refine Z44 ?_;refine Gq ?_;refine A0 [1,2,3,4,5] ?_;refine Z59 ?_
 refine Lo (fun hlow=>?_)
 refine A2 ?_;refine A7 Tryz.call101 (ol e _) ?_;refine A0 [2,3,4,5,7] ?_;refine G9 ?_
 refine W.rangeV (m:=2) Tryz.call123 (fun FR as' bd' hFR has hbd=>?_)
 have hFRl:∀s,Low (Hp.length+4) (FR s):=by
  intro s
  rw [hFR]
  refine R1 ?_
  revert s
  repeat (first|exact Ao|refine An (by simp [oid,C0]<;>try omega) ?_)
 have hOl:∀{k:Nat},∀x∈[AObj.cells 4 [Ag false],AObj.cells 3 [A3 (k:Nat)],AObj.defs,AObj.loop LoopState.ready none FR 23 #[8,9] as' bd' (oid Hp.length 2)],ObjLow (Hp.length+4) x:=by
  intro k x hx
  simp only [Cd,E8,or_false] at hx
  rcases hx with rfl|rfl|rfl|rfl
  ·exact ec
  ·exact ec
  ·trivial
  exact ⟨hFRl,by simp [oid]⟩
 have hOf:∀{k:Nat},∀x∈[AObj.cells 4 [Ag false],AObj.cells 3 [A3 ((k:Nat)+1)],AObj.defs,AObj.loop LoopState.done (some Code.ret) FR 23 #[8,9] as' bd' (oid Hp.length 2)],ObjLow (Hp.length+4) x:=by
  intro k x hx
  simp only [Cd,E8,or_false] at hx
  rcases hx with rfl|rfl|rfl|rfl
  ·exact ec
  ·exact ec
  ·trivial
  exact ⟨hFRl,by simp [oid]⟩
 refine ⟨fun _ H'=>O2 (goM e) (fun k=>Hp++[AObj.cells 4 [Ag false],AObj.cells 3 [A3 (k:Nat)],AObj.defs,AObj.loop LoopState.ready none FR 23 #[8,9] as' bd' (oid Hp.length 2)]) (fun k=>Hp++[AObj.cells 4 [Ag false],AObj.cells 3 [A3 ((k:Nat)+1)],AObj.defs,AObj.loop LoopState.done (some Code.ret) FR 23 #[8,9] as' bd' (oid Hp.length 2)]) (B9 1 e).length H',oi (l:=oid Hp.length 3) (go:=goM e) (U:=fun k=>Hp++[AObj.cells 4 [Ag false],AObj.cells 3 [A3 (k:Nat)],AObj.defs,AObj.loop LoopState.ready none FR 23 #[8,9] as' bd' (oid Hp.length 2)]) (F:=fun k=>Hp++[AObj.cells 4 [Ag false],AObj.cells 3 [A3 ((k:Nat)+1)],AObj.defs,AObj.loop LoopState.done (some Code.ret) FR 23 #[8,9] as' bd' (oid Hp.length 2)]) (n0:=Hp.length+4) ⟨fun k=>by simp,fun k=>by simp,fun k x hx=>?_,fun k x hx=>?_,by simp [oid],fun X k it hit hgo=>?_⟩ n hok hn,?_⟩
 ·exact Hr (fun x hx=>K3 (by omega) (hlow x hx)) hOl x hx
 ·exact Hr (fun x hx=>K3 (by omega) (hlow x hx)) hOf x hx
 ·have hk3:=jl hit hgo
  generalize hV:(Hp++[AObj.cells 4 [Ag false],AObj.cells 3 [A3 (k:Nat)],AObj.defs,AObj.loop LoopState.ready none FR 23 #[8,9] as' bd' (oid Hp.length 2)]++X)=V
  have hL:V[oid Hp.length 3]? = some (AObj.loop LoopState.ready none FR 23 #[8,9] as' bd' (oid Hp.length 2)):=by rw [←hV,B8,C2];rfl
  have hA0:V[oid Hp.length 1]? = some (AObj.cells 3 [A3 (k:Nat)]):=by rw [←hV,B8,C2];rfl
  have hB0:V[oid Hp.length 0]? = some (AObj.cells 4 [Ag false]):=by rw [←hV,B8,C2];rfl
  refine R5 (pd:=none) (fr:=FR) (sz:=23) (ps:=#[8,9]) (df:=oid Hp.length 2) (asg:=as') (bd:=bd') hL rfl (by decide) (fun d=>?_)
  subst hFR has hbd
  refine W.keep [2,3,8,9] ?_;refine Z0 ?_;refine A0 [2,3,4,9] ?_;refine Ji ?_;refine Xf ?_;refine A0 [2,3,4,5] ?_
  refine ⟨rfl,none,hL,?_⟩
  generalize hbz:(AObj.loop LoopState.busy _ _ _ _ _ _ _)=bz
  have hA:(V.set (oid Hp.length 3) bz)[oid Hp.length 1]? = some (AObj.cells 3 [A3 (k:Nat)]):=by rw [Da (Bt (by decide))];exact hA0
  have hB:(V.set (oid Hp.length 3) bz)[oid Hp.length 0]? = some (AObj.cells 4 [Ag false]):=by rw [Da (Bt (by decide))];exact hB0
  refine G9 ?_;refine Ds ?_
  refine A2 (h:=Io hA) (hr:=?_)
  refine A2 ?_
  refine Jv jS hA ?_ ?_
  ·simp
  refine A0 [2,3,4,5] ?_;refine Z0 ?_;refine A7 Tryz.call102 (og it.2 (Pw n e hok 1 it (Ae hit)) _) ?_;refine Nv ?_;refine Z1 ?_
  refine Bk (h:=Io (Nt hA)) (hr:=?_)
  refine Z86 ?_;refine A0 [2,22] ?_
  refine A1 (fun ht22=>?_) (fun ht22=>?_)
  ·have hgf:goM e k=false:=by rw [Re hit,ht22];rfl
   refine Ds ?_
   refine Jv jS (V9 (j:=oid Hp.length 1) hB (Bt (by decide))) ?_ ?_
   ·simp
   refine A0 [] ?_;refine Ei ?_;refine K.blR ?_
   subst hbz
   refine K.rdR (W8 hL (Bt (by decide)) (Bt (by decide))) ?_
   refine ⟨hgf.symm,?_⟩
   rw [if_neg (by rw [hgf];simp)]
   subst hV
   simp only [B8,Ge,Dv,Dq,List.set_cons_succ,List.set_cons_zero]
   try rfl
  have hgt:goM e k=true:=by rw [Re hit,ht22];rfl
  refine AW.skip ?_;refine K.blN ?_
  subst hbz
  refine K.rdN (ik hL (Bt (by decide))) ?_
  refine ⟨hgt.symm,?_⟩
  rw [if_pos hgt]
  subst hV
  simp only [B8,Ge,Dv,Dq,List.set_cons_succ,List.set_cons_zero]
  try rfl
 rintro r H' (⟨h1,rfl⟩|⟨j,hj,h1,h2,rfl⟩)
 ·refine ⟨Hp,_,_,_,rfl,rfl,fun h=>h,?_,rfl,by simp,?_⟩
  ·intro o ho
   have:o=oid Hp.length 2:=by simpa using ho
   subst this
   rw [C2]
   rfl
  refine Z14 ?_;refine Ds ?_;refine Z13 ?_;exact A5 (Aa (Ea jA)) ⟨by rw [show B1 e=true from Ax.2 fun j hj=>h1 j (Kh.1 hj)],rfl⟩
 refine ⟨Hp,_,_,_,rfl,rfl,fun h=>h,?_,rfl,by simp,?_⟩
 ·intro o ho
  have:o=oid Hp.length 2:=by simpa using ho
  subst this
  rw [C2]
  rfl
 refine Ei ?_;refine Z5 ?_;exact A5 (Aa (Ea jA)) ⟨by rw [show B1 e=false from List.all_eq_false.2 ⟨j,Kh.2 hj,by rw [h2];simp⟩],rfl⟩

def Du (s:Str):Expr:=.mk 2 s ⟨0,0,[]⟩ []
theorem b9 (s:Str):Le (.agg [A3 2,Am s,A3 0,A3 0,Am [],.nil]) (Af (Du s)):=by
 rw [Fx]
 refine .agg _ _ rfl (by simp [AV.one,Value.oneCell',sv]) fun i y y' h1 h2=>?_
 match i with
 | 0=>simp at h1 h2;subst h1;subst h2;exact .inl rfl
 | 1=>simp at h1 h2;subst h1;subst h2;exact .inl rfl
 | 2=>simp at h1 h2;subst h1;subst h2;exact .inl rfl
 | 3=>simp at h1 h2;subst h1;subst h2;exact .inl rfl
 | 4=>simp at h1 h2;subst h1;subst h2;exact .inl rfl
 | 5=>simp at h1 h2;subst h1;subst h2;exact .inr ⟨rfl,6,rfl⟩
 | i+6=>simp at h1
theorem ba (s:Str) (h:s.length≤1048576):okE 1 (Du s):=⟨h,by simp [Du,Expr.kids],fun y hy=>by cases hy⟩
def Lz (c:List Col) (x:Nat) (y:Col):Bool := !(((!B1 (Du y.name)) || (Dt y.kind==[])) || (B7 y.name c != (x:Int)))
def Ky (c:List Col):Bool:=c.zipIdx.all fun x=>Lz c x.2 x.1
theorem colsP_true {c:List Col}:Ky c=true↔∀(j:Nat) (y:Col),c[j]? = some y→Lz c j y=true:=K1
theorem c50 (c:List Col) (hc:OkCols c) (Hp:List AObj):AFun Tryz.prog 50 [Ad c] Hp (Ag (Ky c)):=by
 refine Ac [.tmp 2] [0] Tryz.func50 Tryz.ntmps50 (fun d=>?_)
 refine Ut ?_;refine A0 [0,5,6,7] ?_
 refine Bz (α:=Nat) (fun x=>⟨32,A6 0 (Ad c) (A6 5 (Ad c) (A6 6 (A3 c.length) (A6 7 (A3 (x:Nat)) (fun _=>.any)))),Hp,[],[],none⟩) (fun x=>x≤c.length∧∀(j:Nat) (y:Col),j<x→c[j]? = some y→Lz c j y=true) (fun x=>c.length-x) (0) (by simp) (Bf (by simp)) rfl (fun x hx=>?_)
 refine Z0 ?_;refine A0 [0,5,6,7,8] ?_
 refine C5 (fun ht8=>?_) (fun ht8=>?_)
 ·have hlt:x<c.length:=by simpa using ht8
  have hcl:=hc.len
  refine Nu ?_
  refine A2 (h:=Ab (x) (Co c[x]) (fun _=>As hlt)) (hr:=?_)
  refine Ur ?_;refine A0 [0,3,4,5,6,7] ?_;refine Z3 ?_;refine Ju (places:=#[(0,1),(1,1),(2,3),(5,1)]) jU (fun w=>by simp) jZ ?_;refine R.wk 14 _ (b9 c[x].name) ?_;refine A7 Tryz.call76 (c76 1 (Du c[x].name) (ba _ (hc.names _ (Bc hlt))) (by decide) _) ?_;refine Nv ?_;refine Br Tryz.call77 (fun hB=>c77 c[x].kind _) ?_;refine Z45 ?_;refine Z11 ?_;refine Bk ?_;refine Br Tryz.call71 (fun hB=>c71 c hc c[x].name _) ?_;refine Uq ?_;refine A0 [0,5,6,7,30] ?_
  refine A1 (fun ht30=>?_) (fun ht30=>?_)
  ·refine Xo ?_
   exact A5 (Aa A4) ⟨by rw [show Ky c=false from I7.2 fun h=>by have:=colsP_true.1 h x c[x] (A9 hlt);unfold Lz at this;rw [ht30] at this;cases this],rfl⟩
  refine Z50 ?_;refine A0 [0,5,6,7] ?_
  refine B0 (x+1) ⟨hlt,Fw hlt hx.2 (by unfold Lz;rw [ht30];rfl)⟩ (by omega) ?_
  exact Bs (own:=[]) (fun _=>.refl _) (by repeat (first|exact Ao|refine An (by simp) ?_)) (by simp) (by simp)
 refine Z29 ?_;refine Z51 ?_;exact A5 (Aa A4) ⟨by rw [colsP_true.2 (Gz (by simp at ht8;omega) hx.2)],rfl⟩

def Rf (c:List Col):Bool:=decide ((c.length:Int)≤12)&&Ky c
theorem c72 (c:List Col) (hc:OkCols c) (Hp:List AObj):AFun Tryz.prog 72 [Ad c] Hp (Ag (Rf c)):=by
 refine Ac [.tmp 2] [0] Tryz.func72 Tryz.ntmps72 (fun d=>?_)
 refine Z49 ?_;refine Z31 ?_;refine Bk ?_;refine Br Tryz.call50 (fun hB=>c50 c hc _) ?_;refine Z60 ?_;exact A5 (Aa A4) ⟨by unfold Rf;simp,rfl⟩

theorem Rg (s:Str) (h:s≠[]):Lib.contains [] s=false:=by
 cases s with
 | nil=>exact absurd rfl h
 | cons a r=>rfl
theorem contains_cons (b:UInt8) (l s:Str):Lib.contains (b::l) s=(s.isPrefixOf (b::l) || Lib.contains l s):=by
 unfold Lib.contains
 have hge:=Lib.index_ge l s
 rw [Lib.index]
 by_cases hp:s.isPrefixOf (b::l)=true
 ·rw [if_pos hp,hp];rfl
 rw [if_neg hp]
 have hp':s.isPrefixOf (b::l)=false:=I7.2 hp
 rw [hp',Df]
 by_cases hi:Lib.index l s = -1
 ·rw [hi];rfl
 have:(Lib.index l s == -1)=false:=by simpa using hi
 rw [this,if_neg (by simp)]
 rw [decide_eq_decide]
 omega
/-- Words between blanks. -/
def Is:List Str→Str
 | []=>[32]
 | w::r=>32::(w++Is r)
theorem Py (sub:Str):∀(w R:Str),(32:UInt8)∉w→Lib.contains (w++R) (32::sub)=Lib.contains R (32::sub)
 | [],R,_=>rfl
 | b::w,R,h=>by
  have hb:b≠32:=fun e=>h (by simp [e])
  rw [Dv,contains_cons,Py sub w R (fun hm=>h (by simp [hm]))]
  have:(32::sub).isPrefixOf (b::(w++R))=false:=by
   simp [List.isPrefixOf,Ne.symm hb]
  rw [this,Df]
theorem Mk:∀(s w:Str) (R:Str),(32:UInt8)∉s→(32:UInt8)∉w→(s++[32]).isPrefixOf (w++32::R)=(s==w)
 | [],[],R,_,_=>by simp [List.isPrefixOf]
 | [],b::w,R,_,hw=>by
  have hb:(32:UInt8)≠b:=fun e=>hw (by simp [e])
  simp [List.isPrefixOf,hb]
 | a::s,[],R,hs,_=>by
  have hb:a≠(32:UInt8):=fun e=>hs (by simp [e])
  simp [List.isPrefixOf,hb]
 | a::s,b::w,R,hs,hw=>by
  have ih:=Mk s w R (fun h=>hs (by simp [h])) (fun h=>hw (by simp [h]))
  rw [Dv,Dv,List.isPrefixOf,ih]
  rfl
theorem Ss:∀ws,∃R,Is ws=32::R
 | []=>⟨[],rfl⟩
 | w::r=>⟨_,rfl⟩
theorem Fy (s:Str) (hs:(32:UInt8)∉s):∀(ws:List Str),(∀w∈ws,(32:UInt8)∉w)→Lib.contains (Is ws) ([32]++s++[32])=ws.any (·==s)
 | [],_=>by
  rw [Is,contains_cons,Rg _ (by simp),Jp]
  cases s<;>simp [List.isPrefixOf]
 | w::r,h=>by
  have hw:=h w (by simp)
  obtain ⟨R,hR⟩:=Ss r
  have ih:=Fy s hs r (fun x hx=>h x (by simp [hx]))
  have e1:([32]++s++[32]:Str)=32::(s++[32]):=rfl
  rw [Is,contains_cons,e1,Py _ w _ hw,←e1,ih,List.any_cons]
  congr 1
  rw [e1,hR]
  have:=Mk s w R hs hw
  rw [List.isPrefixOf,this]
  simp only [beq_self_eq_true,Jq]
  by_cases hsw:s=w
  ·subst hsw;rfl
  rw [beq_eq_false_iff_ne.2 hsw,beq_eq_false_iff_ne.2 (Ne.symm hsw)]
theorem Pj:Hq=Is words:=by kernel_rfl
theorem Su:∀w∈words,(32:UInt8)∉w:=by decide
theorem Sv (s:Str):Lib.contains s [32]=s.contains 32:=by
 induction s with
 | nil=>rfl
 | cons b l ih =>
  rw [contains_cons,ih,List.contains_cons]
  congr 1
  simp [List.isPrefixOf]
theorem O3 (s:Str) (h1:s≠[]) (h2:(32:UInt8)∉s):Fe s=Lr s:=by
 unfold Fe
 rw [Sv,Pj,Fy s h2 words Su]
 have e1:(s==[])=false:=by simpa using h1
 have e2:s.contains 32=false:=by simpa using h2
 rw [e1,e2]
 rfl
set_option maxRecDepth 8000
theorem bb {p:UInt8→Bool} (h:((List.range 256).all fun n=>p (UInt8.ofNat n))=true) (c:UInt8):p c=true:=by
 have:=Ax.1 h c.toNat (Kh.2 c.toNat_lt)
 simpa using this
theorem Va (c:UInt8):tails.contains c=Ny c:=by
 have:=bb (p:=fun c=>tails.contains c==Ny c) (by kernel_rfl) c
 simpa using this
theorem Rh (c:UInt8):letters.contains c=Ho c:=by
 have:=bb (p:=fun c=>letters.contains c==Ho c) (by kernel_rfl) c
 simpa using this
theorem Vb:Ny 32=false:=by kernel_rfl
theorem Wa (s of:Str):(Xv s of==(s.length:Int))=s.all (of.contains ·):=by
 unfold Xv Lib.trimLeftS
 induction s with
 | nil=>rfl
 | cons c r ih =>
  rw [Tx,List.all_cons]
  cases hc:of.contains c with
  | true =>
   simp only [if_true,Jq]
   rw [←ih,Nc]
   have:=(Ty (fun x=>of.contains x) (l:=r)).length_le
   simp only [beq_iff_eq,Bj]
   omega
  | false =>
   simp only [Cp,if_false,Tu]
   rw [beq_eq_false_iff_ne]
   simp only [Bj]
   omega
theorem Hs (s:Str):D4 s=Mj s:=by
 cases s with
 | nil=>rfl
 | cons c r =>
  unfold D4
  rw [Wa]
  have e1:((c::r).all fun x=>tails.contains x)=(c::r).all Ny:=by
   congr 1
   funext x
   exact Va x
  have e2:(Xv ((c::r).take 1) letters==1)=Ho c:=by
   have:=Wa [c] letters
   rw [←Rh c]
   simpa using this
  rw [e1,e2]
  have e3:((c::r:Str)==[])=false:=rfl
  have e4:decide (((c::r).length:Int)≤16)=decide ((c::r).length≤16):=by
   rw [decide_eq_decide];omega
  rw [e3,e4]
  show _=(decide ((c::r).length≤16)&&Ho c && !Lr (c::r)&&(c::r).all Ny)
  cases ha:(c::r).all Ny with
  | false=>simp
  | true =>
   have hb:(32:UInt8)∉(c::r):=fun hm=>by
    have:=Ax.1 ha 32 hm
    rw [Vb] at this
    cases this
   rw [O3 _ (by simp) hb]
   simp
theorem Vc (s:Str):B1 (Du s)=Mj s:=by
 have e:B9 1 (Du s)=[(1,Du s)]:=by rw [Eo];rfl
 unfold B1
 rw [e]
 show ((List.range 1).all (goM (Du s)))=_
 have g:goM (Du s) 0=D5 (Du s):=by
  unfold goM
  rw [e]
  simp
 simp only [List.range_succ,List.range_zero,Dq,List.all_cons,List.all_nil,Tt]
 rw [g,←Hs]
 simp [D5,Du,Expr.op,Expr.val,Expr.text,Expr.kids,I0]
theorem Ri (k:Int):(Dt k==[])=(decide (k<1) || decide ((3:Int)<k)):=by
 unfold Dt
 by_cases h:k<1∨3<k
 ·rw [if_pos h]
  have:(decide (k<1) || decide ((3:Int)<k))=true:=by simpa using h
  rw [this];rfl
 rw [if_neg h]
 have:(decide (k<1) || decide ((3:Int)<k))=false:=by simp;omega
 rw [this]
 have hk:k=1∨k=2∨k=3:=by omega
 rcases hk with rfl|rfl|rfl<;>rfl
theorem Kz (c:List Col):Ky c=Hz c:=by
 unfold Ky Hz
 congr 1
 funext x
 unfold Lz il
 rw [Vc,Ri,←Bool.or_assoc (!Mj x.1.name)]
theorem O4 (c:List Col):Rf c=D3 c:=by unfold Rf D3;rw [Kz]
set_option maxRecDepth 4000
def Dp (l:List Tok) (i:Nat):Tok:=l.getD i ⟨0,[],0⟩
end Go.SX.Nb
