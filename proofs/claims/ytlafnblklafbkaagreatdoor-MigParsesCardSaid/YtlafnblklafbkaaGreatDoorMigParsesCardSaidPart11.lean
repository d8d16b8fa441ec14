/- On the way (part 11). -/
import Derived.Test.YtlafnblklafbkaaGreatDoorMigParsesCardSaidPart10
set_option linter.all false
namespace Go.SX.Nb
open Go Go.SX Go.Proofs Go.RowKit Go.Sort
variable [ErrAt]
set_option maxRecDepth 4000
theorem zr:Builder.Extra Tryz.prog Tryz.ren156:={ sizeBuilder:=by kernel_rfl,liesBuilder:=by kernel_rfl,t5:=Tryz.underlying5,a5:=Tryz.isAgg5,z5:=Tryz.sizeOf5,v5:=Tryz.zeroValue5,infoByte:=by kernel_rfl,cellsByte:=by kernel_rfl,sizeByte:=by kernel_rfl,neB5:=by decide }
theorem c63 (l:List Str) (sep:Str) (hn:l.length≤140737488355328) (hl:(Lib.join l sep).length≤140737488355328) (Hp:List AObj):AFun Tryz.prog 63 [Jw l,Ac sep] Hp (Ac (Lib.join l sep)):=by
 have e:Jw l=.slice false 1 ((l.map sv).map .v):=by rw [Mo];rfl
 rw [e]
 refine AFun.libSl (xs:=[sv sep]) (v:=sv (Lib.join l sep)) (fun G w=>.v _ _) (fun w u hg hs=>?_)
 rcases hs with ⟨rfl,he⟩|⟨ad,c,rfl,hc,hsp,hcell⟩
 ·have:l=[]:=by simpa using he
  subst this
  refine (Any.strings_Join_none Tryz.lays156 zr none 0 ⟨sep.toArray⟩ w).mono ?_
  rintro e w' ⟨rfl,rfl⟩
  exact nx
 rw [Bh] at hc
 match l,hn,hl,hc,hsp,hcell with
 | [],_,_,_,_,_ =>
  refine (Any.strings_Join_none Tryz.lays156 zr (some ad) c ⟨sep.toArray⟩ w).mono ?_
  rintro e w' ⟨rfl,rfl⟩
  exact nx
 | [x],_,_,hc,hsp,hcell =>
  obtain ⟨bk,o,spot⟩:=ad
  have hs0:spot=none:=hsp (by simp)
  subst hs0
  refine (Any.strings_Join_one Tryz.lays156 zr bk o c ⟨x.toArray⟩ ⟨sep.toArray⟩ w (by have:=hcell 0 (sv x) rfl;simpa using this)).mono ?_
  rintro e w' ⟨rfl,rfl⟩
  exact ⟨by rw [Lib.join_one],Below.refl _ _⟩
 | x::y::r,hn,hl,hc,hsp,hcell =>
  obtain ⟨bk,o,spot⟩:=ad
  have hs0:spot=none:=hsp (by simp)
  subst hs0
  have h0:=hcell 0 (sv x) rfl
  have hb:bk<w.heap.size:=World.block_lt_of_cell? _ _ h0
  have hd:((x::y::r).map fun z=>(⟨z.toArray⟩:ByteArray)).map (·.data.toList)=x::y::r:=by
   rw [Mo]
   exact List.map_id'' (fun z=>by simp) _
  have:=Any.strings_Join_many Tryz.lays156 zr bk o c ((x::y::r).map fun z=>(⟨z.toArray⟩:ByteArray)) ⟨sep.toArray⟩ w (fun j z hz=>by
   rw [D3,Fj] at hz
   obtain ⟨z',hz',rfl⟩:=hz
   exact hcell j _ (by rw [D3,hz'];rfl)) hb (by simp) (by simpa using hn) (by simpa using hc) (by rw [hd];simpa using hl)
  rw [hd,Bh] at this
  rw [Bh]
  refine this.mono ?_
  rintro e w' ⟨rfl,hb'⟩
  exact ⟨by simp,hb'⟩
end Go.SX.Nb
namespace Go.SX.Nb
open Go Go.SX Go.Proofs
variable [ErrAt]
set_option maxRecDepth 4000
/-! mig.Print: what it answers. -/
/-- mig.trees. -/
def Bv:List Expr→List Str×Int
 | []=>([],0)
 | x::r=>if (J4 x).2 != 0 then ([],(J4 x).2) else if (Bv r).2 != 0 then ([],(Bv r).2) else ((J4 x).1::(Bv r).1,0)
theorem iz:∀{l:List Expr},(∀(j:Nat) (y:Expr),l[j]? = some y→((J4 y).2 != 0)=false)→Bv l=(l.map (fun e=>(J4 e).1),0)
 | [],_=>rfl
 | x::r,h=>by
  rw [Bv,iz (l:=r) (fun j y hy=>h (j+1) y hy),if_neg (by rw [h 0 x rfl];simp),if_neg (by simp)]
  rfl
theorem j5:∀{l:List Expr} {x:Nat} {y:Expr},(∀(j:Nat) (z:Expr),j<x→l[j]? = some z→((J4 z).2 != 0)=false)→l[x]? = some y→((J4 y).2 != 0)=true→Bv l=([],(J4 y).2)
 | [],_,_,_,h,_=>by simp at h
 | a::r,0,y,_,h,h1=>by
  have:a=y:=by simpa using h
  subst this
  rw [Bv,if_pos h1]
 | a::r,x+1,y,h0,h,h1=>by
  rw [Bv,if_neg (by rw [h0 0 a (by omega) rfl];simp),j5 (l:=r) (x:=x) (fun j z hj hz=>h0 (j+1) z (by omega) hz) (by simpa using h) h1,if_pos h1]
theorem M3:∀(l:List Expr),((Bv l).2≠0∧(Bv l).1=[])∨(Bv l=(l.map As,0)∧∀e∈l,(As e).length≤4000)
 | []=>.inr ⟨rfl,fun e h=>by cases h⟩
 | x::r=>by
  rw [Bv]
  by_cases h1:(J4 x).2=0
  ·obtain ⟨a,b,c⟩:=AK7 h1
   rw [if_neg (by rw [h1];simp)]
   rcases M3 r with ⟨h2,h3⟩|⟨h2,h3⟩
   ·rw [if_pos (by simpa using h2)]
    exact .inl ⟨h2,rfl⟩
   rw [if_neg (by rw [h2];simp),h2,c]
   exact .inr ⟨rfl,fun e he=>by
    rcases C9.1 he with rfl|he
    ·exact b
    exact h3 e he⟩
  rw [if_pos (by simpa using h1)]
  exact .inl ⟨h1,rfl⟩
theorem me (l:List Str):Lib.join l [44,32]=Fq l:=by
 cases l with
 | nil=>rfl
 | cons a r =>
  rw [Lib.join_cons,Fq]
  rfl
theorem X4 {b:Nat} {l:List Str} (h:∀s∈l,s.length≤b):(Fq l).length≤l.length*(b+2):=by
 have key:∀r:List Str,(∀s∈r,s.length≤b)→(r.flatMap fun u=>[44,32]++u).length≤r.length*(b+2):=by
  intro r
  induction r with
  | nil=>exact fun _=>Al _
  | cons a r ih =>
   intro h
   have h1:=ih fun s hs=>h s (.tail _ hs)
   have h2:=h a Ev
   rw [Ia,Ai,Aq,Yr,Ai]
   simp only [Aq,B9]
   omega
 cases l with
 | nil=>exact Al _
 | cons a r =>
  have h1:=key r fun s hs=>h s (.tail _ hs)
  have h2:=h a Ev
  rw [Fq,Ai,Aq,Yr]
  omega
/-- The texts of what comes: names, kinds, and these texts. -/
def gvs (m:Mov) (T:List Str):List Str:=(m.give.zip T).map fun p=>((p.1.name++[32])++Av p.1.kind)++[32,61,32]++p.2
theorem zt {m:Mov} {T:List Str} (h:T.length≤m.give.length):(gvs m T).length=T.length:=by
 unfold gvs
 rw [Bh,Ye]
 omega
theorem ANr {m:Mov} {T:List Str} {x:Nat} (hx:x<T.length) (hg:x<m.give.length) (hv:x<(gvs m T).length):(gvs m T)[x]=((m.give[x].name++[32])++Av m.give[x].kind)++[32,61,32]++T[x]:=by
 unfold gvs
 simp
/-- mig.gives. -/
def L9 (m:Mov):Str×Int:=if (Bv m.ahead).2 != 0 then ([],(Bv m.ahead).2) else (L8 m,0)
theorem Ry (m:Mov):L9 m=(Fq (gvs m (Bv m.ahead).1),(Bv m.ahead).2):=by
 unfold L9
 rcases M3 m.ahead with ⟨h1,h2⟩|⟨h1,h2⟩
 ·rw [if_pos (by simpa using h1),h2]
  unfold gvs
  rw [List.zip_nil_right]
  rfl
 rw [h1,if_neg (by simp)]
 congr 1
 unfold L8 gvs qn
 congr 1
 rw [List.zip_map_right,Mo]
 refine Yf fun p _=>?_
 simp
theorem Js (l:List Expr):(Bv l).1.length≤l.length∧∀s∈(Bv l).1,s.length≤4000:=by
 rcases M3 l with ⟨h1,h2⟩|⟨h1,h2⟩
 ·rw [h2]
  exact ⟨Al _,fun s h=>by cases h⟩
 rw [h1]
 refine ⟨by simp,fun s hs=>?_⟩
 obtain ⟨e,he,rfl⟩:=F4.1 hs
 exact h2 e he
theorem AH0 {m:Mov} (h:OkMov m):∀s∈gvs m (Bv m.ahead).1,s.length≤1060000:=by
 intro s hs
 unfold gvs at hs
 obtain ⟨p,hp,rfl⟩:=F4.1 hs
 have h1:=h.gives.2 p.1 (Sd hp).1
 have h2:=(Js m.ahead).2 p.2 (Sd hp).2
 have h3:=Uy p.1.kind
 simp only [Ai,Aq,B9]
 omega
theorem X5 {m:Mov} (h:OkMov m) (ha:m.ahead.length=m.give.length):(Fq (gvs m (Bv m.ahead).1)).length≤1100000000000:=by
 have h1:=X4 (AH0 h)
 have h2:=(Js m.ahead).1
 have h3:=zt (m:=m) (T:=(Bv m.ahead).1) (by omega)
 have h4:=h.gives2
 have:(gvs m (Bv m.ahead).1).length*(1060000+2)≤1000000*1060002:=It _ (by omega)
 omega
theorem j6 {m:Mov} (h:OkMov m):(Fq m.take).length≤1100000000000:=by
 have h1:=X4 h.names
 have:m.take.length*(1048576+2)≤1048576*1048578:=It _ h.takes
 omega
theorem j7 {m:Mov} (h:OkMov m):(Fq (Bv m.back).1).length≤4300000000:=by
 have h1:=X4 (Js m.back).2
 have h2:=(Js m.back).1
 have h3:=h.back.len
 have:(Bv m.back).1.length*(4000+2)≤1048576*4002:=It _ (by omega)
 omega
/-- Has a move no tree that has no text? -/
def Ds (m:Mov):Bool:=(Bv m.ahead).2==0&&(Bv m.back).2==0
/-- mig.text. -/
def K1 (m:Mov):Str×Int:=if Ds m then (mvS m,0) else ([],3)
/-- mig.Print. -/
def Kj (l:List Mov):Str×Int:=if !(ck l) then ([],1) else if !(l.all Ds) then ([],3) else if 4000<(l.flatMap mvS).length then ([],3) else (l.flatMap mvS,0)
theorem AKj {m:Mov} (h:Ds m=true):Bv m.ahead=(m.ahead.map As,0)∧Bv m.back=(m.back.map As,0):=by
 unfold Ds at h
 simp only [Ah,beq_iff_eq] at h
 rcases M3 m.ahead with ⟨h1,_⟩|⟨h1,_⟩
 ·exact absurd h.1 h1
 rcases M3 m.back with ⟨h2,_⟩|⟨h2,_⟩
 ·exact absurd h.2 h2
 exact ⟨h1,h2⟩
theorem Of {m:Mov} (h:Ds m=true):(L9 m).1=L8 m∧(Fq (Bv m.back).1)=Fq (m.back.map As):=by
 obtain ⟨h1,h2⟩:=AKj h
 unfold L9
 rw [h1,h2]
 exact ⟨rfl,rfl⟩
theorem AH1 {m:Mov} (h:((L9 m).2 != 0 || (Bv m.back).2 != 0)=true):Ds m=false:=by
 rw [Ry] at h
 unfold Ds
 simp only [Cz,bne_iff_ne,ne_eq] at h
 rw [sj]
 simp only [beq_eq_false_iff_ne,ne_eq]
 exact h
theorem ACx {m:Mov} (h:((L9 m).2 != 0 || (Bv m.back).2 != 0)=false):Ds m=true:=by
 rw [Ry] at h
 unfold Ds
 simpa using h
theorem wy {m:Mov} (h:OkMov m) (ha:m.ahead.length=m.give.length) (hk:Ds m=true):(L8 m).length≤1100000000000:=by
 have:=X5 h ha
 rw [←(Of hk).1,Ry]
 exact this
theorem wz {m:Mov} (h:OkMov m) (hk:Ds m=true):(Fq (m.back.map As)).length≤4300000000:=by
 have:=j7 h
 rw [←(Of hk).2]
 exact this
theorem Xz (k:Int):(B3 k).length≤10:=by
 unfold B3 migWords
 split
 ·decide
 rename_i h
 simp only [Cz,decide_eq_true_eq,not_or] at h
 have:k=1∨k=2∨k=3∨k=4∨k=5∨k=6:=by omega
 rcases this with rfl|rfl|rfl|rfl|rfl|rfl<;>decide
theorem zu {m:Mov} (h:OkMov m) (ha:m.ahead.length=m.give.length) (hk:Ds m=true):(mvS m).length≤3000000000000:=by
 have h1:=wy h ha hk
 have h2:=wz h hk
 have h3:=j6 h
 have h4:=Xz m.kind
 have h5:(m.give.getD 0 ⟨[],0⟩).name.length≤1048576:=by
  cases hg:m.give with
  | nil=>exact Al _
  | cons c r=>exact h.gives.2 c (by rw [hg];exact Ev)
 unfold mvS Th Qc Nr
 rw [Ai,Ai,Ai,Ai]
 simp only [Aq,B9]
 have:∀{b:Bool} {x y:Str} {n:Nat},x.length≤n→y.length≤n→(if b=true then x else y).length≤n:=by
  intro b x y n h1 h2
  split
  ·exact h1
  exact h2
 have key:(if m.kind==1 then L8 m else if m.kind==2 then Fq m.take++([32]++(backW++([32]++Fq (m.back.map As)))) else if m.kind==3 then Fq m.take++([32]++(toW++([32]++(m.give.getD 0 ⟨[],0⟩).name))) else if m.kind==6 then L8 m++([32]++(backW++([32]++Fq (m.back.map As)))) else Fq m.take++([32]++(intoW++([32]++(L8 m++([32]++(backW++([32]++Fq (m.back.map As))))))))).length≤2999999999000:=by
  have e1:backW.length=4:=rfl
  have e2:toW.length=2:=rfl
  have e3:intoW.length=4:=rfl
  refine this (by omega) (this ?_ (this ?_ (this ?_ ?_)))
  all_goals simp only [Ai,Aq,B9,e1,e2,e3];omega
 omega
theorem ACy {l:List Mov} (h:(!(ck l))=true):Kj l=([],1):=if_pos h
theorem x5 {l:List Mov} (h:(!(ck l))=false) {x:Nat} (hx:x<l.length) (hk:Ds l[x]=false):Kj l=([],3):=by
 unfold Kj
 rw [if_neg (by rw [h];simp),if_pos]
 rw [ju.2 ⟨_,D4 hx,by rw [hk];simp⟩]
 rfl
theorem x6 {l:List Mov} (h:(!(ck l))=false) (hk:∀(j:Nat) (y:Mov),l[j]? = some y→Ds y=true):Kj l=if 4000<(l.flatMap mvS).length then ([],3) else (l.flatMap mvS,0):=by
 have:l.all Ds=true:=Ay.2 fun y hy=>by
  obtain ⟨j,hj,rfl⟩:=Qy hy
  exact hk j _ (Ak hj)
 unfold Kj
 rw [if_neg (by rw [h];simp),if_neg (by rw [this];simp)]
theorem j8 {l:List Mov} {b:Nat}:∀{x:Nat},(∀(j:Nat) (y:Mov),j<x→l[j]? = some y→(mvS y).length≤b)→((l.take x).flatMap mvS).length≤x*b
 | 0,_=>by simp
 | x+1,h=>by
  have ih:=j8 (l:=l) (x:=x) fun j y hj=>h j y (by omega)
  by_cases hx:x<l.length
  ·have h1:=h x l[x] (by omega) (Ak hx)
   rw [Ld hx,t7,Ai,Yr]
   simp only [Ia,List.flatMap_nil,Ep]
   omega
  rw [Fw (by omega)] at ih ⊢
  rw [Yr]
  omega
theorem ACz {l:List Mov} {x:Nat} (h:x<l.length):(l.take (x+1)).flatMap mvS=(l.take x).flatMap mvS++mvS l[x]:=by
 rw [Ld h,t7]
 simp
theorem AQz (l:List Str) (hn:l.length≤140737488355328) (hl:(Fq l).length≤140737488355328) (Hp:List AObj):AFun Tryz.prog 63 [Jw l,Ac [44,32]] Hp (Ac (Fq l)):=by
 have:=c63 l [44,32] hn (by rw [me];exact hl) Hp
 rw [me] at this
 exact this
theorem AT7 (bs:Str) (o:Nat) (Hp:List AObj) (ho:Hp[o]? = some (qw bs)):AFun Tryz.prog 32 [.ptr o 0] Hp (A7 bs.length):=
 AFun.bldLen ho (fun b p v w h=>bldLen Tryz.lays170 (T:=74) (e:=5) b p v _ _ w h)
theorem ANs {m:Mov} (hk:Ds m=true) (h:(m.kind==1)=true):K1 m=(((B3 m.kind++[32])++(L9 m).1)++[59,10],0):=by
 unfold K1 mvS Th
 rw [if_pos hk,if_pos h,(Of hk).1]
 simp
theorem ANt {m:Mov} (hk:Ds m=true) (h1:(m.kind==1)=false) (h:(m.kind==2)=true):K1 m=(((B3 m.kind++[32])++(Fq m.take++([32,98,97,99,107,32]++Fq (Bv m.back).1)))++[59,10],0):=by
 unfold K1 mvS Th Qc Nr backW
 rw [if_pos hk,h1,if_neg (by simp),if_pos h,(Of hk).2]
 simp
theorem ANu {m:Mov} {y:Col} (hk:Ds m=true) (h1:(m.kind==1)=false) (h2:(m.kind==2)=false) (h:(m.kind==3)=true) (hy:m.give=[y]):K1 m=(((B3 m.kind++[32])++((Fq m.take++[32,116,111,32])++y.name))++[59,10],0):=by
 unfold K1 mvS Th Qc toW
 rw [if_pos hk,h1,if_neg (by simp),h2,if_neg (by simp),if_pos h,hy]
 simp
theorem ANv {m:Mov} (hk:Ds m=true) (h1:(m.kind==1)=false) (h2:(m.kind==2)=false) (h3:(m.kind==3)=false) (h:(m.kind==6)=true):K1 m=(((B3 m.kind++[32])++((L9 m).1++([32,98,97,99,107,32]++Fq (Bv m.back).1)))++[59,10],0):=by
 unfold K1 mvS Th Qc Nr backW
 rw [if_pos hk,h1,if_neg (by simp),h2,if_neg (by simp),h3,if_neg (by simp),if_pos h,(Of hk).1,(Of hk).2]
 simp
theorem ANw {m:Mov} (hk:Ds m=true) (h1:(m.kind==1)=false) (h2:(m.kind==2)=false) (h3:(m.kind==3)=false) (h:(m.kind==6)=false):K1 m=(((B3 m.kind++[32])++(((Fq m.take++[32,105,110,116,111,32])++(L9 m).1)++([32,98,97,99,107,32]++Fq (Bv m.back).1)))++[59,10],0):=by
 unfold K1 mvS Th Qc Nr backW intoW
 rw [if_pos hk,h1,if_neg (by simp),h2,if_neg (by simp),h3,if_neg (by simp),h,if_neg (by simp),(Of hk).1,(Of hk).2]
 simp
theorem AH2 {m:Mov} (h:((L9 m).2 != 0 || (Bv m.back).2 != 0)=true):K1 m=([],3):=by
 unfold K1
 rw [AH1 h]
 rfl
theorem ra {n:Nat} {m:Mov}:Low n (.ro (Yb m)):=.ro _ mc
/-! The reference's parser of moves: the first fault stays. -/
structure XS where
 i:Nat
 code:Int
 at_:Int
abbrev ok8 (i:Nat):XS:=⟨i,0,0⟩
def E4 (L:List Tok) (e:Int) (S:XS):XS:=if S.code==0 then ⟨S.i,e,((A4 L S.i).at_:Int)⟩ else S
def Ha (S:XS):XS:=⟨S.i+1,S.code,S.at_⟩
def Hn (L:List Tok) (s:Str) (S:XS):XS:=if !isP L s S.i then E4 L 8 S else S
def Bf (L:List Tok) (s:Str) (S:XS):XS:=if (Hn L s S).code==0 then Ha (Hn L s S) else Hn L s S
def H5 (L:List Tok) (S:XS):XS:=if (A4 L S.i).kind != 1 then E4 L 8 S else S
def Az (L:List Tok) (S:XS):Str×XS:=if (H5 L S).code != 0 then ([],H5 L S) else ((A4 L S.i).text,Ha (H5 L S))
def Df (L:List Tok) (S:XS):Expr×XS:=if S.code != 0 then (Ax,S) else if (atM L S.i).2.2.1 != 0 then (Ax,⟨S.i,(atM L S.i).2.2.1,(atM L S.i).2.2.2⟩) else ((atM L S.i).1,⟨(atM L S.i).2.1.toNat,S.code,S.at_⟩)
def E7 (nm:Int→Str) (t:Tok):Nat→Int
 | 0=>0
 | n+1=>if (t.kind==2)&&(t.text==nm ((n+1:Nat):Int)) then ((n+1:Nat):Int) else E7 nm t n
def Kt (L:List Tok) (S:XS):Int:=E7 Av (A4 L S.i) 3
def I1 (L:List Tok) (S:XS):XS:=if Kt L S==0 then E4 L 8 S else S
def I2 (L:List Tok) (S:XS):XS:=if (I1 L S).code==0 then Ha (I1 L S) else I1 L S
def dh (L:List Tok) (S:XS):Expr×XS:=Df L (Bf L [61] (I2 L S))
def Ec (L:List Tok) (m:Mov) (S:XS):Mov×XS:=(Ml (Ek m ⟨(Az L S).1,Kt L (Az L S).2⟩) (dh L (Az L S).2).1,(dh L (Az L S).2).2)
def Fu (L:List Tok) (k:Nat) (S:XS):XS:=if decide ((0:Int)<(k:Int))=true then Bf L [44] S else S
def J1 (L:List Tok):Nat→Nat→Mov→XS→Mov×XS
 | 0,_,m,S=>(m,S)
 | n+1,k,m,S=>J1 L n (k+1) (M0 m (Df L (Fu L k S)).1) (Df L (Fu L k S)).2
def G9 (L:List Tok) (m:Mov) (S:XS):Mov×XS:=J1 L m.take.length 0 m (Bf L backW S)
def Ql (L:List Tok) (k:Nat) (S:XS):Bool:=(S.code==0)&&(decide ((k:Int)<2) || isP L [44] S.i)
def Og (L:List Tok) (one:Mov→XS→Mov×XS):Nat→Nat→Mov→XS→Mov×XS
 | 0,_,m,S=>(m,S)
 | f+1,k,m,S=>if Ql L k S then Og L one f (k+1) (one m (Bf L [44] S)).1 (one m (Bf L [44] S)).2 else (m,S)
def Nu (L:List Tok) (m:Mov) (S:XS):Mov×XS:=(Tg m (Az L S).1,(Az L S).2)
def Oy (L:List Tok) (one:Mov→XS→Mov×XS) (m:Mov) (S:XS):Mov×XS:=Og L one (L.length+1) 1 (one m S).1 (one m S).2
def Mm (L:List Tok) (m:Mov) (S:XS):Mov×XS:=
 if m.kind==1 then Ec L m S
 else if m.kind==2 then G9 L (takeS m (Az L S).1) (Az L S).2
 else if m.kind==3 then (⟨m.kind,[(Az L S).1],[⟨(Az L (Bf L toW (Az L S).2)).1,0⟩],[Bj (Az L S).1],[Bj (Az L (Bf L toW (Az L S).2)).1]⟩,(Az L (Bf L toW (Az L S).2)).2)
 else if m.kind==4 then G9 L (Oy L (Ec L) (takeS m (Az L S).1) (Bf L intoW (Az L S).2)).1 (Oy L (Ec L) (takeS m (Az L S).1) (Bf L intoW (Az L S).2)).2
 else if m.kind==5 then G9 L (Ec L (Oy L (Nu L) m S).1 (Bf L intoW (Oy L (Nu L) m S).2)).1 (Ec L (Oy L (Nu L) m S).1 (Bf L intoW (Oy L (Nu L) m S).2)).2
 else if m.kind==6 then G9 L (takeS (Ec L m S).1 ((Ec L m S).1.give.getD 0 ⟨[],0⟩).name) (Ec L m S).2
 else (m,S)
def Mn (L:List Tok) (S:XS):Int:=E7 B3 (A4 L S.i) 6
def Ku (L:List Tok) (S:XS):Mov×XS:=
 if Mn L S==0 then (⟨0,[],[],[],[]⟩,E4 L 8 S)
 else ((Mm L ⟨Mn L S,[],[],[],[]⟩ (Ha S)).1,Bf L [59] (Mm L ⟨Mn L S,[],[],[],[]⟩ (Ha S)).2)
def go8 (L:List Tok) (S:XS):Bool:=((A4 L S.i).kind != 0)&&(S.code==0)
def Iq (L:List Tok):Nat→List Mov→XS→List Mov×XS
 | 0,l,S=>(l,S)
 | f+1,l,S=>if go8 L S then (if (l.length:Int)==8 then Iq L f l (E4 L 3 S) else Iq L f (l++[(Ku L S).1]) (Ku L S).2) else (l,S)
def Oz (s:Str):List Mov×Int×Int:=
 if (C4 s).2.1 != 0 then ([],(C4 s).2.1,(C4 s).2.2)
 else if (Iq (C4 s).1 10 [] (ok8 0)).2.code != 0 then ([],(Iq (C4 s).1 10 [] (ok8 0)).2.code,(Iq (C4 s).1 10 [] (ok8 0)).2.at_)
 else ((Iq (C4 s).1 10 [] (ok8 0)).1,0,0)
/-! What is bad stays. -/
theorem nf {b:Bool} (h:b=false):¬b=true:=by rw [h];simp
theorem X6 {L:List Tok} {e:Int} {S:XS} (h:S.code≠0):E4 L e S=S:=if_neg (by simpa using h)
theorem K2 {L:List Tok} {s:Str} {S:XS} (h:S.code≠0):Bf L s S=S:=by
 have e:Hn L s S=S:=by unfold Hn;split;exact X6 h;rfl
 unfold Bf;rw [e];exact if_neg (by simpa using h)
theorem Sz {L:List Tok} {S:XS} (h:S.code≠0):Az L S=([],S):=by
 have e:H5 L S=S:=by unfold H5;split;exact X6 h;rfl
 unfold Az;rw [e];exact if_pos (by simpa using h)
theorem Pc {L:List Tok} {S:XS} (h:S.code≠0):Df L S=(Ax,S):=if_pos (by simpa using h)
theorem di {L:List Tok} {S:XS} (h:S.code≠0):I2 L S=S:=by
 have e:I1 L S=S:=by unfold I1;split;exact X6 h;rfl
 unfold I2;rw [e];exact if_neg (by simpa using h)
theorem x7 {L:List Tok} {S:XS} (h:S.code≠0):(dh L S).2=S:=by unfold dh;rw [di h,K2 h,Pc h]
theorem N0 {L:List Tok} {m:Mov} {S:XS} (h:S.code≠0):(Ec L m S).2=S:=by
 show (dh L (Az L S).2).2=S
 rw [Sz h];exact x7 h
theorem x8 {L:List Tok} {k:Nat} {S:XS} (h:S.code≠0):Fu L k S=S:=by unfold Fu;split;exact K2 h;rfl
theorem La {L:List Tok}:∀(n k:Nat) (m:Mov) {S:XS},S.code≠0→(J1 L n k m S).2=S
 | 0,_,_,_,_=>rfl
 | n+1,k,m,S,h=>by rw [J1,x8 h,Pc h];exact La n (k+1) _ h
theorem K3 {L:List Tok} {m:Mov} {S:XS} (h:S.code≠0):(G9 L m S).2=S:=by unfold G9;rw [K2 h];exact La _ _ _ h
theorem T0 {L:List Tok} {one:Mov→XS→Mov×XS} (f k:Nat) (m:Mov) {S:XS} (h:S.code≠0):Og L one f k m S=(m,S):=by
 cases f with
 | zero=>rfl
 | succ f=>exact if_neg (by unfold Ql;rw [show (S.code==0)=false by simpa using h];simp)
theorem rb {L:List Tok} {one:Mov→XS→Mov×XS} (ho:∀m S,S.code≠0→(one m S).2=S) {m:Mov} {S:XS} (h:S.code≠0):(Oy L one m S).2=S:=by
 unfold Oy;rw [T0 _ _ _ (by rw [ho m S h];exact h)];exact ho m S h
/-! It is the parser's answer. -/
def Kk {α:Type} (x:PR α) (y:α×XS):Prop:=match x with
 | .ok a j=>y=(a,ok8 j)
 | .bad e a=>y.2.code=e∧y.2.at_=a∧e≠0
theorem Cf {α β:Type} {x:PR α} {y:α×XS} {f:α→Nat→PR β} {z:β×XS} (g:α×XS→β×XS) (hx:Kk x y) (hb:y.2.code≠0→(g y).2=y.2) (hf:∀a j,x=.ok a j→Kk (f a j) (g (a,ok8 j))) (hz:z=g y:=by rfl):Kk (x.bind f) z:=by
 rw [hz]
 cases x with
 | ok a j=>rw [show y=(a,ok8 j) from hx];exact hf a j rfl
 | bad e a =>
  obtain ⟨h1,h2,h3⟩:=hx
  have:=hb (by rw [h1];exact h3)
  exact ⟨by rw [this];exact h1,by rw [this];exact h2,h3⟩
theorem Rz {α:Type} {L:List Tok} {i:Nat} {e:Int} (he:e≠0) {y:α×XS} (h:y.2=E4 L e (ok8 i)):Kk (cl L i e) y:=by
 have h2:E4 L e (ok8 i)=⟨i,e,((A4 L i).at_:Int)⟩:=if_pos rfl
 rw [h2] at h
 exact ⟨by rw [h],by rw [h],he⟩
theorem K4 (L:List Tok) (s:Str) (i:Nat):Kk (Cm L s i) ((),Bf L s (ok8 i)):=by
 unfold Cm
 cases h:isP L s i with
 | true =>
  have e:Hn L s (ok8 i)=ok8 i:=if_neg (by rw [h];simp)
  have:Bf L s (ok8 i)=ok8 (i+1):=by unfold Bf;rw [e];rfl
  rw [if_pos rfl,this];rfl
 | false =>
  have e:Hn L s (ok8 i)=E4 L 8 (ok8 i):=if_pos (by rw [h];rfl)
  have:Bf L s (ok8 i)=E4 L 8 (ok8 i):=by unfold Bf;rw [e];rfl
  rw [if_neg (by simp)]
  exact Rz (by decide) this
theorem N1 (L:List Tok) (i:Nat):Kk (Fh L i) (Az L (ok8 i)):=by
 unfold Fh
 cases h:((A4 L i).kind != 1) with
 | true =>
  have e:H5 L (ok8 i)=E4 L 8 (ok8 i):=if_pos h
  have:Az L (ok8 i)=([],E4 L 8 (ok8 i)):=by unfold Az;rw [e];rfl
  rw [if_pos rfl]
  exact Rz (by decide) (by rw [this])
 | false =>
  have e:H5 L (ok8 i)=ok8 i:=if_neg (by rw [h];simp)
  have:Az L (ok8 i)=((A4 L i).text,ok8 (i+1)):=by unfold Az;rw [e];rfl
  rw [if_neg (by simp),this];rfl
theorem X7 (L:List Tok) (i:Nat):Kk (K0 L i) (Df L (ok8 i)):=by
 unfold K0
 cases h:((atM L i).2.2.1 != 0) with
 | true =>
  have:Df L (ok8 i)=(Ax,⟨i,(atM L i).2.2.1,(atM L i).2.2.2⟩):=by
   unfold Df;rw [if_neg (by simp)];exact if_pos h
  rw [if_pos rfl,this]
  exact ⟨rfl,rfl,by simpa using h⟩
 | false =>
  have:Df L (ok8 i)=((atM L i).1,ok8 (atM L i).2.1.toNat):=by
   unfold Df;rw [if_neg (by simp)];exact if_neg (by rw [h];simp)
  rw [if_neg (by simp),this];rfl
theorem dj (t:Tok):E7 Av t 3=if t.kind==2 then Kd t.text else 0:=by
 cases hk:(t.kind==2) with
 | false=>simp [E7,hk]
 | true =>
  by_cases h1:t.text=Av 1
  ·simp only [E7,hk,h1,D0];rfl
  by_cases h2:t.text=Av 2
  ·simp only [E7,hk,h2,D0];rfl
  by_cases h3:t.text=Av 3
  ·simp only [E7,hk,h3,D0];rfl
  have f:∀k,t.text≠Av k→(t.text==Av k)=false∧(Av k==t.text)=false:=fun k h=>⟨beq_false_of_ne h,beq_false_of_ne (Ne.symm h)⟩
  have E:E7 Av t 3=(if ((t.kind==2)&&(t.text==Av 3))=true then (3:Int) else if ((t.kind==2)&&(t.text==Av 2))=true then (2:Int) else if ((t.kind==2)&&(t.text==Av 1))=true then (1:Int) else 0):=rfl
  rw [E,hk]
  unfold Kd
  simp only [D0,(f 1 h1).1,(f 2 h2).1,(f 3 h3).1,(f 1 h1).2,(f 2 h2).2,(f 3 h3).2]
  rfl
theorem Ua (t:Tok):E7 B3 t 6=if t.kind==2 then E9 t.text else 0:=by
 cases hk:(t.kind==2) with
 | false=>simp [E7,hk]
 | true =>
  by_cases h1:t.text=B3 1
  ·simp only [E7,hk,h1,D0];rfl
  by_cases h2:t.text=B3 2
  ·simp only [E7,hk,h2,D0];rfl
  by_cases h3:t.text=B3 3
  ·simp only [E7,hk,h3,D0];rfl
  by_cases h4:t.text=B3 4
  ·simp only [E7,hk,h4,D0];rfl
  by_cases h5:t.text=B3 5
  ·simp only [E7,hk,h5,D0];rfl
  by_cases h6:t.text=B3 6
  ·simp only [E7,hk,h6,D0];rfl
  have f:∀k,t.text≠B3 k→(t.text==B3 k)=false∧(B3 k==t.text)=false:=fun k h=>⟨beq_false_of_ne h,beq_false_of_ne (Ne.symm h)⟩
  have E:E7 B3 t 6=(if ((t.kind==2)&&(t.text==B3 6))=true then (6:Int) else if ((t.kind==2)&&(t.text==B3 5))=true then (5:Int) else if ((t.kind==2)&&(t.text==B3 4))=true then (4:Int) else if ((t.kind==2)&&(t.text==B3 3))=true then (3:Int) else if ((t.kind==2)&&(t.text==B3 2))=true then (2:Int) else if ((t.kind==2)&&(t.text==B3 1))=true then (1:Int) else 0):=rfl
  rw [E,hk]
  unfold E9
  simp only [D0,(f 1 h1).1,(f 2 h2).1,(f 3 h3).1,(f 4 h4).1,(f 5 h5).1,(f 6 h6).1,(f 1 h1).2,(f 2 h2).2,(f 3 h3).2,(f 4 h4).2,(f 5 h5).2,(f 6 h6).2]
  rfl
theorem AD0 (L:List Tok) (nm:Str) (i:Nat):Kk (Tf L nm i) (⟨nm,Kt L (ok8 i)⟩,I2 L (ok8 i)):=by
 have hK:Kt L (ok8 i)=if (A4 L i).kind==2 then Kd (A4 L i).text else 0:=dj _
 unfold Tf
 cases h:(((A4 L i).kind != 2) || (Kd (A4 L i).text==0)) with
 | true =>
  have hz:(Kt L (ok8 i)==0)=true:=by
   rw [hK]
   cases h2:((A4 L i).kind==2) with
   | false=>rfl
   | true =>
    have:((A4 L i).kind != 2)=false:=by simp only [bne,h2];rfl
    rw [this,Gy] at h
    rw [if_pos rfl];exact h
  have e:I1 L (ok8 i)=E4 L 8 (ok8 i):=if_pos hz
  have:I2 L (ok8 i)=E4 L 8 (ok8 i):=by unfold I2;rw [e];rfl
  rw [if_pos rfl]
  exact Rz (by decide) this
 | false =>
  rw [Hb] at h
  have h2:((A4 L i).kind==2)=true:=by have:=h.1;simpa [bne] using this
  have hK2:Kt L (ok8 i)=Kd (A4 L i).text:=by rw [hK,if_pos h2]
  have e:I1 L (ok8 i)=ok8 i:=if_neg (by rw [hK2,h.2];simp)
  have:I2 L (ok8 i)=ok8 (i+1):=by unfold I2;rw [e];rfl
  rw [if_neg (by simp),this,hK2];rfl
theorem T3 (L:List Tok) (m:Mov) (i:Nat):Kk (Eb L m i) (Ec L m (ok8 i)):=by
 have hc:Kk (Jd L i) (⟨(Az L (ok8 i)).1,Kt L (Az L (ok8 i)).2⟩,I2 L (Az L (ok8 i)).2):=
  Cf (fun y:Str×XS=>((⟨y.1,Kt L y.2⟩:Col),I2 L y.2)) (N1 L i) (fun h=>di h) fun a j _=>AD0 L a j
 exact Cf (fun y:Col×XS=>(Ml (Ek m y.1) (Df L (Bf L [61] y.2)).1,(Df L (Bf L [61] y.2)).2)) hc
  (fun h=>by show (Df L (Bf L [61] _)).2=_;rw [K2 h,Pc h]) fun c j _ =>
  Cf (fun y:Unit×XS=>(Ml (Ek m c) (Df L y.2).1,(Df L y.2).2)) (K4 L [61] j)
   (fun h=>by show (Df L _).2=_;rw [Pc h]) fun _ j _ =>
   Cf (fun y:Expr×XS=>(Ml (Ek m c) y.1,y.2)) (X7 L j) (fun _=>rfl) fun x j _=>rfl
theorem j9 {L:List Tok} (hl:TokEnd L) (hll:L.length≤500000) (n:Nat) (hn:n≠0):∀(f k:Nat) (m:Mov) (i:Nat),L.length<f+i→i<L.length→0<k→k≤n →
  Kk (Ip L (n:Int) (Nm L) f k m i) (J1 L (n-k) k m (ok8 i))
 | 0,k,m,i,h1,h2,_,_=>absurd h1 (by omega)
 | f+1,k,m,i,h1,h2,h3,h4=>by
  have hm:Kr L (n:Int) k i=decide (k<n):=by
   unfold Kr
   rw [show (((n:Nat):Int)==0)=false by simpa using hn,N4,Oj]
   exact decide_eq_decide.2 (by omega)
  by_cases hk:k<n
  ·rw [Ip,if_pos (by rw [hm];exact decide_eq_true hk)]
   obtain ⟨d,hd⟩:∃d,n-k=d+1:=⟨n-k-1,by omega⟩
   have hd':d=n-(k+1):=by omega
   have hc:∀S,Fu L k S=Bf L [44] S:=fun S=>if_pos (decide_eq_true (by omega))
   rw [hd,J1,hc,hd']
   refine Cf (fun y:Unit×XS=>J1 L (n-(k+1)) (k+1) (M0 m (Df L y.2).1) (Df L y.2).2) (K4 L [44] i)
    (fun h=>by show (J1 L _ _ _ (Df L _).2).2=_;rw [Pc h];exact La _ _ _ h) fun u j hj=>?_
   have a1:=El hl h2 _ _ hj
   have e1:=Jq hj
   have hb1:Kk (Nm L m j) (M0 m (Df L (ok8 j)).1,(Df L (ok8 j)).2):=
    Cf (fun y:Expr×XS=>(M0 m y.1,y.2)) (X7 L j) (fun _=>rfl) fun x j _=>rfl
   refine Cf (fun y:Mov×XS=>J1 L (n-(k+1)) (k+1) y.1 y.2) hb1 (fun h=>La _ _ _ h) fun m2 j2 hj2=>?_
   obtain ⟨x,j3,g1,g2⟩:=Cc hj2
   injection g2 with g2 g3
   have a2:=Li hl hll a1.2 g1
   subst g3
   exact j9 hl hll n hn f (k+1) m2 j3 (by omega) a2.2 (by omega) (by omega)
  rw [Ip,if_neg (by rw [hm,decide_eq_false hk];simp),show n-k=0 by omega];rfl
theorem Vt {L:List Tok} (hl:TokEnd L) (hll:L.length≤500000) {m:Mov} {i:Nat} (hm:m.take≠[]) (hi:i<L.length):Kk (Fc L m i) (G9 L m (ok8 i)):=by
 have hn:m.take.length≠0:=fun h=>hm (List.length_eq_zero_iff.1 h)
 refine Cf (fun y:Unit×XS=>J1 L m.take.length 0 m y.2) (K4 L backW i) (fun h=>La _ _ _ h) fun u j hj=>?_
 have a1:=El hl hi _ _ hj
 obtain ⟨d,hd⟩:∃d,m.take.length=d+1:=⟨m.take.length-1,by omega⟩
 have hb1:Kk (Nm L m j) (M0 m (Df L (ok8 j)).1,(Df L (ok8 j)).2):=
  Cf (fun y:Expr×XS=>(M0 m y.1,y.2)) (X7 L j) (fun _=>rfl) fun x j _=>rfl
 show Kk ((Nm L m j).bind _) (J1 L m.take.length 0 m (ok8 j))
 rw [hd,J1,show Fu L 0 (ok8 j)=ok8 j from if_neg (by simp)]
 refine Cf (fun y:Mov×XS=>J1 L d (0+1) y.1 y.2) hb1 (fun h=>La _ _ _ h) fun m2 j2 hj2=>?_
 obtain ⟨x,j3,g1,g2⟩:=Cc hj2
 injection g2 with g2 g3
 have a2:=Li hl hll a1.2 g1
 subst g3
 have:=j9 hl hll (d+1) (by omega) (L.length+1) 1 m2 j3 (by omega) a2.2 (by omega) (by omega)
 exact this
theorem ja {L:List Tok} {one:Mov→Nat→PR Mov} {one8:Mov→XS→Mov×XS} (h1:∀m i,Kk (one m i) (one8 m (ok8 i))) (h2:∀m S,S.code≠0→(one8 m S).2=S):∀(f k:Nat) (m:Mov) (i:Nat),Kk (Ip L 0 one f k m i) (Og L one8 f k m (ok8 i))
 | 0,k,m,i=>rfl
 | f+1,k,m,i=>by
  have hm:Ql L k (ok8 i)=Kr L 0 k i:=by
   unfold Ql Kr
   rw [decide_eq_false (show ¬((k:Int)<0) by omega),Gy]
  rw [Ip,Og,hm]
  split
  ·exact Cf (fun y:Unit×XS=>Og L one8 f (k+1) (one8 m y.2).1 (one8 m y.2).2) (K4 L [44] i)
    (fun h=>by show (Og L one8 _ _ _ _).2=_;rw [T0 _ _ _ (by rw [h2 m _ h];exact h)];exact h2 m _ h) fun u j _ =>
    Cf (fun y:Mov×XS=>Og L one8 f (k+1) y.1 y.2) (h1 m j) (fun h=>by rw [T0 _ _ _ h]) fun m2 j2 _=>ja h1 h2 f (k+1) m2 j2
  rfl
theorem zv {L:List Tok} {one:Mov→Nat→PR Mov} {one8:Mov→XS→Mov×XS} (h1:∀m i,Kk (one m i) (one8 m (ok8 i))) (h2:∀m S,S.code≠0→(one8 m S).2=S) (m:Mov) (i:Nat):Kk (Gq L 0 one m i) (Oy L one8 m (ok8 i)):=
 Cf (fun y:Mov×XS=>Og L one8 (L.length+1) 1 y.1 y.2) (h1 m i) (fun h=>by rw [T0 _ _ _ h]) fun m2 j _=>ja h1 h2 (L.length+1) 1 m2 j
theorem AH3 (L:List Tok) (m:Mov) (i:Nat):Kk (Nn L m i) (Nu L m (ok8 i)):=
 Cf (fun y:Str×XS=>(Tg m y.1,y.2)) (N1 L i) (fun _=>rfl) fun s j _=>rfl
theorem jb {L:List Tok} {m:Mov} {S:XS} (h:S.code≠0):(Nu L m S).2=S:=by show (Az L S).2=S;rw [Sz h]
theorem X8 {L:List Tok} {m m2:Mov} {i j:Nat} (h:Eb L m i=.ok m2 j):m2.take=m.take∧m2.kind=m.kind:=by
 obtain ⟨c,j1,_,h2⟩:=Cc h
 obtain ⟨u,j2,_,h4⟩:=Cc h2
 obtain ⟨x,j3,_,h6⟩:=Cc h4
 injection h6 with h6 _
 subst h6;exact ⟨rfl,rfl⟩
theorem zw {L:List Tok} {m m2:Mov} {i j:Nat} (h:Nn L m i=.ok m2 j):m2.take≠[]:=by
 obtain ⟨s,j1,_,h2⟩:=Cc h
 injection h2 with h2 _
 subst h2;show m.take++[s]≠[];simp
theorem Ub {L:List Tok} {one:Mov→Nat→PR Mov} (hP:∀m i m2 j,m.take≠[]→one m i=.ok m2 j→m2.take≠[]):∀(f k:Nat) (m:Mov) (i:Nat) (m2:Mov) (j:Nat),m.take≠[]→Ip L 0 one f k m i=.ok m2 j→m2.take≠[]
 | 0,k,m,i,m2,j,h0,h=>by injection h with h _;subst h;exact h0
 | f+1,k,m,i,m2,j,h0,h=>by
  rw [Ip] at h
  split at h
  ·obtain ⟨u,j1,_,h2⟩:=Cc h
   obtain ⟨m3,j2,h3,h4⟩:=Cc h2
   exact Ub hP f (k+1) m3 j2 m2 j (hP _ _ _ _ h0 h3) h4
  injection h with h _;subst h;exact h0
theorem AT8 {k:Int} {s:Str} {x:PR Str} {Y:Str×XS} (hx:Kk x Y):Kk (x.bind fun t j=>.ok (⟨k,[s],[⟨t,0⟩],[Bj s],[Bj t]⟩:Mov) j) ((⟨k,[s],[⟨Y.1,0⟩],[Bj s],[Bj Y.1]⟩:Mov),Y.2):=
 Cf (fun y:Str×XS=>((⟨k,[s],[⟨y.1,0⟩],[Bj s],[Bj y.1]⟩:Mov),y.2)) hx (fun _=>rfl) fun t j _=>rfl
theorem AT9 {L:List Tok} {k:Int} {s:Str} {x:PR Unit} {S:XS} (hx:Kk x ((),S)):Kk (x.bind fun _ j=>(Fh L j).bind fun t j=>.ok (⟨k,[s],[⟨t,0⟩],[Bj s],[Bj t]⟩:Mov) j) ((⟨k,[s],[⟨(Az L S).1,0⟩],[Bj s],[Bj (Az L S).1]⟩:Mov),(Az L S).2):=
 Cf (y:=((),S)) (fun y:Unit×XS=>((⟨k,[s],[⟨(Az L y.2).1,0⟩],[Bj s],[Bj (Az L y.2).1]⟩:Mov),(Az L y.2).2)) hx (fun h=>by have h:S.code≠0:=h;show (Az L S).2=S;rw [Sz h]) fun _ j _=>AT8 (N1 L j)
theorem ATa {L:List Tok} {k:Int} {x:PR Str} {Y:Str×XS} (hx:Kk x Y):Kk (x.bind fun s j=>(Cm L toW j).bind fun _ j=>(Fh L j).bind fun t j=>.ok (⟨k,[s],[⟨t,0⟩],[Bj s],[Bj t]⟩:Mov) j) ((⟨k,[Y.1],[⟨(Az L (Bf L toW Y.2)).1,0⟩],[Bj Y.1],[Bj (Az L (Bf L toW Y.2)).1]⟩:Mov),(Az L (Bf L toW Y.2)).2):=
 Cf (fun y:Str×XS=>((⟨k,[y.1],[⟨(Az L (Bf L toW y.2)).1,0⟩],[Bj y.1],[Bj (Az L (Bf L toW y.2)).1]⟩:Mov),(Az L (Bf L toW y.2)).2)) hx (fun h=>by show (Az L (Bf L toW Y.2)).2=Y.2;rw [K2 h,Sz h]) fun s j _=>AT9 (K4 L toW j)
theorem AH4 {L:List Tok} (hl:TokEnd L) (hll:L.length≤500000) {k:Int} {i:Nat} (h0:0<i) (hi:i<L.length):Kk (I8 L ⟨k,[],[],[],[]⟩ i) (Mm L ⟨k,[],[],[],[]⟩ (ok8 i)):=by
 have hm:MvLe ⟨k,[],[],[],[]⟩ (2*i-1):=⟨Al _,Al _,Al _,Al _⟩
 unfold I8 Mm
 split
 ·exact T3 L _ i
 split
 ·refine Cf (fun y:Str×XS=>G9 L (takeS ⟨k,[],[],[],[]⟩ y.1) y.2) (N1 L i) (fun h=>K3 h) fun s j hj=>?_
  exact Vt hl hll (by show [s]≠[];simp) (Gx hl hi _ _ hj).2
 split
 ·exact ATa (N1 L i)
 split
 ·refine Cf (fun y:Str×XS=>G9 L (Oy L (Ec L) (takeS ⟨k,[],[],[],[]⟩ y.1) (Bf L intoW y.2)).1 (Oy L (Ec L) (takeS ⟨k,[],[],[],[]⟩ y.1) (Bf L intoW y.2)).2) (N1 L i)
   (fun h=>by
    have e:(Oy L (Ec L) (takeS ⟨k,[],[],[],[]⟩ (Az L (ok8 i)).1) (Bf L intoW (Az L (ok8 i)).2)).2=(Az L (ok8 i)).2:=by rw [K2 h];exact rb (fun m S h=>N0 h) h
    show (G9 L _ (Oy L (Ec L) (takeS ⟨k,[],[],[],[]⟩ (Az L (ok8 i)).1) (Bf L intoW (Az L (ok8 i)).2)).2).2=_
    rw [e];exact K3 h) fun s j hj=>?_
  have a1:=Gx hl hi _ _ hj
  refine Cf (fun y:Unit×XS=>G9 L (Oy L (Ec L) (takeS ⟨k,[],[],[],[]⟩ s) y.2).1 (Oy L (Ec L) (takeS ⟨k,[],[],[],[]⟩ s) y.2).2) (K4 L intoW j)
   (fun h=>by
    have e:∀S:XS,S.code≠0→(Oy L (Ec L) (takeS ⟨k,[],[],[],[]⟩ s) S).2=S:=fun S h=>rb (fun m S h=>N0 h) h
    show (G9 L _ (Oy L (Ec L) (takeS ⟨k,[],[],[],[]⟩ s) (Bf L intoW (ok8 j))).2).2=_
    rw [e _ h];exact K3 h) fun u j2 hj2=>?_
  have a2:=El hl a1.2 _ _ hj2
  refine Cf (fun y:Mov×XS=>G9 L y.1 y.2) (zv (fun m i=>T3 L m i) (fun m S h=>N0 h) _ j2) (fun h=>K3 h) fun m1 j3 hj3=>?_
  obtain ⟨b1,b2,b3⟩:=Q6 hl (Je hl hll) (takeS ⟨k,[],[],[],[]⟩ s) j2 ((hm.mono (by omega:2*i-1≤2*j2-1)).takeS (by omega)) (by omega) a2.2 _ _ hj3
  refine Vt hl hll ?_ b2
  obtain ⟨m3,j4,g1,g2⟩:=Cc hj3
  refine Ub (fun m i m2 j h e=>by rw [(X8 e).1];exact h) _ _ _ _ _ _ ?_ g2
  rw [(X8 g1).1];show [s]≠[];simp
 split
 ·refine Cf (fun y:Mov×XS=>G9 L (Ec L y.1 (Bf L intoW y.2)).1 (Ec L y.1 (Bf L intoW y.2)).2) (zv (fun m i=>AH3 L m i) (fun m S h=>jb h) _ i)
   (fun h=>by
    show (G9 L _ (Ec L (Oy L (Nu L) ⟨k,[],[],[],[]⟩ (ok8 i)).1 (Bf L intoW (Oy L (Nu L) ⟨k,[],[],[],[]⟩ (ok8 i)).2)).2).2=_
    rw [K2 h,N0 h];exact K3 h) fun m1 j hj=>?_
  obtain ⟨b1,b2,b3⟩:=Q6 hl (Rq hl) ⟨k,[],[],[],[]⟩ i hm h0 hi _ _ hj
  have ht:m1.take≠[]:=by
   obtain ⟨m3,j4,g1,g2⟩:=Cc hj
   exact Ub (fun m i m2 j h e=>zw e) _ _ _ _ _ _ (zw g1) g2
  refine Cf (fun y:Unit×XS=>G9 L (Ec L m1 y.2).1 (Ec L m1 y.2).2) (K4 L intoW j)
   (fun h=>by
    show (G9 L _ (Ec L m1 (Bf L intoW (ok8 j))).2).2=_
    rw [N0 h];exact K3 h) fun u j2 hj2=>?_
  have e:=Jq hj2
  have a2:=El hl b2 _ _ hj2
  refine Cf (fun y:Mov×XS=>G9 L y.1 y.2) (T3 L m1 j2) (fun h=>K3 h) fun m2 j3 hj3=>?_
  obtain ⟨d1,d2,d3⟩:=Je hl hll m1 j2 (b3.mono (by omega)) (by omega) a2.2 _ _ hj3
  exact Vt hl hll (by rw [(X8 hj3).1];exact ht) d2
 split
 ·refine Cf (fun y:Mov×XS=>G9 L (takeS y.1 (y.1.give.getD 0 ⟨[],0⟩).name) y.2) (T3 L _ i) (fun h=>K3 h) fun m2 j3 hj3=>?_
  obtain ⟨d1,d2,d3⟩:=Je hl hll ⟨k,[],[],[],[]⟩ i hm h0 hi _ _ hj3
  exact Vt hl hll (by show [_]≠[];simp) d2
 rfl
theorem AD1 {L:List Tok} (hl:TokEnd L) (hll:L.length≤500000) {i:Nat} (hi:i<L.length):Kk (J3 L i) (Ku L (ok8 i)):=by
 have hK:Mn L (ok8 i)=if (A4 L i).kind==2 then E9 (A4 L i).text else 0:=Ua _
 unfold J3
 cases h:(((A4 L i).kind != 2) || (E9 (A4 L i).text==0)) with
 | true =>
  have hz:(Mn L (ok8 i)==0)=true:=by
   rw [hK]
   cases h2:((A4 L i).kind==2) with
   | false=>rfl
   | true =>
    have:((A4 L i).kind != 2)=false:=by simp only [bne,h2];rfl
    rw [this,Gy] at h
    rw [if_pos rfl];exact h
  have e:Ku L (ok8 i)=(⟨0,[],[],[],[]⟩,E4 L 8 (ok8 i)):=if_pos hz
  rw [if_pos rfl]
  exact Rz (by decide) (by rw [e])
 | false =>
  rw [Hb] at h
  have h2:((A4 L i).kind==2)=true:=by have:=h.1;simpa [bne] using this
  have hK2:Mn L (ok8 i)=E9 (A4 L i).text:=by rw [hK,if_pos h2]
  have e:Ku L (ok8 i)=((Mm L ⟨Mn L (ok8 i),[],[],[],[]⟩ (ok8 (i+1))).1,Bf L [59] (Mm L ⟨Mn L (ok8 i),[],[],[],[]⟩ (ok8 (i+1))).2):=if_neg (by rw [hK2,h.2];simp)
  rw [if_neg (by simp),e,hK2]
  have hi1:i+1<L.length:=hl.step hi (by rw [show (A4 L i).kind=2 by simpa using h2];decide)
  refine Cf (fun y:Mov×XS=>(y.1,Bf L [59] y.2)) (AH4 hl hll (by omega) hi1) (fun h=>K2 h) fun m j _=>?_
  exact Cf (fun y:Unit×XS=>(m,y.2)) (K4 L [59] j) (fun _=>rfl) fun u j _=>rfl
theorem dk {L:List Tok} (f:Nat) (l:List Mov) {S:XS} (h:S.code≠0):Iq L f l S=(l,S):=by
 cases f with
 | zero=>rfl
 | succ f=>exact if_neg (by unfold go8;rw [show (S.code==0)=false by simpa using h];simp)
theorem jc {L:List Tok} (hl:TokEnd L) (hll:L.length≤500000):∀(f:Nat) (l:List Mov) (i:Nat),l.length+f=9→l.length≤8→i<L.length→Kk (F1 L f l i) (Iq L (f+1) l (ok8 i))
 | 0,l,i,h,h2,_=>absurd h (by omega)
 | f+1,l,i,h,h2,hi=>by
  have hg:go8 L (ok8 i)=((A4 L i).kind != 0):=by unfold go8;simp
  rw [F1,Iq,hg]
  split
  ·split
   ·have e:(E4 L 3 (ok8 i)).code≠0:=by show (3:Int)≠0;decide
    rw [dk _ _ e]
    exact Rz (by decide) rfl
   rename_i h3
   refine Cf (fun y:Mov×XS=>Iq L (f+1) (l++[y.1]) y.2) (AD1 hl hll hi) (fun h=>by rw [dk _ _ h]) fun m j hj=>?_
   have h4:l.length≠8:=fun h=>h3 (by rw [h];rfl)
   exact jc hl hll f (l++[m]) j (by simp;omega) (by simp;omega) (md hl hll hi hj).2
  rfl
/-- THE REFERENCE PARSES AS THE PARSER DOES. -/
theorem AD2 (s:Str) (hs:s.length≤400000):Oz s=M1 s:=by
 unfold Oz M1
 split
 ·rfl
 rename_i h0
 have hz:(C4 s).2.1=0:=by simpa using h0
 have hle:=Za hz
 have hlen:=Zh hz
 have h:=jc hle (by omega) 9 [] 0 rfl (by decide) hle.pos
 show _=match F1 (C4 s).1 9 [] 0 with|.ok l _=>(l,0,0)|.bad e a=>([],e,a)
 cases hX:F1 (C4 s).1 9 [] 0 with
 | ok l j =>
  rw [hX] at h
  rw [show Iq (C4 s).1 10 [] (ok8 0)=(l,ok8 j) from h];rfl
 | bad e a =>
  rw [hX] at h
  obtain ⟨h1,h2,h3⟩:=h
  have h1:(Iq (C4 s).1 10 [] (ok8 0)).2.code=e:=h1
  have h2:(Iq (C4 s).1 10 [] (ok8 0)).2.at_=a:=h2
  rw [h1,h2,if_pos (by simpa using h3)]
/-! The reference's parser of expressions: by levels. -/
def isR (l:List Tok) (s:Str) (S:PS):Bool:=(((A4 l S.i).kind==5) || ((A4 l S.i).kind==2))&&((A4 l S.i).text==s)
def rc (l:List Tok) (n:Nat) (S:PS):Bool:=(((A4 l S.i).kind==5) || ((A4 l S.i).kind==2))&&(B8 (A4 l S.i).text==(n:Int))
def inR (a:Int) (f:PS→Expr×PS) (S:PS):Expr×PS:=if (S.code != 0) || decide ((30:Int)≤(S.nest:Int)) then (Ax,C7 18 a S) else ((f (B7 S)).1,Hq (f (B7 S)).2)
def x9:Str:=[44]
def S1:Str:=[40]
def S3:Str:=[45]
def jd:Str:=[116,114,117,101]
def X9:Str:=[102,97,108,115,101]
def je:Str:=[110,117,108,108]
def zx (l:List Tok) (a:Int) (f:PS→Expr×PS) (S:PS):List Expr×PS:=Ik l (inR a f) S
def H6 (l:List Tok) (f:PS→Expr×PS) (S:PS):List Expr×PS:=zx l (A4 l S.i).at_ f (A5 S)
def H7 (l:List Tok) (f:PS→Expr×PS) (t:Tok) (S:PS):PS:=if (((H6 l f S).1.length:Int) != Mj t.text) then C7 8 t.at_ (Bx l Bu (H6 l f S).2) else Bx l Bu (H6 l f S).2
def Qd (l:List Tok) (f:PS→Expr×PS) (t:Tok) (S:PS):Expr×PS:=(.mk 6 t.text noV (H6 l f S).1,H7 l f t S)
def Fv (l:List Tok) (f:PS→Expr×PS) (S:PS):Expr×PS:=
  if (A4 l S.i).kind==3 then (G6 ⟨1,(B6 (A4 l S.i).text).1,[]⟩,A5 S)
  else if (A4 l S.i).kind==4 then (G6 ⟨2,0,(A4 l S.i).text⟩,A5 S)
  else if isR l jd S then (G6 ⟨3,1,[]⟩,A5 S)
  else if isR l X9 S then (G6 ⟨3,0,[]⟩,A5 S)
  else if isR l je S then (G6 noV,A5 S)
  else if isR l S1 S then ((inR (A4 l S.i).at_ f (A5 S)).1,Bx l Bu (inR (A4 l S.i).at_ f (A5 S)).2)
  else if (A4 l S.i).kind==1 then
    (if !isR l S1 (A5 S) then (Bj (A4 l S.i).text,A5 S)
     else if decide (Mj (A4 l S.i).text<0) then (Ax,C7 9 (A4 l S.i).at_ (A5 S)) else Qd l f (A4 l S.i) (A5 S))
  else (Ax,C7 8 (A4 l S.i).at_ S)
def S4 (l:List Tok) (n:Nat) (S:PS):Bool:=(((S.code==0)&&((n:Int) != 2))&&((n:Int) != 6))&&rc l n S
def Nv (l:List Tok) (n:Nat) (f:PS→Expr×PS):Nat→Expr×PS→Expr×PS
 | 0,r=>r
 | m+1,r=>if S4 l n r.2 then (if (n:Int)==3 then (Dn (A4 l r.2.i).text r.1 (f (A5 r.2)).1,(f (A5 r.2)).2) else Nv l n f m (Dn (A4 l r.2.i).text r.1 (f (A5 r.2)).1,(f (A5 r.2)).2)) else r
def lvS (l:List Tok) (D:Nat→PS→Expr×PS) (n:Nat) (f:PS→Expr×PS) (S:PS):Expr×PS:=
 if S.code != 0 then (Ax,S)
 else if ((n:Int)==2)&&isR l Q5 S then (Cy 4 (inR (A4 l S.i).at_ (D 2) (A5 S)).1,(inR (A4 l S.i).at_ (D 2) (A5 S)).2)
 else if ((n:Int)==6)&&isR l S3 S then (Cy 3 (inR (A4 l S.i).at_ (D 6) (A5 S)).1,(inR (A4 l S.i).at_ (D 6) (A5 S)).2)
 else if (n:Int)==7 then Fv l (D 0) S
 else Nv l n f l.length (f S)
def lvK (l:List Tok) (D:Nat→PS→Expr×PS):Nat→PS→Expr×PS
 | 0=>lvS l D 7 (fun S=>(Ax,S))
 | k+1=>lvS l D (6-k) (lvK l D k)
def lvN (l:List Tok) (D:Nat→PS→Expr×PS) (n:Nat):PS→Expr×PS:=lvK l D (7-n)
theorem S5 {l:List Tok} {D:Nat→PS→Expr×PS} {n:Nat} (h:n<7):lvN l D n=lvS l D n (lvN l D (n+1)):=by
 unfold lvN
 obtain ⟨k,hk⟩:∃k,7-n=k+1:=⟨6-n,by omega⟩
 rw [hk,lvK,show 7-(n+1)=k by omega,show 6-k=n by omega]
def Nw (l:List Tok):Nat→Nat→PS→Expr×PS
 | 0=>fun _ S=>(Ax,S)
 | d+1=>lvN l (Nw l d)

/-! What is so of them. -/
theorem S6 {l:List Tok} {f:PS→Expr×PS} {n:Nat} (a:Int) (hf:n<30→Co l (n+1) f):Co l n (inR a f):=by
 intro S hi hn
 subst hn
 unfold inR
 split
 ·exact AIt
 rename_i h
 have h30:S.nest<30:=by simp only [Cz,decide_eq_true_eq,not_or] at h;omega
 have:=hf h30 (B7 S) hi rfl
 refine ⟨this.le,this.lt,?_,this.ok,this.sz⟩
 show (f (B7 S)).2.nest-1=S.nest
 rw [this.nest]
 rfl
theorem rd {l:List Tok} {f:PS→Expr×PS} {S:PS} (hl:TokEnd l) (hi:(A5 S).i<l.length) (hf:S.nest<30→Co l (S.nest+1) f):KFact l (A5 S) (H6 l f S):=U3 hl hi (S6 _ hf)
theorem xa {l:List Tok} {f:PS→Expr×PS} {S:PS} (hl:TokEnd l) (hll:l.length≤1048576) {t:Tok} (ht:t.text.length≤1048576) (hi:(A5 S).i<l.length) (hf:S.nest<30→Co l (S.nest+1) f):Fact l S (Qd l f t S):=by
 have hk:=rd hl hi hf
 have h1:S.i+1≤(H6 l f S).2.i:=hk.le
 obtain ⟨w1,w2,w3⟩:=Zb (s:=Bu) hl hk.lt
 have e:(H7 l f t S).i=(Bx l Bu (H6 l f S).2).i∧(H7 l f t S).nest=(Bx l Bu (H6 l f S).2).nest:=by
  unfold H7
  split
  ·exact failM_i
  exact ⟨rfl,rfl⟩
 refine ⟨by show S.i≤(H7 l f t S).i;rw [e.1];omega,by show (H7 l f t S).i<_;rw [e.1];exact w2,by show (H7 l f t S).nest=_;rw [e.2];exact w3.trans hk.nest,?_,?_⟩
 ·show okE (2*((H7 l f t S).i-S.i)+1) _
  rw [e.1]
  refine ⟨ht,?_,fun y hy=>?_⟩
  ·have h5:(H6 l f S).1.length≤(H6 l f S).2.i-(A5 S).i+1:=hk.len
   have h6:=hk.lt
   show (H6 l f S).1.length≤1048576
   omega
  exact Hj (by show 2*((H6 l f S).2.i-(S.i+1))+1≤_;omega) (hk.ok y hy)
 have s1:Cs (H6 l f S).1≤2*((H6 l f S).2.i-(S.i+1))+1:=hk.sz
 show sizeE (.mk 6 t.text noV (H6 l f S).1)≤2*((H7 l f t S).i-S.i)+1
 rw [sizeE,e.1]
 omega
theorem Kl {l:List Tok} {s:Str} {S:PS} (h:isR l s S=true):(A4 l S.i).kind≠0:=by
 unfold isR at h
 simp only [Ah,Cz,beq_iff_eq] at h
 omega
theorem AH5 {l:List Tok} {n:Nat} {S:PS} (h:S4 l n S=true):(A4 l S.i).kind≠0:=by
 unfold S4 rc at h
 simp only [Ah,Cz,beq_iff_eq] at h
 omega
theorem S7 {l:List Tok} {f:PS→Expr×PS} {S:PS} (a:Int) (hl:TokEnd l) (hi:S.i<l.length) (hk:(A4 l S.i).kind≠0) (hf:S.nest<30→Co l (S.nest+1) f):Fact l (A5 S) (inR a f (A5 S)):=S6 a hf (A5 S) (hl.step hi hk) rfl
theorem xb {l:List Tok} {f:PS→Expr×PS} {n:Nat} (hl:TokEnd l) (hll:l.length≤1048576) (hf:n<30→Co l (n+1) f):Co l n (Fv l f):=by
 intro S hi hn
 subst hn
 have leaf:∀e:Expr,okE 1 e→sizeE e=1→(A4 l S.i).kind≠0→Fact l S (e,A5 S):=fun e he hs hk=>⟨I4 _,hl.step hi hk,rfl,Hj (by omega) he,by show sizeE e≤_;omega⟩
 have nz:∀{k:Int},k≠0→((A4 l S.i).kind==k)=true→(A4 l S.i).kind≠0:=fun hk h=>by rw [beq_iff_eq] at h;rw [h];exact hk
 unfold Fv
 split
 ·rename_i h;exact leaf _ (Q4 (Ae _) _) rfl (nz (by decide) h)
 split
 ·rename_i h;exact leaf _ (Q4 (Ae _) _) rfl (nz (by decide) h)
 split
 ·rename_i h;exact leaf _ (Q4 (Ae _) _) rfl (Kl h)
 split
 ·rename_i h;exact leaf _ (Q4 (Ae _) _) rfl (Kl h)
 split
 ·rename_i h;exact leaf _ (Q4 (Ae _) _) rfl (Kl h)
 split
 ·rename_i h
  have:=S7 (A4 l S.i).at_ hl hi (Kl h) hf
  obtain ⟨w1,w2,w3⟩:=Zb (s:=Bu) hl this.lt
  have h3:S.i+1≤(inR (A4 l S.i).at_ f (A5 S)).2.i:=this.le
  have h4:sizeE (inR (A4 l S.i).at_ f (A5 S)).1≤2*((inR (A4 l S.i).at_ f (A5 S)).2.i-(S.i+1))+1:=this.sz
  refine ⟨by show S.i≤(Bx l Bu _).i;omega,w2,w3.trans this.nest,Hj ?_ this.ok,by show sizeE (inR (A4 l S.i).at_ f (A5 S)).1≤2*((Bx l Bu (inR (A4 l S.i).at_ f (A5 S)).2).i-S.i)+1;omega⟩
  show 2*((inR (A4 l S.i).at_ f (A5 S)).2.i-(S.i+1))+1≤2*((Bx l Bu (inR (A4 l S.i).at_ f (A5 S)).2).i-S.i)+1
  omega
 split
 ·rename_i h
  have hk:=nz (by decide) h
  have hi1:(A5 S).i<l.length:=hl.step hi hk
  split
  ·exact leaf _ (ou _ (hl.text _)) rfl hk
  rename_i h2
  split
  ·exact V3 (S:=A5 S) (S0:=S) (I4 _) hi1 rfl 9 _
  have:=xa (S:=A5 S) (f:=f) hl hll (hl.text S.i) (hl.step hi1 (Kl (by simpa using h2))) hf
  have h3:S.i+1≤(Qd l f (A4 l S.i) (A5 S)).2.i:=this.le
  have h4:sizeE (Qd l f (A4 l S.i) (A5 S)).1≤2*((Qd l f (A4 l S.i) (A5 S)).2.i-(S.i+1))+1:=this.sz
  exact ⟨by omega,this.lt,this.nest,Hj (by show 2*((Qd l f (A4 l S.i) (A5 S)).2.i-(S.i+1))+1≤_;omega) this.ok,by omega⟩
 exact AIt
/-- A state of the loop of a level. -/
structure LoopAt (l:List Tok) (n:Nat) (f:PS→Expr×PS) (S:PS) (r:Expr×PS):Prop where
 fact:Fact l S r
 eq:∃m,l.length≤r.2.i+m∧Nv l n f l.length (f S)=Nv l n f m r
theorem LoopAt.start {l:List Tok} {n:Nat} {f:PS→Expr×PS} {S:PS} (h:Fact l S (f S)):LoopAt l n f S (f S):=⟨h,l.length,by omega,rfl⟩
theorem LoopAt.on {l:List Tok} {n:Nat} {f:PS→Expr×PS} {S:PS} {r:Expr×PS} (hl:TokEnd l) (h:LoopAt l n f S r) (hc:S4 l n r.2=true) (hf:Co l S.nest f):(A5 r.2).i<l.length∧Fact l (A5 r.2) (f (A5 r.2))∧Fact l S (Dn (A4 l r.2.i).text r.1 (f (A5 r.2)).1,(f (A5 r.2)).2) ∧
  (((n:Int)==3)=true→Nv l n f l.length (f S)=(Dn (A4 l r.2.i).text r.1 (f (A5 r.2)).1,(f (A5 r.2)).2))∧(((n:Int)==3)=false→LoopAt l n f S (Dn (A4 l r.2.i).text r.1 (f (A5 r.2)).1,(f (A5 r.2)).2)):=by
 have hi:=hl.step h.fact.lt (AH5 hc)
 have hq:=hf (A5 r.2) hi h.fact.nest
 obtain ⟨m,hm,e⟩:=h.eq
 have h1:=h.fact.lt
 have h2:r.2.i+1≤(f (A5 r.2)).2.i:=hq.le
 obtain ⟨m,rfl⟩:∃k,m=k+1:=⟨m-1,by omega⟩
 rw [Nv,if_pos hc] at e
 refine ⟨hi,hq,Zc h.fact hq hl,fun h3=>by rw [e,if_pos h3],fun h3=>⟨Zc h.fact hq hl,m,by show l.length≤(f (A5 r.2)).2.i+m;omega,by rw [e,if_neg (by rw [h3];simp)]⟩⟩
theorem LoopAt.out {l:List Tok} {n:Nat} {f:PS→Expr×PS} {S:PS} {r:Expr×PS} (h:LoopAt l n f S r) (hc:S4 l n r.2=false):Nv l n f l.length (f S)=r:=by
 obtain ⟨m,hm,e⟩:=h.eq
 have h1:=h.fact.lt
 obtain ⟨m,rfl⟩:∃k,m=k+1:=⟨m-1,by omega⟩
 rw [e,Nv,if_neg (by rw [hc];simp)]
theorem re {l:List Tok} {n:Nat} {f:PS→Expr×PS} {S:PS} (hl:TokEnd l) (hf:Co l S.nest f):∀(k:Nat) (r:Expr×PS),l.length-r.2.i≤k→LoopAt l n f S r→Fact l S (Nv l n f l.length (f S))
 | 0,r,hk,h=>by have:=h.fact.lt;omega
 | k+1,r,hk,h=>by
  cases hc:S4 l n r.2 with
  | false=>rw [h.out hc];exact h.fact
  | true =>
   obtain ⟨h1,h2,h3,h4,h5⟩:=h.on hl hc hf
   cases h6:((n:Int)==3) with
   | true=>rw [h4 h6];exact h3
   | false =>
    have h7:r.2.i+1≤(f (A5 r.2)).2.i:=h2.le
    exact re hl hf k _ (by show l.length-(f (A5 r.2)).2.i≤k;have:=h.fact.lt;omega) (h5 h6)
theorem rf {l:List Tok} {D:Nat→PS→Expr×PS} {n k:Nat} {f:PS→Expr×PS} (hl:TokEnd l) (hll:l.length≤1048576) (hD:k<30→∀n,Co l (k+1) (D n)) (hf:Co l k f):Co l k (lvS l D n f):=by
 intro S hi hS
 have hk:=hS
 subst hS
 unfold lvS
 split
 ·exact APn
 split
 ·rename_i h
  exact Zd (S7 _ hl hi (Kl (Qq.1 h).2) fun h=>hD h 2) 4
 split
 ·rename_i h
  exact Zd (S7 _ hl hi (Kl (Qq.1 h).2) fun h=>hD h 6) 3
 split
 ·exact xb hl hll (fun h=>hD h 0) S hi rfl
 exact re hl hf l.length (f S) (by omega) (.start (hf S hi rfl))
theorem jf {l:List Tok} {n:Nat}:Co l n (fun S=>(Ax,S)):=fun S hi hn=>⟨Ae _,hi,hn ▸ rfl,bh (by omega),by show sizeE Ax≤_;rw [U1];omega⟩
theorem dl {l:List Tok} {D:Nat→PS→Expr×PS} {k:Nat} (hl:TokEnd l) (hll:l.length≤1048576) (hD:k<30→∀n,Co l (k+1) (D n)):∀j,Co l k (lvK l D j)
 | 0=>rf hl hll hD jf
 | j+1=>rf hl hll hD (dl hl hll hD j)
theorem T5 {l:List Tok} (hl:TokEnd l) (hll:l.length≤1048576):∀(d n:Nat),n+d=31→n≤30→∀j,Co l n (Nw l d j)
 | 0,n,h,h2=>by omega
 | d+1,n,h,_=>fun j=>dl hl hll (fun h30=>T5 hl hll d (n+1) (by omega) (by omega)) (7-j)
/-- The reference's parser. -/
abbrev pq (l:List Tok) (S:PS):AObj:=.cells 180 [.slice false 3 (l.map En),A7 (S.i:Int),A7 (S.nest:Int),A7 S.code,A7 S.at_]
theorem Jt {n:Nat} {l:List Tok} {S:PS}:ObjLow n (pq l S):=by
 show ∀y∈[AV.slice false 3 (l.map En),A7 (S.i:Int),A7 (S.nest:Int),A7 S.code,A7 S.at_],Low n y
 intro y hy
 simp only [C9,Hc,or_false] at hy
 rcases hy with rfl|rfl|rfl|rfl|rfl
 ·simp [or_imp,forall_and]
 all_goals simp
/-- The contract of a level. -/
def PLv (l:List Tok) (n:Nat) (f:PS→Expr×PS) (k:Nat):Prop:=∀(o:Nat) (Hp:List AObj) (S:PS),Hp[o]? = some (pq l S)→S.i<l.length→S.nest=k→ACall Tryz.prog 162 [.ptr o 0,A7 (n:Int)] Hp (fun r H'=>r=Aj (f S).1∧H'=Hp.set o (pq l (f S).2))
theorem AD3 (l:List Tok) (S:PS) (e a:Int) (o:Nat) (Hp:List AObj) (ho:Hp[o]? = some (pq l S)):ACall Tryz.prog 163 [.ptr o 0,A7 e,A7 a] Hp (fun r H'=>r=Ks∧H'=Hp.set o (pq l (C7 e a S))):=by
 refine B0 [] [0,1,2] Tryz.func163 Tryz.ntmps163 (fun d=>?_)
 refine Z33 ?_
 refine A3 (h:=An ho) (hr:=?_)
 refine A3 ?_;refine A2 [0,1,2,11] ?_
 refine A6 (fun ht11=>?_) (fun ht11=>?_)
 ·have e:C7 e a S=⟨S.i,S.nest,e,a⟩:=if_pos ht11
  refine Z15 ?_;refine ef ?_;refine Z0 ?_
  refine Cv jS ho ?_ ?_
  ·simp
  exact Z72
 have e:C7 e a S=S:=if_neg (by rw [ht11];simp)
 exact AO8

theorem rg (l:List Tok) (S:PS) (s:Str) (o:Nat) (Hp:List AObj) (ho:Hp[o]? = some (pq l S)) (hi:S.i<l.length):AFun Tryz.prog 193 [.ptr o 0,Ac s] Hp (Bz (isR l s S)):=by
 refine B0 [.tmp 4] [0,1] Tryz.func193 Tryz.ntmps193 (fun d=>?_)
 refine AO6 ?_
 apply Y.q
 ·intro B hT hF
  refine Z19 ?_
  refine Am (h:=An ho) (hr:=?_)
  refine Z19 ?_
  refine Am (h:=An ho) (hr:=?_)
  refine Am (h:=B2 (S.i) (En (A4 l S.i)) (fun _=>Ez hi)) (hr:=?_)
  exact Z29
 case hTF=>decide
 refine AIk ?_;refine A2 [1,5] ?_;refine Z1 ?_;refine Z30 ?_;refine We ?_;exact AM9

theorem ATb (l:List Tok) (S:PS) (n:Nat) (o:Nat) (Hp:List AObj) (ho:Hp[o]? = some (pq l S)) (hi:S.i<l.length):AFun Tryz.prog 196 [.ptr o 0,A7 (n:Int)] Hp (Bz (rc l n S)):=by
 refine B0 [.tmp 4] [0,1] Tryz.func196 Tryz.ntmps196 (fun d=>?_)
 refine AO6 ?_
 apply Y.q
 ·intro B hT hF
  refine Z19 ?_
  refine Am (h:=An ho) (hr:=?_)
  refine Z19 ?_
  refine Am (h:=An ho) (hr:=?_)
  refine Am (h:=B2 (S.i) (En (A4 l S.i)) (fun _=>Ez hi)) (hr:=?_)
  exact Z29
 case hTF=>decide
 refine AIk ?_;refine A2 [1,5] ?_;refine Z1 ?_;refine uj ?_;refine Z30 ?_;refine D9 Tryz.call112 (fun hB=>ASm (A4 l S.i).text _) ?_;refine Z6 ?_;exact AM9

theorem AR0 (l:List Tok) (S:PS) (s:Str) (o:Nat) (Hp:List AObj) (ho:Hp[o]? = some (pq l S)) (hi:S.i<l.length) (hll:l.length≤1048576):ACall Tryz.prog 219 [.ptr o 0,Ac s] Hp (fun r H'=>r=Ks∧H'=Hp.set o (pq l (Bx l s S))):=by
 refine B0 [] [0,1] Tryz.func219 Tryz.ntmps219 (fun d=>?_)
 refine Z42 ?_
 refine A3 (h:=An ho) (hr:=?_)
 refine A3 ?_;refine A2 [0,1,9] ?_
 refine A6 (fun ht9=>?_) (fun ht9=>?_)
 ·have e:Bx l s S=S:=if_pos ht9
  exact AO9
 have e0:¬(S.code != 0)=true:=by rw [ht9];simp
 refine Z4 ?_;refine Hw ?_;refine Gb [0,1,3,7,0,16,48,112,255,511,1023,2047,4095,8191,16383,32767,65535,8191,139263,401407,925695,2097151,4194303,8388607,8191,33554431,67108863] 25 Af (by kernel_rfl) ?_;refine Z19 ?_
 refine Am (h:=An ho) (hr:=?_)
 refine Z19 ?_
 refine Am (h:=An ho) (hr:=?_)
 refine Am (h:=B2 (S.i) (En (A4 l S.i)) (fun _=>Ez hi)) (hr:=?_)
 refine Z85 ?_;refine Z86 ?_
 refine H0 (h:=An ho) (hr:=?_)
 refine Z86 ?_
 refine H0 (h:=An ho) (hr:=?_)
 refine H0 (h:=B2 (S.i) (En (A4 l S.i)) (fun _=>Ez hi)) (hr:=?_)
 refine Z86 ?_;refine Er ?_;refine Z55 ?_;refine A2 [0,36] ?_
 refine A6 (fun ht36=>?_) (fun ht36=>?_)
 ·have e:Bx l s S=C7 8 (A4 l S.i).at_ S:=by unfold Bx;rw [if_neg e0,if_pos ht36]
  refine Gb [0,0,2,6,14,0,32,96,224,510,1022,2046,4095] 12 Af (by kernel_rfl) ?_;refine Z85 ?_
  refine Am (h:=An ho) (hr:=?_)
  refine Z19 ?_
  refine Am (h:=An ho) (hr:=?_)
  refine Am (h:=B2 (S.i) (En (A4 l S.i)) (fun _=>Ez hi)) (hr:=?_)
  refine Z5 ?_;refine Er ?_;refine AQ0 ?_;refine Nf ?_;exact AO9
 have e:Bx l s S=A5 S:=by unfold Bx;rw [if_neg e0,if_neg (by rw [ht36];simp)]
 refine Z4 ?_;refine Z15 ?_
 refine A3 (h:=An ho) (hr:=?_)
 refine Z7 ?_
 refine Cv jS ho ?_ ?_
 ·simp
 exact Z72

theorem AH6 (l:List Tok) (S:PS) (a:Int) (n:Nat) (f:PS→Expr×PS) (o:Nat) (Hp:List AObj) (ho:Hp[o]? = some (pq l S)) (hi:S.i<l.length) (hn:S.nest≤30) (hf:S.nest<30→Co l (S.nest+1) f) (hcf:S.nest<30→PLv l n f (S.nest+1)):ACall Tryz.prog 194 [.ptr o 0,A7 a,A7 (n:Int)] Hp (fun r H'=>r=Aj (inR a f S).1∧H'=Hp.set o (pq l (inR a f S).2)):=by
 refine B0 [.cell 6 69] [0,1,2] Tryz.func194 Tryz.ntmps194 (fun d=>?_)
 refine AIm ?_;refine Z42 ?_
 refine A3 (h:=An ho) (hr:=?_)
 refine uj ?_
 refine Bk (h:=An ho) (hr:=?_)
 refine Z55 ?_;refine A2 [0,1,2,6,20] ?_
 refine A6 (fun ht20=>?_) (fun ht20=>?_)
 ·have e:inR a f S=(Ax,C7 18 a S):=if_pos ht20
  refine Z1 ?_;refine B4 Tryz.call163 ho (by simp) Jt (AD3 l S 18 a o _ (A8 ho)) ?_;refine A2 [6] ?_;refine Z27 ?_;refine Ga 24 _ Kh ?_;refine AB5 ?_;refine Dd ?_;exact Ab (Ao (B5 jA jS)) ⟨by rw [e];simp only [Ad],by rw [e]⟩ (hlow:=by have:=At Hp.length Ax;simpa only [Ad,Bg] using this)
 have e:inR a f S=((f (B7 S)).1,Hq (f (B7 S)).2):=if_neg (by rw [ht20];simp)
 have h30:S.nest<30:=by simp only [Hb,decide_eq_false_iff_not] at ht20;omega
 have hq:=hf h30 (B7 S) hi rfl
 have hn1:(f (B7 S)).2.nest=S.nest+1:=hq.nest
 refine Z4 ?_;refine Z33 ?_
 refine A3 (h:=An ho) (hr:=?_)
 refine Z7 ?_
 refine Cv jS ho ?_ ?_
 ·simp
 refine A2 [0,2,6] ?_;refine Z1 ?_;refine B4 Tryz.call162 (getset ho) (by simp) Jt (hcf h30 o _ (B7 S) (A8 (getset ho)) hi rfl) ?_;refine Z11 ?_;refine A2 [0,6,7] ?_;refine Z33 ?_
 refine A3 (h:=An (getset (getset ho))) (hr:=?_)
 rw [hn1]
 refine Z7 ?_
 refine Cv jS (getset (getset ho)) ?_ ?_
 ·simp
 refine A2 [6,7] ?_;refine Ei ?_
 rw [show (((S.nest+1:Nat):Int)-1)=((Hq (f (B7 S)).2).nest:Int) by show _=(((f (B7 S)).2.nest-1:Nat):Int);rw [hn1];omega]
 refine Z45 ?_;refine Z69 ?_;exact Ab (Ao (B5 jA jS)) ⟨by rw [e];simp only [Ad],by rw [e];simp only [Bc];rfl⟩ (hlow:=by have:=At Hp.length (f (B7 S)).1;simpa only [Ad,Bg] using this)

theorem ATc (l:List Tok) (S:PS) (n:Nat) (hn7:n≤7) (Dl:Nat→PS→Expr×PS) (f:PS→Expr×PS) (o:Nat) (Hp:List AObj) (ho:Hp[o]? = some (pq l S)) (hi:S.i<l.length) (hl:TokEnd l) (hll:l.length≤1048576) (hn:S.nest≤30) (hD:S.nest<30→∀j,j≤7→Co l (S.nest+1) (Dl j)∧PLv l j (Dl j) (S.nest+1)) (hf:Co l S.nest f) (hcf:n<7→PLv l (n+1) f S.nest) (hat:∀(o:Nat) (Hp:List AObj),Hp[o]? = some (pq l S)→S.code=0→ACall Tryz.prog 195 [.ptr o 0] Hp (fun r H'=>r=Aj (Fv l (Dl 0) S).1∧H'=Hp.set o (pq l (Fv l (Dl 0) S).2))):ACall Tryz.prog 162 [.ptr o 0,A7 (n:Int)] Hp (fun r H'=>r=Aj (lvS l Dl n f S).1∧H'=Hp.set o (pq l (lvS l Dl n f S).2)):=by
 refine B0 [.cell 4 69] [0,1] Tryz.func162 Tryz.ntmps162 (fun d=>?_)
 refine Z24 ?_;refine eg ?_;refine Z42 ?_
 refine A3 (h:=An ho) (hr:=?_)
 refine A3 ?_;refine A2 [0,1,4,13] ?_
 refine A6 (fun ht13=>?_) (fun ht13=>?_)
 ·have e:lvS l Dl n f S=(Ax,S):=if_pos ht13
  refine Z27 ?_;refine Ga 14 _ Kh ?_;refine np ?_;refine Dd ?_;exact Ab (Ao (B5 jA jS)) ⟨by rw [e];simp only [Ad],by rw [e];exact (E8 ho).symm⟩ (hlow:=by have:=At Hp.length Ax;simpa only [Ad,Bg] using this)
 have e0:¬(S.code != 0)=true:=by rw [ht13];simp
 have hc0:S.code=0:=by simpa using ht13
 refine Z4 ?_;refine AOw ?_
 refine Am (h:=An ho) (hr:=?_)
 refine Z19 ?_
 refine Am (h:=An ho) (hr:=?_)
 refine Er ?_
 refine A3 (h:=B2 (S.i) (En (A4 l S.i)) (fun _=>Ez hi)) (hr:=?_)
 refine Z7 ?_;refine A2 [0,1,4,5] ?_;refine Z50 ?_;refine Bk ?_;refine D9 Tryz.call193 (fun hB=>rg l S Q5 o _ (A8 ho) hi) ?_;refine A3 ?_;refine A2 [0,1,4,5,31] ?_
 refine A6 (fun ht31=>?_) (fun ht31=>?_)
 ·have hi1:(A5 S).i<l.length:=hl.step hi (Kl (Qq.1 ht31).2)
  have e:lvS l Dl n f S=(Cy 4 (inR (A4 l S.i).at_ (Dl 2) (A5 S)).1,(inR (A4 l S.i).at_ (Dl 2) (A5 S)).2):=by unfold lvS;rw [if_neg e0,if_pos ht31]
  refine Z16 ?_
  refine A3 (h:=An ho) (hr:=?_)
  refine Z7 ?_
  refine Cv jS ho ?_ ?_
  ·simp
  refine A2 [0,4,5] ?_;refine Z1 ?_;refine B4 Tryz.call194 (getset ho) (by simp) Jt (AH6 l (A5 S) (A4 l S.i).at_ 2 (Dl 2) o _ (A8 (getset ho)) hi1 hn (fun h=>(hD h 2 (by decide)).1) (fun h=>(hD h 2 (by decide)).2)) ?_;refine Rg ?_;refine Z57 ?_;refine Z17 ?_;refine Dd ?_;exact Ab (Ao (B5 jA jS)) ⟨by rw [e,Ob];simp only [Ad],by rw [e,Bc]⟩ (hlow:=by have:=At Hp.length (Cy 4 (inR (A4 l S.i).at_ (Dl 2) (A5 S)).1);rw [Ob] at this;simp only [Ad] at this;simpa only [Bg] using this)
 have e1:¬(((n:Int)==2)&&isR l Q5 S)=true:=by rw [ht31];simp
 refine Z4 ?_;refine Z50 ?_;refine Bk ?_;refine D9 Tryz.call193 (fun hB=>rg l S S3 o _ (A8 ho) hi) ?_;refine A3 ?_;refine A2 [0,1,4,5,49] ?_
 refine A6 (fun ht49=>?_) (fun ht49=>?_)
 ·have hi1:(A5 S).i<l.length:=hl.step hi (Kl (Qq.1 ht49).2)
  have e:lvS l Dl n f S=(Cy 3 (inR (A4 l S.i).at_ (Dl 6) (A5 S)).1,(inR (A4 l S.i).at_ (Dl 6) (A5 S)).2):=by unfold lvS;rw [if_neg e0,if_neg e1,if_pos ht49]
  refine Z16 ?_
  refine A3 (h:=An ho) (hr:=?_)
  refine Z7 ?_
  refine Cv jS ho ?_ ?_
  ·simp
  refine A2 [0,4,5] ?_;refine Z1 ?_;refine B4 Tryz.call194 (getset ho) (by simp) Jt (AH6 l (A5 S) (A4 l S.i).at_ 6 (Dl 6) o _ (A8 (getset ho)) hi1 hn (fun h=>(hD h 6 (by decide)).1) (fun h=>(hD h 6 (by decide)).2)) ?_;refine Rg ?_;refine Z57 ?_;refine Z17 ?_;refine Dd ?_;exact Ab (Ao (B5 jA jS)) ⟨by rw [e,Ob];simp only [Ad],by rw [e,Bc]⟩ (hlow:=by have:=At Hp.length (Cy 3 (inR (A4 l S.i).at_ (Dl 6) (A5 S)).1);rw [Ob] at this;simp only [Ad] at this;simpa only [Bg] using this)
 have e2:¬(((n:Int)==6)&&isR l S3 S)=true:=by rw [ht49];simp
 refine Z4 ?_;refine Z9 ?_;refine A2 [0,1,4,63] ?_
 refine A6 (fun ht63=>?_) (fun ht63=>?_)
 ·have e:lvS l Dl n f S=Fv l (Dl 0) S:=by unfold lvS;rw [if_neg e0,if_neg e1,if_neg e2,if_pos ht63]
  refine Z2 ?_;refine B4 Tryz.call195 ho (by simp) Jt (hat o _ (A8 ho) hc0) ?_;refine np ?_;refine Dd ?_;exact Ab (Ao (B5 jA jS)) ⟨by rw [e];simp only [Ad],by rw [e]⟩ (hlow:=by have:=At Hp.length (Fv l (Dl 0) S).1;simpa only [Ad,Bg] using this)
 have e:lvS l Dl n f S=Nv l n f l.length (f S):=by unfold lvS;rw [if_neg e0,if_neg e1,if_neg e2,if_neg (by rw [ht63];simp)]
 have hn8:n<7:=by rw [beq_eq_false_iff_ne] at ht63;omega
 refine Y9 ?_;refine B4 Tryz.call162 ho (by simp) Jt (hcf hn8 o _ S (A8 ho) hi rfl) ?_;refine Z11 ?_;refine A2 [0,1,4,6] ?_;refine Hw ?_
 refine Bo (α:=Expr×PS) (fun r=>⟨119,A9 0 (.ptr o 0) (A9 1 (A7 (n:Int)) (A9 4 (.ptr (oid Hp.length 0) 0) (A9 6 (.ptr (oid Hp.length 1) 0) (fun _=>.any)))),Hp.set o (pq l r.2),[.cells 69 [A7 0,Ac [],A7 0,A7 0,Ac [],.nil],.cells 69 (E3 r.1)],[],none⟩) (fun r=>LoopAt l n f S r) (fun r=>l.length-r.2.i) (f S) (.start (hf S hi rfl)) (Ar (by simp)) rfl (fun r hx=>?_)
 refine Z42 ?_
 refine A3 (h:=An (getset ho)) (hr:=?_)
 refine Z30 ?_;refine Z30 ?_;refine Z30 ?_;refine D9 Tryz.call196 (fun hB=>ATb l r.2 n o _ (A8 (getset ho)) hx.fact.lt) ?_;refine A3 ?_;refine A2 [0,1,4,6,88] ?_
 refine A6 (fun ht88=>?_) (fun ht88=>?_)
 ·have hon:=hx.on hl ht88 hf
  have hle:=hon.2.1.le
  have hlt0:=hx.fact.lt
  refine ec ?_;refine Fe [0,1,3,7,0,16,48,112,255,511,0,2047] [] [.q 10 [] [],.s [7] none [] [],.s [7] none [] []] (fun _=>Hp.set o (pq l r.2)) (fun _=>[.cells 69 [A7 0,Ac [],A7 0,A7 0,Ac [],.nil],.cells 69 (E3 r.1)]) Af (by kernel_rfl) rfl rfl (fun _=>rfl) ?_
  apply Y.q
  ·intro B hT hF
   refine Z19 ?_
   refine Am (h:=An (getset ho)) (hr:=?_)
   refine Z19 ?_
   refine Am (h:=An (getset ho)) (hr:=?_)
   refine Am (h:=B2 (r.2.i) (En (A4 l r.2.i)) (fun _=>Ez hx.fact.lt)) (hr:=?_)
   exact Z29
  case hTF=>decide
  refine AIk ?_;refine A2 [0,1,4,6,7] ?_;refine Z16 ?_
  refine A3 (h:=An (getset ho)) (hr:=?_)
  refine Z7 ?_
  refine Cv jS (getset ho) ?_ ?_
  ·simp
  refine A2 [0,1,4,6,7] ?_
  refine Fe [0,1,0,0,0,16,56,124,255,511] [6] [.q 6 [] [],.s [112] (some 0) [] [],.q 1 [0] []] (fun B=>Hp.set o (if B 0=true then pq l (f (A5 r.2)).2 else pq l (A5 r.2))) (fun _=>[.cells 69 [A7 0,Ac [],A7 0,A7 0,Ac [],.nil],.cells 69 (E3 r.1)]) Af (by kernel_rfl) (by simp only [B1,if_false,Bc];rfl) rfl (fun B=>by simp) ?_
  apply Y.q
  ·intro B hT hF
   refine Z85 ?_;exact Z38
  case hTF=>decide
  refine Jk (r:=Aj (f (A5 r.2)).1) (o:=o) (x0:=pq l (A5 r.2)) (x:=pq l (f (A5 r.2)).2) Tryz.call162 (fun B hT hF hB=>⟨by simp only [hB];exact getset ho,by simp [upd],rfl,Jt,?_⟩) ?_
  ·simp only [hB]
   exact hcf hn8 o _ (A5 r.2) (A8 (getset ho)) hon.1 hx.fact.nest
  apply Y.q
  ·intro B hT hF
   exact Z28
  case hTF=>decide
  refine Dj (tn:=[6]) (U:=Hp.set o (pq l (f (A5 r.2)).2)) ?_;refine Z57 ?_;refine A2 [0,1,4,6] ?_;refine Z1 ?_;refine A2 [0,1,4,6,116] ?_
  refine A6 (fun ht116=>?_) (fun ht116=>?_)
  ·have hres:=hon.2.2.2.1 ht116
   refine Z2 ?_;refine np ?_;refine AB6 ?_;refine Dd ?_;exact Ab (Ao (B5 jA jS)) ⟨by rw [e,hres,Ze];simp only [Ad],by rw [e,hres]⟩ (hlow:=by have:=At Hp.length (Dn (A4 l r.2.i).text r.1 (f (A5 r.2)).1);rw [Ze] at this;simp only [Ad] at this;simpa only [Bg] using this)
  have hnx:=hon.2.2.2.2 ht116
  refine Eh [0,1,4,6] ?_;refine He ?_;refine Hh ?_
  refine Be (Dn (A4 l r.2.i).text r.1 (f (A5 r.2)).1,(f (A5 r.2)).2) hnx (by show l.length-(f (A5 r.2)).2.i<l.length-r.2.i;have:r.2.i+1≤(f (A5 r.2)).2.i:=hle;omega) ?_
  exact Bp (by simp only [gr,Ad]<;>rfl)
 have hout:=hx.out ht88
 refine uk ?_;refine np ?_;exact Ab (Ao (B5 jA jS)) ⟨by rw [e,hout];simp only [Ad],by rw [e,hout]⟩ (hlow:=by have:=At Hp.length r.1;simpa only [Ad,Bg] using this)

/-! Both parsers do the same; where there is a fault the trees play no part. -/
def SimE (r q:Expr×PS):Prop:=r.2=q.2∧(q.2.code=0→r.1=q.1)
def K7 (l:List Tok) (n:Nat) (f g:PS→Expr×PS):Prop:=∀S,S.i<l.length→S.nest=n→S.code=0→SimE (f S) (g S)
theorem SimE.refl (r:Expr×PS):SimE r r:=⟨rfl,fun _=>rfl⟩
theorem mf {l:List Tok} {w:Str} (hw:(32:UInt8)∉w) (h0:w≠[]) (S:PS):isM l (32::(w++[32])) S=isR l w S:=by unfold isM isR;rw [py hw h0]
theorem AKk {l:List Tok} (S:PS):isM l pg S=isR l Q5 S:=mf (w:=Q5) (by decide) (by decide) S
theorem AD4 {l:List Tok} (S:PS):isM l ph S=isR l S3 S:=mf (w:=S3) (by decide) (by decide) S
theorem rh {l:List Tok} (S:PS):isM l opT S=isR l S1 S:=mf (w:=S1) (by decide) (by decide) S
theorem jg {l:List Tok} (S:PS):isM l Mi S=isR l x9 S:=mf (w:=x9) (by decide) (by decide) S
theorem AKl {l:List Tok} (S:PS):isM l Wo S=((isR l jd S || isR l X9 S) || isR l je S):=by
 unfold isM isR
 rw [Kg (ws:=[jd,X9,je]) (by kernel_rfl) (by decide)]
 by_cases h0:(A4 l S.i).text=[]
 ·rw [h0];cases (((A4 l S.i).kind==5) || ((A4 l S.i).kind==2))<;>rfl
 have:((A4 l S.i).text==[])=false:=by simpa using h0
 rw [this]
 simp only [N5,D0,sq,List.contains_nil,Oj]
 cases (((A4 l S.i).kind==5) || ((A4 l S.i).kind==2))<;>simp [sm]
theorem zy {l:List Tok} {k:Nat} (hk:k=0∨k=1∨k=3∨k=4∨k=5) (S:PS):isM l (ofL k) S=rc l k S:=by unfold isM rc;rw [Im hk]
/-- What the lexer's words are. -/
def Oh (t:Tok):Prop:=(t.kind=3→(Dy t.text).1=⟨1,(B6 t.text).1,[]⟩)∧(t.kind=4→t.text.length≤200)
theorem AH7 {l:List Tok} {n:Nat} {f g:PS→Expr×PS} (a:Int) (hn:n≤30) (h:n<30→K7 l (n+1) f g):K7 l n (inR a f) (Bb a g):=by
 intro S hi hS hc
 unfold inR Bb
 have e:((S.code != 0) || decide ((30:Int)≤(S.nest:Int)))=((S.nest:Int)==30):=by
  rw [hc,N3]
  simp
  omega
 rw [e]
 cases h2:((S.nest:Int)==30) with
 | true=>exact SimE.refl _
 | false =>
  have h30:n<30:=by rw [beq_eq_false_iff_ne] at h2;omega
  obtain ⟨h3,h4⟩:=h h30 (B7 S) hi (by show S.nest+1=_;rw [hS]) hc
  exact ⟨by show Hq (f (B7 S)).2=Hq (g (B7 S)).2;rw [h3],h4⟩
theorem zz {t:Str} {r q a b:Expr×PS} (h:r.1=q.1) (h2:SimE a b):SimE (Dn t r.1 a.1,a.2) (Dn t q.1 b.1,b.2):=⟨h2.1,fun hc=>by show Dn t r.1 a.1=Dn t q.1 b.1;rw [h,h2.2 hc]⟩
theorem ri {l:List Tok} {n k:Nat} {f g:PS→Expr×PS} (hk:k=0∨k=1∨k=4∨k=5) (hl:TokEnd l) (hg:Co l n g) (h:K7 l n f g):∀(m:Nat) (r q:Expr×PS),SimE r q→q.2.i<l.length→q.2.nest=n→SimE (Nv l k f m r) (J2 l (ofL k) g m q)
 | 0,r,q,hs,_,_=>hs
 | m+1,r,q,hs,hi,hn=>by
  rw [Nv,J2,hs.1]
  have e:S4 l k q.2=((q.2.code==0)&&isM l (ofL k) q.2):=by
   unfold S4
   rw [zy (by omega)]
   rcases hk with rfl|rfl|rfl|rfl<;>simp
  rw [e]
  cases hc:((q.2.code==0)&&isM l (ofL k) q.2) with
  | false=>exact hs
  | true =>
   have hc2:=Qq.1 hc
   have h0:q.2.code=0:=by simpa using hc2.1
   have hi1:(A5 q.2).i<l.length:=hl.stepIs hi hc2.2
   have e3:((k:Int)==3)=false:=by rcases hk with rfl|rfl|rfl|rfl<;>rfl
   rw [e3]
   simp only [if_true,B1,if_false]
   have hq:=hg (A5 q.2) hi1 hn
   exact ri hk hl hg h m _ _ (zz (r:=r) (q:=q) (hs.2 h0) (h (A5 q.2) hi1 hn h0)) hq.lt (hq.nest.trans hn)
theorem Vu {l:List Tok} {n k:Nat} {f g:PS→Expr×PS} {D:Nat→PS→Expr×PS} (hk:k=0∨k=1∨k=4∨k=5) (hl:TokEnd l) (hg:Co l n g) (h:K7 l n f g):K7 l n (lvS l D k f) (F9 l (ofL k) g):=by
 intro S hi hn hc
 unfold lvS
 have hq:=hg S hi hn
 have e2:((k:Int)==2)=false∧((k:Int)==6)=false∧((k:Int)==7)=false:=by rcases hk with rfl|rfl|rfl|rfl<;>decide
 rw [if_neg (by rw [hc];decide),e2.1,e2.2.1,e2.2.2]
 simp only [N4,B1,if_false]
 exact ri hk hl hg h l.length _ _ (h S hi hn hc) hq.lt (hq.nest.trans hn)
theorem AKm {l:List Tok} {n:Nat} {f:PS→Expr×PS} {D:Nat→PS→Expr×PS} {D':Fam} (hl:TokEnd l) (hg:Co l n (Ct l D')) (h:K7 l n f (Ct l D')):K7 l n (lvS l D 3 f) (D6 l D'):=by
 intro S hi hn hc
 unfold lvS D6
 have hq:=hg S hi hn
 have hs:=h S hi hn hc
 rw [if_neg (by rw [hc];decide)]
 simp only [show (((3:Nat):Int)==2)=false from rfl,show (((3:Nat):Int)==6)=false from rfl,show (((3:Nat):Int)==7)=false from rfl,N4,B1,if_false]
 obtain ⟨m,hm⟩:∃m,l.length=m+1:=⟨l.length-1,by omega⟩
 rw [hm,Nv,hs.1]
 have e:S4 l 3 (Ct l D' S).2 = !(((Ct l D' S).2.code != 0) || !isM l Ya (Ct l D' S).2):=by
  unfold S4
  rw [show Ya=ofL 3 from rfl,zy (by decide)]
  simp [Bool.not_or,bne]
 rw [e]
 cases hb:(((Ct l D' S).2.code != 0) || !isM l Ya (Ct l D' S).2) with
 | true=>exact hs
 | false =>
  simp only [N5,if_true,B1,if_false,show (((3:Nat):Int)==3)=true from rfl]
  simp only [Hb,bne_eq_false_iff_eq,Tj] at hb
  exact zz (r:=f S) (q:=Ct l D' S) (hs.2 hb.1) (h _ (hl.stepIs hq.lt hb.2) (hq.nest.trans hn) hb.1)
theorem dm {l:List Tok} {s:Str} {S:PS} (h:(S.code != 0)=true):Bx l s S=S:=if_pos h
theorem xc {e a:Int} {S:PS} (h:(S.code != 0)=true):C7 e a S=S:=if_neg (by simpa using h)
/-- A call's kids. -/
def AR1 (n:Nat) (r q:List Expr×PS):Prop:=r.2=Hq q.2∧q.2.nest=n+1∧(q.2.code=0→r.1=q.1)
theorem AD5 {S:PS} {n:Nat} (h:S.nest=n+1):B7 (Hq S)=S:=by
 cases S
 unfold B7 Hq
 simp only at h ⊢
 subst h
 rfl
theorem rj {l:List Tok} {n:Nat} {f g:PS→Expr×PS} (a:Int) (hn:n<30) (hl:TokEnd l) (hg:Co l (n+1) g) (h:K7 l (n+1) f g):∀(m:Nat) (r q:List Expr×PS),AR1 n r q→q.2.i<l.length→AR1 n (argsF l (inR a f) m r) (argsF l g m q)
 | 0,r,q,hs,_=>hs
 | m+1,r,q,hs,hi=>by
  have e:((r.2.code==0)&&isM l Mi r.2)=((q.2.code==0)&&isM l Mi q.2):=by rw [hs.1];rfl
  rw [argsF,argsF,e]
  cases hc:((q.2.code==0)&&isM l Mi q.2) with
  | false=>exact hs
  | true =>
   have hc2:=Qq.1 hc
   have h0:q.2.code=0:=by simpa using hc2.1
   have hi1:(A5 q.2).i<l.length:=hl.stepIs hi hc2.2
   have hq:=hg (A5 q.2) hi1 hs.2.1
   have hsm:=h (A5 q.2) hi1 hs.2.1 h0
   have ein:inR a f (A5 r.2)=((f (A5 q.2)).1,Hq (f (A5 q.2)).2):=by
    unfold inR
    have e1:B7 (A5 r.2)=A5 q.2:=by rw [hs.1];exact AD5 (S:=A5 q.2) hs.2.1
    have e2:(A5 r.2).code=0:=by rw [hs.1];exact h0
    have e3:(A5 r.2).nest=n:=by rw [hs.1];show q.2.nest-1=n;rw [hs.2.1];rfl
    rw [if_neg (by rw [e2,e3];simp;omega),e1]
   simp only [if_true]
   rw [ein]
   exact rj a hn hl hg h m _ _ ⟨by show Hq (f (A5 q.2)).2=Hq (g (A5 q.2)).2;rw [hsm.1],hq.nest.trans hs.2.1,fun hc=>by show r.1++[(f (A5 q.2)).1]=q.1++[(g (A5 q.2)).1];rw [hs.2.2 h0,hsm.2 hc]⟩ hq.lt
theorem AH8 {l:List Tok} {n:Nat} {f g:PS→Expr×PS} (a:Int) (hn:n≤30) (hl:TokEnd l) (hg:n<30→Co l (n+1) g) (h:n<30→K7 l (n+1) f g) {S:PS} (hi:S.i<l.length) (hS:S.nest=n) (hc:S.code=0):(zx l a f S).2=(Ke l a g S).2∧((Ke l a g S).2.code=0→(zx l a f S).1=(Ke l a g S).1):=by
 unfold zx Ke Ik
 cases h2:((S.nest:Int)==30) with
 | true =>
  have e:inR a f S=(Ax,C7 18 a S):=by
   unfold inR
   rw [if_pos (by rw [beq_iff_eq] at h2;rw [h2];simp)]
  have e2:C7 18 a S=⟨S.i,S.nest,18,a⟩:=if_pos (by rw [hc];rfl)
  rw [e,e2]
  simp only [if_true]
  have e3:∀m,argsF l (inR a f) m ([Ax],⟨S.i,S.nest,18,a⟩)=([Ax],⟨S.i,S.nest,18,a⟩):=fun m=>by cases m<;>rfl
  rw [e3]
  exact AMq
 | false =>
  have h30:n<30:=by rw [beq_eq_false_iff_ne] at h2;omega
  have hq:=hg h30 (B7 S) hi (by show S.nest+1=_;rw [hS])
  have hsm:=h h30 (B7 S) hi (by show S.nest+1=_;rw [hS]) hc
  have e:inR a f S=((f (B7 S)).1,Hq (f (B7 S)).2):=by
   unfold inR
   rw [if_neg (by rw [hc,hS];simp;omega)]
  rw [e]
  simp only [B1,if_false]
  have:=rj a h30 hl (hg h30) (h h30) l.length ([(f (B7 S)).1],Hq (f (B7 S)).2) ([(g (B7 S)).1],(g (B7 S)).2) ⟨by show Hq (f (B7 S)).2=Hq (g (B7 S)).2;rw [hsm.1],hq.nest.trans (by show S.nest+1=_;rw [hS]),fun hc=>by show [(f (B7 S)).1]=[(g (B7 S)).1];rw [hsm.2 hc]⟩ hq.lt
  exact ⟨this.1,this.2.2⟩
theorem AH9 {l:List Tok} {n:Nat} {f:PS→Expr×PS} {D':Fam} (hn:n≤30) (hl:TokEnd l) (hg:n<30→Co l (n+1) D'.ei) (h:n<30→K7 l (n+1) f D'.ei) {S:PS} {t:Tok} (hi:(A5 S).i<l.length) (hS:S.nest=n) (hc:S.code=0) (ha:¬Mj t.text<0):SimE (Qd l f t S) (I6 l D' t S):=by
 obtain ⟨h1,h2⟩:=AH8 (A4 l S.i).at_ hn hl hg h (S:=A5 S) hi hS hc
 have h1:(H6 l f S).2=(Br l D' S).2:=h1
 have h2:(Br l D' S).2.code=0→(H6 l f S).1=(Br l D' S).1:=h2
 unfold I6
 rw [gu,if_neg ha]
 cases hw:((Bx l Bu (Br l D' S).2).code != 0) with
 | true =>
  have hw0:((Bx l Bu (Br l D' S).2).code==0)=false:=by simpa using hw
  rw [hw0]
  simp only [N4,B1,if_false]
  refine ⟨?_,fun h=>by have:(Bx l Bu (Br l D' S).2).code=0:=h;rw [this] at hw;cases hw⟩
  show H7 l f t S=Bx l Bu (Br l D' S).2
  unfold H7
  rw [h1,xc hw]
  split<;>rfl
 | false =>
  have hw0:(Bx l Bu (Br l D' S).2).code=0:=by simpa using hw
  have hk0:(Br l D' S).2.code=0:=by
   cases hk:((Br l D' S).2.code != 0) with
   | true=>rw [dm hk] at hw0;rw [hw0] at hk;cases hk
   | false=>simpa using hk
  have hx:=h2 hk0
  rw [hw0]
  simp only [beq_self_eq_true,D0]
  cases hb:(((Br l D' S).1.length:Int)==Mj t.text) with
  | true =>
   simp only [Hu,B1,if_false]
   refine ⟨?_,fun _=>by show Expr.mk 6 t.text noV (H6 l f S).1=_;rw [hx]⟩
   show H7 l f t S=_
   unfold H7
   rw [h1,hx,if_neg (by simpa using hb)]
  | false =>
   simp only [N5,if_true]
   have e:C7 8 t.at_ (Bx l Bu (Br l D' S).2)=⟨(Bx l Bu (Br l D' S).2).i,(Bx l Bu (Br l D' S).2).nest,8,t.at_⟩:=if_pos (by rw [hw0];rfl)
   refine ⟨?_,fun h=>by rw [e] at h;exact absurd h (by show ¬(8:Int)=0;decide)⟩
   show H7 l f t S=_
   unfold H7
   rw [h1,hx,if_pos (by simpa using hb)]
theorem AHa {l:List Tok} {S:PS} {w:Str} {k:Int} (h:(A4 l S.i).kind=k) (h5:k≠5) (h2:k≠2):isR l w S=false:=by
 unfold isR
 rw [h,beq_eq_false_iff_ne.2 h5,beq_eq_false_iff_ne.2 h2]
 rfl
theorem Vw {l:List Tok} {S:PS} {w:Str} (h:isR l w S=true):(A4 l S.i).text=w∧((A4 l S.i).kind=5∨(A4 l S.i).kind=2):=by
 unfold isR at h
 simp only [Ah,Cz,beq_iff_eq] at h
 exact ⟨h.2,h.1⟩
theorem AHb {l:List Tok} {n:Nat} {f:PS→Expr×PS} {D':Fam} (hn:n≤30) (hl:TokEnd l) (ht:∀i,Oh (A4 l i)) (hg:n<30→Co l (n+1) D'.ei) (h:n<30→K7 l (n+1) f D'.ei):K7 l n (Fv l f) (Eo l D'):=by
 intro S hi hS hc
 unfold Fv Eo
 rw [if_neg (show ¬(S.code != 0)=true by rw [hc];decide),AKl,rh,rh]
 cases h3:((A4 l S.i).kind==3) with
 | true =>
  simp only [if_true,Kv]
  rw [(ht S.i).1 (by simpa using h3)]
  exact SimE.refl _
 | false =>
  simp only [B1,if_false,Gy]
  cases h4:((A4 l S.i).kind==4) with
  | true =>
   have h4':(A4 l S.i).kind=4:=by simpa using h4
   simp only [if_true,AHa h4' (by decide) (by decide),Tl,B1,if_false]
   rw [Fw ((ht S.i).2 h4')]
   exact SimE.refl _
  | false =>
   simp only [B1,if_false]
   cases b1:isR l jd S with
   | true =>
    simp only [if_true,Kv]
    rw [(Vw b1).1]
    exact o5
   | false =>
    cases b2:isR l X9 S with
    | true =>
     simp only [if_true,Kv,M6,B1,if_false]
     rw [(Vw b2).1]
     exact o5
    | false =>
     cases b3:isR l je S with
     | true =>
      simp only [if_true,M6,B1,if_false]
      rw [(Vw b3).1]
      exact o5
     | false =>
      simp only [Tl,B1,if_false]
      cases b4:isR l S1 S with
      | true =>
       have hk:=(Vw b4).2
       have h1:((A4 l S.i).kind==1)=false:=by rw [beq_eq_false_iff_ne];omega
       simp only [h1,if_true,B1,if_false]
       obtain ⟨s1,s2⟩:=AH7 (A4 l S.i).at_ hn h (A5 S) (hl.step hi (by omega)) hS hc
       refine ⟨by show Bx l Bu _=Bx l Bu _;rw [s1],fun hw=>s2 ?_⟩
       cases hk:((Bb (A4 l S.i).at_ D'.ei (A5 S)).2.code != 0) with
       | true =>
        have hw:(Bx l Bu (Bb (A4 l S.i).at_ D'.ei (A5 S)).2).code=0:=hw
        rw [dm hk] at hw;rw [hw] at hk;cases hk
       | false=>simpa using hk
      | false =>
       simp only [B1,if_false]
       cases h1:((A4 l S.i).kind==1) with
       | false=>exact SimE.refl _
       | true =>
        simp only [if_true]
        cases b5:isR l S1 (A5 S) with
        | false=>simp only [N5,if_true,B1,if_false];exact SimE.refl _
        | true =>
         simp only [Hu,B1,if_false,if_true]
         have hi1:(A5 S).i<l.length:=hl.step hi (by rw [beq_iff_eq] at h1;omega)
         by_cases ha:Mj (A4 l S.i).text<0
         ·rw [decide_eq_true ha]
          unfold I6
          rw [gu,if_pos ha]
          exact SimE.refl _
         rw [decide_eq_false ha]
         exact AH9 hn hl hg h (hl.step hi1 (Kl b5)) hS hc ha
theorem AA0 {l:List Tok} {n:Nat} {a o:Int} {f g:PS→Expr×PS} (hn:n≤30) (h:n<30→K7 l (n+1) f g) {S:PS} (hi:S.i<l.length) (hS:S.nest=n) (hc:S.code=0):SimE (Cy o (inR a f S).1,(inR a f S).2) (Cy o (Bb a g S).1,(Bb a g S).2):=by
 obtain ⟨s1,s2⟩:=AH7 a hn h S hi hS hc
 exact ⟨s1,fun hc=>by show Cy o _=Cy o _;rw [s2 hc]⟩
theorem AKn {l:List Tok} {n:Nat} {f:PS→Expr×PS} {D:Nat→PS→Expr×PS} {D':Fam} (hn:n≤30) (hl:TokEnd l) (h6:n<30→K7 l (n+1) (D 6) D'.ne) (h:K7 l n f (Eo l D')) (hf:∀S,S.code=0→lvS l D 6 f S=if isR l S3 S then (Cy 3 (inR (A4 l S.i).at_ (D 6) (A5 S)).1,(inR (A4 l S.i).at_ (D 6) (A5 S)).2) else f S):K7 l n (lvS l D 6 f) (Lu l D'):=by
 intro S hi hS hc
 rw [hf S hc]
 unfold Lu
 rw [AD4]
 cases hb:isR l S3 S with
 | true =>
  simp only [if_true,Hu,B1,if_false]
  exact AA0 hn h6 (hl.step hi (Kl hb)) hS hc
 | false =>
  simp only [if_true,N5,B1,if_false]
  exact h S hi hS hc
theorem AKo {l:List Tok} {n:Nat} {f:PS→Expr×PS} {D:Nat→PS→Expr×PS} {D':Fam} (hn:n≤30) (hl:TokEnd l) (h6:n<30→K7 l (n+1) (D 2) D'.no) (h:K7 l n f (D6 l D')) (hf:∀S,S.code=0→lvS l D 2 f S=if isR l Q5 S then (Cy 4 (inR (A4 l S.i).at_ (D 2) (A5 S)).1,(inR (A4 l S.i).at_ (D 2) (A5 S)).2) else f S):K7 l n (lvS l D 2 f) (Lv l D'):=by
 intro S hi hS hc
 rw [hf S hc]
 unfold Lv
 rw [AKk]
 cases hb:isR l Q5 S with
 | true =>
  simp only [if_true,Hu,B1,if_false]
  exact AA0 hn h6 (hl.step hi (Kl hb)) hS hc
 | false =>
  simp only [if_true,N5,B1,if_false]
  exact h S hi hS hc
theorem jh {l:List Tok} {k m:Nat} {f:PS→Expr×PS} {r:Expr×PS} (hk:k=2∨k=6):Nv l k f m r=r:=by
 cases m with
 | zero=>rfl
 | succ m =>
  rw [Nv,if_neg]
  unfold S4
  rcases hk with rfl|rfl<;>simp
theorem ATd {l:List Tok} {f:PS→Expr×PS} {D:Nat→PS→Expr×PS} (S:PS) (hc:S.code=0):lvS l D 6 f S=if isR l S3 S then (Cy 3 (inR (A4 l S.i).at_ (D 6) (A5 S)).1,(inR (A4 l S.i).at_ (D 6) (A5 S)).2) else f S:=by
 unfold lvS
 rw [if_neg (by rw [hc];decide),jh (.inr rfl)]
 rfl
theorem ATe {l:List Tok} {f:PS→Expr×PS} {D:Nat→PS→Expr×PS} (S:PS) (hc:S.code=0):lvS l D 2 f S=if isR l Q5 S then (Cy 4 (inR (A4 l S.i).at_ (D 2) (A5 S)).1,(inR (A4 l S.i).at_ (D 2) (A5 S)).2) else f S:=by
 unfold lvS
 rw [if_neg (by rw [hc];decide),jh (.inl rfl)]
 rfl
theorem ATf {l:List Tok} {f:PS→Expr×PS} {D:Nat→PS→Expr×PS} (S:PS) (hc:S.code=0):lvS l D 7 f S=Fv l (D 0) S:=by
 unfold lvS
 rw [if_neg (by rw [hc];decide)]
 rfl
theorem AA1 {l:List Tok} (hl:TokEnd l) (hll:l.length≤1048576) (ht:∀i,Oh (A4 l i)):∀(d n:Nat),n+d=31→n≤30→K7 l n (Nw l d 0) (Cn l d).ei∧K7 l n (Nw l d 2) (Cn l d).no∧K7 l n (Nw l d 6) (Cn l d).ne
 | 0,n,h,hn=>by omega
 | d+1,n,h,hn=>by
  have ih:n<30→_:=fun h30=>AA1 hl hll ht d (n+1) (by omega) (by omega)
  have gd:n≠30→_:=fun h30=>Su hl hll d (n+1) (by omega) (by omega)
  have g1:Co l n (Lu l (Cn l d)):=Ss hl hll (fun h=>(gd h).1) (fun h=>(gd h).2.2)
  have g2:Co l n (V1 l (Cn l d)):=Gp hl g1
  have g3:Co l n (Ct l (Cn l d)):=Gp hl g2
  have g5:Co l n (Lv l (Cn l d)):=Wp hl hll (fun h=>(gd h).1) (fun h=>(gd h).2.2) (fun h=>(gd h).2.1)
  have g6:Co l n (V2 l (Cn l d)):=Gp hl g5
  have s0:K7 l n (lvN l (Nw l d) 7) (Eo l (Cn l d)):=fun S hi hS hc=>by
   show SimE (lvS l (Nw l d) 7 _ S) _
   rw [ATf S hc]
   exact AHb hn hl ht (fun h=>(gd (by omega)).1) (fun h=>(ih h).1) S hi hS hc
  have s1:K7 l n (lvN l (Nw l d) 6) (Lu l (Cn l d)):=by rw [S5 (by decide)];exact AKn hn hl (fun h=>(ih h).2.2) s0 ATd
  have s2:K7 l n (lvN l (Nw l d) 5) (V1 l (Cn l d)):=by rw [S5 (by decide)];exact Vu (k:=5) (by decide) hl g1 s1
  have s3:K7 l n (lvN l (Nw l d) 4) (Ct l (Cn l d)):=by rw [S5 (by decide)];exact Vu (k:=4) (by decide) hl g2 s2
  have s4:K7 l n (lvN l (Nw l d) 3) (D6 l (Cn l d)):=by rw [S5 (by decide)];exact AKm hl g3 s3
  have s5:K7 l n (lvN l (Nw l d) 2) (Lv l (Cn l d)):=by rw [S5 (by decide)];exact AKo hn hl (fun h=>(ih h).2.1) s4 ATe
  have s6:K7 l n (lvN l (Nw l d) 1) (V2 l (Cn l d)):=by rw [S5 (by decide)];exact Vu (k:=1) (by decide) hl g5 s5
  have s7:K7 l n (lvN l (Nw l d) 0) (Q3 l (Cn l d)):=by rw [S5 (by decide)];exact Vu (k:=0) (by decide) hl g6 s6
  exact ⟨s7,s5,s1⟩
/-- From a word on. -/
def Gs (l:List Tok) (i:Nat):Expr×PS:=Nw l 31 0 ⟨i,0,0,0⟩
def rk (l:List Tok) (i:Nat):Expr×Int×Int×Int:=if (atS l i (Gs l i)).code != 0 then (Ax,0,(atS l i (Gs l i)).code,(atS l i (Gs l i)).at_) else ((Gs l i).1,((atS l i (Gs l i)).i:Int),0,0)
theorem AKp {l:List Tok} (hl:TokEnd l) (hll:l.length≤1048576) (ht:∀i,Oh (A4 l i)) {i:Nat} (hi:i<l.length):rk l i=atM l i:=by
 obtain ⟨h1,h2⟩:SimE (Gs l i) (atR l i):=(AA1 hl hll ht 31 0 rfl (by decide)).1 ⟨i,0,0,0⟩ hi rfl rfl
 unfold rk atM
 cases hc:((atR l i).2.code != 0) with
 | true =>
  have e1:atS l i (atR l i)=(atR l i).2:=if_pos hc
  have e2:atS l i (Gs l i)=(atR l i).2:=by unfold atS;rw [h1,if_pos hc]
  rw [e1,e2,hc]
  rfl
 | false =>
  have hx:Gs l i=atR l i:=Prod.ext (h2 (by simpa using hc)) h1
  rw [hx]
theorem c42 (k:Int) (Hp:List AObj):AFun Tryz.prog 42 [A7 k] Hp (Ac (Av k)):=by
 refine B0 [.tmp 2] [0] Tryz.func42 Tryz.ntmps42 (fun d=>?_)
 refine Z59 ?_;refine Z50 ?_;refine Z77 ?_;refine A2 [0,9] ?_
 refine A6 (fun ht9=>?_) (fun ht9=>?_)
 ·refine Z20 ?_;refine Dd ?_;exact Ab (Ao Ag) ⟨by rw [show Av k=[] from if_pos (by simpa using ht9)],rfl⟩
 refine Y8 ?_;refine AB3 ?_;refine Qm ?_;refine Ei ?_
 have hk:1≤k∧k≤3:=by simp at ht9;omega
 have hget:(kindNames.map Ac)[k.toNat]? = some (Ac (kindNames.getD k.toNat [])):=by
  have hlt:k.toNat<kindNames.length:=by show k.toNat<4;omega
  rw [D3,Ak hlt,F7,Ak hlt]
  rfl
 refine Z0 ?_
 refine A3 (h:=B2 (k.toNat) (Ac (kindNames.getD k.toNat [])) (fun _=>hget)) (hr:=?_)
 exact AOc

theorem c93 (a:Int) (Hp:List AObj):AFun Tryz.prog 93 [A7 a] Hp (.agg (zk a)):=by
 refine B0 [.cell 2 129] [0] Tryz.func93 Tryz.ntmps93 (fun d=>?_)
 refine Z43 ?_;refine Z1 ?_;refine Z70 ?_;refine T9 ?_;refine Z16 ?_;refine lb ?_;refine Z9 ?_;refine A2 [2,3,4,11] ?_
 refine A6 (fun ht11=>?_) (fun ht11=>?_)
 ·have hm:i7 a=IntKind.u64.wrap (0-IntKind.u64.wrap a):=if_pos ht11
  refine Z32 ?_
  refine A3 (h:=N8) (hr:=?_)
  refine A3 ?_;refine A2 [2,3,4] ?_;refine Ig ?_;refine Z16 ?_;refine AIw ?_;refine Ho ?_;refine A2 [2,3,4] ?_;refine Z16 ?_;refine Rf (1) jU Tryz.sizeOf126 (by decide) ?_;refine Ho ?_;exact AOi
 have hm:i7 a=IntKind.u64.wrap a:=if_neg (by rw [ht11];simp)
 refine Y9 ?_;refine AIw ?_;refine Ho ?_;refine A2 [2,3,4] ?_;refine Z16 ?_;refine Rf (1) jU Tryz.sizeOf126 (by decide) ?_;refine Ho ?_;exact AOi

set_option maxRecDepth 8000
/-! What the signs of bits tell. -/
theorem AD6 {a:Int} (a0 : -9223372036854775808≤a) (a1:a≤9223372036854775807):i7 a=(a.natAbs:Int):=by
 have h1:=IntKind.wrap_u64 a
 have h2:=IntKind.wrap_u64 (0-IntKind.u64.wrap a)
 unfold i7
 split
 ·rename_i h
  have h:a<0:=by simpa using h
  omega
 rename_i h
 have h:¬a<0:=by simpa using h
 omega
/-! Sizes in digits to the base of 2^32. -/
abbrev B32:Nat:=4294967296
def dig (m i:Nat):Nat:=m / B32 ^ i % B32
theorem C5 (m i:Nat):dig m i<4294967296:=Ja _ (by decide)
theorem pw (i:Nat):0<B32 ^ i:=Nat.pow_pos (by decide)
theorem Nx (m i:Nat):m % B32 ^ (i+1)=m % B32 ^ i+B32 ^ i*dig m i:=Nat.mod_pow_succ
theorem Vx (m i:Nat):m / B32 ^ (i+1)=m / B32 ^ i / B32:=by rw [Nat.pow_succ,kg]
def car (a b i:Nat):Nat:=(a % B32 ^ i+b % B32 ^ i) / B32 ^ i
theorem AHc (a b:Nat):car a b 0=0:=by simp [car,Si]
theorem AHd (a b i:Nat):car a b i≤1:=by
 have h1:=Ja a (pw i)
 have h2:=Ja b (pw i)
 have:car a b i<2:=by
  unfold car
  rw [Nat.div_lt_iff_lt_mul (pw i)]
  omega
 omega
theorem AHe (P x y da db:Nat) (hP:0<P):(da+db+(x+y) / P) / B32=(x+P*da+(y+P*db)) / (P*B32):=by
 have e:x+P*da+(y+P*db)=(x+y)+P*(da+db):=by rw [Mr];omega
 rw [e,←kg,Ym _ _ hP,Sf]
theorem AHf (a b i:Nat):(dig a i+dig b i+car a b i) / 4294967296=car a b (i+1):=by
 unfold car
 rw [Nx,Nx,Nat.pow_succ]
 exact AHe _ _ _ _ _ (pw i)
theorem AKq (P a b:Nat) (hP:0<P):(a+b) / P=a / P+b / P+(a % P+b % P) / P:=by
 have ha:=Sh a P
 have hb:=Sh b P
 have e:a+b=(a % P+b % P)+P*(a / P+b / P):=by rw [Mr];omega
 calc (a+b) / P=((a % P+b % P)+P*(a / P+b / P)) / P:=by rw [←e]
  _=(a % P+b % P) / P+(a / P+b / P):=Ym _ _ hP
  _=_:=Sf _ _
theorem AKr (a b i:Nat):(dig a i+dig b i+car a b i) % 4294967296=dig (a+b) i:=by
 unfold dig
 rw [AKq _ a b (pw i)]
 unfold car
 generalize (a % B32 ^ i+b % B32 ^ i) / B32 ^ i=c
 generalize a / B32 ^ i=x
 generalize b / B32 ^ i=y
 show (x % 4294967296+y % 4294967296+c) % 4294967296=(x+y+c) % 4294967296
 omega
def bor (a b i:Nat):Nat:=if a % B32 ^ i<b % B32 ^ i then 1 else 0
theorem rl (a b:Nat):bor a b 0=0:=by simp [bor,Si]
theorem xd (a b i:Nat):bor a b i≤1:=by unfold bor;split<;>omega
theorem AD7 (P x y da db:Nat) (hx:x<P) (hy:y<P):(x+P*da<y+P*db)↔(da<db∨(da=db∧x<y)):=by
 constructor
 ·intro h
  rcases Nat.lt_trichotomy da db with h1|h1|h1
  ·exact .inl h1
  ·subst h1;exact .inr ⟨rfl,by omega⟩
  exfalso
  have:P*(db+1)≤P*da:=km P h1
  rw [Mr] at this
  omega
 rintro (h|⟨rfl,h⟩)
 ·have:P*(da+1)≤P*db:=km P h
  rw [Mr] at this
  omega
 omega
theorem rm (a b i:Nat):1-(4294967296+dig a i-dig b i-bor a b i) / 4294967296=bor a b (i+1):=by
 have hd:=AD7 (B32 ^ i) (a % B32 ^ i) (b % B32 ^ i) (dig a i) (dig b i) (Ja _ (pw i)) (Ja _ (pw i))
 have h1:=C5 a i
 have h2:=C5 b i
 have hb:bor a b (i+1)=if (dig a i<dig b i∨(dig a i=dig b i∧a % B32 ^ i<b % B32 ^ i)) then 1 else 0:=by
  unfold bor
  rw [Nx,Nx]
  by_cases h:a % B32 ^ i+B32 ^ i*dig a i<b % B32 ^ i+B32 ^ i*dig b i
  ·rw [if_pos h,if_pos (hd.1 h)]
  rw [if_neg h,if_neg fun h'=>h (hd.2 h')]
 rw [hb]
 unfold bor
 by_cases hlt:a % B32 ^ i<b % B32 ^ i
 ·rw [if_pos hlt]
  by_cases hc:dig a i<dig b i∨dig a i=dig b i∧a % B32 ^ i<b % B32 ^ i
  ·rw [if_pos hc]
   have:dig a i≤dig b i:=by rcases hc with h|h;omega;omega
   omega
  rw [if_neg hc]
  have:dig b i<dig a i:=by
   rcases Nat.lt_trichotomy (dig a i) (dig b i) with h|h|h
   ·exact absurd (.inl h) hc
   ·exact absurd (.inr ⟨h,hlt⟩) hc
   exact h
  omega
 rw [if_neg hlt]
 by_cases hc:dig a i<dig b i∨dig a i=dig b i∧a % B32 ^ i<b % B32 ^ i
 ·rw [if_pos hc]
  have:dig a i<dig b i:=by
   rcases hc with h|h
   ·exact h
   exact absurd h.2 hlt
  omega
 rw [if_neg hc]
 have:dig b i≤dig a i:=by
  rcases Aw (dig a i) (dig b i) with h|h
  ·exact absurd (.inl h) hc
  exact h
 omega
theorem AKs (P a b:Nat) (hP:0<P) (h:b≤a):(a-b) / P+(if a % P<b % P then 1 else 0)+b / P=a / P:=by
 have ha:=Sh a P
 have hb:=Sh b P
 have hm1:=Ja a hP
 have hm2:=Ja b hP
 have hq:b / P≤a / P:=ki h
 obtain ⟨t,ht⟩:∃t,a / P=b / P+t:=⟨a / P-b / P,by omega⟩
 rw [ht,Mr] at ha
 by_cases hlt:a % P<b % P
 ·rw [if_pos hlt]
  cases t with
  | zero=>rw [Nat.mul_zero] at ha;omega
  | succ t =>
   rw [Mr,Nat.mul_one] at ha
   have e:a-b=(P+a % P-b % P)+P*t:=by omega
   rw [e,Ym _ _ hP,Sg (by omega),ht]
   omega
 rw [if_neg hlt]
 have e:a-b=(a % P-b % P)+P*t:=by omega
 rw [e,Ym _ _ hP,Sg (by omega),ht]
 omega
theorem AA2 {a b:Nat} (h:b≤a) (i:Nat):(4294967296+dig a i-dig b i-bor a b i) % 4294967296=dig (a-b) i:=by
 have hd:=AKs (B32 ^ i) a b (pw i) h
 have hb:=xd a b i
 unfold bor at hb ⊢
 unfold dig
 generalize (if a % B32 ^ i<b % B32 ^ i then 1 else 0)=c at *
 generalize (a-b) / B32 ^ i=z at *
 generalize a / B32 ^ i=x at *
 generalize b / B32 ^ i=y at *
 show (4294967296+x % 4294967296-y % 4294967296-c) % 4294967296=z % 4294967296
 omega
/-- Which of two sizes is smaller, digit by digit from above. -/
theorem AKt {a b n:Nat} (h:a / B32 ^ (n+1)=b / B32 ^ (n+1)) (hd:dig a n≠dig b n):decide (a<b)=decide (dig a n<dig b n):=by
 rw [Vx,Vx] at h
 have e:a / B32 ^ n<b / B32 ^ n↔dig a n<dig b n:=by
  unfold dig at hd ⊢
  generalize a / B32 ^ n=x at *
  generalize b / B32 ^ n=y at *
  have h':x / 4294967296=y / 4294967296:=h
  show x<y↔x % 4294967296<y % 4294967296
  omega
 have hne:a / B32 ^ n≠b / B32 ^ n:=fun e'=>hd (by unfold dig;rw [e'])
 rw [decide_eq_decide,←e]
 constructor
 ·intro hl
  have:=ki (c:=B32 ^ n) (Uj hl)
  omega
 intro hl
 rcases Aw a b with h1|h1
 ·exact h1
 have:=ki (c:=B32 ^ n) h1
 omega
theorem AD8 {a b n:Nat} (h:a / B32 ^ (n+1)=b / B32 ^ (n+1)) (hd:dig a n=dig b n):a / B32 ^ n=b / B32 ^ n:=by
 rw [Vx,Vx] at h
 unfold dig at hd
 generalize a / B32 ^ n=x at *
 generalize b / B32 ^ n=y at *
 have h':x / 4294967296=y / 4294967296:=h
 have hd':x % 4294967296=y % 4294967296:=hd
 omega
set_option maxRecDepth 4000
/-! A wide number: a sign and five digits to the base of 2^32. -/
abbrev wF (s:Bool) (f:Nat→Nat):List AV:=[Bz s,F6 (f 0:Nat),F6 (f 1:Nat),F6 (f 2:Nat),F6 (f 3:Nat),F6 (f 4:Nat)]
abbrev pF (f:Nat→Nat):List AV:=[F6 (f 0:Nat),F6 (f 1:Nat),F6 (f 2:Nat),F6 (f 3:Nat),F6 (f 4:Nat)]
theorem Vy {f:Nat→Nat} {k:Nat} (h:k<5):(pF f).drop (k*1)=F6 (f k:Nat)::(pF f).drop (k+1):=by
 rcases k with _|_|_|_|_|k
 all_goals first|rfl|omega
theorem Y0 {s:Bool} {f:Nat→Nat} {k:Nat} (h:k<5):(wF s f)[1+k*1]? = some (F6 (f k:Nat)):=by
 rcases k with _|_|_|_|_|k
 all_goals first|rfl|omega
def Y1 (m k i:Nat):Nat:=if i<k then dig m i else 0
theorem mg {s:Bool} {f g:Nat→Nat} {k v:Nat} (h:k<5) (hg:g k=v) (he:∀i,i≠k→g i=f i):Ca (wF s f) (1+k*1) [F6 (v:Nat)]=wF s g:=by
 subst hg
 rcases k with _|_|_|_|_|k
 ·rw [wF,wF,he 1 (by decide),he 2 (by decide),he 3 (by decide),he 4 (by decide)];rfl
 ·rw [wF,wF,he 0 (by decide),he 2 (by decide),he 3 (by decide),he 4 (by decide)];rfl
 ·rw [wF,wF,he 0 (by decide),he 1 (by decide),he 3 (by decide),he 4 (by decide)];rfl
 ·rw [wF,wF,he 0 (by decide),he 1 (by decide),he 2 (by decide),he 4 (by decide)];rfl
 ·rw [wF,wF,he 0 (by decide),he 1 (by decide),he 2 (by decide),he 3 (by decide)];rfl
 omega
theorem Xa {s:Bool} {m k:Nat} (h:k<5):Ca (wF s (Y1 m k)) (1+k*1) [F6 (dig m k:Nat)]=wF s (Y1 m (k+1)):=by
 refine mg h (by unfold Y1;rw [if_pos (by omega)]) fun i hi=>?_
 unfold Y1
 by_cases h1:i<k
 ·rw [if_pos h1,if_pos (by omega)]
 rw [if_neg h1,if_neg (by omega)]
theorem Xb (m:Nat) (s:Bool):wF s (Y1 m 5)=wF s (dig m):=rfl
theorem AD9 {x y z:Nat} (h:x+y+z<18446744073709551616):IntKind.u64.wrap (IntKind.u64.wrap ((x:Int)+(y:Int))+(z:Int))=((x+y+z:Nat):Int):=by
 simp only [IntKind.wrap_u64];omega
theorem f6 (x:Nat):(x:Int).tmod 4294967296=((x % 4294967296:Nat):Int):=by
 rw [Int.tmod_eq_emod_of_nonneg (by omega)];omega
theorem f7 {x:Nat} (h:x<18446744073709551616):IntKind.u64.wrap ((x:Int).tdiv 4294967296)=((x / 4294967296:Nat):Int):=by
 rw [Int.tdiv_eq_ediv_of_nonneg (by omega),IntKind.wrap_u64];omega
theorem Iw {m i:Nat} (h:m<B32 ^ i):dig m i=0:=by unfold dig;rw [Sg h];rfl
theorem ALs (m:Nat):dig m 0=m % 4294967296:=by unfold dig;simp
theorem AR2 (m:Nat):dig m 1=m / 4294967296 % 4294967296:=by unfold dig;simp [B32]
/-- A number's halves. -/
theorem AKu {a:Int} (h0 : -9223372036854775808≤a) (h1:a≤9223372036854775807):zk a=wF (decide (a<0)) (dig a.natAbs):=by
 have hs:=AD6 h0 h1
 have hb:a.natAbs<18446744073709551616:=by omega
 unfold zk wF
 rw [hs,f6,f7 hb,ALs,AR2,Yo (show a.natAbs / 4294967296<4294967296 by omega)]
 have e2:dig a.natAbs 2=0:=Iw (D7 hb (by decide))
 have e3:dig a.natAbs 3=0:=Iw (D7 hb (by decide))
 have e4:dig a.natAbs 4=0:=Iw (D7 hb (by decide))
 rw [e2,e3,e4]
 rfl
theorem ATg (a:Int) (h0 : -9223372036854775808≤a) (h1:a≤9223372036854775807) (Hp:List AObj):AFun Tryz.prog 93 [A7 a] Hp (.agg (wF (decide (a<0)) (dig a.natAbs))):=by
 rw [←AKu h0 h1]
 exact c93 a Hp
theorem ATh (a b:Nat) (ha:a<B32 ^ 5) (hb:b<B32 ^ 5) (Hp:List AObj):AFun Tryz.prog 131 [.agg (pF (dig a)),.agg (pF (dig b))] Hp (Bz (decide (a<b))):=by
 refine B0 [.tmp 4] [0,1] Tryz.func131 Tryz.ntmps131 (fun d=>?_)
 refine Z16 ?_;refine P3 ?_;refine Z35 ?_;refine A2 [2,3,5] ?_
 refine Bo (α:=Nat) (fun k=>⟨24,A9 2 (.ro (pF (dig a))) (A9 3 (.ro (pF (dig b))) (A9 5 (A7 ((k:Nat)-1)) (fun _=>.any))),Hp,[],[],none⟩) (fun k=>k≤5∧a / B32 ^ k=b / B32 ^ k) (fun k=>k) (5) ⟨Ae _,by rw [Sg ha,Sg hb]⟩ (Ar rfl) rfl (fun k hx=>?_)
 refine Z9 ?_;refine A2 [2,3,5,7] ?_
 refine A6 (fun ht7=>?_) (fun ht7=>?_)
 ·have hk0:1≤k:=by simp only [decide_eq_true_eq] at ht7;omega
  have hq:a / B32 ^ (k-1+1)=b / B32 ^ (k-1+1):=by rw [Nat.sub_add_cancel hk0];exact hx.2
  refine Z56 ?_;refine AMn ?_;refine AOk ?_;refine Z5 ?_;refine AOl ?_;refine A3 ?_;refine A2 [2,3,5,16] ?_
  refine A6 (fun ht16=>?_) (fun ht16=>?_)
  ·have hl:=AKt hq (fun e=>by rw [e] at ht16;simp at ht16)
   refine Gb [0,1,3,0,8,24,63,127] 6 Af (by kernel_rfl) ?_;refine AOk ?_;refine Z5 ?_;refine AOl ?_;refine AEh ?_;refine Z66 ?_;exact Ab (Ao Ag) ⟨by rw [hl];simp,rfl⟩
  have hn:=AD8 hq (by have:((dig a (k-1):Nat):Int)=((dig b (k-1):Nat):Int):=(by simpa using ht16);omega)
  refine Wf ?_;refine A2 [2,3,5] ?_
  rw [show ((k:Int)-1-1)=(((k-1:Nat):Int)-1) by omega]
  exact Be (k-1) ⟨by omega,hn⟩ (by omega) (Bp rfl)
 have hk0:k=0:=by simp only [decide_eq_false_iff_not] at ht7;omega
 have hab:a=b:=by have:=hx.2;rw [hk0] at this;simpa using this
 refine Z41 ?_;refine Z79 ?_;exact Ab (Ao Ag) ⟨by rw [hab];simp,rfl⟩

theorem AR3 {x y z:Nat} (hx:x<4294967296) (hy:y<4294967296) (hz:z≤1):IntKind.u64.wrap (IntKind.u64.wrap (IntKind.u64.wrap (4294967296+(x:Int))-(y:Int))-(z:Int))=((4294967296+x-y-z:Nat):Int):=by
 simp only [IntKind.wrap_u64];omega
theorem ALt {q:Nat} (h:q≤1):IntKind.u64.wrap (1-(q:Int))=((1-q:Nat):Int):=by
 simp only [IntKind.wrap_u64];omega
section
variable (sa:Bool) (a:Nat) (sb:Bool) (b:Nat)
/-- The greater one, and the other. -/
def hiW:Bool×Nat:=if decide (a<b)=true then (sb,b) else (sa,a)
def loW:Bool×Nat:=if decide (a<b)=true then (sa,a) else (sb,b)
def AKv:Bool×Nat:=if (sa==sb)=true then (sa,a+b) else ((hiW sa a sb b).1,(hiW sa a sb b).2-(loW sa a sb b).2)
end
theorem ALu {sa:Bool} {a:Nat} {sb:Bool} {b:Nat}:(loW sa a sb b).2≤(hiW sa a sb b).2:=by
 unfold loW hiW
 split
 ·rename_i h;have:=of_decide_eq_true h;simp only;omega
 rename_i h;simp only [decide_eq_true_eq] at h;simp only;omega
theorem c94 (sa:Bool) (a:Nat) (sb:Bool) (b:Nat) (ha:a<B32 ^ 5) (hb:b<B32 ^ 5) (Hp:List AObj):AFun Tryz.prog 94 [.agg (wF sa (dig a)),.agg (wF sb (dig b))] Hp (.agg (wF (AKv sa a sb b).1 (dig (AKv sa a sb b).2))):=by
 refine B0 [.cell 4 129] [0,1] Tryz.func94 Tryz.ntmps94 (fun d=>?_)
 refine Ei ?_;refine Ps ?_;refine Ps ?_;refine Ka jZ ?_;refine A2 [2,3,4] ?_;refine Z1 ?_;refine Z70 ?_;refine ny ?_;refine Tt ?_;refine A2 [2,3,4,5,19] ?_
 refine A6 (fun ht19=>?_) (fun ht19=>?_)
 ·have had:AKv sa a sb b=(sa,a+b):=if_pos ht19
  refine Z2 ?_;refine A2 [2,3,4,5,6] ?_;refine Z35 ?_;refine A2 [2,3,4,5,6,7] ?_
  refine Bo (α:=Nat) (fun k=>⟨78,A9 2 (.ptr (oid Hp.length 0) 0) (A9 3 (.ptr (oid Hp.length 1) 0) (A9 4 (.ptr (oid Hp.length 2) 0) (A9 5 (.ptr (oid Hp.length 3) 0) (A9 6 (F6 (car a b k:Nat)) (A9 7 (A7 (k:Nat)) (fun _=>.any)))))),Hp,[ .cells 129 (wF sa (dig a)),.cells 129 (wF sb (dig b)),.cells 129 [Bz false,F6 0,F6 0,F6 0,F6 0,F6 0],.cells 129 (wF sa (Y1 (a+b) k))],[],none⟩) (fun k=>k≤5) (fun k=>5-k) (0) (Al _) (Ar (by rw [AHc];rfl)) rfl (fun k hx=>?_)
  refine Z9 ?_;refine A2 [2,3,4,5,6,7,21] ?_
  refine A6 (fun ht21=>?_) (fun ht21=>?_)
  ·have hk:k<5:=by simp at ht21;omega
   refine Z56 ?_;refine Gb [0,0,3,7,0,0,48,112,255,0,1023,2047] 10 Af (by kernel_rfl) ?_;refine Z80 ?_
   refine Am (h:=R7 (hy:=Y0 hk)) (hr:=?_)
   refine Z80 ?_
   refine Am (h:=R7 (hy:=Y0 hk)) (hr:=?_)
   refine Am (h:=Ji) (hr:=?_)
   refine Z65 ?_
   refine A3 (h:=Ji) (hr:=?_)
   refine A3 ?_;refine A2 [2,3,4,5,7,8] ?_;refine Ei ?_
   rw [AD9 (by have:=C5 a k;have:=C5 b k;have:=AHd a b k;omega)]
   refine Z7 ?_
   rw [f6,AKr]
   refine AMe ?_
   refine R8 jS (hput:=Xa hk) (hfit:=by simp;omega) ?_
   refine A2 [2,3,4,5,7,8] ?_;refine Z21 ?_
   rw [f7 (by have:=C5 a k;have:=C5 b k;have:=AHd a b k;omega),AHf]
   refine A3 ?_;refine A2 [2,3,4,5,6,7] ?_;refine Z75 ?_;refine A2 [2,3,4,5,6,7] ?_;exact Be (k+1) hk (by omega) (Bp rfl)
  have hke:k=5:=by simp at ht21;omega
  refine Z41 ?_;refine Ei ?_
  rw [hke,Xb]
  refine Z45 ?_;refine Z17 ?_;refine Dd ?_;exact AQ1
 have had:AKv sa a sb b=((hiW sa a sb b).1,(hiW sa a sb b).2-(loW sa a sb b).2):=if_neg (by rw [ht19];simp)
 refine Z4 ?_;refine Z42 ?_;refine Ap Tryz.call131 (ATh a b ha hb _) ?_;refine A2 [2,3,4,5,47] ?_
 refine A6 (fun ht47=>?_) (fun ht47=>?_)
 ·have hhi:(hiW sa a sb b)=(sb,b):=if_pos ht47
  have hlo:(loW sa a sb b)=(sa,a):=if_pos ht47
  refine Z1 ?_;refine Ho ?_;refine Ho ?_;refine ny ?_;refine Z15 ?_;refine Ho ?_;refine ny ?_;refine Ig ?_;refine Z2 ?_;refine A2 [2,3,4,5,9] ?_;refine Z35 ?_;refine AEt ?_
  refine Bo (α:=Nat) (fun k=>⟨78,A9 2 (.ptr (oid Hp.length 0) 0) (A9 3 (.ptr (oid Hp.length 1) 0) (A9 4 (.ptr (oid Hp.length 2) 0) (A9 5 (.ptr (oid Hp.length 3) 0) (A9 9 (F6 (bor (hiW sa a sb b).2 (loW sa a sb b).2 k:Nat)) (A9 10 (A7 (k:Nat)) (fun _=>.any)))))),Hp,[ .cells 129 (wF (hiW sa a sb b).1 (dig (hiW sa a sb b).2)),.cells 129 (wF (loW sa a sb b).1 (dig (loW sa a sb b).2)),.cells 129 [Bz false,F6 0,F6 0,F6 0,F6 0,F6 0],.cells 129 (wF (hiW sa a sb b).1 (Y1 ((hiW sa a sb b).2-(loW sa a sb b).2) k))],[],none⟩) (fun k=>k≤5) (fun k=>5-k) (0) (Al _) (Ar (by rw [rl,hhi,hlo];rfl)) rfl (fun k hx=>?_)
  refine Z9 ?_;refine A2 [2,3,4,5,9,10,54] ?_
  refine A6 (fun ht54=>?_) (fun ht54=>?_)
  ·have hk:k<5:=by simp at ht54;omega
   refine AOr ?_;refine Z80 ?_
   refine Am (h:=R7 (hy:=Y0 hk)) (hr:=?_)
   refine Am (h:=Ji) (hr:=?_)
   refine Z80 ?_
   refine Am (h:=R7 (hy:=Y0 hk)) (hr:=?_)
   refine Am (h:=N8) (hr:=?_)
   refine Z65 ?_
   refine A3 (h:=N8) (hr:=?_)
   refine A3 ?_;refine A2 [2,3,4,5,10,11] ?_;refine Ei ?_
   rw [AR3 (C5 _ k) (C5 _ k) (xd _ _ k)]
   refine Z7 ?_
   rw [f6,AA2 ALu]
   refine AMe ?_
   refine R8 jS (hput:=Xa hk) (hfit:=by simp;omega) ?_
   refine A2 [2,3,4,5,10,11] ?_;refine Z21 ?_
   rw [f7 (by have:=C5 (hiW sa a sb b).2 k;omega)]
   refine A3 (h:=N8) (hr:=?_)
   rw [ALt (by have:=C5 (hiW sa a sb b).2 k;omega),rm]
   refine A3 ?_;refine AEt ?_;refine Z75 ?_;exact AOj
  have hke:k=5:=by simp at ht54;omega
  refine Z41 ?_;refine Ei ?_
  rw [hke,Xb]
  refine Z45 ?_;exact AOx
 have hhi:(hiW sa a sb b)=(sa,a):=if_neg (by rw [ht47];simp)
 have hlo:(loW sa a sb b)=(sb,b):=if_neg (by rw [ht47];simp)
 refine ar ?_;refine A2 [2,3,4,5,9] ?_;refine Z35 ?_;refine AEt ?_
 refine Bo (α:=Nat) (fun k=>⟨78,A9 2 (.ptr (oid Hp.length 0) 0) (A9 3 (.ptr (oid Hp.length 1) 0) (A9 4 (.ptr (oid Hp.length 2) 0) (A9 5 (.ptr (oid Hp.length 3) 0) (A9 9 (F6 (bor (hiW sa a sb b).2 (loW sa a sb b).2 k:Nat)) (A9 10 (A7 (k:Nat)) (fun _=>.any)))))),Hp,[ .cells 129 (wF (hiW sa a sb b).1 (dig (hiW sa a sb b).2)),.cells 129 (wF (loW sa a sb b).1 (dig (loW sa a sb b).2)),.cells 129 [Bz false,F6 0,F6 0,F6 0,F6 0,F6 0],.cells 129 (wF (hiW sa a sb b).1 (Y1 ((hiW sa a sb b).2-(loW sa a sb b).2) k))],[],none⟩) (fun k=>k≤5) (fun k=>5-k) (0) (Al _) (Ar (by rw [rl,hhi,hlo];rfl)) rfl (fun k hx=>?_)
 refine Z9 ?_;refine A2 [2,3,4,5,9,10,54] ?_
 refine A6 (fun ht54=>?_) (fun ht54=>?_)
 ·have hk:k<5:=by simp at ht54;omega
  refine AOr ?_;refine Z80 ?_
  refine Am (h:=R7 (hy:=Y0 hk)) (hr:=?_)
  refine Am (h:=Ji) (hr:=?_)
  refine Z80 ?_
  refine Am (h:=R7 (hy:=Y0 hk)) (hr:=?_)
  refine Am (h:=N8) (hr:=?_)
  refine Z65 ?_
  refine A3 (h:=N8) (hr:=?_)
  refine A3 ?_;refine A2 [2,3,4,5,10,11] ?_;refine Ei ?_
  rw [AR3 (C5 _ k) (C5 _ k) (xd _ _ k)]
  refine Z7 ?_
  rw [f6,AA2 ALu]
  refine AMe ?_
  refine R8 jS (hput:=Xa hk) (hfit:=by simp;omega) ?_
  refine A2 [2,3,4,5,10,11] ?_;refine Z21 ?_
  rw [f7 (by have:=C5 (hiW sa a sb b).2 k;omega)]
  refine A3 (h:=N8) (hr:=?_)
  rw [ALt (by have:=C5 (hiW sa a sb b).2 k;omega),rm]
  refine A3 ?_;refine AEt ?_;refine Z75 ?_;exact AOj
 have hke:k=5:=by simp at ht54;omega
 refine Z41 ?_;refine Ei ?_
 rw [hke,Xb]
 refine Z45 ?_;exact AOx

set_option maxRecDepth 8000
/-! Multiplied digit by digit. -/
def xe (F:Nat→Nat):Nat:=F 0+4294967296*(F 1+4294967296*(F 2+4294967296*(F 3+4294967296*F 4)))
def ADa (F:Nat→Nat) (p v j:Nat):Nat:=if j=p then v else F j
theorem J5 (x y j:Nat) (hx:x<4294967296):dig (x+4294967296*y) (j+1)=dig y j:=by
 unfold dig
 rw [Nat.pow_succ,O3 (B32 ^ j),←kg,show (x+4294967296*y) / B32=y by show (x+4294967296*y) / 4294967296=y;omega]
theorem S8 (x y:Nat) (hx:x<4294967296):dig (x+4294967296*y) 0=x:=by
 unfold dig
 simp only [Nat.pow_zero,Nat.div_one]
 show (x+4294967296*y) % 4294967296=x
 omega
theorem AA3 {F:Nat→Nat} (h:∀j,F j<4294967296):∀j,j<5→dig (xe F) j=F j:=by
 intro j hj
 unfold xe
 rcases j with _|_|_|_|_|j
 ·exact S8 _ _ (h 0)
 ·rw [J5 _ _ _ (h 0)];exact S8 _ _ (h 1)
 ·rw [J5 _ _ _ (h 0),J5 _ _ _ (h 1)];exact S8 _ _ (h 2)
 ·rw [J5 _ _ _ (h 0),J5 _ _ _ (h 1),J5 _ _ _ (h 2)];exact S8 _ _ (h 3)
 ·rw [J5 _ _ _ (h 0),J5 _ _ _ (h 1),J5 _ _ _ (h 2),J5 _ _ _ (h 3)]
  have:=S8 (F 4) 0 (h 4)
  simpa using this
 omega
theorem AKw (F:Nat→Nat) (x c p:Nat) (hp:p<5):xe (ADa F p ((F p+x % 4294967296+c % 4294967296) % 4294967296))+((F p+x % 4294967296+c % 4294967296) / 4294967296+x / 4294967296+c / 4294967296)*B32 ^ (p+1)=xe F+(x+c)*B32 ^ p:=by
 unfold xe ADa B32
 rcases p with _|_|_|_|_|p
 ·simp only [Nat.reduceEqDiff,if_true,if_false,Nat.reducePow,Nat.reduceAdd,Bm];simp;omega
 ·simp only [Nat.reduceEqDiff,if_true,if_false,Nat.reducePow,Nat.reduceAdd,Bm];simp;omega
 ·simp only [Nat.reduceEqDiff,if_true,if_false,Nat.reducePow,Nat.reduceAdd,Bm];simp;omega
 ·simp only [Nat.reduceEqDiff,if_true,if_false,Nat.reducePow,Nat.reduceAdd,Bm];simp;omega
 ·simp only [Nat.reduceEqDiff,if_true,if_false,Nat.reducePow,Nat.reduceAdd,Bm];simp;omega
 omega
def dn (a b i k:Nat):Nat:=(a % B32 ^ i)*b+dig a i*(b % B32 ^ k)*B32 ^ i
structure MulAt (F:Nat→Nat) (c a b i k:Nat):Prop where
 dg:∀j,F j<4294967296
 c2:c<8589934592
 eq:xe F+c*B32 ^ (i+k)=dn a b i k
theorem ADb (a b i k:Nat):dn a b i (k+1)=dn a b i k+dig a i*dig b k*B32 ^ (i+k):=by
 unfold dn
 rw [Nx b k,Mr,Fx,Nat.pow_add]
 have:dig a i*(B32 ^ k*dig b k)*B32 ^ i=dig a i*dig b k*(B32 ^ i*B32 ^ k):=by simp only [O3,Nat.mul_left_comm,Nat.mul_assoc]
 omega
theorem AKx (a b i k:Nat):dn a b i k≤a*b:=by
 have h1:dn a b i k≤(a % B32 ^ (i+1))*b:=by
  unfold dn
  rw [Nx a i,Fx]
  have:dig a i*(b % B32 ^ k)*B32 ^ i≤B32 ^ i*dig a i*b:=by
   rw [Nat.mul_right_comm,O3 (dig a i)]
   exact km _ (Nat.mod_le _ _)
  omega
 exact Mq h1 (It _ (Nat.mod_le _ _))
theorem MulAt.start (a b:Nat):MulAt (fun _=>0) 0 a b 0 0:=⟨fun _=>by decide,by decide,by unfold dn;simp [xe,Si]⟩
theorem Jf {x y:Nat} (hx:x<4294967296) (hy:y<4294967296):x*y / 4294967296≤4294967294∧x*y<18446744073709551616:=by
 have:x*y≤4294967295*4294967295:=Nat.mul_le_mul (by omega) (by omega)
 omega
theorem MulAt.step {F:Nat→Nat} {c a b i k:Nat} (h:MulAt F c a b i k) (hp:i+k<5):MulAt (ADa F (i+k) ((F (i+k)+dig a i*dig b k % 4294967296+c % 4294967296) % 4294967296)) ((F (i+k)+dig a i*dig b k % 4294967296+c % 4294967296) / 4294967296+dig a i*dig b k / 4294967296+c / 4294967296) a b i (k+1):=by
 have hx:=Jf (C5 a i) (C5 b k)
 have hf:=h.dg (i+k)
 have hc:=h.c2
 refine ⟨fun j=>?_,by omega,?_⟩
 ·unfold ADa
  split
  ·exact Ja _ (by decide)
  exact h.dg j
 have:=AKw F (dig a i*dig b k) c (i+k) hp
 rw [ADb,←h.eq]
 rw [show i+(k+1)=i+k+1 by omega,this,Fx]
 omega
theorem MulAt.idx {F:Nat→Nat} {c a b i k:Nat} (h:MulAt F c a b i k) (ha:a<B32 ^ 2) (hb:b<B32 ^ 2) (hi:i<2) (hc:k<2∨0<c):i+k<4:=by
 rcases Aw (i+k) 4 with h1|h1
 ·exact h1
 exfalso
 have hk:0<c:=by omega
 have h2:B32 ^ 4≤B32 ^ (i+k):=Yp (by decide) h1
 have h3:B32 ^ (i+k)≤c*B32 ^ (i+k):=Ui _ hk
 have h4:=AKx a b i k
 have h5:a*b<B32 ^ 2*B32 ^ 2:=Nat.mul_lt_mul'' ha hb
 rw [←Nat.pow_add] at h5
 have h6:=h.eq
 have:B32 ^ (2+2)=B32 ^ 4:=rfl
 omega
theorem MulAt.next {F:Nat→Nat} {a b i k:Nat} (h:MulAt F 0 a b i k) (hb:b<B32 ^ 2) (hk:2≤k):MulAt F 0 a b (i+1) 0:=by
 refine ⟨h.dg,by decide,?_⟩
 have h1:=h.eq
 rw [Ys] at h1 ⊢
 rw [h1]
 unfold dn
 have h2:b % B32 ^ k=b:=Yo (D7 hb (Yp (by decide) hk))
 rw [h2,Nx a i,Nat.pow_zero,Si,Nat.mul_zero,Ys,Nat.add_zero,Fx]
 have:dig a i*b*B32 ^ i=B32 ^ i*dig a i*b:=by rw [Nat.mul_right_comm,O3 (dig a i)]
 omega
theorem MulAt.done {F:Nat→Nat} {a b:Nat} (h:MulAt F 0 a b 2 0) (ha:a<B32 ^ 2):∀j,j<5→F j=dig (a*b) j:=by
 intro j hj
 have h1:=h.eq
 have h2:dn a b 2 0=a*b:=by
  unfold dn
  rw [Yo ha,Nat.pow_zero,Si]
  simp
 rw [h2,Ys,Nat.add_zero] at h1
 rw [←h1]
 exact (AA3 h.dg j hj).symm
set_option maxRecDepth 4000
theorem AR4 {x y:Nat} (hx:x<4294967296) (hy:y<4294967296):IntKind.u64.wrap ((x:Int)*(y:Int))=((x*y:Nat):Int):=by
 have:=Jf hx hy
 rw [IntKind.wrap_u64,show (x:Int)*(y:Int)=((x*y:Nat):Int) by simp]
 omega
theorem ALv {x:Nat} (h:x=0):(0:Int).tmod 4294967296=((x % 4294967296:Nat):Int):=by subst h;rfl
theorem ALw {x:Nat} (h:x=0):IntKind.u64.wrap ((0:Int).tdiv 4294967296)=((x / 4294967296:Nat):Int):=by subst h;rfl
theorem ADc {b k:Nat} (hb:b<B32 ^ 2) (hk:2≤k):dig b k=0:=Iw (D7 hb (Yp (by decide) hk))
theorem c95 (sa:Bool) (a:Nat) (sb:Bool) (b:Nat) (ha:a<B32 ^ 2) (hb:b<B32 ^ 2) (Hp:List AObj):AFun Tryz.prog 95 [.agg (wF sa (dig a)),.agg (wF sb (dig b))] Hp (.agg (wF (sa != sb) (dig (a*b)))):=by
 refine B0 [.cell 4 129] [0,1] Tryz.func95 Tryz.ntmps95 (fun d=>?_)
 refine Z1 ?_;refine Ka jZ ?_;refine A2 [2,3,4] ?_;refine Z1 ?_;refine Z7 ?_;refine Z70 ?_;refine ny ?_;refine Z35 ?_;refine A2 [2,3,4,5,6] ?_
 refine Bo (α:=Nat×(Nat→Nat)) (fun x=>⟨68,A9 2 (.ro (wF sa (dig a))) (A9 3 (.ro (wF sb (dig b))) (A9 4 (.ptr (oid Hp.length 0) 0) (A9 5 (.ptr (oid Hp.length 1) 0) (A9 6 (A7 (x.1:Nat)) (fun _=>.any))))),Hp,[ .cells 129 [Bz false,F6 0,F6 0,F6 0,F6 0,F6 0],.cells 129 (wF (sa != sb) (x.2))],[],none⟩) (fun x=>x.1≤2∧MulAt x.2 0 a b x.1 0) (fun x=>2-x.1) ((0,fun _=>0)) ⟨Al _,.start a b⟩ (Ar rfl) rfl (fun x hx=>?_)
 obtain ⟨i,F0⟩:=x
 simp only at hx ⊢
 refine Z9 ?_;refine A2 [2,3,4,5,6,18] ?_
 refine A6 (fun ht18=>?_) (fun ht18=>?_)
 ·have hi:i<2:=by simp at ht18;omega
  refine Z56 ?_;refine Z2 ?_;refine A2 [2,3,4,5,6,7] ?_;refine Z2 ?_;refine AEu ?_
  refine Bo (α:=Nat×Nat×(Nat→Nat)) (fun y=>⟨68,A9 2 (.ro (wF sa (dig a))) (A9 3 (.ro (wF sb (dig b))) (A9 4 (.ptr (oid Hp.length 0) 0) (A9 5 (.ptr (oid Hp.length 1) 0) (A9 6 (A7 (i:Nat)) (A9 7 (F6 (y.2.1:Nat)) (A9 8 (A7 (y.1:Nat)) (fun _=>.any))))))),Hp,[ .cells 129 [Bz false,F6 0,F6 0,F6 0,F6 0,F6 0],.cells 129 (wF (sa != sb) (y.2.2))],[],none⟩) (fun y=>MulAt y.2.2 y.2.1 a b i y.1) (fun y=>5-(i+y.1)) ((0,0,F0)) hx.2 (Ar rfl) rfl (fun y hm=>?_)
  obtain ⟨k,c,F⟩:=y
  simp only at hm ⊢
  refine Z50 ?_;refine Z77 ?_;refine A2 [2,3,4,5,6,7,8,26] ?_
  refine A6 (fun ht26=>?_) (fun ht26=>?_)
  ·have hp4:=hm.idx ha hb hi (by have h26:=ht26;simp at h26;omega)
   refine Z56 ?_;refine Z2 ?_;refine A2 [2,3,4,5,6,7,8,9] ?_;refine Z9 ?_;refine A2 [2,3,4,5,6,7,8,9,30] ?_
   refine A6 (fun ht30=>?_) (fun ht30=>?_)
   ·have hk2:k<2:=by simp at ht30;omega
    refine W.drawQ0 [0,0,3,7,0,0,48,112,255,511] 8 Af (by kernel_rfl) ?_;refine Z5 ?_;refine uc (i) jU Tryz.sizeOf126 (by omega) (hoff:=Vy (by omega)) ?_;refine Z19 ?_;refine uc (k) jU Tryz.sizeOf126 (by omega) (hoff:=Vy (by omega)) ?_;refine Z65 ?_;refine Z0 ?_;refine A2 [2,3,4,5,6,7,8,9] ?_;refine Ig ?_;refine Ei ?_
    first|rw [AR4 (C5 a i) (C5 b k)]|skip
    refine APd ?_
    refine A3 (h:=R7 (hy:=Y0 (by omega))) (hr:=?_)
    refine Z0 ?_
    first|rw [f6 (dig a i*dig b k)]|rw [ALv hz]
    refine A3 (h:=Ji) (hr:=?_)
    refine Z0 ?_
    rw [f6 c]
    refine A3 (h:=Ji) (hr:=?_)
    refine A3 ?_;refine AIx ?_;refine Ei ?_
    rw [AD9 (by have:=Jf (C5 a i) (C5 b k);have:=hm.dg (i+k);have:=hm.c2;omega)]
    refine Z89 ?_
    rw [f6 (F (i+k)+dig a i*dig b k % 4294967296+c % 4294967296)]
    refine APc ?_
    refine R8 jS (hput:=mg (g:=ADa F (i+k) ((F (i+k)+dig a i*dig b k % 4294967296+c % 4294967296) % 4294967296)) (by omega) (if_pos rfl) (fun j hj=>if_neg hj)) (hfit:=by simp;omega) ?_
    refine AIx ?_;refine Z21 ?_
    rw [f7 (x:=(F (i+k)+dig a i*dig b k % 4294967296+c % 4294967296)) (by have:=Jf (C5 a i) (C5 b k);have:=hm.dg (i+k);have:=hm.c2;omega)]
    refine Z0 ?_
    first|rw [f7 (x:=dig a i*dig b k) (Jf (C5 a i) (C5 b k)).2]|rw [ALw hz]
    refine A3 (h:=Ji) (hr:=?_)
    refine Z0 ?_
    rw [f7 (x:=c) (by have:=Jf (C5 a i) (C5 b k);have:=hm.dg (i+k);have:=hm.c2;omega)]
    refine A3 (h:=Ji) (hr:=?_)
    rw [AD9 (by have:=Jf (C5 a i) (C5 b k);have:=hm.dg (i+k);have:=hm.c2;omega)]
    refine A3 ?_;refine AEu ?_;refine Z75 ?_;refine AEu ?_
    refine Be (k+1,_,_) (hm.step (by omega)) (by show 5-(i+(k+1))<5-(i+k);omega) (Bp rfl)
   have hk2:2≤k:=by simp at ht30;omega
   have hz:dig a i*dig b k=0:=by rw [ADc hb hk2,Nat.mul_zero]
   refine Y8 ?_
   first|rw [AR4 (C5 a i) (C5 b k)]|skip
   refine APd ?_
   refine A3 (h:=R7 (hy:=Y0 (by omega))) (hr:=?_)
   refine Z0 ?_
   first|rw [f6 (dig a i*dig b k)]|rw [ALv hz]
   refine A3 (h:=Ji) (hr:=?_)
   refine Z0 ?_
   rw [f6 c]
   refine A3 (h:=Ji) (hr:=?_)
   refine A3 ?_;refine AIx ?_;refine Ei ?_
   rw [AD9 (by have:=Jf (C5 a i) (C5 b k);have:=hm.dg (i+k);have:=hm.c2;omega)]
   refine Z89 ?_
   rw [f6 (F (i+k)+dig a i*dig b k % 4294967296+c % 4294967296)]
   refine APc ?_
   refine R8 jS (hput:=mg (g:=ADa F (i+k) ((F (i+k)+dig a i*dig b k % 4294967296+c % 4294967296) % 4294967296)) (by omega) (if_pos rfl) (fun j hj=>if_neg hj)) (hfit:=by simp;omega) ?_
   refine AIx ?_;refine Z21 ?_
   rw [f7 (x:=(F (i+k)+dig a i*dig b k % 4294967296+c % 4294967296)) (by have:=Jf (C5 a i) (C5 b k);have:=hm.dg (i+k);have:=hm.c2;omega)]
   refine Z0 ?_
   first|rw [f7 (x:=dig a i*dig b k) (Jf (C5 a i) (C5 b k)).2]|rw [ALw hz]
   refine A3 (h:=Ji) (hr:=?_)
   refine Z0 ?_
   rw [f7 (x:=c) (by have:=Jf (C5 a i) (C5 b k);have:=hm.dg (i+k);have:=hm.c2;omega)]
   refine A3 (h:=Ji) (hr:=?_)
   rw [AD9 (by have:=Jf (C5 a i) (C5 b k);have:=hm.dg (i+k);have:=hm.c2;omega)]
   refine A3 ?_;refine AEu ?_;refine Z75 ?_;refine AEu ?_
   refine Be (k+1,_,_) (hm.step (by omega)) (by show 5-(i+(k+1))<5-(i+k);omega) (Bp rfl)
  have hkc:2≤k∧c=0:=by simp at ht26;omega
  obtain ⟨hk2,hc0⟩:=hkc
  subst hc0
  refine AB8 ?_;refine Z75 ?_;refine A2 [2,3,4,5,6] ?_
  refine Be (i+1,F) ⟨hi,hm.next hb hk2⟩ (by show 2-(i+1)<2-i;omega) (Bp rfl)
 have hie:i=2:=by have:=hx.1;simp at ht18;omega
 have hF:=MulAt.done (hie ▸ hx.2) ha
 refine uk ?_;refine np ?_;exact Ab (Ao (B5 jA jS)) ⟨by rw [hF 0 (by decide),hF 1 (by decide),hF 2 (by decide),hF 3 (by decide),hF 4 (by decide)],rfl⟩

/-- A wide number as a number of 64 bits. -/
def Mk (s:Bool) (m:Nat):Int×Int:=if (s&&decide (m≤9223372036854775808))=true then (-(m:Int),0) else if ((!s)&&decide (m≤9223372036854775807))=true then ((m:Int),0) else (0,4)
theorem AHg {x y:Nat} (hx:x<4294967296) (hy:y<4294967296):IntKind.u64.wrap (IntKind.u64.wrap ((y:Int)*4294967296)+(x:Int))=((x+4294967296*y:Nat):Int):=by
 simp only [IntKind.wrap_u64];omega
theorem ADd {m:Nat} (hm:m<B32 ^ 5) (h:(decide (0<((dig m 2+dig m 3+dig m 4:Nat):Int)) || decide (4294967296≤((dig m 1:Nat):Int)))=true):18446744073709551616≤m:=by
 rcases Aw m 18446744073709551616 with h1|h1
 ·exfalso
  have e2:dig m 2=0:=Iw (D7 h1 (by decide))
  have e3:dig m 3=0:=Iw (D7 h1 (by decide))
  have e4:dig m 4=0:=Iw (D7 h1 (by decide))
  have:=C5 m 1
  rw [e2,e3,e4] at h
  simp at h
  omega
 exact h1
theorem ADe {m:Nat} (hm:m<B32 ^ 5) (h:(decide (0<((dig m 2+dig m 3+dig m 4:Nat):Int)) || decide (4294967296≤((dig m 1:Nat):Int)))=false):dig m 0+4294967296*dig m 1=m:=by
 simp only [Hb,decide_eq_false_iff_not] at h
 have h2:dig m 2=0:=by omega
 have h3:dig m 3=0:=by omega
 have h4:dig m 4=0:=by omega
 have e:=AA3 (F:=dig m) (fun j=>C5 m j)
 have m0:=Sh m 4294967296
 have m1:=Sh (m / 4294967296) 4294967296
 unfold dig at *
 simp only [B32,Nat.reducePow,Nat.div_one,Nat.pow_zero,Nat.pow_one] at *
 omega
theorem AKy {s:Bool} {m:Nat} (h:18446744073709551616≤m):Mk s m=(0,4):=by
 unfold Mk
 rw [if_neg (by simp;omega),if_neg (by simp;omega)]
theorem AR5 {u:Nat} (h:u≤9223372036854775808):IntKind.i64.wrap (IntKind.u64.wrap (0-(u:Int))) = -(u:Int):=by
 simp only [IntKind.wrap_u64,IntKind.wrap_i64];omega
theorem AR6 {u:Nat} (h:u≤9223372036854775807):IntKind.i64.wrap (u:Int)=(u:Int):=by
 simp only [IntKind.wrap_i64];omega
theorem c96 (s:Bool) (m:Nat) (hm:m<B32 ^ 5) (Hp:List AObj):AFun Tryz.prog 96 [.agg (wF s (dig m))] Hp (.tup [A7 (Mk s m).1,A7 (Mk s m).2]):=by
 refine B0 [.tmp 2,.tmp 3] [0] Tryz.func96 Tryz.ntmps96 (fun d=>?_)
 refine Z16 ?_;refine A2 [1] ?_;refine Z2 ?_;refine al (1) jU Tryz.sizeOf126 (by decide) (hoff:=Vy (by decide)) ?_;refine Z7 ?_;refine al (0) jU Tryz.sizeOf126 (by decide) (hoff:=Vy (by decide)) ?_;refine A3 ?_
 refine A3 (h:=Ji) (hr:=?_)
 rw [AHg (C5 m 0) (C5 m 1)]
 refine A3 ?_;refine A2 [1,4] ?_;refine Z35 ?_;refine al (2) jU Tryz.sizeOf126 (by decide) (hoff:=Vy (by decide)) ?_;refine Z0 ?_;refine al (3) jU Tryz.sizeOf126 (by decide) (hoff:=Vy (by decide)) ?_;refine A3 ?_
 refine A3 (h:=Ji) (hr:=?_)
 refine A3 ?_;refine al (4) jU Tryz.sizeOf126 (by decide) (hoff:=Vy (by decide)) ?_;refine A3 ?_
 refine A3 (h:=Ji) (hr:=?_)
 rw [AD9 (by have:=C5 m 2;have:=C5 m 3;have:=C5 m 4;omega)]
 refine Wg ?_;refine G.indexArrRo (1) jU Tryz.sizeOf126 (by decide) (hoff:=Vy (by decide)) ?_;refine Z77 ?_;refine A2 [1,4,30] ?_
 refine A6 (fun ht30=>?_) (fun ht30=>?_)
 ·have hw:=AKy (s:=s) (ADd hm ht30)
  refine Z1 ?_;exact AM8
 have hu:=ADe hm ht30
 rw [hu]
 refine Z4 ?_;refine Z50 ?_;refine Z77 ?_;refine A2 [1,4,36] ?_
 refine A6 (fun ht36=>?_) (fun ht36=>?_)
 ·have hw:Mk s m=(-(m:Int),0):=if_pos (by simp at ht36 ⊢;exact ⟨ht36.1,by omega⟩)
  refine Z2 ?_
  refine A3 (h:=N8) (hr:=?_)
  refine A3 ?_
  rw [AR5 (by simp at ht36;omega)]
  refine Z0 ?_;exact AM8
 refine Z4 ?_;refine Z9 ?_;refine Z30 ?_;refine A3 ?_;refine A2 [4,46] ?_
 refine A6 (fun ht46=>?_) (fun ht46=>?_)
 ·have hw:Mk s m=((m:Int),0):=by
   unfold Mk
   rw [if_neg (by simp at ht46 ⊢;simp [ht46.1]),if_pos (by simp at ht46 ⊢;exact ⟨ht46.1,by omega⟩)]
  refine Z1 ?_
  rw [AR6 (by simp at ht46;omega)]
  refine Z0 ?_;exact AM8
 have hw:Mk s m=(0,4):=by
  unfold Mk
  rw [if_neg (by simp at ht36 ⊢;intro hs;have:=ht36 hs;omega),if_neg (by simp at ht46 ⊢;intro hs;have:=ht46 hs;omega)]
 refine nw ?_;refine Z14 ?_;exact Ab (Es Ag Ag) ⟨by rw [hw],rfl⟩

set_option maxRecDepth 8000
/-! The reference's reading of a number. -/
def rdS (x:Nat×Bool) (c:UInt8):Nat×Bool:=if x.2 then x else (x.1*10+(c.toNat-48),decide (18446744073709551616≤x.1*10+(c.toNat-48)))
def rdL (d:Str):Nat×Bool:=d.foldl rdS (0,false)
def Vz (c:UInt8):Bool:=(decide (48≤c.toNat)&&decide (c.toNat≤57))
theorem mh:∀(l:Str) (m:Nat),l.foldl rdS (m,true)=(m,true)
 | [],m=>rfl
 | c::r,m=>mh r m
theorem AA4 {d:Str} {i:Nat} (h:i<d.length):rdL (d.take (i+1))=rdS (rdL (d.take i)) d[i]:=by
 unfold rdL
 rw [Ld h,jx]
 rfl
theorem AHh {l:Str} (hl:∀c∈l,Vz c=true):∀x:Nat×Bool,(x.2=false→x.1<18446744073709551616)→(l.foldl rdS x).2=false→(l.foldl rdS x).1<18446744073709551616:=by
 induction l with
 | nil=>exact fun x h h2=>h h2
 | cons c r ih =>
  intro x h h2
  refine ih (fun y hy=>hl y (O1 _ hy)) (rdS x c) (fun h3=>?_) h2
  unfold rdS at h3 ⊢
  split
  ·rename_i h4;rw [if_pos h4] at h3;rw [h4] at h3;cases h3
  rename_i h4;rw [if_neg h4] at h3;simp at h3;simpa using h3
theorem rn:∀(l:Str) (m:Nat),(∀c∈l,Vz c=true)→m<18446744073709551616→Lib.parseUintM 18446744073709551615 m l=if (l.foldl rdS (m,false)).2=true then .range else .ok (l.foldl rdS (m,false)).1
 | [],m,_,_=>by rw [Lib.parseUintM];rfl
 | c::r,m,h,hm=>by
  have hc:=h c (by simp)
  unfold Vz at hc
  simp only [Ah,decide_eq_true_eq] at hc
  have hr:=fun y hy=>h y (O1 _ hy)
  have e:(c::r).foldl rdS (m,false)=r.foldl rdS (m*10+(c.toNat-48),decide (18446744073709551616≤m*10+(c.toNat-48))):=rfl
  rw [Lib.parseUintM,if_pos hc,e]
  by_cases h1:1844674407370955162≤m
  ·rw [if_pos h1,decide_eq_true (by omega),mh,if_pos rfl]
  rw [if_neg h1]
  by_cases h2:18446744073709551615<m*10+(c.toNat-48)
  ·rw [if_pos h2,decide_eq_true (by omega),mh,if_pos rfl]
  rw [if_neg h2,decide_eq_false (by omega)]
  exact rn r _ hr (by omega)
theorem AA5 (c:UInt8):Vz c=digs.contains c:=(Oq c).symm
/-- What is wrong with a text that is no number. -/
theorem AKz {s d:Str} (hd:d=Ng s) (h:((((d.length:Nat):Int)==0) || (decide ((1:Int)<((s.length:Nat):Int))&&(((d.headD 0).toNat:Int)==48)))=true):B6 s=(0,6):=by
 have:Gn s=true:=by
  unfold Gn
  rw [←hd]
  simp only [Cz,Ah,beq_iff_eq,decide_eq_true_eq] at h
  rcases h with h|⟨h1,h2⟩
  ·have:d=[]:=Qu (by omega)
   rw [this];rfl
  have e:d.headD 0=48:=F5.1 (by have:(48:UInt8).toNat=48:=rfl;omega)
  rw [e,decide_eq_true (by omega)]
  simp
 unfold B6
 rw [if_pos this]
theorem AL0 {s d:Str} (hd:d=Ng s) {i:Nat} (hi:i<d.length) (h:(decide (((d[i].toNat:Nat):Int)<48) || decide ((57:Int)<((d[i].toNat:Nat):Int)))=true):B6 s=(0,6):=by
 have:Gn s=true:=by
  unfold Gn
  rw [←hd]
  cases hb:Lib.trimS d digs==[] with
  | false=>simp
  | true =>
   exfalso
   have hb':=trimS_nil.1 (eq_of_beq hb) d[i] (D4 hi)
   rw [←AA5] at hb'
   unfold Vz at hb'
   simp only [Ah,decide_eq_true_eq] at hb'
   simp only [Cz,decide_eq_true_eq] at h
   omega
 unfold B6
 rw [if_pos this]
theorem AA6 {s d:Str} (hd:d=Ng s) (h:((((d.length:Nat):Int)==0) || (decide ((1:Int)<((s.length:Nat):Int))&&(((d.headD 0).toNat:Int)==48)))=false) (ha:∀c∈d,Vz c=true):B6 s=if (rdL d).2=true then (0,4) else Mk (decide (((d.length:Nat):Int)<((s.length:Nat):Int))) (rdL d).1:=by
 simp only [Hb,sj,beq_eq_false_iff_ne,ne_eq,decide_eq_false_iff_not] at h
 have hne:d≠[]:=fun e=>h.1 (by rw [e];rfl)
 have hg:Gn s=false:=by
  unfold Gn
  rw [←hd]
  have h1:(d==[])=false:=by simpa using hne
  have h2:(Lib.trimS d digs==[])=true:=by
   have:=trimS_nil.2 (fun b hb=>by rw [←AA5];exact ha b hb)
   simpa using this
  have h3:((d.headD 0==48)&&decide (1<s.length))=false:=by
   rw [sj]
   rcases h.2 with h4|h4
   ·exact .inr (decide_eq_false (by omega))
   refine .inl ?_
   rw [beq_eq_false_iff_ne]
   intro e
   rw [e] at h4
   exact h4 rfl
  rw [h1,h2,h3]
  rfl
 have hl:=AHh ha (0,false) (fun _=>by decide)
 have hp:=rn d 0 ha (by decide)
 have hU:Lib.parseUintB 64 d=if (rdL d).2=true then .range else .ok (rdL d).1:=by
  unfold Lib.parseUintB
  rw [if_neg hne]
  exact hp
 unfold B6
 rw [hg,if_neg (by simp)]
 have p1:(2:Nat) ^ (64-1)=9223372036854775808:=rfl
 rcases Lp s with ⟨h3,h4⟩|⟨r,h3,h4⟩
 ·have e:d=s:=hd.trans h4
  subst e
  cases d with
  | nil=>exact absurd rfl hne
  | cons c r =>
   have hc:=ha c (by simp)
   unfold Vz at hc
   simp only [Ah,decide_eq_true_eq] at hc
   have n1:¬(c.toNat=43∨c.toNat=45):=by omega
   have n2:¬c.toNat=45:=by omega
   simp only [Lib.parseIntB,if_neg n1,hU]
   cases ho:(rdL (c::r)).2 with
   | true=>simp
   | false =>
    have hm:=hl ho
    simp only [B1,if_false]
    rw [decide_eq_false (show ¬(((c::r).length:Nat):Int)<(((c::r).length:Nat):Int) by omega)]
    unfold Mk
    simp only [n2,not_false_eq_true,true_and,false_and,if_false,N4,N5,D0,B1,decide_eq_true_eq]
    by_cases hx:2 ^ (64-1)≤(rdL (c::r)).1
    ·rw [if_pos hx,if_neg (by omega)]
    rw [if_neg hx,if_pos (by omega)]
 have e:d=r:=hd.trans h4
 subst e
 subst h3
 have n1:((45:UInt8).toNat=43∨(45:UInt8).toNat=45):=.inr rfl
 have n2:(45:UInt8).toNat=45:=rfl
 simp only [Lib.parseIntB,if_pos n1,hU]
 cases ho:(rdL d).2 with
 | true=>simp
 | false =>
  have hm:=hl ho
  simp only [B1,if_false]
  rw [decide_eq_true (show ((d.length:Nat):Int)<(((45::d:Str).length:Nat):Int) by simp;omega)]
  unfold Mk
  simp only [n2,not_true_eq_false,true_and,false_and,if_false,if_true,Hu,N4,D0,B1,decide_eq_true_eq]
  by_cases hx:2 ^ (64-1)<(rdL d).1
  ·rw [if_pos hx,if_neg (by omega)]
  rw [if_neg hx,if_pos (by omega)]
set_option maxRecDepth 4000
theorem gd1 {s:Str} (h:(decide ((0:Int)<((s.length:Nat):Int))==true)=true):s≠[]:=by rintro rfl;simp at h
theorem gd2 {d:Str} {b:Bool} (h:(((((d.length:Nat):Int)==0)==false)&&b)=true):d≠[]:=by rintro rfl;simp at h
theorem AR7 (a b:Nat) (ha:a<B32 ^ 5) (hb:b<B32 ^ 5) (Hp:List AObj):AFun Tryz.prog 94 [.agg (wF false (dig a)),.agg (wF false (dig b))] Hp (.agg (wF false (dig (a+b)))):=c94 false a false b ha hb Hp
theorem ATi (a b:Nat) (ha:a<B32 ^ 2) (hb:b<B32 ^ 2) (Hp:List AObj):AFun Tryz.prog 95 [.agg (wF false (dig a)),.agg (wF false (dig b))] Hp (.agg (wF false (dig (a*b)))):=c95 false a false b ha hb Hp
theorem ATj (Hp:List AObj):AFun Tryz.prog 93 [A7 10] Hp (.agg (wF false (dig 10))):=ATg 10 (by decide) (by decide) Hp
theorem AA7 {p q:Nat} (hp:p<256) (hq:q<256):Ca (wF false (dig p)) 1 [F6 (q:Nat)]=wF false (dig q):=by
 have h0:dig q 0=q:=by rw [ALs];omega
 refine mg (k:=0) (by decide) h0 fun i hi=>?_
 have hb:B32 ^ 1≤B32 ^ i:=Yp (by decide) (by omega)
 have hb1:(256:Nat)≤B32 ^ 1:=by decide
 rw [Iw (m:=q) (i:=i) (by omega),Iw (m:=p) (i:=i) (by omega)]
theorem AA8:wF false (dig 0)=[Bz false,F6 0,F6 0,F6 0,F6 0,F6 0]:=by
 have:∀i,dig 0 i=0:=fun i=>by unfold dig;simp
 unfold wF
 rw [this,this,this,this,this]
 rfl
theorem w48 {c:UInt8} (h:48≤c.toNat):IntKind.u64.wrap (IntKind.u64.wrap ((c.toNat:Nat):Int)-48)=((c.toNat-48:Nat):Int):=by
 have:=c.toNat_lt
 simp only [IntKind.wrap_u64]
 omega
theorem rp {m:Nat} (h:m<B32 ^ 3):decide (0<((dig m 2:Nat):Int))=decide (18446744073709551616≤m):=by
 rw [decide_eq_decide]
 unfold dig
 simp only [B32,Nat.reducePow] at h ⊢
 omega
structure RdAt (d:Str) (x:Nat×Nat):Prop where
 le:x.1≤d.length
 dg:∀(j:Nat) (c:UInt8),j<x.1→d[j]? = some c→Vz c=true
 one:x.2<256
theorem RdAt.low {d:Str} {x:Nat×Nat} (h:RdAt d x) (ho:(rdL (d.take x.1)).2=false):(rdL (d.take x.1)).1<18446744073709551616:=by
 refine AHh (l:=d.take x.1) (fun c hc=>?_) (0,false) (fun _=>by decide) ho
 obtain ⟨j,hj⟩:=Dp hc
 have hj1:j<x.1:=by
  have:=(Aa.1 hj).1
  rw [J6] at this
  omega
 rw [Ib,if_pos hj1] at hj
 exact h.dg j c hj1 hj
theorem c54 (s:Str) (hs:s.length≤1048576) (Hp:List AObj):AFun Tryz.prog 54 [Ac s] Hp (.tup [A7 (B6 s).1,A7 (B6 s).2]):=by
 refine B0 [.tmp 2,.tmp 3] [0] Tryz.func54 Tryz.ntmps54 (fun d=>?_)
 refine Z1 ?_;refine A2 [0] ?_;refine Z1 ?_;refine A2 [0,4] ?_;refine Z42 ?_;refine Bk ?_
 refine Bk (h:=F8 0 (s.headD 0) (fun hB=>P4 (gd1 hB))) (hr:=?_)
 refine Z55 ?_;refine A2 [0,4,18] ?_
 refine A6 (fun ht18=>?_) (fun ht18=>?_)
 ·have h45:s.headD 0=45:=by
   simp only [Ah,decide_eq_true_eq,beq_iff_eq] at ht18
   exact F5.1 (by have:(45:UInt8).toNat=45:=rfl;have:=ht18.2;omega)
  have h1s:1≤s.length:=by simp only [Ah,decide_eq_true_eq] at ht18;have:=ht18.1;omega
  obtain ⟨d,hd0⟩:∃d,d=s.drop 1:=⟨_,rfl⟩
  have hd:d=Ng s:=by
   rw [hd0]
   rcases Lp s with ⟨h3,h4⟩|⟨r,h3,h4⟩
   ·exfalso
    cases s with
    | nil=>simp at h1s
    | cons c r=>simp at h3 h45;exact h3 h45
   rw [h4,h3];rfl
  have hdl:d.length≤1048576:=by rw [hd0,Dh];omega
  refine Z32 ?_
  refine A3 (h:=Q.scutL 1 (fun _=>h1s) (fun _=>Ae _)) (hr:=?_)
  refine A3 ?_;refine A2 [0,4] ?_;refine Ig ?_;refine Z71 ?_
  refine Ga 4 (Ac d) (by rw [hd0];exact Le.refl _) ?_
  refine Z0 ?_;refine Z48 ?_;refine Bk ?_
  refine Bk (h:=F8 0 (d.headD 0) (fun hB=>P4 (gd2 hB))) (hr:=?_)
  refine Z77 ?_;refine A2 [0,4,33] ?_
  refine A6 (fun ht33=>?_) (fun ht33=>?_)
  ·exact AIp
  refine Y8 ?_;refine Z70 ?_;refine A2 [0,4,5] ?_;refine Z2 ?_;refine A2 [0,4,5,6] ?_;refine Ei ?_;refine AOy ?_;refine Ka jZ ?_;refine Z11 ?_;refine Ho ?_;refine A2 [0,4,5,6,7,8] ?_;refine Z35 ?_;refine eh ?_
  refine Bo (α:=Nat×Nat) (fun x=>⟨82,A9 0 (Ac s) (A9 4 (Ac d) (A9 5 (.ptr (oid Hp.length 0) 0) (A9 6 (Bz (rdL (d.take x.1)).2) (A9 7 (.ptr (oid Hp.length 1) 0) (A9 8 (.ptr (oid Hp.length 2) 0) (A9 9 (A7 (x.1:Nat)) (fun _=>.any))))))),Hp,[ .cells 129 (wF false (dig (rdL (d.take x.1)).1)),.cells 129 (wF false (dig 10)),.cells 129 (wF false (dig x.2))],[],none⟩) (fun x=>RdAt d x) (fun x=>d.length-x.1) ((0,0)) ⟨Al _,fun j c hj=>by omega,by decide⟩ (Ar (by simp only [List.take_zero,show rdL []=(0,false) from rfl,AA8]<;>rfl)) rfl (fun x hx=>?_)
  obtain ⟨i,p⟩:=x
  simp only at hx ⊢
  refine Z42 ?_;refine A2 [0,4,5,6,7,8,9,40] ?_
  refine A6 (fun ht40=>?_) (fun ht40=>?_)
  ·have hil:i<d.length:=by simp at ht40;omega
   refine Z56 ?_;refine Z9 ?_
   refine A3 (h:=F8 i d[i] (fun _=>Ak hil)) (hr:=?_)
   refine Z30 ?_
   refine Bk (h:=F8 i d[i] (fun _=>Ak hil)) (hr:=?_)
   refine Z55 ?_;refine A2 [0,4,5,6,7,8,9,52] ?_
   refine A6 (fun ht52=>?_) (fun ht52=>?_)
   ·refine uf ?_;refine Z46 ?_;exact Z34
   have hdc:48≤d[i].toNat∧d[i].toNat≤57:=by
    simp only [Hb,decide_eq_false_iff_not] at ht52
    omega
   have hnx:=AA4 hil
   refine nw ?_
   refine A3 (h:=F8 i d[i] (fun _=>Ak hil)) (hr:=?_)
   refine A3 ?_
   refine A3 (h:=N8) (hr:=?_)
   rw [w48 hdc.1]
   refine A3 ?_;refine AIw ?_
   refine R8 jS (hput:=AA7 hx.one (q:=(d[i].toNat-48)) (by have:=(d[i]).toNat_lt;omega)) (hfit:=by simp) ?_
   refine eh ?_;refine Z1 ?_;refine A2 [0,4,5,6,7,8,9,61] ?_
   refine A6 (fun ht61=>?_) (fun ht61=>?_)
   ·have ho:(rdL (d.take i)).2=false:=by simpa using ht61
    have hml:=hx.low ho
    simp only at hml
    have hm2:(rdL (d.take i)).1<B32 ^ 2:=hml
    have hm5:(rdL (d.take i)).1*10<B32 ^ 5:=D7 (show (rdL (d.take i)).1*10<184467440737095516170 by omega) (by decide)
    have hm3:(rdL (d.take i)).1*10+(d[i].toNat-48)<B32 ^ 3:=D7 (show (rdL (d.take i)).1*10+(d[i].toNat-48)<184467440737095516170 by omega) (by decide)
    have hst:rdL (d.take (i+1))=((rdL (d.take i)).1*10+(d[i].toNat-48),decide (18446744073709551616≤(rdL (d.take i)).1*10+(d[i].toNat-48))):=by rw [hnx];exact if_neg (by rw [ho];simp)
    refine Gb [0,0,3,0,15,31] 4 Af (by kernel_rfl) ?_;refine Z5 ?_;refine APg ?_
    refine Ap Tryz.call94 (AR7 ((rdL (d.take i)).1*10) (d[i].toNat-48) hm5 (D7 (show (d[i].toNat-48)<256 by have:=(d[i]).toNat_lt;omega) (by decide)) _) ?_
    refine Ho ?_;refine A2 [0,4,5,7,8,9] ?_;refine Z32 ?_;refine Rf (2) jU Tryz.sizeOf126 (by decide) ?_;refine Z0 ?_
    rw [rp hm3]
    refine A3 ?_;refine eh ?_;refine Z75 ?_;refine eh ?_
    refine Be (i+1,(d[i].toNat-48)) ⟨hil,fun j c hj hc=>?_,by have:=(d[i]).toNat_lt;show d[i].toNat-48<256;omega⟩ (by show d.length-(i+1)<d.length-i;omega) (Bp (by rw [hst]<;>rfl))
    rcases Aw j i with h|h
    ·exact hx.dg j c h hc
    have:j=i:=by have hj':j<i+1:=hj;omega
    subst this
    rw [Ak hil] at hc
    injection hc with hc
    rw [←hc]
    unfold Vz
    simp only [Ah,decide_eq_true_eq]
    exact hdc
   have ho:(rdL (d.take i)).2=true:=by simpa using ht61
   have hst:rdL (d.take (i+1))=rdL (d.take i):=by rw [hnx];exact if_pos ho
   refine Wf ?_;refine eh ?_
   refine Be (i+1,(d[i].toNat-48)) ⟨hil,fun j c hj hc=>?_,by have:=(d[i]).toNat_lt;show d[i].toNat-48<256;omega⟩ (by show d.length-(i+1)<d.length-i;omega) (Bp (by rw [hst]<;>rfl))
   rcases Aw j i with h|h
   ·exact hx.dg j c h hc
   have:j=i:=by have hj':j<i+1:=hj;omega
   subst this
   rw [Ak hil] at hc
   injection hc with hc
   rw [←hc]
   unfold Vz
   simp only [Ah,decide_eq_true_eq]
   exact hdc
  have hie:d.take i=d:=Fw (by simp at ht40;omega)
  have hall:∀c∈d,Vz c=true:=fun c hc=>by
   obtain ⟨j,hj⟩:=Dp hc
   exact hx.dg j c (by have:=(Aa.1 hj).1;simp at ht40;omega) hj
  have hgood:=AA6 hd ht33 hall
  have hlow:=hx.low
  simp only at hlow
  rw [hie] at hlow ⊢
  refine Z41 ?_;refine Z33 ?_;refine Z0 ?_;refine Ho ?_;refine A2 [5,6] ?_;refine Z35 ?_;refine A2 [5,77] ?_
  refine A6 (fun ht77=>?_) (fun ht77=>?_)
  ·rw [if_pos ht77] at hgood
   exact AIp
  rw [if_neg (by rw [ht77];simp)] at hgood
  refine AP1 ?_;refine Z67 ?_;exact AOa
 obtain ⟨d,hd0⟩:∃d,d=s:=⟨_,rfl⟩
 have hd:d=Ng s:=by
  rw [hd0]
  rcases Lp s with ⟨h3,h4⟩|⟨r,h3,h4⟩
  ·exact h4.symm
  exfalso
  rw [h3] at ht18
  simp at ht18<;>omega
 have hdl:d.length≤1048576:=by rw [hd0];exact hs
 refine Z4 ?_;refine Z71 ?_
 refine Ga 4 (Ac d) (by rw [hd0];exact Le.refl _) ?_
 refine Z0 ?_;refine Z48 ?_;refine Bk ?_
 refine Bk (h:=F8 0 (d.headD 0) (fun hB=>P4 (gd2 hB))) (hr:=?_)
 refine Z77 ?_;refine A2 [0,4,33] ?_
 refine A6 (fun ht33=>?_) (fun ht33=>?_)
 ·exact AIp
 refine Y8 ?_;refine Z70 ?_;refine A2 [0,4,5] ?_;refine Z2 ?_;refine A2 [0,4,5,6] ?_;refine Ei ?_;refine AOy ?_;refine Ka jZ ?_;refine Z11 ?_;refine Ho ?_;refine A2 [0,4,5,6,7,8] ?_;refine Z35 ?_;refine eh ?_
 refine Bo (α:=Nat×Nat) (fun x=>⟨82,A9 0 (Ac s) (A9 4 (Ac d) (A9 5 (.ptr (oid Hp.length 0) 0) (A9 6 (Bz (rdL (d.take x.1)).2) (A9 7 (.ptr (oid Hp.length 1) 0) (A9 8 (.ptr (oid Hp.length 2) 0) (A9 9 (A7 (x.1:Nat)) (fun _=>.any))))))),Hp,[ .cells 129 (wF false (dig (rdL (d.take x.1)).1)),.cells 129 (wF false (dig 10)),.cells 129 (wF false (dig x.2))],[],none⟩) (fun x=>RdAt d x) (fun x=>d.length-x.1) ((0,0)) ⟨Al _,fun j c hj=>by omega,by decide⟩ (Ar (by simp only [List.take_zero,show rdL []=(0,false) from rfl,AA8]<;>rfl)) rfl (fun x hx=>?_)
 obtain ⟨i,p⟩:=x
 simp only at hx ⊢
 refine Z42 ?_;refine A2 [0,4,5,6,7,8,9,40] ?_
 refine A6 (fun ht40=>?_) (fun ht40=>?_)
 ·have hil:i<d.length:=by simp at ht40;omega
  refine Z56 ?_;refine Z9 ?_
  refine A3 (h:=F8 i d[i] (fun _=>Ak hil)) (hr:=?_)
  refine Z30 ?_
  refine Bk (h:=F8 i d[i] (fun _=>Ak hil)) (hr:=?_)
  refine Z55 ?_;refine A2 [0,4,5,6,7,8,9,52] ?_
  refine A6 (fun ht52=>?_) (fun ht52=>?_)
  ·refine uf ?_;refine Z46 ?_;exact Z34
  have hdc:48≤d[i].toNat∧d[i].toNat≤57:=by
   simp only [Hb,decide_eq_false_iff_not] at ht52
   omega
  have hnx:=AA4 hil
  refine nw ?_
  refine A3 (h:=F8 i d[i] (fun _=>Ak hil)) (hr:=?_)
  refine A3 ?_
  refine A3 (h:=N8) (hr:=?_)
  rw [w48 hdc.1]
  refine A3 ?_;refine AIw ?_
  refine R8 jS (hput:=AA7 hx.one (q:=(d[i].toNat-48)) (by have:=(d[i]).toNat_lt;omega)) (hfit:=by simp) ?_
  refine eh ?_;refine Z1 ?_;refine A2 [0,4,5,6,7,8,9,61] ?_
  refine A6 (fun ht61=>?_) (fun ht61=>?_)
  ·have ho:(rdL (d.take i)).2=false:=by simpa using ht61
   have hml:=hx.low ho
   simp only at hml
   have hm2:(rdL (d.take i)).1<B32 ^ 2:=hml
   have hm5:(rdL (d.take i)).1*10<B32 ^ 5:=D7 (show (rdL (d.take i)).1*10<184467440737095516170 by omega) (by decide)
   have hm3:(rdL (d.take i)).1*10+(d[i].toNat-48)<B32 ^ 3:=D7 (show (rdL (d.take i)).1*10+(d[i].toNat-48)<184467440737095516170 by omega) (by decide)
   have hst:rdL (d.take (i+1))=((rdL (d.take i)).1*10+(d[i].toNat-48),decide (18446744073709551616≤(rdL (d.take i)).1*10+(d[i].toNat-48))):=by rw [hnx];exact if_neg (by rw [ho];simp)
   refine Gb [0,0,3,0,15,31] 4 Af (by kernel_rfl) ?_;refine Z5 ?_;refine APg ?_
   refine Ap Tryz.call94 (AR7 ((rdL (d.take i)).1*10) (d[i].toNat-48) hm5 (D7 (show (d[i].toNat-48)<256 by have:=(d[i]).toNat_lt;omega) (by decide)) _) ?_
   refine Ho ?_;refine A2 [0,4,5,7,8,9] ?_;refine Z32 ?_;refine Rf (2) jU Tryz.sizeOf126 (by decide) ?_;refine Z0 ?_
   rw [rp hm3]
   refine A3 ?_;refine eh ?_;refine Z75 ?_;refine eh ?_
   refine Be (i+1,(d[i].toNat-48)) ⟨hil,fun j c hj hc=>?_,by have:=(d[i]).toNat_lt;show d[i].toNat-48<256;omega⟩ (by show d.length-(i+1)<d.length-i;omega) (Bp (by rw [hst]<;>rfl))
   rcases Aw j i with h|h
   ·exact hx.dg j c h hc
   have:j=i:=by have hj':j<i+1:=hj;omega
   subst this
   rw [Ak hil] at hc
   injection hc with hc
   rw [←hc]
   unfold Vz
   simp only [Ah,decide_eq_true_eq]
   exact hdc
  have ho:(rdL (d.take i)).2=true:=by simpa using ht61
  have hst:rdL (d.take (i+1))=rdL (d.take i):=by rw [hnx];exact if_pos ho
  refine Wf ?_;refine eh ?_
  refine Be (i+1,(d[i].toNat-48)) ⟨hil,fun j c hj hc=>?_,by have:=(d[i]).toNat_lt;show d[i].toNat-48<256;omega⟩ (by show d.length-(i+1)<d.length-i;omega) (Bp (by rw [hst]<;>rfl))
  rcases Aw j i with h|h
  ·exact hx.dg j c h hc
  have:j=i:=by have hj':j<i+1:=hj;omega
  subst this
  rw [Ak hil] at hc
  injection hc with hc
  rw [←hc]
  unfold Vz
  simp only [Ah,decide_eq_true_eq]
  exact hdc
 have hie:d.take i=d:=Fw (by simp at ht40;omega)
 have hall:∀c∈d,Vz c=true:=fun c hc=>by
  obtain ⟨j,hj⟩:=Dp hc
  exact hx.dg j c (by have:=(Aa.1 hj).1;simp at ht40;omega) hj
 have hgood:=AA6 hd ht33 hall
 have hlow:=hx.low
 simp only at hlow
 rw [hie] at hlow ⊢
 refine Z41 ?_;refine Z33 ?_;refine Z0 ?_;refine Ho ?_;refine A2 [5,6] ?_;refine Z35 ?_;refine A2 [5,77] ?_
 refine A6 (fun ht77=>?_) (fun ht77=>?_)
 ·rw [if_pos ht77] at hgood
  exact AIp
 rw [if_neg (by rw [ht77];simp)] at hgood
 refine AP1 ?_;refine Z67 ?_;exact AOa

theorem AA9 (t:Str) (k:List Expr):Aj (.mk 6 t noV k)=.agg [A7 6,Ac t,A7 0,A7 0,Ac [],.slice false 6 (k.map Aj)]:=by rw [Ad];rfl
theorem ATk (l:List Tok) (S:PS) (f:PS→Expr×PS) (o:Nat) (Hp:List AObj) (ho:Hp[o]? = some (pq l S)) (hi:S.i<l.length) (hl:TokEnd l) (hll:l.length≤1048576) (hn:S.nest≤30) (hf:S.nest<30→Co l (S.nest+1) f∧PLv l 0 f (S.nest+1)):ACall Tryz.prog 195 [.ptr o 0] Hp (fun r H'=>r=Aj (Fv l f S).1∧H'=Hp.set o (pq l (Fv l f S).2)):=by
 have hf0:S.nest<30→Co l (S.nest+1) f:=fun h=>(hf h).1
 refine B0 [.cell 2 69] [0] Tryz.func195 Tryz.ntmps195 (fun d=>?_)
 refine Z43 ?_;refine Fe [0,1,3,7,0,16,48,112,255,511,0,2047] [] [.q 10 [] [],.s [3] none [] [],.s [3] none [] []] (fun _=>Hp) (fun _=>[.cells 69 [A7 0,Ac [],A7 0,A7 0,Ac [],.nil]]) Af (by kernel_rfl) rfl rfl (fun _=>rfl) ?_
 apply Y.q
 ·intro B hT hF
  refine Z19 ?_
  refine Am (h:=An ho) (hr:=?_)
  refine Z19 ?_
  refine Am (h:=An ho) (hr:=?_)
  refine Am (h:=B2 (S.i) (En (A4 l S.i)) (fun _=>Ez hi)) (hr:=?_)
  exact Z29
 case hTF=>decide
 refine AIk ?_;refine T9 ?_;refine Z22 ?_;refine Z33 ?_;refine A2 [0,2,3,19] ?_
 refine A6 (fun ht19=>?_) (fun ht19=>?_)
 ·have e:Fv l f S=(G6 ⟨1,(B6 (A4 l S.i).text).1,[]⟩,A5 S):=by unfold Fv;rw [if_pos ht19]
  refine Z16 ?_
  refine A3 (h:=An ho) (hr:=?_)
  refine Z7 ?_
  refine Cv jS ho ?_ ?_
  ·simp
  refine P3 ?_;refine Z1 ?_;refine Ap Tryz.call54 (c54 (A4 l S.i).text (hl.text _) _) ?_;refine Z89 ?_;refine A2 [2,4] ?_;refine Z82 ?_;refine lf ?_;refine Ga 38 _ (Nl 1 [] ⟨1,(B6 (A4 l S.i).text).1,[]⟩) ?_;refine nv ?_;exact Ab (Ao (B5 jA jS)) ⟨by rw [e];simp only [Ad]<;>rfl,by rw [e]<;>rfl⟩ (hlow:=by have:=At Hp.length (G6 ⟨1,(B6 (A4 l S.i).text).1,[]⟩);simp only [Ad,Bg] at this ⊢;exact this)
 have nt19:¬((A4 l S.i).kind==3)=true:=by rw [ht19];simp
 refine Z33 ?_;refine A2 [0,2,3,39] ?_
 refine A6 (fun ht39=>?_) (fun ht39=>?_)
 ·have e:Fv l f S=(G6 ⟨2,0,(A4 l S.i).text⟩,A5 S):=by unfold Fv;rw [if_neg nt19,if_pos ht39]
  refine Z16 ?_
  refine A3 (h:=An ho) (hr:=?_)
  refine Z7 ?_
  refine Cv jS ho ?_ ?_
  ·simp
  refine P3 ?_;refine APf ?_;refine lf ?_;refine Ga 53 _ (Nl 1 [] ⟨2,0,(A4 l S.i).text⟩) ?_;refine nv ?_;exact Ab (Ao (B5 jA jS)) ⟨by rw [e];simp only [Ad]<;>rfl,by rw [e]<;>rfl⟩ (hlow:=by have:=At Hp.length (G6 ⟨2,0,(A4 l S.i).text⟩);simp only [Ad,Bg] at this ⊢;exact this)
 have nt39:¬((A4 l S.i).kind==4)=true:=by rw [ht39];simp
 refine Z2 ?_;refine Ap Tryz.call193 (rg l S jd o _ (A8 ho) hi) ?_;refine A3 ?_;refine A2 [0,2,3,54] ?_
 refine A6 (fun ht54=>?_) (fun ht54=>?_)
 ·have e:Fv l f S=(G6 ⟨3,1,[]⟩,A5 S):=by unfold Fv;rw [if_neg nt19,if_neg nt39,if_pos ht54]
  refine Z16 ?_
  refine A3 (h:=An ho) (hr:=?_)
  refine Z7 ?_
  refine Cv jS ho ?_ ?_
  ·simp
  refine A2 [2] ?_;refine AP7 ?_;refine Ga 65 _ (Nl 1 [] ⟨3,1,[]⟩) ?_;refine nv ?_;exact Ab (Ao (B5 jA jS)) ⟨by rw [e];simp only [Ad]<;>rfl,by rw [e]<;>rfl⟩ (hlow:=by have:=At Hp.length (G6 ⟨3,1,[]⟩);simp only [Ad,Bg] at this ⊢;exact this)
 have nt54:¬isR l jd S=true:=by rw [ht54];simp
 refine Z2 ?_;refine Ap Tryz.call193 (rg l S X9 o _ (A8 ho) hi) ?_;refine A3 ?_;refine A2 [0,2,3,66] ?_
 refine A6 (fun ht66=>?_) (fun ht66=>?_)
 ·have e:Fv l f S=(G6 ⟨3,0,[]⟩,A5 S):=by unfold Fv;rw [if_neg nt19,if_neg nt39,if_neg nt54,if_pos ht66]
  refine Z16 ?_
  refine A3 (h:=An ho) (hr:=?_)
  refine Z7 ?_
  refine Cv jS ho ?_ ?_
  ·simp
  refine A2 [2] ?_;refine AP7 ?_;refine Ga 77 _ (Nl 1 [] ⟨3,0,[]⟩) ?_;refine nv ?_;exact Ab (Ao (B5 jA jS)) ⟨by rw [e];simp only [Ad]<;>rfl,by rw [e]<;>rfl⟩ (hlow:=by have:=At Hp.length (G6 ⟨3,0,[]⟩);simp only [Ad,Bg] at this ⊢;exact this)
 have nt66:¬isR l X9 S=true:=by rw [ht66];simp
 refine Z2 ?_;refine Ap Tryz.call193 (rg l S je o _ (A8 ho) hi) ?_;refine A3 ?_;refine A2 [0,2,3,78] ?_
 refine A6 (fun ht78=>?_) (fun ht78=>?_)
 ·have e:Fv l f S=(G6 noV,A5 S):=by unfold Fv;rw [if_neg nt19,if_neg nt39,if_neg nt54,if_neg nt66,if_pos ht78]
  refine Z16 ?_
  refine A3 (h:=An ho) (hr:=?_)
  refine Z7 ?_
  refine Cv jS ho ?_ ?_
  ·simp
  refine A2 [2] ?_;refine Z27 ?_;refine Ga 88 _ (Nl 1 [] noV) ?_;refine nv ?_;exact Ab (Ao (B5 jA jS)) ⟨by rw [e];simp only [Ad]<;>rfl,by rw [e]<;>rfl⟩ (hlow:=by have:=At Hp.length (G6 noV);simp only [Ad,Bg] at this ⊢;exact this)
 have nt78:¬isR l je S=true:=by rw [ht78];simp
 refine Z2 ?_;refine Ap Tryz.call193 (rg l S S1 o _ (A8 ho) hi) ?_;refine A3 ?_;refine A2 [0,2,3,89] ?_
 refine A6 (fun ht89=>?_) (fun ht89=>?_)
 ·have e:Fv l f S=((inR (A4 l S.i).at_ f (A5 S)).1,Bx l Bu (inR (A4 l S.i).at_ f (A5 S)).2):=by unfold Fv;rw [if_neg nt19,if_neg nt39,if_neg nt54,if_neg nt66,if_neg nt78,if_pos ht89]
  have hi1:(A5 S).i<l.length:=hl.step hi (Kl ht89)
  have hwf:Fact l (A5 S) (inR (A4 l S.i).at_ f (A5 S)):=S6 _ hf0 (A5 S) hi1 rfl
  refine Z16 ?_
  refine A3 (h:=An ho) (hr:=?_)
  refine Z7 ?_
  refine Cv jS ho ?_ ?_
  ·simp
  refine T9 ?_;refine Z16 ?_;refine B4 Tryz.call194 (getset ho) (by simp) Jt (AH6 l (A5 S) (A4 l S.i).at_ 0 f o _ (A8 (getset ho)) hi1 hn (fun h=>(hf h).1) (fun h=>(hf h).2)) ?_;refine Z11 ?_;refine A2 [0,2,6] ?_;refine Z2 ?_;refine B4 Tryz.call219 (getset (getset ho)) (by simp) Jt (AR0 l (inR (A4 l S.i).at_ f (A5 S)).2 Bu o _ (A8 (getset (getset ho))) hwf.lt hll) ?_;refine A2 [2,6] ?_;refine Z91 ?_;refine Z8 ?_;exact Ab (Ao (B5 jA jS)) ⟨by rw [e];simp only [Ad],by rw [e];simp only [Bc]⟩ (hlow:=by have:=At Hp.length ((inR (A4 l S.i).at_ f (A5 S)).1);simp only [Ad,Bg] at this ⊢;exact this)
 have nt89:¬isR l S1 S=true:=by rw [ht89];simp
 refine Z33 ?_;refine A2 [0,2,3,106] ?_
 refine A6 (fun ht106=>?_) (fun ht106=>?_)
 ·have hi1:(A5 S).i<l.length:=hl.step hi (by rw [beq_iff_eq] at ht106;rw [ht106];decide)
  have e0:Fv l f S=(if !isR l S1 (A5 S) then (Bj (A4 l S.i).text,A5 S) else if decide (Mj (A4 l S.i).text<0) then (Ax,C7 9 (A4 l S.i).at_ (A5 S)) else Qd l f (A4 l S.i) (A5 S)):=by unfold Fv;rw [if_neg nt19,if_neg nt39,if_neg nt54,if_neg nt66,if_neg nt78,if_neg nt89,if_pos ht106]
  refine Z16 ?_
  refine A3 (h:=An ho) (hr:=?_)
  refine Z7 ?_
  refine Cv jS ho ?_ ?_
  ·simp
  refine T9 ?_;refine Z35 ?_;refine Ap Tryz.call193 (rg l (A5 S) S1 o _ (A8 (getset ho)) hi1) ?_;refine A3 ?_;refine A2 [0,2,3,119] ?_
  refine A6 (fun ht119=>?_) (fun ht119=>?_)
  ·have e:Fv l f S=(Bj (A4 l S.i).text,A5 S):=by rw [e0,if_pos ht119]
   refine AM4 ?_;refine Ga 122 _ (Uw _) ?_;refine AB7 ?_;refine Z8 ?_;exact Ab (Ao (B5 jA jS)) ⟨by rw [e];simp only [Ad]<;>rfl,by rw [e]<;>rfl⟩ (hlow:=by have:=At Hp.length (Bj (A4 l S.i).text);simp only [Ad,Bg] at this ⊢;exact this)
  have n119:¬(!isR l S1 (A5 S))=true:=by rw [ht119];simp
  have hi2:(A5 (A5 S)).i<l.length:=hl.step hi1 (Kl (by simpa using ht119))
  have hk0:Fact l (A5 (A5 S)) (inR (A4 l (A5 S).i).at_ f (A5 (A5 S))):=S6 _ hf0 (A5 (A5 S)) hi2 rfl
  refine Z4 ?_;refine Z9 ?_;refine Ap Tryz.call205 (AQj (A4 l S.i).text _) ?_;refine A3 ?_;refine A2 [0,2,3,126] ?_
  refine A6 (fun ht126=>?_) (fun ht126=>?_)
  ·have e:Fv l f S=(Ax,C7 9 (A4 l S.i).at_ (A5 S)):=by rw [e0,if_neg n119,if_pos ht126]
   refine Z16 ?_;refine B4 Tryz.call163 (getset ho) (by simp) Jt (AD3 l (A5 S) 9 (A4 l S.i).at_ o _ (A8 (getset ho))) ?_;refine A2 [2] ?_;refine Z27 ?_;refine Ga 131 _ Kh ?_;refine AB7 ?_;refine Z8 ?_;exact Ab (Ao (B5 jA jS)) ⟨by rw [e];simp only [Ad],by rw [e];simp only [Bc]⟩ (hlow:=by have:=At Hp.length (Ax);simp only [Ad,Bg] at this ⊢;exact this)
  have e:Fv l f S=Qd l f (A4 l S.i) (A5 S):=by rw [e0,if_neg n119,if_neg (by rw [ht126];simp)]
  refine Z4 ?_;refine AOw ?_
  refine Am (h:=An (getset ho)) (hr:=?_)
  refine Z19 ?_
  refine Am (h:=An (getset ho)) (hr:=?_)
  refine Er ?_
  refine A3 (h:=B2 ((A5 S).i) (En (A4 l (A5 S).i)) (fun _=>Ez hi1)) (hr:=?_)
  refine Z7 ?_;refine A2 [0,2,3,7] ?_;refine Z16 ?_
  refine A3 (h:=An (getset ho)) (hr:=?_)
  refine Z7 ?_
  refine Cv jS (getset ho) ?_ ?_
  ·simp
  refine A2 [0,2,3,7] ?_
  refine Fe [0,1,0,0,12,28,63,0,255] [4,7] [.q 4 [] [],.s [154] (some 0) [] [],.q 2 [0] [],.s [8] (some 1) [] []] (fun B=>Hp.set o (if B 0=true then pq l (inR (A4 l (A5 S).i).at_ f (A5 (A5 S))).2 else pq l (A5 (A5 S)))) (fun B=>if B 1=true then [.cells 69 [A7 0,Ac [],A7 0,A7 0,Ac [],.nil],.cells 69 [A7 0,Ac [],A7 0,A7 0,Ac [],.nil]] else [.cells 69 [A7 0,Ac [],A7 0,A7 0,Ac [],.nil]]) Af (by kernel_rfl) (by simp only [B1,if_false,Bc];rfl) rfl (fun B=>by simp) ?_
  apply Y.q
  ·intro B hT hF
   exact nq
  case hTF=>decide
  refine Jk (r:=Aj (inR (A4 l (A5 S).i).at_ f (A5 (A5 S))).1) (o:=o) (x0:=pq l (A5 (A5 S))) (x:=pq l (inR (A4 l (A5 S).i).at_ f (A5 (A5 S))).2) Tryz.call194 (fun B hT hF hB=>⟨by simp only [hB];exact getset ho,by simp [upd],by simp [upd],Jt,?_⟩) ?_
  ·simp only [hB]
   exact AH6 l (A5 (A5 S)) (A4 l (A5 S).i).at_ 0 f o _ (A8 (getset ho)) hi2 hn (fun h=>(hf h).1) (fun h=>(hf h).2)
  apply Y.q
  ·intro B hT hF
   refine D.buildFull jU Tryz.sizeOf69 Tryz.zeroValue69 ?_;refine D.build (places:=#[(0,1),(1,1),(2,3),(5,1)]) jU (fun w=>by simp) jZ ?_;exact Tu
  case hTF=>decide
  refine Y.alloc (zs:=[A7 0,Ac [],A7 0,A7 0,Ac [],.nil]) (n:=1) (u:=Hp.length) Tryz.zeroValue69 (fun B hT hF hB=>⟨by simp,by simp [hB],by simp [upd,hB],by simp [upd]⟩) ?_;refine Dj (tn:=[4,7]) (U:=Hp.set o (pq l (inR (A4 l (A5 S).i).at_ f (A5 (A5 S))).2)) (O:=[.cells 69 [A7 0,Ac [],A7 0,A7 0,Ac [],.nil],.cells 69 [A7 0,Ac [],A7 0,A7 0,Ac [],.nil]]) ?_;refine Ho ?_;refine A2 [0,2,3,7,8] ?_;refine Hw ?_
  refine Bo (α:=List Expr×PS) (fun r=>⟨201,A9 0 (.ptr o 0) (A9 2 (.ptr (oid Hp.length 0) 0) (A9 3 (.ro [A7 (A4 l S.i).kind,Ac (A4 l S.i).text,A7 (A4 l S.i).at_]) (A9 7 (A7 (A4 l (A5 S).i).at_) (A9 8 (.ptr (oid Hp.length 1) 0) (fun _=>.any))))),Hp.set o (pq l r.2),[.cells 69 [A7 0,Ac [],A7 0,A7 0,Ac [],.nil],.cells 69 [A7 6,Ac (A4 l S.i).text,A7 0,A7 0,Ac [],.slice true 6 (r.1.map Aj)]],[],none⟩) (fun r=>ArgsAt l (inR (A4 l (A5 S).i).at_ f) (A5 (A5 S)) r) (fun r=>l.length-r.2.i) (([(inR (A4 l (A5 S).i).at_ f (A5 (A5 S))).1],(inR (A4 l (A5 S).i).at_ f (A5 (A5 S))).2)) (.start hk0) (StLe.trans (StLe.thaw (n:=1) (j0:=5) rfl rfl (by simp)) (Ar (by simp [Ad]))) rfl (fun r hx=>?_)
  refine Z42 ?_
  refine A3 (h:=An (getset ho)) (hr:=?_)
  refine Wg ?_;refine D9 Tryz.call193 (fun hB=>rg l r.2 x9 o _ (A8 (getset ho)) hx.fact.lt) ?_;refine A3 ?_;refine A2 [0,2,3,7,8,166] ?_
  refine A6 (fun ht166=>?_) (fun ht166=>?_)
  ·rw [←jg] at ht166
   have hon:=hx.on hl ht166 (S6 (n:=S.nest) _ hf0)
   have hle:=hon.2.1.le
   have hlt0:=hx.fact.lt
   have hrn:r.2.nest=S.nest:=hx.fact.nest
   refine ec ?_;refine Z16 ?_
   refine A3 (h:=An (getset ho)) (hr:=?_)
   refine Z7 ?_
   refine Cv jS (getset ho) ?_ ?_
   ·simp
   refine A2 [0,2,3,7,8] ?_
   refine Me [0,1,0,0,12,28,63,127,255] [1,4] [.q 1 [] [0],.s [175] (some 0) [] [],.q 2 [] [1],.s [178] (some 1) [] [],.q 1 [1] []] (fun B=>Hp.set o (if B 1=true then pq l (inR (A4 l (A5 S).i).at_ f (A5 r.2)).2 else pq l (A5 r.2))) (fun B=>[.cells 69 [A7 0,Ac [],A7 0,A7 0,Ac [],.nil],.cells 69 (if B 0=true then [A7 6,Ac (A4 l S.i).text,A7 0,A7 0,Ac [],.slice false 6 (r.1.map Aj)] else [A7 6,Ac (A4 l S.i).text,A7 0,A7 0,Ac [],.slice true 6 (r.1.map Aj)])]) Af (by kernel_rfl) (by simp only [B1,if_false,Bc];rfl) rfl (fun B=>by simp) ?_
   apply Y.q
   ·intro B hT hF
    exact Z29
   case hTF=>decide
   refine Y.loadOwnT (u:=Hp.length) (n:=1) (t':=69) (cs:=[A7 6,Ac (A4 l S.i).text,A7 0,A7 0,Ac [],.slice true 6 (r.1.map Aj)]) (cs':=[A7 6,Ac (A4 l S.i).text,A7 0,A7 0,Ac [],.slice false 6 (r.1.map Aj)]) Tryz.isAgg45 (fun B hB=>⟨by simp,by simp only [hB];rfl,by simp [upd],by simp [upd]⟩) ?_
   apply Y.q
   ·intro B hT hF
    exact Z38
   case hTF=>decide
   refine Jk (r:=Aj (inR (A4 l (A5 S).i).at_ f (A5 r.2)).1) (o:=o) (x0:=pq l (A5 r.2)) (x:=pq l (inR (A4 l (A5 S).i).at_ f (A5 r.2)).2) Tryz.call194 (fun B hT hF hB=>⟨by simp only [hB];exact getset ho,by simp [upd],by simp [upd],Jt,?_⟩) ?_
   ·simp only [hB]
    exact AH6 l (A5 r.2) (A4 l (A5 S).i).at_ 0 f o _ (A8 (getset ho)) hon.1 (by show r.2.nest≤30;rw [hrn];exact hn) (by show r.2.nest<30→Co l (r.2.nest+1) f;rw [hrn];exact fun h=>(hf h).1) (by show r.2.nest<30→PLv l 0 f (r.2.nest+1);rw [hrn];exact fun h=>(hf h).2)
   apply Y.q
   ·intro B hT hF
    exact Z28
   case hTF=>decide
   refine Dj (tn:=[1,4]) (U:=Hp.set o (pq l (inR (A4 l (A5 S).i).at_ f (A5 r.2)).2)) (O:=[.cells 69 [A7 0,Ac [],A7 0,A7 0,Ac [],.nil],.cells 69 [A7 6,Ac (A4 l S.i).text,A7 0,A7 0,Ac [],.slice false 6 (r.1.map Aj)]]) ?_
   refine N9 jU Tryz.type69 ?_ ?_ ?_
   ·have:=hx.fact.len;have:=hx.fact.lt;simp only [Bh,Aq,B9,Tryz.t69];omega
   ·have:=hx.fact.len;have:=hx.fact.lt;simp only [Bh,Aq,B9,Tryz.t69];omega
   refine A3 ?_;refine Tq jS ?_;refine A2 [0,2,3,7,8] ?_;refine Hh ?_
   refine Be (r.1++[(inR (A4 l (A5 S).i).at_ f (A5 r.2)).1],(inR (A4 l (A5 S).i).at_ f (A5 r.2)).2) hon.2.2 (by show l.length-(inR (A4 l (A5 S).i).at_ f (A5 r.2)).2.i<l.length-r.2.i;have:r.2.i+1≤(inR (A4 l (A5 S).i).at_ f (A5 r.2)).2.i:=hle;omega) (Bp ?_)
   simp only [Cu,Bs,Gu,Ad]
   rfl
  rw [←jg] at ht166
  have hca:H6 l f (A5 S)=r:=hx.out (by rw [ht166];simp)
  refine uk ?_;refine B4 Tryz.call219 (getset ho) (by simp) Jt (AR0 l r.2 Bu o _ (A8 (getset ho)) hx.fact.lt hll) ?_;refine A2 [0,2,3,8] ?_;refine Hw ?_;refine AMn ?_;refine aq ?_;refine Pq Tryz.call205 (AQj (A4 l S.i).text _) ?_;refine Er ?_;refine A3 ?_;refine A2 [0,2,3,8,190] ?_
  refine A6 (fun ht190=>?_) (fun ht190=>?_)
  ·rw [Bh] at ht190
   have e2:H7 l f (A4 l S.i) (A5 S)=C7 8 (A4 l S.i).at_ (Bx l Bu r.2):=by unfold H7;rw [hca,if_pos ht190]
   refine Z15 ?_;refine B4 Tryz.call163 (getset (getset ho)) (by simp) Jt (AD3 l (Bx l Bu r.2) 8 (A4 l S.i).at_ o _ (A8 (getset (getset ho)))) ?_;refine A2 [2,8] ?_;refine Ig ?_;refine Z91 ?_;exact Z51
  rw [Bh] at ht190
  have e2:H7 l f (A4 l S.i) (A5 S)=Bx l Bu r.2:=by unfold H7;rw [hca,if_neg (by rw [ht190];simp)]
  refine Z4 ?_;refine Z91 ?_;exact Z51
 have nt106:¬((A4 l S.i).kind==1)=true:=by rw [ht106];simp
 have e:Fv l f S=(Ax,C7 8 (A4 l S.i).at_ S):=by unfold Fv;rw [if_neg nt19,if_neg nt39,if_neg nt54,if_neg nt66,if_neg nt78,if_neg nt89,if_neg nt106]
 refine Z25 ?_;refine Z16 ?_;refine AQ0 ?_;refine A2 [2] ?_;refine Z27 ?_;refine Ga 200 _ Kh ?_;refine Z18 ?_;exact AQ2

/-- All levels. -/
theorem AHi {l:List Tok} (hl:TokEnd l) (hll:l.length≤1048576):∀(d n:Nat),n+d=31→n≤30→∀j,j≤7→PLv l j (Nw l d j) n
 | 0,n,h,hn=>by omega
 | d+1,n,h,hn=>by
  have hD:n<30→∀j,j≤7→Co l (n+1) (Nw l d j)∧PLv l j (Nw l d j) (n+1):=fun h30 j hj=>⟨T5 hl hll d (n+1) (by omega) (by omega) j,AHi hl hll d (n+1) (by omega) (by omega) j hj⟩
  have hG:n<30→∀j,Co l (n+1) (Nw l d j):=fun h30 j=>T5 hl hll d (n+1) (by omega) (by omega) j
  have step:∀j,j≤7→∀f,Co l n f→(j<7→PLv l (j+1) f n)→PLv l j (lvS l (Nw l d) j f) n:=fun j hj f hf hcf o Hp S ho hi hS=>by
   subst hS
   exact ATc l S j hj (Nw l d) f o Hp ho hi hl hll hn hD hf hcf (fun o Hp ho _=>ATk l S (Nw l d 0) o Hp ho hi hl hll hn (fun h30=>hD h30 0 (by decide)))
  have key:∀k,k≤7→PLv l (7-k) (lvN l (Nw l d) (7-k)) n:=by
   intro k
   induction k with
   | zero=>exact fun _=>step 7 (Ae _) (fun S=>(Ax,S)) jf (fun h=>absurd h (by omega))
   | succ k ih =>
    intro hk
    have h7:7-(k+1)<7:=by omega
    rw [S5 h7]
    have e:7-(k+1)+1=7-k:=by omega
    rw [e]
    exact step _ (by omega) _ (dl hl hll hG _) (fun _=>by rw [e];exact ih (by omega))
  intro j hj
  have:=key (7-j) (by omega)
  rw [show 7-(7-j)=j by omega] at this
  exact this
theorem ADf {l:List Tok} (hl:TokEnd l) (hll:l.length≤1048576) {i:Nat} (hi:i<l.length):Fact l ⟨i,0,0,0⟩ (Gs l i):=T5 hl hll 31 0 rfl (by decide) 0 ⟨i,0,0,0⟩ hi rfl
def dp (l:List Tok) (i:Nat) (r:Expr×PS):PS:=if (r.2.code==0)&&decide ((30:Int)<(depthE r.1:Int)) then C7 18 (A4 l i).at_ r.2 else r.2
theorem AR8 {l:List Tok} {i:Nat} {r:Expr×PS}:atS l i r=if ((dp l i r).code==0)&&decide ((300:Int)<(sizeE r.1:Int)) then C7 3 (A4 l i).at_ (dp l i r) else dp l i r:=by
 unfold atS dp
 cases hc:(r.2.code != 0) with
 | true =>
  have hc':(r.2.code==0)=false:=by simpa using hc
  simp only [hc',if_true,N4,B1,if_false]
 | false =>
  have hc0:r.2.code=0:=by simpa using hc
  simp only [hc0,beq_self_eq_true,D0,B1,if_false]
  cases hd:decide ((30:Int)<(depthE r.1:Int)) with
  | true =>
   have e:C7 18 (A4 l i).at_ r.2=⟨r.2.i,r.2.nest,18,(A4 l i).at_⟩:=if_pos (by rw [hc0];rfl)
   simp only [if_true,e]
   rfl
  | false=>simp only [B1,if_false,hc0,beq_self_eq_true,D0]
theorem ATl (l:List Tok) (i:Nat) (hi:i<l.length) (hl:TokEnd l) (hll:l.length≤500000) (Hp:List AObj):AFun Tryz.prog 132 [Us l,A7 (i:Int)] Hp (.tup [Aj (rk l i).1,A7 (rk l i).2.1,.agg [A7 (rk l i).2.2.1,A7 (rk l i).2.2.2]]):=by
 have hmap:(l.map En).length=l.length:=Bh ..
 have hll1:l.length≤1048576:=by omega
 have hq:=ADf hl hll1 hi
 have hqlt:=hq.lt
 have hqs:=hq.sz
 have hok0:okE 1048576 (Gs l i).1:=Hj (by have:=hq.lt;omega) hq.ok
 have hsz0:sizeE (Gs l i).1≤1048576:=by have:=hq.sz;have:=hq.lt;omega
 refine B0 [.cell 4 69,.tmp 5,.cell 6 26] [0,1] Tryz.func132 Tryz.ntmps132 (fun d=>?_)
 refine Z24 ?_;refine A3 ?_;refine Ka jZ ?_;refine A2 [0,1,4,6] ?_;refine Z50 ?_;refine Z6 ?_;refine Z77 ?_;refine A2 [0,1,4,6,16] ?_
 refine A6 (fun ht16=>?_) (fun ht16=>?_)
 ·simp only [Cz,decide_eq_true_eq] at ht16
  omega
 refine nw ?_;refine AP6 ?_;refine A3 ?_;refine A2 [0,1,4,6,7] ?_;refine Z2 ?_
 refine Md (n:=2) (x:=pq l (Gs l i).2) Tryz.call162 (AHi hl hll1 31 0 rfl (by decide) 0 (by decide) (oid Hp.length 2) _ ⟨i,0,0,0⟩ (by rw [Cj];rfl) hi rfl) ?_
 refine Z11 ?_;refine A2 [0,1,4,6,7,8] ?_
 refine Ih ⟨78,A9 0 (Us l) (A9 1 (A7 (i:Int)) (A9 4 (.ptr (oid Hp.length 0) 0) (A9 6 (.ptr (oid Hp.length 1) 0) (A9 7 (.ptr (oid Hp.length 2) 0) (A9 8 (.ptr (oid Hp.length 3) 0) (fun _=>.any)))))),Hp,[.cells 69 [A7 0,Ac [],A7 0,A7 0,Ac [],.nil],.cells 26 [A7 0,A7 0],pq l (dp l i (Gs l i)),.cells 69 (E3 (Gs l i).1)],[],none⟩ ?_ ?_
 ·refine Z33 ?_;refine Z7 ?_;refine Bk ?_;refine D9 Tryz.call146 (fun hB=>ASk 1048576 _ hok0 (Ae _) _) ?_;refine Z55 ?_;refine A2 [0,1,4,6,7,8,35] ?_
  refine A6 (fun ht35=>?_) (fun ht35=>?_)
  ·have e:(dp l i (Gs l i))=C7 18 (A4 l i).at_ (Gs l i).2:=if_pos ht35
   refine Z15 ?_
   refine A3 (h:=B2 (i) (En (A4 l i)) (fun _=>Ez hi)) (hr:=?_)
   refine Z0 ?_
   refine Md (n:=2) (x:=pq l (C7 18 (A4 l i).at_ (Gs l i).2)) Tryz.call163 (AD3 l (Gs l i).2 18 (A4 l i).at_ (oid Hp.length 2) _ (by rw [Cj];rfl)) ?_
   refine A2 [0,1,4,6,7,8] ?_;exact Z62
  have e:(dp l i (Gs l i))=(Gs l i).2:=if_neg (by rw [ht35];simp)
  refine Eh [0,1,4,6,7,8] ?_;refine He ?_;exact Z62
 refine Ih ⟨78,A9 4 (.ptr (oid Hp.length 0) 0) (A9 6 (.ptr (oid Hp.length 1) 0) (A9 7 (.ptr (oid Hp.length 2) 0) (A9 8 (.ptr (oid Hp.length 3) 0) (fun _=>.any)))),Hp,[.cells 69 [A7 0,Ac [],A7 0,A7 0,Ac [],.nil],.cells 26 [A7 0,A7 0],pq l (atS l i (Gs l i)),.cells 69 (E3 (Gs l i).1)],[],none⟩ ?_ ?_
 ·refine Z33 ?_;refine Z7 ?_;refine Bk ?_;refine D9 Tryz.call147 (fun hB=>ASl 1048576 _ hok0 hsz0 _) ?_;refine Z55 ?_;refine A2 [0,1,4,6,7,8,53] ?_
  refine A6 (fun ht53=>?_) (fun ht53=>?_)
  ·have e:(atS l i (Gs l i))=C7 3 (A4 l i).at_ (dp l i (Gs l i)):=by rw [AR8,if_pos ht53]
   refine Z15 ?_
   refine A3 (h:=B2 (i) (En (A4 l i)) (fun _=>Ez hi)) (hr:=?_)
   refine Z0 ?_
   refine Md (n:=2) (x:=pq l (C7 3 (A4 l i).at_ (dp l i (Gs l i)))) Tryz.call163 (AD3 l (dp l i (Gs l i)) 3 (A4 l i).at_ (oid Hp.length 2) _ (by rw [Cj];rfl)) ?_
   refine A2 [4,6,7,8] ?_;exact Z62
  have e:(atS l i (Gs l i))=(dp l i (Gs l i)):=by rw [AR8,if_neg (by rw [ht53];simp)]
  refine Eh [4,6,7,8] ?_;refine He ?_;exact Z62
 refine Z42 ?_;refine Z0 ?_;refine A2 [4,6,7,8,66] ?_
 refine A6 (fun ht66=>?_) (fun ht66=>?_)
 ·have e:rk l i=(Ax,0,(atS l i (Gs l i)).code,(atS l i (Gs l i)).at_):=if_pos ht66
  refine Fe [0,0,2,6,14,1,33,127] [5] [.q 5 [] [],.s [] (some 0) [] [],.q 1 [0] []] (fun _=>Hp) (fun _=>[.cells 69 [A7 0,Ac [],A7 0,A7 0,Ac [],.nil],.cells 26 [A7 0,A7 0],pq l (atS l i (Gs l i)),.cells 69 (E3 (Gs l i).1)]) Af (by kernel_rfl) rfl rfl (fun _=>rfl) ?_
  apply Y.q
  ·intro B hT hF
   exact AOh
  case hTF=>decide
  refine APo ?_
  apply Y.q
  ·intro B hT hF
   exact Z29
  case hTF=>decide
  refine Dj (tn:=[5])  ?_;refine Mg 0 5 6 ?_;refine AIj ?_;exact AOf
 have e:rk l i=((Gs l i).1,((atS l i (Gs l i)).i:Int),0,0):=if_neg (by rw [ht66];simp)
 refine Z4 ?_;refine Fe [0,0,2,6,14,0,1,95,255] [6] [.q 6 [] [],.s [] (some 0) [] [],.q 1 [0] []] (fun _=>Hp) (fun B=>[.cells 69 (if B 0=true then E3 (Gs l i).1 else [A7 0,Ac [],A7 0,A7 0,Ac [],.nil]),.cells 26 [A7 0,A7 0],pq l (atS l i (Gs l i)),.cells 69 (E3 (Gs l i).1)]) Af (by kernel_rfl) rfl rfl (fun _=>rfl) ?_
 apply Y.q
 ·intro B hT hF
  refine aq ?_;exact Z97
 case hTF=>decide
 refine So (u:=Hp.length) (n:=0) (t':=69) (cs:=[A7 0,Ac [],A7 0,A7 0,Ac [],.nil]) (cs':=E3 (Gs l i).1) Tryz.sizeOf69 (fun B hB=>⟨rfl,by simp only [hB];rfl,by simp [upd],rfl⟩) ?_
 apply Y.q
 ·intro B hT hF
  exact Z29
 case hTF=>decide
 refine Dj (tn:=[6]) (O:=[.cells 69 (E3 (Gs l i).1),.cells 26 [A7 0,A7 0],pq l (atS l i (Gs l i)),.cells 69 (E3 (Gs l i).1)]) ?_;refine AIj ?_;refine Kx ?_;exact Ab (V.three (B5 jA jS) Ag (B5 jA jS)) ⟨by rw [e,Ad]<;>rfl,rfl⟩ (hlow:=by have:=low_agg (n:=Hp.length) (Gs l i).1;simp at this ⊢;exact this)

theorem ATm (l:List Tok) (i:Nat) (hi:i<l.length) (hl:TokEnd l) (hll:l.length≤500000) (ht:∀i,Oh (A4 l i)) (Hp:List AObj):AFun Tryz.prog 132 [Us l,A7 (i:Int)] Hp (.tup [Aj (atM l i).1,A7 (atM l i).2.1,.agg [A7 (atM l i).2.2.1,A7 (atM l i).2.2.2]]):=by
 have:=ATl l i hi hl hll Hp
 rwa [AKp hl (by omega) ht hi] at this
abbrev prx (L:List Tok) (S:XS):AObj:=.cells 57 [.slice false 3 (L.map En),A7 (S.i:Int),A7 S.code,A7 S.at_]
theorem G5 {n:Nat} {L:List Tok} {S:XS}:ObjLow n (prx L S):=by
 show ∀y∈[AV.slice false 3 (L.map En),A7 (S.i:Int),A7 S.code,A7 S.at_],Low n y
 intro y hy
 simp only [C9,Hc,or_false] at hy
 rcases hy with rfl|rfl|rfl|rfl
 ·simp [or_imp,forall_and]
 all_goals simp
theorem Qe {L:List Tok} {S:XS}:(E4 L 8 S).code≠0:=by
 unfold E4
 split
 ·show (8:Int)≠0;decide
 rename_i h;simpa using h
theorem Oi {L:List Tok} {e:Int} {S:XS}:(E4 L e S).i=S.i:=by unfold E4;split<;>rfl
theorem W0 {L:List Tok} {s:Str} {S:XS}:(Hn L s S).i=S.i:=by unfold Hn;split;exact Oi;rfl
theorem Fa {L:List Tok} (hl:TokEnd L) {s:Str} {S:XS} (hi:S.i<L.length):(Bf L s S).i<L.length:=by
 unfold Bf
 cases h:isP L s S.i with
 | true =>
  have e:Hn L s S=S:=if_neg (by rw [h];simp)
  rw [e];split
  ·exact hl.step hi (yu h)
  exact hi
 | false =>
  have e:Hn L s S=E4 L 8 S:=if_pos (by rw [h];rfl)
  rw [e,if_neg (by simpa using Qe),Oi];exact hi
theorem Ny {L:List Tok} (hl:TokEnd L) {S:XS} (hi:S.i<L.length):(Az L S).2.i<L.length:=by
 unfold Az
 cases h:((A4 L S.i).kind != 1) with
 | true =>
  have e:H5 L S=E4 L 8 S:=if_pos h
  rw [e,if_pos (by simpa using Qe)];show (E4 L 8 S).i<_;rw [Oi];exact hi
 | false =>
  have e:H5 L S=S:=if_neg (by rw [h];simp)
  rw [e];split
  ·exact hi
  exact hl.step hi (by rw [show (A4 L S.i).kind=1 by simpa using h];decide)
theorem dq {L:List Tok} (hl:TokEnd L) (hll:L.length≤500000) {S:XS} (hi:S.i<L.length):(Df L S).2.i<L.length:=by
 unfold Df
 split
 ·exact hi
 split
 ·exact hi
 rename_i h2
 obtain ⟨k,hk,hkl⟩:=lv hl (by omega) hi (show (atM L S.i).2.2.1=0 by simpa using h2)
 show (atM L S.i).2.1.toNat<_
 rw [hk];exact hkl
theorem c25 (L:List Tok) (S:XS) (e:Int) (o:Nat) (Hp:List AObj) (ho:Hp[o]? = some (prx L S)) (hi:S.i<L.length):ACall Tryz.prog 25 [.ptr o 0,A7 e] Hp (fun r H'=>r=Ks∧H'=Hp.set o (prx L (E4 L e S))):=by
 refine B0 [] [0,1] Tryz.func25 Tryz.ntmps25 (fun d=>?_)
 refine Z33 ?_
 refine A3 (h:=An ho) (hr:=?_)
 refine A3 ?_;refine A2 [0,1,9] ?_
 refine A6 (fun ht9=>?_) (fun ht9=>?_)
 ·have e:E4 L e S=⟨S.i,e,((A4 L S.i).at_:Int)⟩:=if_pos ht9
  refine W.draw0 [0,0,0,4,12,28,0,64,192,448,1020,2044,4092,8190,16383,32767,65535] 14 Af (by kernel_rfl) ?_;refine aq ?_
  refine Am (h:=An ho) (hr:=?_)
  refine Z19 ?_
  refine Am (h:=An ho) (hr:=?_)
  refine Am (h:=B2 (S.i) (En (A4 L S.i)) (fun _=>Ez hi)) (hr:=?_)
  refine Z5 ?_;refine AMo ?_;refine Er ?_;refine Z0 ?_
  refine Cv jS ho ?_ ?_
  ·simp
  exact Z72
 have e:E4 L e S=S:=if_neg (by rw [ht9];simp)
 exact AO8

theorem c59 (L:List Tok) (S:XS) (s:Str) (o:Nat) (Hp:List AObj) (ho:Hp[o]? = some (prx L S)) (hi:S.i<L.length):AFun Tryz.prog 59 [.ptr o 0,Ac s] Hp (Bz (isP L s S.i)):=by
 refine B0 [.tmp 4] [0,1] Tryz.func59 Tryz.ntmps59 (fun d=>?_)
 refine Z63 ?_;refine AP0 ?_
 refine Am (h:=An ho) (hr:=?_)
 refine Z19 ?_
 refine Am (h:=An ho) (hr:=?_)
 refine Er ?_
 refine A3 (h:=B2 (S.i) (En (A4 L S.i)) (fun _=>Ez hi)) (hr:=?_)
 refine Z7 ?_;refine A2 [0,1,5] ?_;refine Om [0,1,3,7,15,31,63,127,255,511,1023,127,2175,6271,14463,32767,65535,131071,127,524287,1048575,2097151] 19 Af (by kernel_rfl) ?_;refine Z19 ?_;refine Z58 ?_;refine Z5 ?_;refine Z86 ?_
 refine H0 (h:=An ho) (hr:=?_)
 refine Z86 ?_
 refine H0 (h:=An ho) (hr:=?_)
 refine H0 (h:=B2 (S.i) (En (A4 L S.i)) (fun _=>Ez hi)) (hr:=?_)
 refine Z86 ?_;refine Er ?_;refine Bk ?_;exact AM9

theorem c58 (L:List Tok) (S:XS) (s:Str) (o:Nat) (Hp:List AObj) (ho:Hp[o]? = some (prx L S)) (hi:S.i<L.length) (hll:L.length≤1048576):ACall Tryz.prog 58 [.ptr o 0,Ac s] Hp (fun r H'=>r=Ks∧H'=Hp.set o (prx L (Bf L s S))):=by
 have hwi:(Hn L s S).i=S.i:=W0
 refine B0 [] [0,1] Tryz.func58 Tryz.ntmps58 (fun d=>?_)
 refine Ih ⟨23,A9 0 (.ptr o 0) (fun _=>.any),(Hp.set o (prx L (Hn L s S))),[],[],none⟩ ?_ ?_
 ·refine Z1 ?_;refine Ap Tryz.call59 (c59 L S s o _ (A8 ho) hi) ?_;refine A3 ?_;refine A2 [0,7] ?_
  refine A6 (fun ht7=>?_) (fun ht7=>?_)
  ·have e:Hn L s S=E4 L 8 S:=if_pos ht7
   refine Z32 ?_;refine AP3 ?_;refine Mf ?_
   first|(rw [e];exact Ar (by rfl))|(rw [e,E8 ho];exact Ar (by rfl))
  have e:Hn L s S=S:=if_neg (by rw [ht7];simp)
  refine Eh [0] ?_;refine Z98 ?_
  first|(rw [e];exact Ar (by rfl))|(rw [e,E8 ho];exact Ar (by rfl))
 refine Z33 ?_
 refine A3 (h:=An (getset ho)) (hr:=?_)
 refine A3 ?_;refine A2 [0,15] ?_
 refine A6 (fun ht15=>?_) (fun ht15=>?_)
 ·have e:Bf L s S=Ha (Hn L s S):=if_pos ht15
  refine Z15 ?_
  refine A3 (h:=An (getset ho)) (hr:=?_)
  refine Z7 ?_
  refine Cv jS (getset ho) ?_ ?_
  ·simp
  refine Nf ?_;exact AQ3
 have e:Bf L s S=Hn L s S:=if_neg (by rw [ht15];simp)
 refine He ?_;exact AQ3

theorem c56 (L:List Tok) (S:XS) (o:Nat) (Hp:List AObj) (ho:Hp[o]? = some (prx L S)) (hi:S.i<L.length) (hll:L.length≤1048576):ACall Tryz.prog 56 [.ptr o 0] Hp (fun r H'=>r=Ac (Az L S).1∧H'=Hp.set o (prx L (Az L S).2)):=by
 refine B0 [.tmp 2] [0] Tryz.func56 Tryz.ntmps56 (fun d=>?_)
 refine Z59 ?_
 refine Ih ⟨42,A9 0 (.ptr o 0) (fun _=>.any),(Hp.set o (prx L (H5 L S))),[],[],none⟩ ?_ ?_
 ·refine AP0 ?_
  refine Am (h:=An ho) (hr:=?_)
  refine Z19 ?_
  refine Am (h:=An ho) (hr:=?_)
  refine Er ?_
  refine A3 (h:=B2 (S.i) (En (A4 L S.i)) (fun _=>Ez hi)) (hr:=?_)
  refine Z7 ?_;refine A2 [0,14] ?_
  refine A6 (fun ht14=>?_) (fun ht14=>?_)
  ·have e:H5 L S=E4 L 8 S:=if_pos ht14
   refine Z32 ?_;refine AP3 ?_;refine Mf ?_
   first|(rw [e];exact Ar (by rfl))|(rw [e,E8 ho];exact Ar (by rfl))
  have e:H5 L S=S:=if_neg (by rw [ht14];simp)
  refine Eh [0] ?_;refine Z98 ?_
  first|(rw [e];exact Ar (by rfl))|(rw [e,E8 ho];exact Ar (by rfl))
 refine Z42 ?_
 refine A3 (h:=An (getset ho)) (hr:=?_)
 refine A3 ?_;refine A2 [0,22] ?_
 refine A6 (fun ht22=>?_) (fun ht22=>?_)
 ·have e:Az L S=([],H5 L S):=if_pos ht22
  refine Z20 ?_;refine Dd ?_;exact AQ4
 have e:Az L S=((A4 L S.i).text,Ha (H5 L S)):=if_neg (by rw [ht22];simp)
 have hS:H5 L S=S:=by
  cases hk:((A4 L S.i).kind != 1) with
  | true =>
   have e2:H5 L S=E4 L 8 S:=if_pos hk
   rw [e2] at ht22
   exact absurd (by simpa using ht22) (Qe (L:=L) (S:=S))
  | false=>unfold H5;rw [hk];rfl
 rw [hS] at e ⊢
 refine Y9 ?_
 refine A3 (h:=An (getset ho)) (hr:=?_)
 refine Z7 ?_
 refine Cv jS (getset ho) ?_ ?_
 ·simp
 refine A2 [0] ?_;refine Om [0,1,3,7,0,16,48,112,240,511,1023,2047,4095] 9 Af (by kernel_rfl) ?_;refine Z19 ?_
 refine Am (h:=An (getset (getset ho))) (hr:=?_)
 refine Z19 ?_
 refine Am (h:=An (getset (getset ho))) (hr:=?_)
 refine Z65 ?_
 refine A3 (h:=B2 (S.i) (En (A4 L S.i)) (fun _=>Ez hi)) (hr:=?_)
 refine Z7 ?_;refine Z3 ?_;exact AQ4

theorem c97 (L:List Tok) (S:XS) (o:Nat) (Hp:List AObj) (ho:Hp[o]? = some (prx L S)) (hi:S.i<L.length) (hl:TokEnd L) (hll:L.length≤500000) (ht:∀i,Oh (A4 L i)):ACall Tryz.prog 97 [.ptr o 0] Hp (fun r H'=>r=Aj (Df L S).1∧H'=Hp.set o (prx L (Df L S).2)):=by
 refine B0 [.cell 2 69] [0] Tryz.func97 Tryz.ntmps97 (fun d=>?_)
 refine Z43 ?_;refine Z42 ?_
 refine A3 (h:=An ho) (hr:=?_)
 refine A3 ?_;refine A2 [0,2,11] ?_
 refine A6 (fun ht11=>?_) (fun ht11=>?_)
 ·have e:Df L S=(Ax,S):=if_pos ht11
  refine Z27 ?_;refine Ga 12 _ Kh ?_;refine AB7 ?_;exact Ab (Ao (B5 jA jS)) ⟨by rw [e];simp only [Ad]<;>rfl,by rw [e];exact (E8 ho).symm⟩ (hlow:=by have:=At Hp.length (Ax);simp only [Ad,Bg] at this ⊢;exact this)
 have e0:¬(S.code != 0)=true:=by rw [ht11];simp
 refine Z4 ?_;refine APv ?_
 apply Y.q
 ·intro B hT hF
  refine Z19 ?_
  refine Am (h:=An ho) (hr:=?_)
  refine Z19 ?_
  refine Am (h:=An ho) (hr:=?_)
  refine Pq Tryz.call132 (ATm L S.i hi hl hll ht _) ?_;exact nq
 case hTF=>decide
 refine X2 Tryz.zeroValue69 ?_;refine X2 Tryz.zeroValue26 ?_;refine Sy Tryz.sizeOf69 ?_
 apply Y.q
 ·intro B hT hF
  exact Z29
 case hTF=>decide
 refine Sy Tryz.sizeOf26 ?_;refine Dj (tn:=[])  ?_;refine A2 [0,2,3,4,5] ?_;refine Z50 ?_;refine A2 [0,2,3,4,5,28] ?_
 refine A6 (fun ht28=>?_) (fun ht28=>?_)
 ·have e:Df L S=(Ax,⟨S.i,(atM L S.i).2.2.1,(atM L S.i).2.2.2⟩):=by unfold Df;rw [if_neg e0,if_pos ht28]
  refine Z33 ?_
  refine Cv jS ho ?_ ?_
  ·simp
  refine A2 [2] ?_;refine Z27 ?_;refine Ga 33 _ Kh ?_;refine AB7 ?_;exact AQ2
 obtain ⟨k,hk,hkl⟩:=lv hl (by omega) hi (show (atM L S.i).2.2.1=0 by simpa using ht28)
 have e:Df L S=((atM L S.i).1,⟨k,S.code,S.at_⟩):=by unfold Df;rw [if_neg e0,if_neg (by rw [ht28];simp),hk];rfl
 refine Y8 ?_
 rw [hk]
 refine Z67 ?_
 refine Cv jS ho ?_ ?_
 ·simp
 refine ue ?_;exact Ab (Ao (B5 jA jS)) ⟨by rw [e];simp only [Ad]<;>rfl,by rw [e]<;>rfl⟩ (hlow:=by have:=At Hp.length ((atM L S.i).1);simp only [Ad,Bg] at this ⊢;exact this)

/-! sound.Lost: what is dropped, what has been turned. -/
theorem ji {n k:Nat} {o:Bool} {a:List Str} {c:Str}:Low n (.slice o k (a.map Ac++[Ac c])):=by simp [or_imp,forall_and]
theorem c62 (l:List Expr) (hl:l.length≤1048576) (hlo:∀e∈l,okE 61 e) (hlr:∀e∈l,E5 J0 e=true) (Hp:List AObj):AFun Tryz.prog 62 [U4 l] Hp (.tup [Jw (Bv l).1,A7 (Bv l).2]):=by
 refine B0 [.tmp 2,.tmp 3] [0] Tryz.func62 Tryz.ntmps62 (fun d=>?_)
 refine Z1 ?_;refine A2 [0] ?_;refine Z2 ?_;refine A2 [0,4] ?_;refine Z71 ?_;refine R.nilSl 4 1 ?_;refine Z7 ?_;refine A2 [4,9,10,11] ?_
 refine Bo (α:=Nat) (fun x=>⟨29,A9 4 (.slice true 1 (((l.take x).map fun e=>(J4 e).1).map Ac)) (A9 9 (U4 l) (A9 10 (A7 (l.length:Nat)) (A9 11 (A7 (x:Nat)) (fun _=>.any)))),Hp,[],[],none⟩) (fun x=>x≤l.length∧∀(j:Nat) (y:Expr),j<x→l[j]? = some y→((J4 y).2 != 0)=false) (fun x=>l.length-x) (0) ⟨Al _,fun j y h=>by omega⟩ (Ar (by simp)) rfl (fun x hx=>?_)
 refine Z2 ?_;refine A2 [4,9,10,11,12] ?_
 refine Nc (fun ht12=>?_) (fun ht12=>?_)
 ·have hlt:x<l.length:=by simpa using ht12
  refine AEo ?_
  refine A3 (h:=B2 (x) (Aj l[x]) (fun _=>Ea hlt)) (hr:=?_)
  refine A3 ?_;refine Z11 ?_;refine A2 [4,6,9,10,11] ?_;refine Z2 ?_;refine Ap Tryz.call101 (AT1 61 l[x] (hlo _ (D4 hlt)) (by decide) (hlr _ (D4 hlt)) _) ?_;refine Z89 ?_;refine A2 [4,7,8,9,10,11] ?_;refine Z9 ?_;refine A2 [4,7,8,9,10,11,21] ?_
  refine A6 (fun ht21=>?_) (fun ht21=>?_)
  ·have hm:=j5 hx.2 (Ak hlt) ht21
   refine Z1 ?_;refine R.nilTmp 2 1 false ?_;refine A3 ?_;refine Z60 ?_;refine Z66 ?_;exact AMr
  refine Z4 ?_;refine Ky ?_;refine R.moveT ?_;refine A3 ?_;refine Rg ?_
  refine N9 jU Tryz.type9 ?_ ?_ ?_
  ·simp only [Bh,J6,Aq,B9,Tryz.t9];omega
  ·simp only [Bh,J6,Aq,B9,Tryz.t9];omega
  refine Tp ?_;refine A2 [4,9,10,11] ?_;refine Z12 ?_;refine Z21 ?_;refine A2 [4,9,10,11] ?_;refine Be (x+1) ⟨hlt,Jx hlt hx.2 ht21⟩ (by omega) ?_
  rw [im hlt,Cu,Bs,Gu]
  exact Oo (own:=[]) (fun _=>.refl _) (by repeat (first|exact H3|refine H1 (by first|exact d7|exact ji|exact io|exact ra|(simp [or_imp,forall_and];done)) ?_)) (by simp) (by simp)
 have hxe:l.length≤x:=by simpa using ht12
 have hm:=iz fun j y hy=>hx.2 j y (by have:=(Aa.1 hy).1;omega) hy
 rw [Fw hxe]
 refine Z26 ?_;refine Z16 ?_;refine Z14 ?_;exact Ab (Es Ag Ag) ⟨by rw [hm],rfl⟩

theorem c61 (m:Mov) (h:OkMov m) (ha:m.ahead.length=m.give.length) (Hp:List AObj):AFun Tryz.prog 61 [K5 m] Hp (.tup [Ac (L9 m).1,A7 (L9 m).2]):=by
 have hT:=(Js m.ahead).1
 have hTl:=(Js m.ahead).2
 have hgl:=zt (m:=m) (T:=(Bv m.ahead).1) (by omega)
 have hg2:=h.gives2
 have hjl:=X5 h ha
 refine B0 [.tmp 2,.tmp 3] [0] Tryz.func61 Tryz.ntmps61 (fun d=>?_)
 refine Z16 ?_;refine A2 [1] ?_;refine Z1 ?_;refine Ap Tryz.call62 (c62 m.ahead h.ahead.len h.ahead.ok h.ahead.rng _) ?_;refine Z89 ?_;refine A2 [1,4,5] ?_;refine Z2 ?_;refine A2 [1,4,5,6] ?_;refine Z71 ?_;refine R.nilSl 6 1 ?_;refine Z7 ?_;refine A2 [1,5,6,15,16,17] ?_
 refine Bo (α:=Nat) (fun x=>⟨47,A9 1 (.ro (Yb m)) (A9 5 (A7 (Bv m.ahead).2) (A9 6 (.slice true 1 (((gvs m (Bv m.ahead).1).take x).map Ac)) (A9 15 (Jw (Bv m.ahead).1) (A9 16 (A7 ((Bv m.ahead).1.length:Nat)) (A9 17 (A7 (x:Nat)) (fun _=>.any)))))),Hp,[],[],none⟩) (fun x=>x≤(Bv m.ahead).1.length) (fun x=>(Bv m.ahead).1.length-x) (0) (Al _) (Ar (by simp)) rfl (fun x hx=>?_)
 refine Z2 ?_;refine A2 [1,5,6,15,16,17,18] ?_
 refine Nc (fun ht18=>?_) (fun ht18=>?_)
 ·have hlt:x<(Bv m.ahead).1.length:=by simpa using ht18
  have hxg:x<m.give.length:=by omega
  have hn1:=h.gives.2 _ (D4 hxg)
  have hn2:=Uy m.give[x].kind
  have hn3:=hTl _ (D4 hlt)
  refine Z22 ?_;refine Z2 ?_
  refine A3 (h:=B2 (x) (Ac (Bv m.ahead).1[x]) (fun _=>Ea hlt)) (hr:=?_)
  refine Z7 ?_;refine A2 [1,5,6,7,8,15,16,17] ?_;refine Me [0,0,2,0,14,30,62,126,0,256,0,1792,3840,7936,16128,32766,65534,0,262142,524286,1048575,2097151] [] [.s [6,22] none [] [],.q 19 [] []] (fun _=>Hp) (fun _=>[]) Af (by kernel_rfl) rfl rfl (fun _=>rfl) ?_;refine Y.moveT ?_
  apply Y.q
  ·intro B hT hF
   refine Z19 ?_
   refine Am (h:=B2 (x) (Hz m.give[x]) (fun _=>Ea hxg)) (hr:=?_)
   refine Z5 ?_
   refine Am (h:=Pr (hl:=fun _=>by simp only [Aq,B9];omega)) (hr:=?_)
   refine Z19 ?_
   refine Am (h:=B2 (x) (Hz m.give[x]) (fun _=>Ea hxg)) (hr:=?_)
   refine Z5 ?_;refine Pq Tryz.call68 (c68 _ _) ?_
   refine Am (h:=Pr (hl:=fun _=>by simp only [Ai,Aq,B9];omega)) (hr:=?_)
   refine Am (h:=Pr (hl:=fun _=>by simp only [Ai,Aq,B9];omega)) (hr:=?_)
   refine Am ?_
   refine Am (h:=Pr (hl:=fun _=>by simp only [Ai,Aq,B9];omega)) (hr:=?_)
   exact Z28
  case hTF=>decide
  refine Dj (tn:=[])  ?_
  refine N9 jU Tryz.type9 ?_ ?_ ?_
  ·simp only [Bh,J6,Aq,B9,Tryz.t9];omega
  ·simp only [Bh,J6,Aq,B9,Tryz.t9];omega
  refine Tp ?_;refine A2 [1,5,6,15,16,17] ?_;refine Z12 ?_;refine Z21 ?_;refine A2 [1,5,6,15,16,17] ?_;refine Be (x+1) hlt (by omega) ?_
  rw [im (by omega:x<(gvs m (Bv m.ahead).1).length),ANr hlt hxg]
  exact Oo (own:=[]) (fun _=>.refl _) (by repeat (first|exact H3|refine H1 (by first|exact d7|exact ji|exact io|exact ra|(simp [or_imp,forall_and];done)) ?_)) (by simp) (by simp)
 have hxe:(Bv m.ahead).1.length≤x:=by simpa using ht18
 rw [Fw (by omega:(gvs m (Bv m.ahead).1).length≤x)]
 refine Z26 ?_;refine Z2 ?_
 refine Ap Tryz.call63 (c63 (gvs m (Bv m.ahead).1) [44,32] (by omega) (by rw [me];omega) _) ?_
 refine Z7 ?_;refine Z14 ?_;exact Ab (Es Ag Ag) ⟨by rw [Ry,←me]<;>rfl,rfl⟩

/-- The reference parser's object and the move's, turned. -/
def U8 (L:List Tok) (Hp:List AObj) (o om:Nat) (S:XS) (x:AObj):List AObj:=(Hp.set o (prx L S)).set om x
@[go_sem] theorem U8_len {L:List Tok} {Hp:List AObj} {o om:Nat} {S:XS} {x:AObj}:(U8 L Hp o om S x).length=Hp.length:=by simp [U8]
theorem mi {L:List Tok} {Hp:List AObj} {o om:Nat} {S:XS} {x z:AObj} (hm:Hp[om]? = some z):(U8 L Hp o om S x)[om]? = some x:=gB hm
theorem S9 {L:List Tok} {Hp:List AObj} {o om:Nat} {S:XS} {x z:AObj} (ho:Hp[o]? = some z) (hne:om≠o):(U8 L Hp o om S x)[o]? = some (prx L S):=gA ho hne
theorem Km {L:List Tok} {Hp:List AObj} {o om:Nat} {S T:XS} {x:AObj} (hne:om≠o):(U8 L Hp o om S x).set o (prx L T)=U8 L Hp o om T x:=ACl hne
theorem U8_setm {L:List Tok} {Hp:List AObj} {o om:Nat} {S:XS} {x y:AObj}:(U8 L Hp o om S x).set om y=U8 L Hp o om S y:=Bc ..
theorem AHj {L:List Tok} {Hp:List AObj} {o om:Nat} {S:XS} {x:AObj} (hne:om≠o) (hm:Hp[om]? = some x):Hp.set o (prx L S)=U8 L Hp o om S x:=(E8 (by rw [Gj (Ne.symm hne)];exact hm)).symm
theorem xf {L:List Tok} {Hp:List AObj} {o om:Nat} {S:XS} {m:Mov} {c:Col} {x:AObj}:(U8 L Hp o om S x).set om (.cells 47 [A7 m.kind,.slice true 1 (m.take.map Ac),.slice true 2 (m.give.map Hz++[Hz c]),.slice true 6 (m.ahead.map Aj),.slice true 6 (m.back.map Aj)])=U8 L Hp o om S (mvO (Ek m c)):=by
 rw [U8_setm];simp only [mvO,mvC,Ek,Cu,Bs,Gu]
theorem xg {L:List Tok} {Hp:List AObj} {o om:Nat} {S:XS} {m:Mov} {e:Expr} {x:AObj}:(U8 L Hp o om S x).set om (.cells 47 [A7 m.kind,.slice true 1 (m.take.map Ac),.slice true 2 (m.give.map Hz),.slice true 6 (m.ahead.map Aj++[.agg (E3 e)]),.slice true 6 (m.back.map Aj)])=U8 L Hp o om S (mvO (Ml m e)):=by
 rw [U8_setm,show AV.agg (E3 e)=Aj e from (Ad e).symm];simp only [mvO,mvC,Ml,Cu,Bs,Gu]
theorem xh {L:List Tok} {Hp:List AObj} {o om:Nat} {S:XS} {m:Mov} {e:Expr} {x:AObj}:(U8 L Hp o om S x).set om (.cells 47 [A7 m.kind,.slice true 1 (m.take.map Ac),.slice true 2 (m.give.map Hz),.slice true 6 (m.ahead.map Aj),.slice true 6 (m.back.map Aj++[.agg (E3 e)])])=U8 L Hp o om S (mvO (M0 m e)):=by
 rw [U8_setm,show AV.agg (E3 e)=Aj e from (Ad e).symm];simp only [mvO,mvC,M0,Cu,Bs,Gu]
theorem Xc {L:List Tok} (hl:TokEnd L) {S:XS} (hi:S.i<L.length):(I2 L S).i<L.length:=by
 unfold I2
 cases h:(Kt L S==0) with
 | true =>
  have e:I1 L S=E4 L 8 S:=if_pos h
  rw [e,if_neg (by simpa using Qe),Oi];exact hi
 | false =>
  have e:I1 L S=S:=if_neg (by rw [h];simp)
  rw [e];split
  ·refine hl.step hi fun h0=>?_
   have:Kt L S=0:=by
    unfold Kt;rw [dj,h0];rfl
   rw [this] at h;cases h
  exact hi
theorem dr {L:List Tok} {S:XS}:(I1 L S).i=S.i:=by unfold I1;split;exact Oi;rfl
theorem Uc {n:Nat} {f:Nat→AV} {u u' own:List AObj} {dfs:List Nat} {rnd:Option Nat} (h:u=u'):(⟨n,f,u,own,dfs,rnd⟩:St)=⟨n,f,u',own,dfs,rnd⟩:=by rw [h]

abbrev q8 (L:List Tok) (S:XS):XS:=I2 L (Az L S).2
abbrev p8 (L:List Tok) (S:XS):XS:=Bf L [61] (q8 L S)
abbrev c8c (L:List Tok) (S:XS):Col:=⟨(Az L S).1,Kt L (Az L S).2⟩
theorem c55 (L:List Tok) (m:Mov) (S:XS) (o om:Nat) (Hp:List AObj) (hne:om≠o) (ho:Hp[o]? = some (prx L S)) (hm:Hp[om]? = some (mvO m)) (hi:S.i<L.length) (hl:TokEnd L) (hll:L.length≤500000) (ht:∀i,Oh (A4 L i)) (hb:MvLe m 600000):ACall Tryz.prog 55 [.ptr o 0,.ptr om 0] Hp (fun r H'=>r=Ks∧H'=U8 L Hp o om (Ec L m S).2 (mvO (Ec L m S).1)):=by
 have h1:(Az L S).2.i<L.length:=Ny hl hi
 have h3:(q8 L S).i<L.length:=Xc hl h1
 have h4:(p8 L S).i<L.length:=Fa hl h3
 have:=hb.take;have:=hb.give;have:=hb.ahead;have:=hb.back
 have hgi:(I1 L (Az L S).2).i=(Az L S).2.i:=dr
 refine B0 [] [0,1] Tryz.func55 Tryz.ntmps55 (fun d=>?_)
 refine Z2 ?_;refine B4 (x:=prx L (Az L S).2) Tryz.call56 ho (by simp) G5 (c56 L S o _ (A8 ho) hi (by omega)) ?_;refine ef ?_;refine Z11 ?_;refine eg ?_;refine Hw ?_;refine Ns (AHj hne hm) ?_;refine Z2 ?_;refine A2 [0,1,4,5] ?_
 refine Bo (α:=Nat) (fun x=>⟨85,A9 0 (.ptr o 0) (A9 1 (.ptr om 0) (A9 4 (.ptr (oid Hp.length 0) 0) (A9 5 (A7 ((x:Nat)+1)) (fun _=>.any)))),(U8 L Hp o om (Az L S).2 (mvO m)),[.cells 64 [Ac (Az L S).1,A7 (E7 Av (A4 L (Az L S).2.i) x)]],[],none⟩) (fun x=>x≤3) (fun x=>3-x) (0) (by omega) (Ar rfl) rfl (fun x hx=>?_)
 refine Z9 ?_;refine A2 [0,1,4,5,10] ?_
 refine A6 (fun ht10=>?_) (fun ht10=>?_)
 ·have hx3:x<3:=by simp at ht10;omega
  refine Z4 ?_
  refine Ih ⟨85,A9 0 (.ptr o 0) (A9 1 (.ptr om 0) (A9 4 (.ptr (oid Hp.length 0) 0) (A9 5 (A7 ((x:Nat)+1)) (fun _=>.any)))),(U8 L Hp o om (Az L S).2 (mvO m)),[.cells 64 [Ac (Az L S).1,A7 (E7 Av (A4 L (Az L S).2.i) (x+1))]],[],none⟩ ?_ ?_
  ·refine Ic ?_;refine Om [0,1,3,7,0,16,48,112,255,511,1023,2047,4095,8191,16383,32767,65535,8191,139263,401407,925695,2097151,4194303,8388607,8191,16785407,67108863,134217727] 26 Af (by kernel_rfl) ?_;refine Z19 ?_
   refine Am (h:=An (S9 ho hne)) (hr:=?_)
   refine Z19 ?_
   refine Am (h:=An (S9 ho hne)) (hr:=?_)
   refine Am (h:=B2 ((Az L S).2.i) (En (A4 L (Az L S).2.i)) (fun _=>Ez h1)) (hr:=?_)
   refine Z85 ?_;refine Z86 ?_
   refine H0 (h:=An (S9 ho hne)) (hr:=?_)
   refine Z86 ?_
   refine H0 (h:=An (S9 ho hne)) (hr:=?_)
   refine H0 (h:=B2 ((Az L S).2.i) (En (A4 L (Az L S).2.i)) (fun _=>Ez h1)) (hr:=?_)
   refine Z86 ?_;refine H.call Tryz.call42 (fun hB=>c42 _ _) ?_;refine Er ?_;refine Z55 ?_;refine A2 [0,1,4,5,40] ?_
   refine A6 (fun ht40=>?_) (fun ht40=>?_)
   ·have e:(E7 Av (A4 L (Az L S).2.i) (x+1))=((x:Int)+1):=if_pos ht40
    refine Z21 ?_;refine Ho ?_;refine A2 [0,1,4,5] ?_;refine Z94 ?_
    first|exact Ar rfl|(rw [e];exact Ar rfl)|exact Ar (Uc (by rw [e];exact Km (T:=Ha _) hne))|exact Ar (Uc (by rw [e]))
   have e:(E7 Av (A4 L (Az L S).2.i) (x+1))=(E7 Av (A4 L (Az L S).2.i) x):=if_neg (nf ht40)
   refine Eh [0,1,4,5] ?_;refine He ?_;refine Z94 ?_
   first|exact Ar rfl|(rw [e];exact Ar rfl)|exact Ar (Uc (by rw [e];exact Km (T:=Ha _) hne))|exact Ar (Uc (by rw [e]))
  refine Z15 ?_;refine A2 [0,1,4,5] ?_
  refine Be (x+1) (by omega) (by omega) (Bp rfl)
 have hx3:x=3:=by simp at ht10;omega
 subst hx3
 refine Z41 ?_
 refine Ih ⟨85,A9 0 (.ptr o 0) (A9 1 (.ptr om 0) (A9 4 (.ptr (oid Hp.length 0) 0) (fun _=>.any))),(U8 L Hp o om (I1 L (Az L S).2) (mvO m)),[.cells 64 [Ac (Az L S).1,A7 (Kt L (Az L S).2)]],[],none⟩ ?_ ?_
 ·refine Z16 ?_;refine A2 [0,1,4,45] ?_
  refine A6 (fun ht45=>?_) (fun ht45=>?_)
  ·have e:I1 L (Az L S).2=E4 L 8 (Az L S).2:=if_pos ht45
   refine Z32 ?_;refine B4 (x:=prx L (E4 L 8 (Az L S).2)) Tryz.call25 (S9 ho hne) (by simp) G5 (c25 L (Az L S).2 8 o _ (A8 (S9 ho hne)) h1) ?_
   rw [Km hne]
   refine eg ?_;refine Mf ?_
   first|exact Ar rfl|(rw [e];exact Ar rfl)|exact Ar (Uc (by rw [e];exact Km (T:=Ha _) hne))|exact Ar (Uc (by rw [e]))
  have e:I1 L (Az L S).2=(Az L S).2:=if_neg (nf ht45)
  refine Eh [0,1,4] ?_;refine Z98 ?_
  first|exact Ar rfl|(rw [e];exact Ar rfl)|exact Ar (Uc (by rw [e];exact Km (T:=Ha _) hne))|exact Ar (Uc (by rw [e]))
 refine Ih ⟨85,A9 0 (.ptr o 0) (A9 1 (.ptr om 0) (A9 4 (.ptr (oid Hp.length 0) 0) (fun _=>.any))),(U8 L Hp o om (q8 L S) (mvO m)),[.cells 64 [Ac (Az L S).1,A7 (Kt L (Az L S).2)]],[],none⟩ ?_ ?_
 ·refine Z33 ?_
  refine A3 (h:=An (S9 ho hne)) (hr:=?_)
  refine A3 ?_;refine A2 [0,1,4,53] ?_
  refine A6 (fun ht53=>?_) (fun ht53=>?_)
  ·have e:(q8 L S)=Ha (I1 L (Az L S).2):=if_pos ht53
   refine Z15 ?_
   refine A3 (h:=An (S9 ho hne)) (hr:=?_)
   refine Z7 ?_
   refine Cv jS (S9 ho hne) ?_ ?_
   ·simp
   refine eg ?_;refine Mf ?_
   first|exact Ar rfl|(rw [e];exact Ar rfl)|exact Ar (Uc (by rw [e];exact Km (T:=Ha _) hne))|exact Ar (Uc (by rw [e]))
  have e:(q8 L S)=I1 L (Az L S).2:=if_neg (nf ht53)
  refine Eh [0,1,4] ?_;refine Z98 ?_
  first|exact Ar rfl|(rw [e];exact Ar rfl)|exact Ar (Uc (by rw [e];exact Km (T:=Ha _) hne))|exact Ar (Uc (by rw [e]))
 refine Z2 ?_;refine B4 (x:=prx L (p8 L S)) Tryz.call58 (S9 ho hne) (by simp) G5 (c58 L (q8 L S) [61] o _ (A8 (S9 ho hne)) h3 (by omega)) ?_
 rw [Km hne]
 refine eg ?_;refine Fe [0,0,2,6,14,0,32,126,255,511,1023] [4] [.q 4 [] [],.s [67] (some 0) [] [],.q 2 [] [],.s [67,70] none [0] []] (fun B=>U8 L Hp o om (p8 L S) (if B 0=true then .cells 47 (mvF true false true true m) else .cells 47 (mvF true true true true m))) (fun _=>[.cells 64 [Ac (Az L S).1,A7 (Kt L (Az L S).2)]]) Af (by kernel_rfl) rfl rfl (fun B=>U8_len.trans U8_len.symm) ?_
 apply Y.q
 ·intro B hT hF
  exact nq
 case hTF=>decide
 refine O7 (o:=om) (t':=47) (cs:=(mvF true true true true m)) (cs':=(mvF true false true true m)) Tryz.isAgg40 (fun B hB=>⟨by simp only [hB];exact mi hm,U8_setm.symm,rfl⟩) ?_
 apply Y.q
 ·intro B hT hF
  exact l8
 case hTF=>decide
 refine Y.append jU Tryz.type64 ?_ ?_ ?_
 ·simp [Tryz.t64];omega
 ·simp [Tryz.t64];omega
 refine Dj (tn:=[4]) (U:=U8 L Hp o om (p8 L S) (.cells 47 (mvF true false true true m))) (O:=[.cells 64 [Ac (Az L S).1,A7 (Kt L (Az L S).2)]]) ?_;refine Z0 ?_
 refine Iy jS (mi hm) ?_ ?_
 ·simp [or_imp,forall_and]
 refine A2 [0,1] ?_;refine Ns (xf (m:=m) (c:=(c8c L S))) ?_
 refine W.drawT0 [0,1,3,7,0,16,15,0,255,511,1023,511,2559,6655] [3,5] [.q 3 [] [0],.s [76] (some 0) [] [],.q 1 [] [1],.s [78] (some 1) [] [],.q 2 [] []] (fun B=>U8 L Hp o om (if B 1=true then (Df L (p8 L S)).2 else (p8 L S)) (if B 0=true then .cells 47 (mvF true true false true (Ek m (c8c L S))) else .cells 47 (mvF true true true true (Ek m (c8c L S))))) (fun _=>[.cells 64 [Ac (Az L S).1,A7 (Kt L (Az L S).2)]]) Af (by kernel_rfl) rfl rfl (fun B=>by rw [U8_len];exact U8_len.symm) ?_
 apply Y.q
 ·intro B hT hF
  exact AMh
 case hTF=>decide
 refine O7 (o:=om) (t':=47) (cs:=(mvF true true true true (Ek m (c8c L S)))) (cs':=(mvF true true false true (Ek m (c8c L S)))) Tryz.isAgg45 (fun B hB=>⟨by simp only [hB];exact mi hm,U8_setm.symm,rfl⟩) ?_
 apply Y.q
 ·intro B hT hF
  exact Z29
 case hTF=>decide
 refine Jk (r:=Aj (Df L (p8 L S)).1) (o:=o) (x0:=prx L (p8 L S)) (x:=prx L (Df L (p8 L S)).2) Tryz.call97 (fun B hB1 hB2 hB=>⟨by simp only [hB];exact S9 ho hne,(Km hne).symm,rfl,G5,?_⟩) ?_
 ·simp only [hB]
  exact c97 L (p8 L S) o _ (A8 (S9 ho hne)) h4 hl hll ht
 apply Y.q
 ·intro B hT hF
  exact l8
 case hTF=>decide
 refine ub (tn:=[3,5]) (U:=U8 L Hp o om (Df L (p8 L S)).2 (.cells 47 (mvF true true false true (Ek m (c8c L S))))) (O:=[.cells 64 [Ac (Az L S).1,A7 (Kt L (Az L S).2)]]) (o:=om) (t':=47) (cs:=(mvF true true false true (Ek m (c8c L S)))) (by kernel_rfl) jU Tryz.type69 Tryz.sizeOf69 Tryz.sizeOf45 jU (A8 (mi hm)) ?_ ?_ ?_ (hfsz:=Tryz.sizeOf45)
 ·simp [Tryz.t69,Ek];omega
 ·simp [Tryz.t69,Ek];omega
 refine Z0 ?_
 refine Iy jS (mi hm) ?_ ?_
 ·exact Nt
 refine Nf ?_;exact On .nores (hp:=⟨rfl,by exact xg (m:=Ek m _)⟩)

theorem Xd {L:List Tok} (hl:TokEnd L) {k:Nat} {S:XS} (hi:S.i<L.length):(Fu L k S).i<L.length:=by unfold Fu;split;exact Fa hl hi;exact hi
/-- Where the loop of what goes back stands. -/
structure B8At (L:List Tok) (m:Mov) (S:XS) (x:Nat×Mov×XS):Prop where
 k:x.1≤m.take.length
 take:x.2.1.take=m.take
 back:x.2.1.back.length≤m.back.length+x.1
 lt:x.2.2.i<L.length
 eq:J1 L (m.take.length-x.1) x.1 x.2.1 x.2.2=G9 L m S
theorem B8At.on {L:List Tok} (hl:TokEnd L) (hll:L.length≤500000) {m:Mov} {S:XS} {x:Nat×Mov×XS} (h:B8At L m S x) (hk:x.1<m.take.length):B8At L m S (x.1+1,M0 x.2.1 (Df L (Fu L x.1 x.2.2)).1,(Df L (Fu L x.1 x.2.2)).2):=by
 refine ⟨hk,h.take,?_,dq hl hll (Xd hl h.lt),?_⟩
 ·show (x.2.1.back++[_]).length≤_
  rw [Ai,Gt];have:=h.back;show _≤_+(x.1+1);omega
 have:=h.eq
 rw [show m.take.length-x.1=m.take.length-(x.1+1)+1 by omega,J1] at this
 exact this
theorem B8At.out {L:List Tok} {m:Mov} {S:XS} {x:Nat×Mov×XS} (h:B8At L m S x) (hk:¬x.1<m.take.length):G9 L m S=(x.2.1,x.2.2):=by
 have:=h.eq
 rw [show m.take.length-x.1=0 by omega] at this
 exact this.symm
theorem c57 (L:List Tok) (m:Mov) (S:XS) (o om:Nat) (Hp:List AObj) (hne:om≠o) (ho:Hp[o]? = some (prx L S)) (hm:Hp[om]? = some (mvO m)) (hi:S.i<L.length) (hl:TokEnd L) (hll:L.length≤500000) (ht:∀i,Oh (A4 L i)) (hb:MvLe m 600000):ACall Tryz.prog 57 [.ptr o 0,.ptr om 0] Hp (fun r H'=>r=Ks∧H'=U8 L Hp o om (G9 L m S).2 (mvO (G9 L m S).1)):=by
 have h1:(Bf L backW S).i<L.length:=Fa hl hi
 have:=hb.take;have:=hb.back
 refine B0 [] [0,1] Tryz.func57 Tryz.ntmps57 (fun d=>?_)
 refine Z2 ?_;refine B4 (x:=prx L (Bf L backW S)) Tryz.call58 ho (by simp) G5 (c58 L S backW o _ (A8 ho) hi (by omega)) ?_;refine A2 [0,1] ?_;refine Ns (AHj hne hm) ?_;refine Z2 ?_;refine eg ?_
 refine Bo (α:=Nat×Mov×XS) (fun x=>⟨32,A9 0 (.ptr o 0) (A9 1 (.ptr om 0) (A9 4 (A7 (x.1:Nat)) (fun _=>.any))),(U8 L Hp o om x.2.2 (mvO x.2.1)),[],[],none⟩) (fun x=>B8At L m S x) (fun x=>m.take.length-x.1) ((0,m,(Bf L backW S))) ⟨Al _,rfl,Pk _ _,h1,rfl⟩ (Ar rfl) rfl (fun x hx=>?_)
 refine Z42 ?_
 refine A3 (h:=An (mi hm)) (hr:=?_)
 refine Z0 ?_;refine A2 [0,1,4,13] ?_
 refine A6 (fun ht13=>?_) (fun ht13=>?_)
 ·have hk:x.1<m.take.length:=by rw [←hx.take];simpa using ht13
  have hbk:=hx.back
  have h4:(Fu L x.1 x.2.2).i<L.length:=Xd hl hx.lt
  have hon:=hx.on hl hll hk
  refine Z56 ?_
  refine Ih ⟨32,A9 0 (.ptr o 0) (A9 1 (.ptr om 0) (A9 4 (A7 (x.1:Nat)) (fun _=>.any))),(U8 L Hp o om (Fu L x.1 x.2.2) (mvO x.2.1)),[],[],none⟩ ?_ ?_
  ·refine Z1 ?_;refine A2 [0,1,4,17] ?_
   refine A6 (fun ht17=>?_) (fun ht17=>?_)
   ·have e:(Fu L x.1 x.2.2)=Bf L [44] x.2.2:=if_pos ht17
    refine Z32 ?_;refine B4 (x:=prx L (Bf L [44] x.2.2)) Tryz.call58 (S9 ho hne) (by simp) G5 (c58 L x.2.2 [44] o _ (A8 (S9 ho hne)) hx.lt (by omega)) ?_
    rw [Km hne]
    refine eg ?_;refine Mf ?_
    first|exact Ar rfl|(rw [e];exact Ar rfl)|exact Ar (Uc (by rw [e]))
   have e:(Fu L x.1 x.2.2)=x.2.2:=if_neg (nf ht17)
   refine Eh [0,1,4] ?_;refine Z98 ?_
   first|exact Ar rfl|(rw [e];exact Ar rfl)|exact Ar (Uc (by rw [e]))
  refine W.drawT0 [0,1,3,7,0,16,15,0,255,511,1023,511,2559,6655] [3,5] [.q 3 [] [0],.s [23] (some 0) [] [],.q 1 [] [1],.s [25] (some 1) [] [],.q 2 [] []] (fun B=>U8 L Hp o om (if B 1=true then (Df L (Fu L x.1 x.2.2)).2 else (Fu L x.1 x.2.2)) (if B 0=true then .cells 47 (mvF true true true false x.2.1) else .cells 47 (mvF true true true true x.2.1))) (fun _=>[]) Af (by kernel_rfl) rfl rfl (fun B=>by rw [U8_len];exact U8_len.symm) ?_
  apply Y.q
  ·intro B hT hF
   exact AMh
  case hTF=>decide
  refine O7 (o:=om) (t':=47) (cs:=(mvF true true true true x.2.1)) (cs':=(mvF true true true false x.2.1)) Tryz.isAgg45 (fun B hB=>⟨by simp only [hB];exact mi hm,U8_setm.symm,rfl⟩) ?_
  apply Y.q
  ·intro B hT hF
   exact Z29
  case hTF=>decide
  refine Jk (r:=Aj (Df L (Fu L x.1 x.2.2)).1) (o:=o) (x0:=prx L (Fu L x.1 x.2.2)) (x:=prx L (Df L (Fu L x.1 x.2.2)).2) Tryz.call97 (fun B hB1 hB2 hB=>⟨by simp only [hB];exact S9 ho hne,(Km hne).symm,rfl,G5,?_⟩) ?_
  ·simp only [hB]
   exact c97 L (Fu L x.1 x.2.2) o _ (A8 (S9 ho hne)) h4 hl hll ht
  apply Y.q
  ·intro B hT hF
   exact l8
  case hTF=>decide
  refine ub (tn:=[3,5]) (U:=U8 L Hp o om (Df L (Fu L x.1 x.2.2)).2 (.cells 47 (mvF true true true false x.2.1))) (O:=[]) (o:=om) (t':=47) (cs:=(mvF true true true false x.2.1)) (by kernel_rfl) jU Tryz.type69 Tryz.sizeOf69 Tryz.sizeOf45 jU (A8 (mi hm)) ?_ ?_ ?_ (hfsz:=Tryz.sizeOf45)
  ·simp [Tryz.t69];omega
  ·simp [Tryz.t69];omega
  refine Z0 ?_
  refine Iy jS (mi hm) ?_ ?_
  ·exact Nt
  refine eg ?_;refine Z75 ?_;refine eg ?_
  refine Be (x.1+1,M0 x.2.1 (Df L (Fu L x.1 x.2.2)).1,(Df L (Fu L x.1 x.2.2)).2) hon (by show m.take.length-(x.1+1)<_;omega) (Bp (Uc (by exact xh (m:=x.2.1))))
 have hk:¬x.1<m.take.length:=by rw [←hx.take];simpa using ht13
 have e:=hx.out hk
 refine AB8 ?_;exact On .nores (hp:=⟨rfl,by rw [e]⟩)

theorem c30 (m:Mov) (h:OkMov m) (hv:Ix m=true) (Hp:List AObj):AFun Tryz.prog 30 [K5 m] Hp (.tup [Ac (K1 m).1,A7 (K1 m).2]):=by
 have ha:=(L6 (Sw hv)).1
 have hgl:(L9 m).1.length≤1100000000000:=by rw [Ry];exact X5 h ha
 have htl:=j6 h
 have hbl:=j7 h
 have hwl:=Xz m.kind
 have htk:=h.takes
 have hbk:=h.back.len
 have hbt:=(Js m.back).1
 refine B0 [.tmp 2,.tmp 3] [0] Tryz.func30 Tryz.ntmps30 (fun d=>?_)
 refine Z16 ?_;refine A2 [1] ?_;refine Z2 ?_;refine Ap Tryz.call61 (c61 m h ha _) ?_;refine Z89 ?_;refine A2 [1,4,5] ?_;refine Z1 ?_;refine Ap Tryz.call62 (c62 m.back h.back.len h.back.ok h.back.rng _) ?_;refine Z89 ?_;refine A2 [1,4,5,6,7] ?_;refine Z50 ?_;refine Z77 ?_;refine A2 [1,4,6,27] ?_
 refine A6 (fun ht27=>?_) (fun ht27=>?_)
 ·have e:=AH2 ht27
  refine uf ?_;exact AQ5
 have hk:=ACx ht27
 refine nw ?_;refine Ap Tryz.call63 (AQz m.take (by omega) (by omega) _) ?_;refine A3 ?_;refine A2 [1,4,6,8] ?_;refine Z2 ?_;refine Ap Tryz.call63 (AQz (Bv m.back).1 (by omega) (by omega) _) ?_;refine Z0 ?_;refine A2 [1,4,8,9] ?_;refine Z1 ?_;refine Ap Tryz.call12 (c12 _ _) ?_;refine Z0 ?_;refine A2 [1,4,8,9,10] ?_;refine Z9 ?_;refine A2 [1,4,8,9,10,39] ?_;refine Z84 ?_;refine A2 [1,4,8,9,10,39,48] ?_
 refine A6 (fun ht48=>?_) (fun ht48=>?_)
 ·have e:=ANs hk ht48
  refine Z21 ?_;refine Z0 ?_;exact AEk
 refine Z1 ?_;refine A2 [1,4,8,9,10,39,53] ?_
 refine A6 (fun ht53=>?_) (fun ht53=>?_)
 ·have e:=ANt hk ht48 ht53
  refine Z21 ?_;refine Z67 ?_;exact AEk
 refine Z1 ?_;refine A2 [1,4,8,9,10,39,60] ?_
 refine A6 (fun ht60=>?_) (fun ht60=>?_)
 ·obtain ⟨y,hy⟩:=ANf (Vh (Sw hv) (by rw [ht60];rfl)).2
  have e:=ANu hk ht48 ht53 ht60 hy
  have hyl:=h.gives.2 y (by rw [hy];exact Ev)
  refine Z21 ?_;refine Z7 ?_
  refine A3 (h:=B2 (0) (Hz y) (fun _=>by rw [hy];rfl)) (hr:=?_)
  refine Z89 ?_;exact AEk
 refine Z1 ?_;refine A2 [4,8,9,10,72] ?_
 refine A6 (fun ht72=>?_) (fun ht72=>?_)
 ·have e:=ANv hk ht48 ht53 ht60 ht72
  refine Z21 ?_;refine Z67 ?_;exact AEk
 have e:=ANw hk ht48 ht53 ht60 ht72
 refine Z21 ?_;refine Z67 ?_;refine Z7 ?_;exact AEk

theorem c13 (l:List Mov) (h:OkMovs l) (Hp:List AObj):AFun Tryz.prog 13 [Io l] Hp (.tup [Ac (Kj l).1,A7 (Kj l).2]):=by
 refine B0 [.tmp 2,.tmp 3] [0] Tryz.func13 Tryz.ntmps13 (fun d=>?_)
 refine Z1 ?_;refine A2 [0] ?_;refine Z35 ?_;refine Ap Tryz.call14 (c14 l h _) ?_;refine A3 ?_;refine A2 [0,11] ?_
 refine A6 (fun ht11=>?_) (fun ht11=>?_)
 ·have hm:=ACy ht11
  exact AOo
 have hr:ck l=true:=by simpa using ht11
 unfold ck at hr
 simp only [Ah,decide_eq_true_eq,Ay] at hr
 obtain ⟨h8,hall⟩:=hr
 refine Z4 ?_;refine Z24 ?_;refine A2 [0,4] ?_;refine Z71 ?_;refine R.toBld 0 74 5 ?_;refine Z7 ?_;refine A2 [4,12,13,14] ?_
 refine Bo (α:=Nat) (fun x=>⟨32,A9 4 (.ptr (oid Hp.length 0) 0) (A9 12 (Io l) (A9 13 (A7 (l.length:Nat)) (A9 14 (A7 (x:Nat)) (fun _=>.any)))),Hp,[qw ((l.take x).flatMap mvS)],[],none⟩) (fun x=>x≤l.length∧∀(j:Nat) (y:Mov),j<x→l[j]? = some y→Ds y=true) (fun x=>l.length-x) (0) ⟨Al _,fun j y h=>by omega⟩ (Ar (by simp)) rfl (fun x hx=>?_)
 refine Z2 ?_;refine A2 [4,12,13,14,15] ?_
 refine Nc (fun ht15=>?_) (fun ht15=>?_)
 ·have hlt:x<l.length:=by simpa using ht15
  have hv1:=hall _ (D4 hlt)
  have hfl:((l.take x).flatMap mvS).length≤x*3000000000000:=j8 fun j y hj hy=>zu (h.each _ (Bd hy)) (L6 (Sw (hall _ (Bd hy)))).1 (hx.2 j y hj hy)
  refine AEo ?_
  refine A3 (h:=B2 (x) (K5 l[x]) (fun _=>Ea hlt)) (hr:=?_)
  refine A3 ?_;refine Z11 ?_;refine A2 [4,6,12,13,14] ?_;refine Z2 ?_;refine Ap Tryz.call30 (c30 l[x] (h.each _ (D4 hlt)) hv1 _) ?_;refine Z89 ?_;refine A2 [4,7,8,12,13,14] ?_;refine Z9 ?_;refine A2 [4,7,8,12,13,14,24] ?_
  refine A6 (fun ht24=>?_) (fun ht24=>?_)
  ·have hk:Ds l[x]=false:=by
    cases e:Ds l[x] with
    | true=>unfold K1 at ht24;rw [e] at ht24;simp at ht24
    | false=>rfl
   have hm:=x5 ht11 hlt hk
   have et:K1 l[x]=([],3):=by unfold K1;rw [hk];rfl
   refine Z16 ?_;refine Z60 ?_;refine Z66 ?_;exact Ab (Es Ag Ag) ⟨by rw [hm,et]<;>rfl,rfl⟩
  have hk:Ds l[x]=true:=by
   cases e:Ds l[x] with
   | true=>rfl
   | false=>unfold K1 at ht24;rw [e] at ht24;simp at ht24
  have et:K1 l[x]=(mvS l[x],0):=by unfold K1;rw [hk];rfl
  have hml:=zu (h.each _ (D4 hlt)) (L6 (Sw hv1)).1 hk
  rw [et]
  refine Z4 ?_;refine Z32 ?_
  refine Md (n:=0) (x:=qw ((l.take x).flatMap mvS++mvS l[x])) Tryz.call31 (AT2 ((l.take x).flatMap mvS) (mvS l[x]) (by omega) (oid Hp.length 0) _ (by rw [Cj];rfl)) ?_ (hset:=List.set_cons_zero)
  refine A2 [4,12,13,14] ?_;refine Z12 ?_;refine Z21 ?_;refine A2 [4,12,13,14] ?_;refine Be (x+1) ⟨hlt,Jx hlt hx.2 hk⟩ (by omega) ?_
  rw [ACz hlt]
  exact Oo (own:=[qw ((l.take x).flatMap mvS++mvS l[x])]) (fun _=>.refl _) (by repeat (first|exact H3|refine H1 (by first|exact Vp|(simp [oid,or_imp,forall_and];done)) ?_)) (by intro z hz;rw [C1.1 hz];exact AGr) (by simp)
 have hxe:l.length≤x:=by simpa using ht15
 have hm:=x6 ht11 fun j y hy=>hx.2 j y (by have:=(Aa.1 hy).1;omega) hy
 rw [Fw hxe]
 refine Z26 ?_;refine Z71 ?_
 refine Ap Tryz.call32 (AT7 (l.flatMap mvS) (oid Hp.length 0) _ (by rw [Cj];rfl)) ?_
 refine A3 ?_;refine A2 [4,30] ?_
 refine A6 (fun ht30=>?_) (fun ht30=>?_)
 ·rw [if_pos (by have:=of_decide_eq_true ht30;omega)] at hm
  exact AOo
 rw [if_neg (by have:=of_decide_eq_false ht30;omega)] at hm
 refine Y8 ?_
 refine Md (n:=0) (x:=.cells 74 [.any,.any]) Tryz.call33 (AT3 (l.flatMap mvS) (oid Hp.length 0) _ (by rw [Cj];rfl)) ?_ (hset:=List.set_cons_zero)
 refine Z0 ?_;refine Z14 ?_;exact AMr

/-! What mig.Parse hands back is right, and may be walked. -/
structure TrE (e:Expr):Prop where
 right:Fb e=true
 rng:E5 J0 e=true
 need:C2 e≤30
theorem AL1 {l:List Tok} {i:Nat} (h0:(atM l i).2.2.1=0):C2 (atM l i).1≤30:=by
 unfold atM at h0 ⊢
 split
 ·exact AC2
 rename_i hc
 have hc:(atS l i (atR l i)).code=0:=by simpa using hc
 have hr:(atR l i).2.code=0:=by
  unfold atS at hc
  split at hc
  ·exact hc
  rename_i hh;simpa using hh
 have:=((wh l 30 0 rfl).1 ⟨i,0,0,0⟩ rfl).need hr
 have h2:=(Vl 0 (atR l i).1 (C2 (atR l i).1)).1
 show C2 (atR l i).1≤30
 unfold atR at h2 ⊢
 omega
theorem AHk {L:List Tok} (hw:∀i,WordOk (A4 L i)) {i:Nat} (ha:(atM L i).2.2.1=0):TrE (atM L i).1:=by
 have hneed:=AL1 ha
 revert hneed
 unfold atM at ha ⊢
 by_cases hc:((atS L i (atR L i)).code != 0)=true
 ·rw [if_pos hc] at ha
  rw [show (atS L i (atR L i)).code=0 from ha] at hc
  cases hc
 rw [if_neg hc]
 have hc:(atS L i (atR L i)).code=0:=by simpa using hc
 have h0:(atR L i).2.code=0∧depthE (atR L i).1≤30∧sizeE (atR L i).1≤300:=by
  unfold atS at hc
  split at hc
  ·rename_i hh;exact absurd hc (by simpa using hh)
  rename_i hh
  split at hc
  ·exact AMm
  rename_i h2
  split at hc
  ·exact AMm
  rename_i h3
  simp only [decide_eq_true_eq,Int.not_lt] at h2 h3
  exact ⟨by simpa using hh,by omega,by omega⟩
 have:=(AG6 _ hw 30 0 rfl).1 ⟨i,0,0,0⟩ rfl h0.1
 refine fun hneed=>⟨?_,this.2,hneed⟩
 unfold Fb
 rw [Ah,Ah]
 exact ⟨⟨by simpa using h0.2.1,by simpa using h0.2.2⟩,this.1⟩
theorem xi {s:Str} (hl:(C4 s).2.1=0):∀i,WordOk (A4 (C4 s).1 i):=fun i=>by
 obtain ⟨_,hi,hM⟩:=Yz hl
 have hall:∀t∈(C4 s).1,WordOk t:=fun t ht=>by
  rw [hM] at ht
  rcases Di.1 ht with ht|ht
  ·obtain ⟨it,hit,rfl⟩:=F4.1 ht
   exact qj _ _ _ it hit (hi it hit)
  rw [C1.1 ht]
  exact ANc _
 unfold A4
 rw [F7]
 cases hg:(C4 s).1[i]? with
 | none=>exact ⟨(fun h=>by cases h),(fun h=>by cases h)⟩
 | some t=>exact hall t (Bd hg)
theorem AAa {L:List Tok} (hw:∀i,WordOk (A4 L i)) {i:Nat} {x:Expr} {j:Nat} (h:K0 L i=.ok x j):TrE x:=by
 unfold K0 at h
 split at h
 ·cases h
 rename_i h1
 injection h with h2 _
 rw [←h2]
 exact AHk hw (by simpa using h1)
theorem T6 {L:List Tok} (hw:∀i,WordOk (A4 L i)) {i:Nat} {s:Str} {j:Nat} (h:Fh L i=.ok s j):H8 s=true:=by
 unfold Fh at h
 split at h
 ·cases h
 rename_i h1
 injection h with h2 _
 rw [←h2]
 exact (hw i).name (by simpa using h1)
theorem jj {s:Str} (h:(Kd s==0)=false):1≤Kd s∧Kd s≤3:=by
 unfold Kd at h ⊢
 repeat' split at h
 all_goals simp_all
structure ColG (c:Col):Prop where
 name:H8 c.name=true
 lo:1≤c.kind
 hi:c.kind≤3
theorem ADg {L:List Tok} (hw:∀i,WordOk (A4 L i)) {i:Nat} {c:Col} {j:Nat} (h:Jd L i=.ok c j):ColG c:=by
 obtain ⟨s,j1,h1,h2⟩:=Cc h
 unfold Tf at h2
 split at h2
 ·cases h2
 rename_i h3
 injection h2 with h2 _
 have h3:(Kd (A4 L j1).text==0)=false:=by
  simp only [Cz,not_or,Tk] at h3
  exact h3.2
 rw [←h2]
 exact ⟨T6 hw h1,(jj h3).1,(jj h3).2⟩
/-- The parts of a move, so far. -/
structure MvG (m:Mov):Prop where
 takes:∀s∈m.take,H8 s=true
 gives:∀c∈m.give,ColG c
 len:m.ahead.length=m.give.length
 aheads:∀x∈m.ahead,TrE x
 backs:∀x∈m.back,TrE x
theorem MvG.nil (k:Int):MvG ⟨k,[],[],[],[]⟩:=⟨(fun s h=>by cases h),(fun s h=>by cases h),rfl,(fun s h=>by cases h),(fun s h=>by cases h)⟩
theorem Zo {L:List Tok} (hw:∀i,WordOk (A4 L i)) {m:Mov} (hm:MvG m) {i:Nat} {m':Mov} {j:Nat} (h:Eb L m i=.ok m' j):MvG m'∧∃c x,ColG c∧m'=Ml (Ek m c) x:=by
 obtain ⟨c,j1,h1,h2⟩:=Cc h
 obtain ⟨u,j2,h3,h4⟩:=Cc h2
 obtain ⟨x,j3,h5,h6⟩:=Cc h4
 injection h6 with h6 _
 have hc:=ADg hw h1
 have hx:=AAa hw h5
 subst h6
 refine ⟨⟨hm.takes,fun y hy=>?_,?_,fun y hy=>?_,hm.backs⟩,c,x,hc,rfl⟩
 ·rcases Di.1 hy with h|h
  ·exact hm.gives y h
  rw [C1.1 h];exact hc
 ·show (m.ahead++[x]).length=(m.give++[c]).length
  rw [Ai,Ai,hm.len]
  rfl
 rcases Di.1 hy with h|h
 ·exact hm.aheads y h
 rw [C1.1 h];exact hx
theorem rq {L:List Tok} (hl:TokEnd L) {n:Int} {one:Mov→Nat→PR Mov} {P:Nat→Mov→Prop} (hP:∀k m i m' j,P k m→i<L.length→one m i=.ok m' j→P (k+1) m'∧i≤j∧j<L.length):
  ∀(f k:Nat) (m:Mov) (i:Nat) (m':Mov) (j:Nat),i<L.length→L.length≤i+f→P k m→Ip L n one f k m i=.ok m' j→(∃c,P c m'∧(n=0→2≤c)∧(0<n→(k:Int)≤n→(c:Int)=n))∧j<L.length
 | 0,k,m,i,m',j,hi,hf,hm,h=>by omega
 | f+1,k,m,i,m',j,hi,hf,hm,h=>by
  rw [Ip] at h
  split at h
  ·rename_i hq
   obtain ⟨u,j1,h1,h2⟩:=Cc h
   obtain ⟨m1,j2,h3,h4⟩:=Cc h2
   have e:=Jq h1
   have a1:=El hl hi _ _ h1
   obtain ⟨b1,b2,b3⟩:=hP k m j1 m1 j2 hm a1.2 h3
   obtain ⟨⟨c,c1,c2,c3⟩,c4⟩:=rq hl hP f (k+1) m1 j2 m' j b3 (by omega) b1 h4
   refine ⟨⟨c,c1,c2,fun h0 hk=>c3 h0 ?_⟩,c4⟩
   unfold Kr at hq
   have:(n==0)=false:=by simp;omega
   rw [this] at hq
   simp at hq
   omega
  rename_i hq
  injection h with h1 h2
  subst h1;subst h2
  unfold Kr at hq
  refine ⟨⟨k,hm,fun h0=>?_,fun h0 hk=>?_⟩,hi⟩
  ·rw [h0] at hq
   simp at hq
   omega
  simp at hq
  omega
theorem mj {L:List Tok} (hl:TokEnd L) {n:Int} {one:Mov→Nat→PR Mov} {P:Nat→Mov→Prop} (hP:∀k m i m' j,P k m→i<L.length→one m i=.ok m' j→P (k+1) m'∧i≤j∧j<L.length) {m:Mov} {i:Nat} {m':Mov} {j:Nat} (hi:i<L.length) (hm:P 0 m) (h:Gq L n one m i=.ok m' j):(∃c,P c m'∧(n=0→2≤c)∧(0<n→(c:Int)=n))∧j<L.length:=by
 obtain ⟨m1,j1,h1,h2⟩:=Cc h
 obtain ⟨b1,b2,b3⟩:=hP 0 m i m1 j1 hm hi h1
 obtain ⟨⟨c,c1,c2,c3⟩,c4⟩:=rq hl hP _ 1 m1 j1 m' j b3 (by omega) b1 h2
 exact ⟨⟨c,c1,c2,fun h0=>c3 h0 (by omega)⟩,c4⟩
theorem Xe {L:List Tok} (hl:TokEnd L) (hll:L.length≤500000) {m:Mov} {i:Nat} {m':Mov} {j:Nat} (hi:i<L.length) (h:Eb L m i=.ok m' j):i≤j∧j<L.length:=by
 obtain ⟨c,j1,h1,h2⟩:=Cc h
 obtain ⟨u,j2,h3,h4⟩:=Cc h2
 obtain ⟨x,j3,h5,h6⟩:=Cc h4
 injection h6 with _ h7
 subst h7
 have a1:=Wv hl hi _ _ h1
 have a2:=El hl a1.2 _ _ h3
 have a3:=Li hl hll a2.2 h5
 exact ⟨by omega,a3.2⟩
/-- The trees back. -/
theorem Zp {L:List Tok} (hl:TokEnd L) (hll:L.length≤500000) (hw:∀i,WordOk (A4 L i)) {m:Mov} (hm:MvG m) (h0:m.back=[]) (h1:1≤m.take.length) {i:Nat} (hi:i<L.length) {m':Mov} {j:Nat} (h:Fc L m i=.ok m' j):MvG m'∧∃b,b.length=m.take.length∧m'=⟨m.kind,m.take,m.give,m.ahead,b⟩:=by
 obtain ⟨u,j1,h2,h3⟩:=Cc h
 have a1:=El hl hi _ _ h2
 obtain ⟨⟨c,⟨c1,b,hb,e⟩,c2,c3⟩,_⟩:=mj (P:=fun k m'=>MvG m'∧∃b:List Expr,b.length=k∧m'=⟨m.kind,m.take,m.give,m.ahead,b⟩) hl (fun k m1 i m2 j hq hi h=>by
  obtain ⟨g,b,hb,e⟩:=hq
  obtain ⟨x,j1,h1,h2⟩:=Cc h
  injection h2 with h2 h3
  subst h3
  have a:=Li hl hll hi h1
  have hx:=AAa hw h1
  subst h2
  refine ⟨⟨⟨g.takes,g.gives,g.len,g.aheads,fun y hy=>?_⟩,b++[x],by rw [Ai,hb];rfl,by rw [e];rfl⟩,a.1,a.2⟩
  rcases Di.1 hy with h|h
  ·exact g.backs y h
  rw [C1.1 h];exact hx) a1.2 ⟨hm,[],rfl,by rw [←h0]⟩ h3
 have:=c3 (by omega)
 exact ⟨c1,b,by omega,e⟩
/-- A move that is parsed, its counts and last words. -/
structure MvP (m:Mov):Prop where
 takes:∀s∈m.take,H8 s=true
 gives:∀c∈m.give,H8 c.name=true
 kinds:m.kind≠3→∀c∈m.give,1≤c.kind∧c.kind≤3
 kind3:m.kind=3→∀c∈m.give,c.kind=0
 counts:Ew m=true
 last:Jp m=true
 aheads:∀x∈m.ahead,TrE x
 backs:∀x∈m.back,TrE x
theorem rr {s:Str} (h:H8 s=true):TrE (Bj s):=⟨by
 have:=vl s
 rw [←Kf]
 rw [this]
 exact h,rfl,by rw [Bj];simp [C2,Xv,Ro]⟩
theorem MvG.p {m:Mov} (h:MvG m) (hk:m.kind≠3) (hc:Ew m=true) (hl:Jp m=true):MvP m:=⟨h.takes,fun c hc=>(h.gives c hc).name,fun _ c hc=>⟨(h.gives c hc).lo,(h.gives c hc).hi⟩,fun h3=>absurd h3 hk,hc,hl,h.aheads,h.backs⟩
theorem N2 {m:Mov} (h1:m.ahead.length=m.give.length) (h2:m.back.length=m.take.length) (h:(m.kind=1∧m.take.length=0∧m.give.length=1)∨(m.kind=2∧m.take.length=1∧m.give.length=0)∨((m.kind=3∨m.kind=6)∧m.take.length=1∧m.give.length=1)∨(m.kind=4∧m.take.length=1∧1<m.give.length)∨(m.kind=5∧1<m.take.length∧m.give.length=1)):Ew m=true:=by
 unfold Ew
 rw [if_neg (by simp [h1,h2])]
 rcases h with ⟨e,a,b⟩|⟨e,a,b⟩|⟨e|e,a,b⟩|⟨e,a,b⟩|⟨e,a,b⟩<;>rw [e]<;>simp [a,b]<;>omega
theorem Zq {m:Mov} (h3:m.kind≠3) (h6:m.kind≠6):Jp m=true:=by
 unfold Jp
 rw [if_neg (by simpa using h3),if_neg (by simpa using h6)]
theorem AL2 {L:List Tok} (hl:TokEnd L) (hll:L.length≤500000) (hw:∀i,WordOk (A4 L i)) {k:Int} (hk:1≤k∧k≤6) {i:Nat} (hi:i<L.length) {m:Mov} {j:Nat} (h:I8 L ⟨k,[],[],[],[]⟩ i=.ok m j):MvP m:=by
 have hg:=MvG.nil k
 unfold I8 at h
 split at h
 ·rename_i hk1
  have hk1:k=1:=by simpa using hk1
  obtain ⟨g,c,x,hc,e⟩:=Zo hw hg h
  subst e
  exact g.p (by show k≠3;omega) (N2 g.len rfl (.inl ⟨hk1,rfl,rfl⟩)) (Zq (by show k≠3;omega) (by show k≠6;omega))
 split at h
 ·rename_i hk1
  have hk1:k=2:=by simpa using hk1
  obtain ⟨s,j1,h1,h2⟩:=Cc h
  have hs:=T6 hw h1
  have a1:=Gx hl hi _ _ h1
  have g0:MvG (takeS ⟨k,[],[],[],[]⟩ s):=⟨fun y hy=>by rw [C1.1 hy];exact hs,hg.gives,rfl,hg.aheads,hg.backs⟩
  obtain ⟨g,b,hb,e⟩:=Zp hl hll hw g0 rfl (Ae _) a1.2 h2
  subst e
  exact g.p (by show k≠3;omega) (N2 rfl hb (.inr (.inl ⟨hk1,rfl,rfl⟩))) (Zq (by show k≠3;omega) (by show k≠6;omega))
 split at h
 ·rename_i hk1
  have hk1:k=3:=by simpa using hk1
  obtain ⟨s,j1,h1,h2⟩:=Cc h
  obtain ⟨u,j2,h3,h4⟩:=Cc h2
  obtain ⟨t,j3,h5,h6⟩:=Cc h4
  injection h6 with h6 _
  have hs:=T6 hw h1
  have ht:=T6 hw h5
  subst h6
  refine ⟨fun y hy=>by rw [C1.1 hy];exact hs,fun y hy=>by rw [C1.1 hy];exact ht,fun h=>absurd hk1 h,fun _ y hy=>by rw [C1.1 hy],N2 rfl rfl (.inr (.inr (.inl ⟨.inl hk1,rfl,rfl⟩))),?_,fun y hy=>by rw [C1.1 hy];exact rr hs,fun y hy=>by rw [C1.1 hy];exact rr ht⟩
  unfold Jp
  rw [if_pos (by simpa using hk1)]
  show (eqE (Bj s) (Bj s)&&eqE (Bj t) (Bj t))=true
  rw [bv,bv]
  rfl
 split at h
 ·rename_i hk1
  have hk1:k=4:=by simpa using hk1
  obtain ⟨s,j1,h1,h2⟩:=Cc h
  obtain ⟨u,j2,h3,h4⟩:=Cc h2
  obtain ⟨m1,j3,h5,h6⟩:=Cc h4
  have hs:=T6 hw h1
  have a1:=Gx hl hi _ _ h1
  have a2:=El hl a1.2 _ _ h3
  have g0:MvG (takeS ⟨k,[],[],[],[]⟩ s):=⟨fun y hy=>by rw [C1.1 hy];exact hs,hg.gives,rfl,hg.aheads,hg.backs⟩
  obtain ⟨⟨c,⟨g1,e1,e2,e3,e4⟩,c2,_⟩,c4⟩:=mj (P:=fun n m'=>MvG m'∧m'.kind=k∧m'.take=[s]∧m'.back=[]∧m'.give.length=n) hl (fun n m1 i m2 j hq hi h=>by
   obtain ⟨g,e1,e2,e3,e4⟩:=hq
   obtain ⟨g',c,x,hc,e⟩:=Zo hw g h
   have a:=Xe hl hll hi h
   subst e
   exact ⟨⟨g',e1,e2,e3,by show (m1.give++[c]).length=_;rw [Ai,e4];rfl⟩,a.1,a.2⟩) a2.2 ⟨g0,rfl,rfl,rfl,rfl⟩ h5
  have c2:=c2 rfl
  obtain ⟨g,b,hb,e⟩:=Zp hl hll hw g1 e3 (by rw [e2];exact Ae _) c4 h6
  subst e
  exact g.p (by show m1.kind≠3;omega) (N2 g1.len hb (.inr (.inr (.inr (.inl ⟨by show m1.kind=4;omega,by show m1.take.length=1;rw [e2];rfl,by show 1<m1.give.length;omega⟩))))) (Zq (by show m1.kind≠3;omega) (by show m1.kind≠6;omega))
 split at h
 ·rename_i hk1
  have hk1:k=5:=by simpa using hk1
  obtain ⟨m1,j1,h1,h2⟩:=Cc h
  obtain ⟨u,j2,h3,h4⟩:=Cc h2
  obtain ⟨m2,j3,h5,h6⟩:=Cc h4
  obtain ⟨⟨c,⟨g1,e1,e2,e3,e4,e5⟩,c2,_⟩,c4⟩:=mj (P:=fun n m'=>MvG m'∧m'.kind=k∧m'.give=[]∧m'.ahead=[]∧m'.back=[]∧m'.take.length=n) hl (fun n m1 i m2 j hq hi h=>by
   obtain ⟨g,e1,e2,e3,e4,e5⟩:=hq
   obtain ⟨s,j1,h1,h2⟩:=Cc h
   injection h2 with h2 h3
   have hs:=T6 hw h1
   have a:=Gx hl hi _ _ h1
   subst h3
   subst h2
   refine ⟨⟨⟨fun y hy=>?_,g.gives,g.len,g.aheads,g.backs⟩,e1,e2,e3,e4,by show (m1.take++[s]).length=_;rw [Ai,e5];rfl⟩,by omega,a.2⟩
   rcases Di.1 hy with h|h
   ·exact g.takes y h
   rw [C1.1 h];exact hs) hi ⟨hg,rfl,rfl,rfl,rfl,rfl⟩ h1
  have c2:=c2 rfl
  have a2:=El hl c4 _ _ h3
  obtain ⟨g2,cc,x,hc,e⟩:=Zo hw g1 h5
  have a3:=Xe hl hll a2.2 h5
  subst e
  obtain ⟨g,b,hb,e⟩:=Zp hl hll hw g2 e4 (by show 1≤m1.take.length;omega) a3.2 h6
  subst e
  exact g.p (by show m1.kind≠3;omega) (N2 g2.len hb (.inr (.inr (.inr (.inr ⟨by show m1.kind=5;omega,by show 1<m1.take.length;omega,by show (m1.give++[cc]).length=1;rw [e2];rfl⟩))))) (Zq (by show m1.kind≠3;omega) (by show m1.kind≠6;omega))
 split at h
 ·rename_i hk1
  have hk1:k=6:=by simpa using hk1
  obtain ⟨m1,j1,h1,h2⟩:=Cc h
  obtain ⟨g,c,x,hc,e⟩:=Zo hw hg h1
  have a:=Xe hl hll hi h1
  subst e
  have g0:MvG (takeS (Ml (Ek ⟨k,[],[],[],[]⟩ c) x) c.name):=⟨fun y hy=>by rw [C1.1 hy];exact hc.name,g.gives,g.len,g.aheads,g.backs⟩
  obtain ⟨g1,b,hb,e⟩:=Zp hl hll hw g0 rfl (Ae _) a.2 h2
  subst e
  refine g1.p (by show k≠3;omega) (N2 g0.len hb (.inr (.inr (.inl ⟨.inr hk1,rfl,rfl⟩)))) ?_
  unfold Jp
  rw [if_neg (by show ¬((k==3)=true);simp;omega),if_pos (by show (k==6)=true;simp;omega)]
  show (c.name==c.name)=true
  simp
 rename_i h1 h2 h3 h4 h5 h6
 simp only [beq_iff_eq] at h1 h2 h3 h4 h5 h6
 omega
theorem xj {s:Str} (h:(E9 s==0)=false):1≤E9 s∧E9 s≤6:=by
 unfold E9 at h ⊢
 repeat' split at h
 all_goals simp_all
theorem AL3 {L:List Tok} (hl:TokEnd L) (hll:L.length≤500000) (hw:∀i,WordOk (A4 L i)) {i:Nat} (hi:i<L.length) {m:Mov} {j:Nat} (h:J3 L i=.ok m j):MvP m:=by
 unfold J3 at h
 split at h
 ·cases h
 rename_i h1
 simp only [Cz,not_or,Tk] at h1
 obtain ⟨m1,j1,h2,h3⟩:=Cc h
 obtain ⟨u,j2,h4,h5⟩:=Cc h3
 injection h5 with h5 _
 subst h5
 exact AL2 hl hll hw (xj h1.2) (hl.step hi (by have:=h1.1;simp at this;omega)) h2
theorem MvP.one {m:Mov} (h:MvP m):Ix m=true:=by
 unfold Ix
 simp only [Ah,Ay]
 refine ⟨⟨⟨⟨⟨h.counts,fun c hc=>?_⟩,fun s hs=>by rw [Hi];exact h.takes s hs⟩,fun x hx=>by rw [Kf];exact (h.aheads x hx).right⟩,fun x hx=>by rw [Kf];exact (h.backs x hx).right⟩,h.last⟩
 unfold L5
 rw [Hi,h.gives c hc,D0]
 by_cases h3:m.kind=3
 ·rw [h3,h.kind3 h3 c hc]
  decide
 have:=h.kinds h3 c hc
 have e:(m.kind==3)=false:=by simpa using h3
 rw [e]
 have:(Av c.kind==([]:Str))=false:=by
  have hk:c.kind=1∨c.kind=2∨c.kind=3:=by omega
  rcases hk with h|h|h<;>rw [h]<;>decide
 rw [this]
 rfl
theorem jk {s:Str} (h:H8 s=true):s.length≤16:=by
 rw [←Hi] at h
 unfold Ej at h
 simp only [Ah,decide_eq_true_eq] at h
 omega
theorem AHl {l:List Expr} (hl:l.length≤1048576) (h:∀x∈l,TrE x):OkEs l:=⟨hl,fun e he=>Hj (by decide) (iu (h e he).right).1,fun e he=>Mq (iu (h e he).right).2 (by decide),fun e he=>(h e he).rng⟩
theorem MvP.ok {m:Mov} (h:MvP m) {n:Nat} (hn:MvLe m n) (h1:n≤1000000):OkMov m:=
 ⟨by have:=hn.take;omega,fun s hs=>by have:=jk (h.takes s hs);omega,⟨by have:=hn.give;omega,fun y hy=>by have:=jk (h.gives y hy);omega⟩,by have:=hn.give;omega,AHl (by have:=hn.ahead;omega) h.aheads,AHl (by have:=hn.back;omega) h.backs⟩
/-! The same moves. -/
def Pd (x y:Mov):Bool:=((((x.kind==y.kind)&&decide (x.take=y.take))&&decide (x.give=y.give))&&eqL x.ahead y.ahead)&&eqL x.back y.back
def Ud (a b:List Mov):Bool:=decide (a.length=b.length)&&(a.zip b).all fun p=>Pd p.1 p.2
theorem rt (l:List Expr):eqL l l=true:=(Oa l l).2 rfl
theorem ADh (m:Mov):Pd m m=true:=by
 unfold Pd
 rw [rt,rt]
 simp
theorem jl (a:List Mov):Ud a a=true:=by
 unfold Ud
 rw [decide_eq_true rfl,D0,Ay]
 intro p hp
 obtain ⟨j,hj,rfl⟩:=Qy hp
 rw [List.getElem_zip]
 exact ADh _
theorem AHm {a b:List Mov} (h:a.length≠b.length):Ud a b=false:=by
 unfold Ud
 rw [decide_eq_false h]
 rfl
theorem Zr {a b:List Mov} {x:Nat} {p q:Mov} (hx:a[x]? = some p) (hb:b[x]? = some q) (h:Pd p q=false):Ud a b=false:=by
 unfold Ud
 have:(a.zip b).all (fun p=>Pd p.1 p.2)=false:=by
  rw [ju]
  refine ⟨(p,q),Bd (i:=x) ?_,by rw [h];simp⟩
  rw [k8]
  exact ⟨hx,hb⟩
 rw [this,Zt]
theorem AHn {a b:List Mov} (hl:a.length=b.length) (h:∀(j:Nat) (y z:Mov),j<a.length→a[j]? = some y→b[j]? = some z→Pd y z=true):Ud a b=true:=by
 unfold Ud
 rw [decide_eq_true hl,D0,Ay]
 intro p hp
 obtain ⟨j,hj,rfl⟩:=Qy hp
 have h1:j<a.length:=by rw [Ye] at hj;omega
 rw [List.getElem_zip]
 exact h j _ _ h1 (Ak h1) (Ak (by omega))
theorem AR9 {a b:List Mov} {x:Nat} {p q:Mov} (hx:a[x]? = some p) (hb:b[x]? = some q) (h:∀(j:Nat) (y z:Mov),j<x→a[j]? = some y→b[j]? = some z→Pd y z=true) (he:Pd p q=true):∀(j:Nat) (y z:Mov),j<x+1→a[j]? = some y→b[j]? = some z→Pd y z=true:=by
 intro j y z hj h1 h2
 rcases Aw j x with h3|h3
 ·exact h j y z h3 h1 h2
 have:j=x:=by omega
 subst this
 rw [hx] at h1
 rw [hb] at h2
 injection h1 with h1
 injection h2 with h2
 rw [←h1,←h2]
 exact he
theorem ADi {p q:Mov} (h:(((((p.kind != q.kind) || !(decide (p.take=q.take))) || ((p.give.length:Int) != (q.give.length:Int))) || ((p.ahead.length:Int) != (q.ahead.length:Int))) || ((p.back.length:Int) != (q.back.length:Int)))=true):Pd p q=false:=by
 rw [Qr]
 intro e
 unfold Pd at e
 simp only [Ah,beq_iff_eq,decide_eq_true_eq] at e
 obtain ⟨⟨⟨⟨e1,e2⟩,e3⟩,e4⟩,e5⟩:=e
 rw [e1,e2,e3,(Oa _ _).1 e4,(Oa _ _).1 e5] at h
 simp at h
structure MvHead (p q:Mov):Prop where
 kind:p.kind=q.kind
 take:p.take=q.take
 give:p.give.length=q.give.length
 ahead:p.ahead.length=q.ahead.length
 back:p.back.length=q.back.length
theorem AL4 {p q:Mov} (h:(((((p.kind != q.kind) || !(decide (p.take=q.take))) || ((p.give.length:Int) != (q.give.length:Int))) || ((p.ahead.length:Int) != (q.ahead.length:Int))) || ((p.back.length:Int) != (q.back.length:Int)))=false):MvHead p q:=by
 simp only [Hb,bne_eq_false_iff_eq,Tj,decide_eq_true_eq] at h
 obtain ⟨⟨⟨⟨e1,e2⟩,e3⟩,e4⟩,e5⟩:=h
 exact ⟨e1,e2,by omega,by omega,by omega⟩
theorem ADj {p q:Mov} {k:Nat} (h1:k<p.give.length) (h2:k<q.give.length) (h:p.give[k]≠q.give[k]):Pd p q=false:=by
 unfold Pd
 have:decide (p.give=q.give)=false:=decide_eq_false fun e=>h (by simp only [e])
 rw [this]
 simp
theorem xk {p q:Mov} (h:eqL p.ahead q.ahead=false):Pd p q=false:=by
 unfold Pd
 rw [h]
 simp
theorem ADk {p q:Mov} (h:eqL p.back q.back=false):Pd p q=false:=by
 unfold Pd
 rw [h]
 simp
theorem AHo {p q:Mov} (h:MvHead p q) (h3:p.give=q.give) (h4:eqL p.ahead q.ahead=true) (h5:eqL p.back q.back=true):Pd p q=true:=by
 unfold Pd
 rw [h.kind,h.take,h3,h4,h5]
 simp
theorem c11 (a b:List Mov) (ha:OkMovs a) (Hp:List AObj):AFun Tryz.prog 11 [Io a,Io b] Hp (Bz (Ud a b)):=by
 refine B0 [.tmp 4] [0,1] Tryz.func11 Tryz.ntmps11 (fun d=>?_)
 refine Z63 ?_;refine Tt ?_;refine A2 [0,1,15] ?_
 refine A6 (fun ht15=>?_) (fun ht15=>?_)
 ·rw [Bh,Bh] at ht15
  have hm:Ud a b=false:=AHm (by simp at ht15;omega)
  refine Z79 ?_;exact Z36
 rw [Bh,Bh] at ht15
 have hab:a.length=b.length:=by simp at ht15;omega
 refine Z4 ?_;refine Z35 ?_;refine A2 [0,1,5] ?_
 refine Bo (α:=Nat) (fun x=>⟨126,A9 0 (Io a) (A9 1 (Io b) (A9 5 (A7 (x:Nat)) (fun _=>.any))),Hp,[],[],none⟩) (fun x=>x≤a.length∧∀(j:Nat) (y z:Mov),j<x→a[j]? = some y→b[j]? = some z→Pd y z=true) (fun x=>a.length-x) (0) ⟨Al _,fun j y z h=>by omega⟩ (Gk _) rfl (fun x hx=>?_)
 refine Z42 ?_;refine A2 [0,1,5,19] ?_
 refine A6 (fun ht19=>?_) (fun ht19=>?_)
 ·have hal:=ha.len
  have hlt:x<a.length:=by simpa using ht19
  obtain ⟨p,hp⟩:∃p,p=a[x]:=⟨_,rfl⟩
  obtain ⟨q,hq⟩:∃q,q=b[x]:=⟨_,rfl⟩
  have hpa:a[x]? = some p:=by rw [hp];exact Ak hlt
  have hqb:b[x]? = some q:=by rw [hq];exact Ak (by omega)
  have hax:(a.map K5)[x]? = some (K5 p):=by rw [D3,hpa];rfl
  have hbx:(b.map K5)[x]? = some (K5 q):=by rw [D3,hqb];rfl
  have hpo:=ha.each p (Bd hpa)
  have hb1:=hpo.gives2
  have hb2:=hpo.ahead.len
  have hb3:=hpo.back.len
  refine Z56 ?_;refine Fe [0,0,3,7,0,0,48,112,0,0,783,2047] [] [.q 8 [] [],.s [6] none [] [],.s [7] none [] [],.s [6] none [] [],.s [7] none [] []] (fun _=>Hp) (fun _=>[]) Af (by kernel_rfl) rfl rfl (fun _=>rfl) ?_
  apply Y.q
  ·intro B hT hF
   refine Z5 ?_
   refine Am (h:=B2 (x) (K5 p) (fun _=>hax)) (hr:=?_)
   refine Z19 ?_
   refine Am (h:=B2 (x) (K5 q) (fun _=>hbx)) (hr:=?_)
   exact Z29
  case hTF=>decide
  refine X2 Tryz.zeroValue47 ?_;refine X2 Tryz.zeroValue47 ?_;refine Sy Tryz.sizeOf47 ?_;refine Sy Tryz.sizeOf47 ?_;refine Dj (tn:=[])  ?_;refine A2 [0,1,5,6,7] ?_;refine Z42 ?_;refine Z48 ?_;refine D9 Tryz.call27 (fun hB=>c27 p.take q.take hpo.takes _) ?_;refine We ?_;refine Z6 ?_;refine We ?_;refine Z6 ?_;refine We ?_;refine Z6 ?_;refine Z55 ?_;refine A2 [0,1,5,6,7,69] ?_
  refine A6 (fun ht69=>?_) (fun ht69=>?_)
  ·simp only [Bh] at ht69
   have hm:Ud a b=false:=Zr hpa hqb (ADi ht69)
   refine Z79 ?_;refine Dd ?_;exact AEi
  simp only [Bh] at ht69
  have hh:=AL4 ht69
  refine Z4 ?_;refine Z35 ?_;refine A2 [0,1,5,6,7,8] ?_
  refine Bo (α:=Nat) (fun k=>⟨126,A9 0 (Io a) (A9 1 (Io b) (A9 5 (A7 (x:Nat)) (A9 6 (.ro (Yb p)) (A9 7 (.ro (Yb q)) (A9 8 (A7 (k:Nat)) (fun _=>.any)))))),Hp,[],[],none⟩) (fun k=>k≤p.give.length∧∀(j:Nat) (y:Col),j<k→p.give[j]? = some y→q.give[j]? = some y) (fun k=>p.give.length-k) (0) ⟨Al _,fun j y h=>by omega⟩ (Gk _) rfl (fun k hk=>?_)
  refine Tt ?_;refine A2 [0,1,5,6,7,8,74] ?_
  refine A6 (fun ht74=>?_) (fun ht74=>?_)
  ·have hkl:k<p.give.length:=by simpa using ht74
   have hkq:k<q.give.length:=by have:=hh.give;omega
   refine Z56 ?_;refine Om [0,1,0,7,15,0,32,0,224,480,1023] 10 Af (by kernel_rfl) ?_;refine Z19 ?_
   refine Am (h:=B2 (k) (Hz p.give[k]) (fun _=>Ea hkl)) (hr:=?_)
   refine Z85 ?_
   refine Am (h:=B2 (k) (Hz q.give[k]) (fun _=>Ea hkq)) (hr:=?_)
   refine Z65 ?_
   refine A3 (h:=Q.neqAgg ASa (AJb p.give[k].kind q.give[k].kind p.give[k].name q.give[k].name)) (hr:=?_)
   refine A2 [0,1,5,6,7,8,87] ?_
   refine A6 (fun ht87=>?_) (fun ht87=>?_)
   ·rw [yj] at ht87
    have hm:Ud a b=false:=Zr hpa hqb (ADj hkl hkq (by simpa using ht87))
    refine Z79 ?_;refine Z66 ?_;exact AEi
   rw [yj] at ht87
   refine Wf ?_;refine A2 [0,1,5,6,7,8] ?_
   exact Be (k+1) ⟨hkl,ur (p:=fun j y=>q.give[j]? = some y) hkl hk.2 (by rw [Ak hkq];simpa using (Eq.symm (by simpa using ht87):q.give[k]=p.give[k]))⟩ (by omega) (Bp rfl)
  have hke:k=p.give.length:=by simp at ht74;omega
  subst hke
  have hge:p.give=q.give:=Ow hh.give fun j y hj hy=>by rw [hk.2 j y hj hy]
  refine Z41 ?_;refine Z35 ?_;refine A2 [0,1,5,6,7,9] ?_
  refine Bo (α:=Nat) (fun k=>⟨126,A9 0 (Io a) (A9 1 (Io b) (A9 5 (A7 (x:Nat)) (A9 6 (.ro (Yb p)) (A9 7 (.ro (Yb q)) (A9 9 (A7 (k:Nat)) (fun _=>.any)))))),Hp,[],[],none⟩) (fun k=>k≤p.ahead.length∧∀(j:Nat) (y z:Expr),j<k→p.ahead[j]? = some y→q.ahead[j]? = some z→eqE y z=true) (fun k=>p.ahead.length-k) (0) ⟨Al _,fun j y z h=>by omega⟩ (Gk _) rfl (fun k hk=>?_)
  refine Tt ?_;refine A2 [0,1,5,6,7,9,92] ?_
  refine A6 (fun ht92=>?_) (fun ht92=>?_)
  ·have hkl:k<p.ahead.length:=by simpa using ht92
   have hkq:k<q.ahead.length:=by have:=hh.ahead;omega
   refine AOv ?_;refine Z19 ?_
   refine Am (h:=B2 (k) (Aj p.ahead[k]) (fun _=>Ea hkl)) (hr:=?_)
   refine Z85 ?_
   refine Am (h:=B2 (k) (Aj q.ahead[k]) (fun _=>Ea hkq)) (hr:=?_)
   refine Z65 ?_;refine Ap Tryz.call28 (c28 61 p.ahead[k] (hpo.ahead.ok _ (D4 hkl)) q.ahead[k] _) ?_;refine A3 ?_;refine A2 [0,1,5,6,7,9,106] ?_
   refine A6 (fun ht106=>?_) (fun ht106=>?_)
   ·have hm:Ud a b=false:=Zr hpa hqb (xk (lw hkl hkq (by simpa using ht106)))
    refine Z79 ?_;refine Z66 ?_;exact AEi
   refine Wf ?_;refine A2 [0,1,5,6,7,9] ?_;exact Be (k+1) ⟨hkl,yt hkl hkq hk.2 (by simpa using ht106)⟩ (by omega) (Bp rfl)
  have hke:k=p.ahead.length:=by simp at ht92;omega
  subst hke
  have hae:eqL p.ahead q.ahead=true:=Vg hh.ahead hk.2
  refine uk ?_;refine A2 [0,1,5,6,7,10] ?_
  refine Bo (α:=Nat) (fun k=>⟨126,A9 0 (Io a) (A9 1 (Io b) (A9 5 (A7 (x:Nat)) (A9 6 (.ro (Yb p)) (A9 7 (.ro (Yb q)) (A9 10 (A7 (k:Nat)) (fun _=>.any)))))),Hp,[],[],none⟩) (fun k=>k≤p.back.length∧∀(j:Nat) (y z:Expr),j<k→p.back[j]? = some y→q.back[j]? = some z→eqE y z=true) (fun k=>p.back.length-k) (0) ⟨Al _,fun j y z h=>by omega⟩ (Gk _) rfl (fun k hk=>?_)
  refine Tt ?_;refine A2 [0,1,5,6,7,10,111] ?_
  refine A6 (fun ht111=>?_) (fun ht111=>?_)
  ·have hkl:k<p.back.length:=by simpa using ht111
   have hkq:k<q.back.length:=by have:=hh.back;omega
   refine AOv ?_;refine Z19 ?_
   refine Am (h:=B2 (k) (Aj p.back[k]) (fun _=>Ea hkl)) (hr:=?_)
   refine Z85 ?_
   refine Am (h:=B2 (k) (Aj q.back[k]) (fun _=>Ea hkq)) (hr:=?_)
   refine Z65 ?_;refine Ap Tryz.call28 (c28 61 p.back[k] (hpo.back.ok _ (D4 hkl)) q.back[k] _) ?_;refine A3 ?_;refine A2 [0,1,5,6,7,10,125] ?_
   refine A6 (fun ht125=>?_) (fun ht125=>?_)
   ·have hm:Ud a b=false:=Zr hpa hqb (ADk (lw hkl hkq (by simpa using ht125)))
    refine Z79 ?_;refine Z46 ?_;exact AEi
   refine Wf ?_;refine A2 [0,1,5,6,7,10] ?_;exact Be (k+1) ⟨hkl,yt hkl hkq hk.2 (by simpa using ht125)⟩ (by omega) (Bp rfl)
  have hke:k=p.back.length:=by simp at ht111;omega
  subst hke
  have hbe:eqL p.back q.back=true:=Vg hh.back hk.2
  refine AB8 ?_;refine Z75 ?_;refine A2 [0,1,5] ?_
  refine Be (x+1) ⟨hlt,AR9 hpa hqb hx.2 (AHo hh hge hae hbe)⟩ (by omega) (Bp rfl)
 have hxe:x=a.length:=by simp at ht19;omega
 subst hxe
 have hm:Ud a b=true:=AHn hab hx.2
 refine Z41 ?_;refine Z79 ?_;exact AEr

/-! Words that stand among others are parsed as they are alone. -/
/-! Moves that stand among others are parsed as they are alone. -/
section
variable {l l':List Tok} {p m:Nat}
end
/-! MigJoins: the moves of two sources, one behind the other. -/
theorem AHp {l:List Tok} {f:Nat} {ms:List Mov} {i:Nat} (h:(A4 l i).kind=0):F1 l (f+1) ms i=.ok ms i:=by rw [F1,if_neg (by rw [h];decide)]
theorem AHq {l:List Tok} {f:Nat} {ms:List Mov} {i:Nat} (h:(A4 l i).kind≠0) (h8:ms.length=8):F1 l (f+1) ms i=.bad 3 (A4 l i).at_:=by
 rw [F1,if_pos (by simpa using h),if_pos (by rw [h8];rfl)];rfl
theorem AHr {l:List Tok} {f:Nat} {ms:List Mov} {i:Nat} (h:(A4 l i).kind≠0) (h8:ms.length≠8):F1 l (f+1) ms i=(J3 l i).bind fun m j=>F1 l f (ms++[m]) j:=by
 rw [F1,if_pos (by simpa using h),if_neg (by simp only [beq_iff_eq];omega)]
theorem AHs {l:List Tok} {f:Nat} {ms:List Mov} {i:Nat} {x:List Mov} {ia:Nat} (h:F1 l (f+1) ms i=.ok x ia):((A4 l i).kind=0∧x=ms∧ia=i)∨((A4 l i).kind≠0∧ms.length≠8∧∃v j,J3 l i=.ok v j∧F1 l f (ms++[v]) j=.ok x ia):=by
 by_cases hk:(A4 l i).kind=0
 ·rw [AHp hk] at h
  injection h with h1 h2
  exact .inl ⟨hk,h1.symm,h2.symm⟩
 by_cases h8:ms.length=8
 ·rw [AHq hk h8] at h;cases h
 rw [AHr hk h8] at h
 obtain ⟨v,j,e1,e2⟩:=Cc h
 exact .inr ⟨hk,h8,v,j,e1,e2⟩
/-! What mig.Parse hands back may be walked. -/
theorem AL5 {L:List Tok} (hl:TokEnd L) (hll:L.length≤500000) {i:Nat} (hi:i<L.length) {m:Mov} {j:Nat} (h:J3 L i=.ok m j):MvLe m (2*L.length):=by
 unfold J3 at h
 split at h
 ·cases h
 rename_i h0
 have hi1:i+1<L.length:=hl.step hi (by
  simp only [Cz,not_or,Tk,bne_eq_false_iff_eq] at h0
  rw [h0.1];decide)
 obtain ⟨m1,k,h1,h2⟩:=Cc h
 obtain ⟨u,j2,h3,h4⟩:=Cc h2
 injection h4 with h5 h6
 subst h5
 obtain ⟨_,a2,a3⟩:=ly hl hll _ (i+1) ⟨Al _,Al _,Al _,Al _⟩ (by omega) hi1 _ _ h1
 exact a3.mono (by omega)
theorem Y2 {L:List Tok} (hl:TokEnd L) (hll:L.length≤500000) (hw:∀i,WordOk (A4 L i)):∀(f:Nat) (l:List Mov) (i:Nat) (x:List Mov) (j:Nat),i<L.length→l.length≤8→l.length+f=9→(∀m∈l,MvP m∧MvLe m (2*L.length))→F1 L f l i=.ok x j→(∀m∈x,MvP m∧MvLe m (2*L.length))∧x.length≤8
 | 0,l,i,x,j,_,h1,h2,_,_=>by omega
 | f+1,l,i,x,j,hi,h8,hf,hg,h=>by
  rcases AHs h with ⟨_,rfl,_⟩|⟨_,hn,v,k,e1,e2⟩
  ·exact ⟨hg,h8⟩
  have a:=md hl hll hi e1
  have b:=AL3 hl hll hw hi e1
  have c:=AL5 hl hll hi e1
  have hlen:(l++[v]).length=l.length+1:=by simp
  refine Y2 hl hll hw f (l++[v]) k x j a.2 (by omega) (by omega) (fun m hm=>?_) e2
  rcases Di.1 hm with h|h
  ·exact hg m h
  rw [C1.1 h]
  exact ⟨b,c⟩
structure MigGood (l:List Mov):Prop where
 ok:OkMovs l
 each:∀m∈l,MvP m
 len:l.length≤8
theorem MigGood.nil:MigGood []:=⟨⟨Al _,fun m h=>(Hc h).elim⟩,fun m h=>(Hc h).elim,Al _⟩
theorem ru (s:Str):MigGood (M1 s).1:=by
 by_cases h0:((C4 s).2.1 != 0)=true
 ·rw [zq h0]
  exact .nil
 have h0:(C4 s).2.1=0:=by simpa using h0
 unfold M1
 rw [if_neg (by rw [h0];simp)]
 cases hm:L7 (C4 s).1 with
 | bad e a=>exact .nil
 | ok l i =>
  have hl:=Za h0
  have hll:=Zh h0
  obtain ⟨h1,h2⟩:=Y2 hl (by omega) (xi h0) 9 [] 0 l i (by have:=AFe h0;omega) (by decide) rfl (fun m h=>by cases h) hm
  exact ⟨⟨by show l.length≤1048576;omega,fun m hm=>(h1 m hm).1.ok (h1 m hm).2 (by omega)⟩,fun m hm=>(h1 m hm).1,h2⟩
theorem MigGood.right {l:List Mov} (h:MigGood l):ck l=true:=by
 unfold ck
 rw [Ah,Ay]
 exact ⟨decide_eq_true (by have:=h.len;omega),fun m hm=>(h.each m hm).one⟩
/-! ref18.Print: what it answers. -/
theorem c10 (Hp:List AObj):AFun Tryz.prog 10 [] Hp (Jw migWords):=by
 refine B0 [.tmp 0] [] Tryz.func10 Tryz.ntmps10 (fun d=>?_)
 refine Z2 ?_;refine Nf ?_;refine Ei ?_;refine R.buildSl jU jS jZ ?_;refine A3 ?_;refine A2 [0] ?_;refine Kx ?_;exact ul

theorem M4 {L:List Tok} (hl:TokEnd L) (hll:L.length≤500000) {m:Mov} {S:XS} (hi:S.i<L.length):(Ec L m S).2.i<L.length:=dq hl hll (Fa hl (Xc hl (Ny hl hi)))
theorem jm {L:List Tok} (hl:TokEnd L) (hll:L.length≤500000):∀(n k:Nat) (m:Mov) (S:XS),S.i<L.length→(J1 L n k m S).2.i<L.length
 | 0,_,_,_,h=>h
 | n+1,k,_,_,h=>jm hl hll n (k+1) _ _ (dq hl hll (Xd hl h))
theorem W3 {L:List Tok} (hl:TokEnd L) (hll:L.length≤500000) {m:Mov} {S:XS} (hi:S.i<L.length):(G9 L m S).2.i<L.length:=jm hl hll _ _ _ _ (Fa hl hi)
theorem dt {L:List Tok} {m:Mov} {S:XS} {n:Nat} (h:MvLe m n):MvLe (Ec L m S).1 (n+1):=by
 obtain ⟨h1,h2,h3,h4⟩:=h
 refine ⟨J9 h1,?_,?_,J9 h4⟩
 ·show (m.give++[_]).length≤_;rw [Ai,Gt];omega
 show (m.ahead++[_]).length≤_;rw [Ai,Gt];omega
theorem AHt {L:List Tok} {m:Mov} {S:XS} {n:Nat} (h:MvLe m n):MvLe (Nu L m S).1 (n+1):=by
 obtain ⟨h1,h2,h3,h4⟩:=h
 refine ⟨?_,J9 h2,J9 h3,J9 h4⟩
 show (m.take++[_]).length≤_;rw [Ai,Gt];omega
theorem rx {L:List Tok} {S:XS}:S.i≤(Az L S).2.i:=by
 have e:(H5 L S).i=S.i:=by unfold H5;split;exact Oi;rfl
 unfold Az;split
 ·rw [e];exact Ae _
 show _≤(H5 L S).i+1;omega
theorem AHu {L:List Tok} {s:Str} {S:XS}:S.i≤(Bf L s S).i:=by
 unfold Bf;split
 ·show _≤(Hn L s S).i+1;rw [W0];omega
 rw [W0];exact Ae _
theorem xl {L:List Tok} {s:Str} {S:XS} (h:(Bf L s S).code=0):(Bf L s S).i=S.i+1:=by
 unfold Bf at h ⊢
 split
 ·show (Hn L s S).i+1=_;rw [W0]
 rename_i h1;rw [if_neg h1] at h;rw [h] at h1;exact absurd rfl h1
theorem ADl {L:List Tok} {S:XS}:S.i≤(I2 L S).i:=by
 unfold I2;split
 ·show _≤(I1 L S).i+1;rw [dr];omega
 rw [dr];exact Ae _
theorem AHv {L:List Tok} (hl:TokEnd L) (hll:L.length≤500000) {S:XS} (hi:S.i<L.length):S.i≤(Df L S).2.i:=by
 unfold Df
 split
 ·exact Ae _
 split
 ·exact Ae _
 rename_i h2
 exact (Li hl hll hi (show K0 L S.i=.ok _ _ from if_neg h2)).1
theorem AHw {L:List Tok} (hl:TokEnd L) (hll:L.length≤500000) {m:Mov} {S:XS} (hi:S.i<L.length):S.i≤(Ec L m S).2.i:=by
 have h1:=Ny hl hi
 have h2:=Xc hl h1
 have h3:(Bf L [61] (I2 L (Az L S).2)).i<L.length:=Fa hl h2
 have:=AHv hl hll h3
 have:=AHu (L:=L) (s:=[61]) (S:=I2 L (Az L S).2)
 have:=ADl (L:=L) (S:=(Az L S).2)
 have:=rx (L:=L) (S:=S)
 show _≤(Df L (Bf L [61] (I2 L (Az L S).2))).2.i
 omega
structure One8 (L:List Tok) (one:Mov→XS→Mov×XS):Prop where
 lt:∀m S,S.i<L.length→(one m S).2.i<L.length
 ge:∀m S,S.i<L.length→S.i≤(one m S).2.i
 le:∀m S n,MvLe m n→MvLe (one m S).1 (n+1)
 bad:∀m S,S.code≠0→(one m S).2=S
theorem ry {L:List Tok} (hl:TokEnd L) (hll:L.length≤500000):One8 L (Ec L):=⟨fun _ _ h=>M4 hl hll h,fun _ _ h=>AHw hl hll h,fun _ _ _ h=>dt h,fun _ _ h=>N0 h⟩
theorem rz {L:List Tok} (hl:TokEnd L):One8 L (Nu L):=⟨fun _ _ h=>Ny hl h,fun _ _ _=>rx,fun _ _ _ h=>AHt h,fun _ _ h=>jb h⟩
/-- Where the reference's loop of things with commas between stands. -/
structure L8At (L:List Tok) (one:Mov→XS→Mov×XS) (R:Mov×XS) (x:Nat×Nat×Mov×XS):Prop where
 eq:Og L one x.1 x.2.1 x.2.2.1 x.2.2.2=R
 lt:x.2.2.2.i<L.length
 fuel:x.2.2.2.code=0→L.length-x.2.2.2.i≤x.1
 le:MvLe x.2.2.1 x.2.1
 sum:x.1+x.2.1≤L.length+2
 pos:1≤x.2.1
theorem L8At.code {L:List Tok} {k:Nat} {S:XS} (h:Ql L k S=true):S.code=0:=by
 unfold Ql at h
 rw [Ah] at h
 simpa using h.1
theorem L8At.on {L:List Tok} (hl:TokEnd L) {one:Mov→XS→Mov×XS} (h1:One8 L one) {R:Mov×XS} {x:Nat×Nat×Mov×XS} (h:L8At L one R x) (hq:Ql L x.2.1 x.2.2.2=true):
  L8At L one R (x.1-1,x.2.1+1,(one x.2.2.1 (Bf L [44] x.2.2.2)).1,(one x.2.2.1 (Bf L [44] x.2.2.2)).2)∧1≤x.1:=by
 have hc:=L8At.code hq
 have hf:=h.fuel hc
 have hlt:=h.lt
 obtain ⟨f,hfe⟩:∃f,x.1=f+1:=⟨x.1-1,by omega⟩
 have hw:(Bf L [44] x.2.2.2).i<L.length:=Fa hl hlt
 refine ⟨⟨?_,h1.lt _ _ hw,fun h0=>?_,h1.le _ _ _ h.le,?_,by show 1≤x.2.1+1;omega⟩,by omega⟩
 ·have:=h.eq
  rw [hfe,Og,if_pos hq] at this
  rw [hfe];exact this
 ·have hz:(Bf L [44] x.2.2.2).code=0:=by
   by_cases hz:(Bf L [44] x.2.2.2).code=0
   ·exact hz
   have e:=h1.bad x.2.2.1 _ hz
   have h0:(one x.2.2.1 (Bf L [44] x.2.2.2)).2.code=0:=h0
   rw [e] at h0;exact h0
  have e1:=xl hz
  have:=h1.ge x.2.2.1 _ hw
  show L.length-(one x.2.2.1 (Bf L [44] x.2.2.2)).2.i≤x.1-1
  omega
 have:=h.sum
 show x.1-1+(x.2.1+1)≤_
 omega
theorem L8At.out {L:List Tok} {one:Mov→XS→Mov×XS} {R:Mov×XS} {x:Nat×Nat×Mov×XS} (h:L8At L one R x) (hq:Ql L x.2.1 x.2.2.2=false):R=(x.2.2.1,x.2.2.2):=by
 rw [←h.eq]
 cases x.1 with
 | zero=>rfl
 | succ f=>exact if_neg (by rw [hq];simp)
theorem L8At.start {L:List Tok} {one:Mov→XS→Mov×XS} {m:Mov} {S:XS} (hi:S.i<L.length) (hm:MvLe m 1):L8At L one (Og L one (L.length+1) 1 m S) (L.length+1,1,m,S):=
 ⟨rfl,hi,fun _=>by show L.length-S.i≤L.length+1;omega,hm,Ae _,Ae _⟩
theorem du {L:List Tok} (hl:TokEnd L) {one:Mov→XS→Mov×XS} (h1:One8 L one):∀(f k:Nat) (m:Mov) (S:XS),S.i<L.length→(Og L one f k m S).2.i<L.length
 | 0,_,_,_,h=>h
 | f+1,k,m,S,h=>by
  rw [Og]
  split
  ·exact du hl h1 f (k+1) _ _ (h1.lt _ _ (Fa hl h))
  exact h
theorem s9 {L:List Tok} (hl:TokEnd L) (hll:L.length≤500000) {m:Mov} {S:XS} (h:S.i<L.length):(Mm L m S).2.i<L.length:=by
 have hn:=Ny hl h
 unfold Mm
 repeat' split
 ·exact M4 hl hll h
 ·exact W3 hl hll hn
 ·exact Ny hl (Fa hl hn)
 ·exact W3 hl hll (du hl (ry hl hll) _ _ _ _ (M4 hl hll (Fa hl hn)))
 ·exact W3 hl hll (M4 hl hll (Fa hl (du hl (rz hl) _ _ _ _ hn)))
 ·exact W3 hl hll (M4 hl hll h)
 exact h
theorem M5 {L:List Tok} {Hp:List AObj} {o n:Nat} {S T:XS} (h:∀z∈Hp.set o (prx L S),ObjLow n z):∀z∈Hp.set o (prx L T),ObjLow n z:=by
 intro z hz
 rw [show Hp.set o (prx L T)=(Hp.set o (prx L S)).set o (prx L T) by rw [Bc]] at hz
 rcases K8 hz with hz|rfl
 ·exact h z hz
 exact G5
abbrev z47:AObj:=.cells 47 [A7 0,.nil,.nil,.nil,.nil]
theorem AHx {L:List Tok} {Hp:List AObj} {o:Nat} {S T:XS} {x y w z:AObj} (h1:Hp[o]? = some w):U8 L (Hp.set o (prx L S)++[z,x]) o (oid Hp.length 1) T y=Hp.set o (prx L T)++[z,y]:=by
 have h1:=(Aa.1 h1).1
 unfold U8 oid
 rw [Ir _ _ (by simpa using h1),Bc,Yk,if_neg (by simp),Bg,Pj];rfl
theorem sc {L:List Tok} {Hp:List AObj} {o:Nat} {S:XS} {x z:AObj}:(Hp.set o (prx L S)++[z,x])[oid Hp.length 1]? = some x:=by
 unfold oid;rw [Dg (by simp)];simp
theorem AAb {L:List Tok} {Hp:List AObj} {o:Nat} {S:XS} {x z w:AObj} (h1:Hp[o]? = some w):(Hp.set o (prx L S)++[z,x])[o]? = some (prx L S):=A8 (getset h1)
theorem AL6 (L:List Tok) (m:Mov) (S:XS) (o:Nat) (Hp:List AObj) {w:AObj} (ho:Hp[o]? = some w) (hi:S.i<L.length) (hl:TokEnd L) (hll:L.length≤500000) (ht:∀i,Oh (A4 L i)) (hb:MvLe m 600000):
  ACall Tryz.prog 55 [.ptr o 0,.ptr (oid Hp.length 1) 0] (Hp.set o (prx L S)++[z47,mvO m]) (fun r H'=>r=Ks∧H'=Hp.set o (prx L (Ec L m S).2)++[z47,mvO (Ec L m S).1]):=
 (c55 L m S o (oid Hp.length 1) _ (by have:=(Aa.1 ho).1;unfold oid;omega) (AAb ho) sc hi hl hll ht hb).mono fun r H' h=>⟨h.1,h.2.trans (AHx ho)⟩
theorem AL7 (L:List Tok) (m:Mov) (S:XS) (o:Nat) (Hp:List AObj) {w:AObj} (ho:Hp[o]? = some w) (hi:S.i<L.length) (hl:TokEnd L) (hll:L.length≤500000) (ht:∀i,Oh (A4 L i)) (hb:MvLe m 600000):
  ACall Tryz.prog 57 [.ptr o 0,.ptr (oid Hp.length 1) 0] (Hp.set o (prx L S)++[z47,mvO m]) (fun r H'=>r=Ks∧H'=Hp.set o (prx L (G9 L m S).2)++[z47,mvO (G9 L m S).1]):=
 (c57 L m S o (oid Hp.length 1) _ (by have:=(Aa.1 ho).1;unfold oid;omega) (AAb ho) sc hi hl hll ht hb).mono fun r H' h=>⟨h.1,h.2.trans (AHx ho)⟩
abbrev m8 (L:List Tok) (S:XS):Mov:=⟨Mn L S,[],[],[],[]⟩
abbrev n8 (L:List Tok) (S:XS):Str×XS:=Az L (Ha S)
abbrev t8 (L:List Tok) (S:XS):Mov:=takeS (m8 L S) (n8 L S).1
abbrev i8 (L:List Tok) (S:XS):XS:=Bf L intoW (n8 L S).2
abbrev a8 (L:List Tok) (S:XS):Mov×XS:=Oy L (Ec L) (t8 L S) (i8 L S)
abbrev b8 (L:List Tok) (S:XS):Mov×XS:=Oy L (Nu L) (m8 L S) (Ha S)
abbrev g8 (L:List Tok) (S:XS):Mov×XS:=Ec L (b8 L S).1 (Bf L intoW (b8 L S).2)
abbrev r8 (L:List Tok) (S:XS):Mov×XS:=Mm L (m8 L S) (Ha S)
abbrev f8 (L:List Tok) (S:XS):Mov×XS:=Ec L (m8 L S) (Ha S)
abbrev s8 (L:List Tok) (S:XS):Mov:=takeS (f8 L S).1 ((f8 L S).1.give.getD 0 ⟨[],0⟩).name
theorem AHy {x:Nat} (h:x<6):(migWords.map Ac)[x+1]? = some (Ac (B3 ((x:Int)+1))):=by
 have h6:x=0∨x=1∨x=2∨x=3∨x=4∨x=5:=by omega
 rcases h6 with rfl|rfl|rfl|rfl|rfl|rfl<;>rfl
abbrev w8 (L:List Tok) (x:Nat×Nat×Mov×XS):XS:=Bf L [44] x.2.2.2
theorem c26 (L:List Tok) (S:XS) (o:Nat) (Hp:List AObj) (ho:Hp[o]? = some (prx L S)) (hi:S.i<L.length) (hl:TokEnd L) (hll:L.length≤500000) (ht:∀i,Oh (A4 L i)):ACall Tryz.prog 26 [.ptr o 0] Hp (fun r H'=>r=K5 (Ku L S).1∧H'=Hp.set o (prx L (Ku L S).2)):=by
 refine B0 [.cell 2 47] [0] Tryz.func26 Tryz.ntmps26 (fun d=>?_)
 refine Z43 ?_;refine Ei ?_;refine APz ?_;refine Z92 ?_;refine Z71 ?_;refine Mg 1 1 1 ?_;refine Mg 1 2 2 ?_;refine Mg 1 3 6 ?_;refine Mg 1 4 6 ?_;refine A3 ?_;refine lb ?_
 refine Bo (α:=Nat) (fun x=>⟨181,A9 0 (.ptr o 0) (A9 2 (.ptr (oid Hp.length 0) 0) (A9 3 (.ptr (oid Hp.length 1) 0) (A9 4 (A7 ((x:Nat)+1)) (fun _=>.any)))),Hp,[z47,mvO ⟨(E7 B3 (A4 L S.i) x),[],[],[],[]⟩],[],none⟩) (fun x=>x≤6) (fun x=>6-x) (0) (by omega) (Ar rfl) rfl (fun x hx=>?_)
 refine Z9 ?_;refine A2 [0,2,3,4,11] ?_
 refine A6 (fun ht11=>?_) (fun ht11=>?_)
 ·have hx6:x<6:=by simp at ht11;omega
  refine Z4 ?_
  refine Ih ⟨181,A9 0 (.ptr o 0) (A9 2 (.ptr (oid Hp.length 0) 0) (A9 3 (.ptr (oid Hp.length 1) 0) (A9 4 (A7 ((x:Nat)+1)) (fun _=>.any)))),Hp,[z47,mvO ⟨(E7 B3 (A4 L S.i) (x+1)),[],[],[],[]⟩],[],none⟩ ?_ ?_
  ·refine Ic ?_;refine Om [0,1,3,7,0,16,48,112,255,511,1023,2047,4095,8191,16383,32767,65535,8191,139263,401407,925695,2097151,4194303,8388607,8191,8191,50339839,117448703,268435455,536870911] 28 Af (by kernel_rfl) ?_;refine Z19 ?_
   refine Am (h:=An ho) (hr:=?_)
   refine Z19 ?_
   refine Am (h:=An ho) (hr:=?_)
   refine Am (h:=B2 (S.i) (En (A4 L S.i)) (fun _=>Ez hi)) (hr:=?_)
   refine Z85 ?_;refine Z86 ?_
   refine H0 (h:=An ho) (hr:=?_)
   refine Z86 ?_
   refine H0 (h:=An ho) (hr:=?_)
   refine H0 (h:=B2 (S.i) (En (A4 L S.i)) (fun _=>Ez hi)) (hr:=?_)
   refine Z58 ?_;refine H.call Tryz.call10 (fun hB=>c10 _) ?_;refine H0 ?_
   refine H0 (h:=B2 ((x+1)) (Ac (B3 ((x:Int)+1))) (fun _=>AHy hx6)) (hr:=?_)
   refine H0 ?_;refine Er ?_;refine Z55 ?_;refine A2 [0,2,3,4,43] ?_
   refine A6 (fun ht43=>?_) (fun ht43=>?_)
   ·have e:(E7 B3 (A4 L S.i) (x+1))=((x:Int)+1):=if_pos ht43
    refine Z21 ?_;refine Ho ?_;refine lb ?_;refine Z94 ?_
    rw [e];exact Ar rfl
   have e:(E7 B3 (A4 L S.i) (x+1))=(E7 B3 (A4 L S.i) x):=if_neg (nf ht43)
   refine Eh [0,2,3,4] ?_;refine He ?_;refine Z94 ?_
   rw [e];exact Ar rfl
  refine Z15 ?_;refine lb ?_
  refine Be (x+1) (by omega) (by omega) (Bp rfl)
 have hx6:x=6:=by simp at ht11;omega
 subst hx6
 refine Z41 ?_;refine Z50 ?_;refine A2 [0,2,3,48] ?_
 refine A6 (fun ht48=>?_) (fun ht48=>?_)
 ·have e:Ku L S=(⟨0,[],[],[],[]⟩,E4 L 8 S):=if_pos ht48
  have hk0:(E7 B3 (A4 L S.i) 6)=0:=by simpa using ht48
  refine Z2 ?_;refine B4 (x:=prx L (E4 L 8 S)) Tryz.call25 ho (by simp) G5 (c25 L S 8 o _ (A8 ho) hi) ?_;refine ue ?_;refine Dd ?_;exact Ab (Ao (B5 jA jS)) ⟨by rw [e];show _=K5 _;rw [hk0]<;>rfl,by rw [e]⟩ (hlow:=Vo (m:=⟨E7 B3 (A4 L S.i) 6,[],[],[],[]⟩))
 have e0:Ku L S=((r8 L S).1,Bf L [59] (r8 L S).2):=if_neg (nf ht48)
 have hT0:(Ha S).i<L.length:=hl.step hi fun h0=>by
  have:(Mn L S)=0:=by unfold Mn;rw [Ua,h0];rfl
  rw [show (E7 B3 (A4 L S.i) 6)=(Mn L S) from rfl,this] at ht48;cases ht48
 have hB:(r8 L S).2.i<L.length:=s9 hl hll hT0
 have hN0:(n8 L S).2.i<L.length:=Ny hl hT0
 refine Y9 ?_
 refine A3 (h:=An ho) (hr:=?_)
 refine Z7 ?_
 refine Cv jS ho ?_ ?_
 ·simp
 refine T9 ?_
 refine Ih ⟨181,A9 0 (.ptr o 0) (A9 2 (.ptr (oid Hp.length 0) 0) (A9 3 (.ptr (oid Hp.length 1) 0) (fun _=>.any))),(Hp.set o (prx L (r8 L S).2)),[z47,mvO (r8 L S).1],[],none⟩ ?_ ?_
 ·refine Ns (show _=Hp.set o (prx L (Ha S)) from rfl) ?_;refine Z1 ?_;refine A2 [0,2,3,60] ?_;refine Z84 ?_;refine A2 [0,2,3,60,61] ?_
  refine A6 (fun ht61=>?_) (fun ht61=>?_)
  ·have e:(r8 L S)=(f8 L S):=by unfold r8 Mm;exact if_pos ht61
   refine Z32 ?_;refine Z95 ?_;refine Z94 ?_
   rw [e];exact Ar rfl
  refine Z1 ?_;refine A2 [0,2,3,60,65] ?_
  refine A6 (fun ht65=>?_) (fun ht65=>?_)
  ·have e:(r8 L S)=G9 L (t8 L S) (n8 L S).2:=by unfold r8 Mm;exact (if_neg (nf ht61)).trans (if_pos ht65)
   refine Z49 ?_
   rw [Bc]
   refine Z73 ?_;refine AB2 ?_;refine Z32 ?_;refine Gm Tryz.call57 (AL7 L (t8 L S) (n8 L S).2 o Hp ho hN0 hl hll ht ((show MvLe (t8 L S) 1 from ⟨Ae _,Al _,Al _,Al _⟩).mono (by omega))) (by simp) (fun h=>by simpa using M5 h) ?_;refine AIo ?_
   rw [e];exact Ar rfl
  refine Z1 ?_;refine A2 [0,2,3,60,73] ?_
  refine A6 (fun ht73=>?_) (fun ht73=>?_)
  ·have e:(r8 L S)=(⟨Mn L S,[(n8 L S).1],[⟨(Az L (Bf L toW (n8 L S).2)).1,0⟩],[Bj (n8 L S).1],[Bj (Az L (Bf L toW (n8 L S).2)).1]⟩,(Az L (Bf L toW (n8 L S).2)).2):=by unfold r8 Mm;exact (if_neg (nf ht61)).trans ((if_neg (nf ht65)).trans (if_pos ht73))
   have hW3:(Bf L toW (n8 L S).2).i<L.length:=Fa hl hN0
   refine Z49 ?_
   rw [Bc]
   refine A3 ?_;refine A2 [0,2,3,5] ?_;refine Z2 ?_;refine B4 (x:=prx L (Bf L toW (n8 L S).2)) Tryz.call58 (getset ho) (by simp) G5 (c58 L (n8 L S).2 toW o _ (A8 (getset ho)) hN0 (by omega)) ?_
   rw [Bc]
   refine A2 [0,2,3,5] ?_;refine Z2 ?_;refine B4 (x:=prx L (Az L (Bf L toW (n8 L S).2)).2) Tryz.call56 (getset ho) (by simp) G5 (c56 L (Bf L toW (n8 L S).2) o _ (A8 (getset ho)) hW3 (by omega)) ?_
   rw [Bc]
   refine A3 ?_;refine A2 [0,2,3,5,6] ?_;refine Z2 ?_;refine Z73 ?_;refine Tq jS ?_;refine A2 [0,2,3,5,6] ?_;refine Z87 ?_;refine Z73 ?_;refine Tq jS ?_;refine A2 [0,2,3,5,6] ?_;refine AP8 ?_;refine Ga 89 _ (Uw _) ?_;refine Z73 ?_;refine Tq jS ?_;refine A2 [0,2,3,6] ?_;refine Z32 ?_;refine lf ?_;refine Ga 93 _ (Uw _) ?_;refine Z73 ?_;refine AB2 ?_;refine Z94 ?_
   rw [e];exact Ar rfl
  refine Z1 ?_;refine A2 [0,2,3,60,96] ?_
  refine A6 (fun ht96=>?_) (fun ht96=>?_)
  ·have e:(r8 L S)=G9 L (a8 L S).1 (a8 L S).2:=by unfold r8 Mm;exact (if_neg (nf ht61)).trans ((if_neg (nf ht65)).trans ((if_neg (nf ht73)).trans (if_pos ht96)))
   have hI4:(i8 L S).i<L.length:=Fa hl hN0
   refine Z49 ?_
   rw [Bc]
   refine Z73 ?_;refine AB2 ?_;refine Z2 ?_;refine B4 (x:=prx L (Bf L intoW (n8 L S).2)) Tryz.call58 (getset ho) (by simp) G5 (c58 L (n8 L S).2 intoW o _ (A8 (getset ho)) hN0 (by omega)) ?_
   rw [Bc]
   refine T9 ?_;refine Z2 ?_;refine Gm Tryz.call55 (AL6 L (t8 L S) (i8 L S) o Hp ho hI4 hl hll ht ((show MvLe (t8 L S) 1 from ⟨Ae _,Al _,Al _,Al _⟩).mono (by omega))) (by simp) (fun h=>by simpa using M5 h) ?_;refine T9 ?_;refine Z35 ?_;refine A2 [0,2,3,7] ?_
   refine Bo (α:=Nat×Nat×Mov×XS) (fun x=>⟨181,A9 0 (.ptr o 0) (A9 2 (.ptr (oid Hp.length 0) 0) (A9 3 (.ptr (oid Hp.length 1) 0) (A9 7 (A7 (x.2.1:Nat)) (fun _=>.any)))),(Hp.set o (prx L x.2.2.2)),[z47,mvO x.2.2.1],[],none⟩) (fun x=>L8At L (Ec L) (a8 L S) x) (fun x=>x.1) ((L.length+1,1,(Ec L (t8 L S) (i8 L S)).1,(Ec L (t8 L S) (i8 L S)).2)) (L8At.start (M4 hl hll hI4) ⟨Ae 1,Ae 1,Ae 1,Al 1⟩) (Ar rfl) rfl (fun x hx=>?_)
   refine Z42 ?_
   refine A3 (h:=An (getset ho)) (hr:=?_)
   refine AP2 ?_;refine Z55 ?_;refine A2 [0,2,3,7,119] ?_
   refine A6 (fun ht119=>?_) (fun ht119=>?_)
   ·have hq:Ql L x.2.1 x.2.2.2=true:=ht119
    have hon:=hx.on hl (ry hl hll) hq
    have hw:(w8 L x).i<L.length:=Fa hl hx.lt
    have hsum:=hx.sum
    refine Z56 ?_;refine AOd ?_
    rw [Bc]
    refine A2 [0,2,3,7] ?_;refine Z32 ?_
    refine Gm Tryz.call55 (AL6 L x.2.2.1 (w8 L x) o Hp ho hw hl hll ht (hx.le.mono (by have:=hx.sum;omega))) (by simp) (fun h=>by simpa using M5 h) ?_
    refine A2 [0,2,3,7] ?_;refine Z75 ?_;refine A2 [0,2,3,7] ?_
    refine Be (x.1-1,x.2.1+1,(Ec L x.2.2.1 (w8 L x)).1,(Ec L x.2.2.1 (w8 L x)).2) hon.1 (by have:=hon.2;show x.1-1<x.1;omega) (Bp rfl)
   have hq:Ql L x.2.1 x.2.2.2=false:=ht119
   have hR:=hx.out hq
   have hA4:(a8 L S).2.i<L.length:=by rw [hR];exact hx.lt
   have hA4b:MvLe (a8 L S).1 600000:=by rw [hR];exact hx.le.mono (by have:=hx.sum;omega)
   rw [show x.2.2.1=(a8 L S).1 by rw [hR],show x.2.2.2=(a8 L S).2 by rw [hR]]
   refine Z41 ?_;refine Z32 ?_;refine Gm Tryz.call57 (AL7 L (a8 L S).1 (a8 L S).2 o Hp ho hA4 hl hll ht hA4b) (by simp) (fun h=>by simpa using M5 h) ?_;refine AIo ?_
   rw [e];exact Ar rfl
  refine Z1 ?_;refine A2 [0,2,3,60,128] ?_
  refine A6 (fun ht128=>?_) (fun ht128=>?_)
  ·have e:(r8 L S)=G9 L (g8 L S).1 (g8 L S).2:=by unfold r8 Mm;exact (if_neg (nf ht61)).trans ((if_neg (nf ht65)).trans ((if_neg (nf ht73)).trans ((if_neg (nf ht96)).trans (if_pos ht128))))
   refine Z49 ?_
   rw [Bc]
   refine Z73 ?_;refine AB2 ?_;refine Z35 ?_;refine A2 [0,2,3,8] ?_
   refine Bo (α:=Nat×Nat×Mov×XS) (fun x=>⟨181,A9 0 (.ptr o 0) (A9 2 (.ptr (oid Hp.length 0) 0) (A9 3 (.ptr (oid Hp.length 1) 0) (A9 8 (A7 (x.2.1:Nat)) (fun _=>.any)))),(Hp.set o (prx L x.2.2.2)),[z47,mvO x.2.2.1],[],none⟩) (fun x=>L8At L (Nu L) (b8 L S) x) (fun x=>x.1) ((L.length+1,1,(t8 L S),(n8 L S).2)) (L8At.start hN0 ⟨Ae _,Al _,Al _,Al _⟩) (Ar rfl) rfl (fun x hx=>?_)
   refine Z42 ?_
   refine A3 (h:=An (getset ho)) (hr:=?_)
   refine AP2 ?_;refine Z55 ?_;refine A2 [0,2,3,8,147] ?_
   refine A6 (fun ht147=>?_) (fun ht147=>?_)
   ·have hq:Ql L x.2.1 x.2.2.2=true:=ht147
    have hon:=hx.on hl (rz hl) hq
    have hw:(w8 L x).i<L.length:=Fa hl hx.lt
    have hsum:=hx.sum
    refine Z56 ?_;refine AOd ?_
    rw [Bc]
    refine A2 [0,2,3,8] ?_;refine Me [0,1,0,4,12,31,63,127] [1,3] [.q 1 [] [0],.s [153] (some 0) [] [],.q 1 [] [1],.s [155] (some 1) [] [],.q 1 [1] []] (fun B=>Hp.set o (if B 1=true then prx L (Az L (w8 L x)).2 else prx L (w8 L x):AObj)) (fun B=>[z47,.cells 47 (if B 0=true then (mvF false true true true x.2.2.1) else (mvF true true true true x.2.2.1))]) Af (by kernel_rfl) rfl rfl (fun B=>by simp) ?_
    apply Y.q
    ·intro B hT hF
     exact Z29
    case hTF=>decide
    refine Y.loadOwnT (u:=Hp.length) (n:=1) (t':=47) (cs:=(mvF true true true true x.2.2.1)) (cs':=(mvF false true true true x.2.2.1)) Tryz.isAgg29 (fun B hB=>⟨by simp,by simp only [hB];rfl,by simp [upd],rfl⟩) ?_
    apply Y.q
    ·intro B hT hF
     exact Z29
    case hTF=>decide
    refine Jk (r:=Ac (Az L (w8 L x)).1) (o:=o) (x0:=prx L (w8 L x)) (x:=prx L (Az L (w8 L x)).2) Tryz.call56 (fun B hB1 hB2 hB=>⟨by simp only [hB];exact getset ho,by simp only [upd,hB,Bc]<;>rfl,rfl,G5,?_⟩) ?_
    ·simp only [hB]
     exact c56 L (w8 L x) o _ (A8 (getset ho)) hw (by omega)
    apply Y.q
    ·intro B hT hF
     exact Z28
    case hTF=>decide
    refine Dj (tn:=[1,3]) (U:=Hp.set o (prx L (Az L (w8 L x)).2)) (O:=[z47,.cells 47 (mvF false true true true x.2.2.1)]) ?_
    refine N9 jU Tryz.type9 ?_ ?_ ?_
    ·have:=hx.le.take;have:=hx.sum;simp [Tryz.t9];omega
    ·have:=hx.le.take;have:=hx.sum;simp [Tryz.t9];omega
    refine A3 ?_;refine Tq jS ?_;refine A2 [0,2,3,8] ?_;refine Z75 ?_;refine A2 [0,2,3,8] ?_
    refine Be (x.1-1,x.2.1+1,(Nu L x.2.2.1 (w8 L x)).1,(Nu L x.2.2.1 (w8 L x)).2) hon.1 (by have:=hon.2;show x.1-1<x.1;omega) (Bp (by simp only [Nu,Tg,mvO,mvC,Cu,Bs,Gu]<;>rfl))
   have hq:Ql L x.2.1 x.2.2.2=false:=ht147
   have hR:=hx.out hq
   have hA5:(b8 L S).2.i<L.length:=by rw [hR];exact hx.lt
   have hA5b:MvLe (b8 L S).1 600000:=by rw [hR];exact hx.le.mono (by have:=hx.sum;omega)
   have hI5:(Bf L intoW (b8 L S).2).i<L.length:=Fa hl hA5
   have hG5:(g8 L S).2.i<L.length:=M4 hl hll hI5
   have hG5b:MvLe (g8 L S).1 600000:=dt (n:=599999) (by rw [hR];exact hx.le.mono (by have:=hx.sum;omega))
   rw [show x.2.2.1=(b8 L S).1 by rw [hR],show x.2.2.2=(b8 L S).2 by rw [hR]]
   refine uk ?_;refine B4 (x:=prx L (Bf L intoW (b8 L S).2)) Tryz.call58 (getset ho) (by simp) G5 (c58 L (b8 L S).2 intoW o _ (A8 (getset ho)) hA5 (by omega)) ?_
   rw [Bc]
   refine T9 ?_;refine Z2 ?_;refine Gm Tryz.call55 (AL6 L (b8 L S).1 (Bf L intoW (b8 L S).2) o Hp ho hI5 hl hll ht hA5b) (by simp) (fun h=>by simpa using M5 h) ?_;refine T9 ?_;refine Z32 ?_;refine Gm Tryz.call57 (AL7 L (g8 L S).1 (g8 L S).2 o Hp ho hG5 hl hll ht hG5b) (by simp) (fun h=>by simpa using M5 h) ?_;refine AIo ?_
   rw [e];exact Ar rfl
  refine Z1 ?_;refine A2 [0,2,3,165] ?_
  refine A6 (fun ht165=>?_) (fun ht165=>?_)
  ·have e:(r8 L S)=G9 L (s8 L S) (f8 L S).2:=by unfold r8 Mm;exact (if_neg (nf ht61)).trans ((if_neg (nf ht65)).trans ((if_neg (nf ht73)).trans ((if_neg (nf ht96)).trans ((if_neg (nf ht128)).trans (if_pos ht165)))))
   have hG1:(f8 L S).2.i<L.length:=M4 hl hll hT0
   have hT6b:MvLe (s8 L S) 600000:=by
    have:=(dt (L:=L) (S:=(Ha S)) (n:=0) (m:=(m8 L S)) ⟨Al _,Al _,Al _,Al _⟩).mono (show 1≤600000 by omega)
    exact ⟨by show 1≤_;omega,this.give,this.ahead,this.back⟩
   refine Z2 ?_;refine Z95 ?_;refine Z1 ?_
   refine A3 (h:=B2 (0) (Hz ((f8 L S).1.give.getD 0 ⟨[],0⟩)) (fun _=>rfl)) (hr:=?_)
   refine Z0 ?_;refine Z73 ?_;refine AB2 ?_;refine Z32 ?_;refine Gm Tryz.call57 (AL7 L (s8 L S) (f8 L S).2 o Hp ho hG1 hl hll ht hT6b) (by simp) (fun h=>by simpa using M5 h) ?_;refine AIo ?_
   rw [e];exact Ar rfl
  have e:(r8 L S)=((m8 L S),(Ha S)):=by unfold r8 Mm;exact (if_neg (nf ht61)).trans ((if_neg (nf ht65)).trans ((if_neg (nf ht73)).trans ((if_neg (nf ht96)).trans ((if_neg (nf ht128)).trans (if_neg (nf ht165))))))
  refine Eh [0,2,3] ?_;refine He ?_;refine Z94 ?_
  rw [e];exact Ar rfl
 refine Z2 ?_;refine B4 (x:=prx L (Bf L [59] (r8 L S).2)) Tryz.call58 (getset ho) (by simp) G5 (c58 L (r8 L S).2 [59] o _ (A8 (getset ho)) hB (by omega)) ?_
 rw [Bc]
 refine ue ?_;exact Ab (Ao (B5 jA jS)) ⟨by rw [e0]<;>rfl,by rw [e0]⟩ (hlow:=Vo (m:=(r8 L S).1))

/-! The lexer byte by byte. -/
/-- The lexer from a place on; b: within a note. -/
def ADm (b:Bool) (f q:Nat) (s:Str):List (Tok×Int):=Gc f (q+(s.length-(Cx s b).length)) (Cx s b)
theorem AHz (f q:Nat) (s:Str):Ou f q s=ADm false f q s:=by unfold ADm Ou;rw [AFd];rfl
def Kn (b:Bool) (s:Str) (k p:Nat):Prop:=(∃f,s.length-p<f∧(C0 s).drop k=ADm b f p (s.drop p))∧p≤s.length∧∀j,j<k→∃it,(C0 s)[j]? = some it∧it.2=0
theorem xm (s:Str):Kn false s 0 0:=⟨⟨s.length+1,by omega,by rw [Pf,Pf,←AHz];exact oy s⟩,Al _,fun j hj=>by omega⟩
theorem Jg {s:Str} {p:Nat} (hp:p<s.length):s.drop p=s[p]::s.drop (p+1):=W5 hp
theorem dv {b b':Bool} {s:Str} {k p:Nat} (h:Kn b s k p) (hp:p<s.length) (e:Cx (s.drop p) b=Cx (s.drop (p+1)) b'):Kn b' s k (p+1):=by
 obtain ⟨⟨f,hf,hd⟩,h1,h2⟩:=h
 refine ⟨⟨f,by omega,?_⟩,hp,h2⟩
 rw [hd]
 unfold ADm
 rw [e]
 have hl:=O9 (s.drop (p+1)) b'
 have l1:(s.drop p).length=(s.drop (p+1)).length+1:=by rw [Dh,Dh];omega
 congr 1
 omega
theorem dw {b b':Bool} {s:Str} {k p:Nat} (h:Kn b s k p) (e:Cx (s.drop p) b=Cx (s.drop p) b'):Kn b' s k p:=by
 obtain ⟨⟨f,hf,hd⟩,h1,h2⟩:=h
 refine ⟨⟨f,hf,?_⟩,h1,h2⟩
 rw [hd]
 unfold ADm
 rw [e]
theorem sd {s:Str} {k p:Nat} (h:Kn false s k p) (hp:p<s.length) (hb:blanks.contains s[p]=true):Kn false s k (p+1):=
 dv h hp (by rw [Jg hp,Cx,if_pos hb])
theorem xn {s:Str} {k p:Nat} (h:Kn false s k p) (hp:p<s.length) (hb:s[p]=35):Kn true s k p:=
 dw h (by rw [Jg hp,Cx,Cx,hb];rfl)
theorem AI0 {s:Str} {k p:Nat} (h:Kn true s k p) (hp:p<s.length) (hb:s[p]≠10):Kn true s k (p+1):=
 dv h hp (by rw [Jg hp,Cx,if_neg (by simpa using hb)])
theorem ADn {s:Str} {k p:Nat} (h:Kn true s k p) (hb:s.length≤p∨∃hp:p<s.length,s[p]=10):Kn false s k p:=by
 refine dw h ?_
 rcases hb with hb|⟨hp,hb⟩
 ·rw [M7.2 hb];rfl
 rw [Jg hp,hb,Cx,Cx]
 rfl
theorem jn {s:Str} {k p:Nat} (h:Kn false s k p) (hg:s.length≤p∨∃hp:p<s.length,blanks.contains s[p]=false∧s[p]≠35):Qk s k p:=by
 obtain ⟨⟨f,hf,hd⟩,h1,h2⟩:=h
 refine ⟨⟨f,by rw [Dh];exact hf,?_⟩,h1,h2⟩
 rw [hd]
 have e:Cx (s.drop p) false=s.drop p:=by
  rcases hg with hg|⟨hp,hg,h35⟩
  ·rw [M7.2 hg];rfl
  rw [Jg hp,Cx,if_neg (by rw [hg];simp),if_neg (by simpa using h35)]
 unfold ADm
 rw [e,kn]
 rfl
theorem xp {s:Str} {k p n:Nat} (h:Qk s k p) (hp:p<s.length) (he:(wAt s p).2.2.2=0) (hn:(wAt s p).2.2.1=(n:Int)):Kn false s (k+1) (p+n):=by
 have hi:=L0 h hp
 obtain ⟨f,hf,hd,hne⟩:=Ty h hp
 obtain ⟨m,hm,h1,h2⟩:=Ut (s:=s.drop p) (by rw [Dh];omega) he
 have hmn:m=n:=by have:(Bi (s.drop p)).2.2.1=(n:Int):=hn;omega
 subst hmn
 rw [Dh] at h2 hf
 refine ⟨⟨f,by omega,?_⟩,by omega,fun j hj=>?_⟩
 ·rw [Jy hne] at hd
  have:=congrArg (·.drop 1) hd
  simp only [Qt,Ok,Pf] at this
  unfold wAt at he
  rw [this,hm,he,←AHz]
  unfold Ou
  simp only [beq_self_eq_true,if_true,Int.toNat_natCast,Qt]
 rcases Aw j k with h'|h'
 ·exact h.2.2 j h'
 have:j=k:=by omega
 subst this
 exact ⟨_,hi,he⟩

/-! Words. -/
theorem Qf (c:UInt8):letters.contains c=Cw c:=by
 have:=Q0 (p:=fun c=>letters.contains c==Cw c) (by kernel_rfl) c
 simpa using this
theorem T7 (c:UInt8):digs.contains c=By c:=by
 have:=Q0 (p:=fun c=>digs.contains c==By c) (by kernel_rfl) c
 simpa using this
theorem AI1 (c:UInt8):tails.contains c=Cr c:=by
 have:=Q0 (p:=fun c=>tails.contains c==Cr c) (by kernel_rfl) c
 simpa using this
theorem Lc (c:UInt8) (r of:Str):decide (0<Lq ((c::r).take 1) of)=of.contains c:=by
 rw [show (c::r).take 1=[c] from rfl,Od]
 cases of.contains c<;>rfl
theorem ANx {c:UInt8} {r:Str} (h:Cw c=true):Bi (c::r)=Nh (c::r):=by
 unfold Bi;rw [Lc,Qf,h];rfl
theorem ANy {c:UInt8} {r:Str} (h:Cw c=false) (h2:By c=true):Bi (c::r)=Py (c::r):=by
 unfold Bi;rw [Lc,Lc,Qf,T7,h,h2];rfl
theorem ANz {c:UInt8} {r:Str} (h:Cw c=false) (h2:By c=false) (h3:c=39):Bi (c::r)=Jb (c::r):=by
 unfold Bi;rw [Lc,Lc,Qf,T7,h,h2];subst h3;rfl
theorem AO0 {c:UInt8} {r:Str} (h:Cw c=false) (h2:By c=false) (h3:c≠39):Bi (c::r)=Ni (c::r):=by
 unfold Bi;rw [Lc,Lc,Qf,T7,h,h2]
 have:((((c::r:Str).getD 0 0).toNat:Int)==39)=false:=by
  rw [beq_eq_false_iff_ne]
  intro e
  exact h3 (F5.1 (by have e':(c.toNat:Int)=39:=e;show c.toNat=39;omega))
 rw [this];rfl
/-- The bytes of a run of a class of them. -/
def E0 (p:UInt8→Bool) (s:Str):Nat:=(s.takeWhile p).length
theorem Xf (p:UInt8→Bool) (s:Str):s.take (E0 p s)=s.takeWhile p:=(List.prefix_iff_eq_take.1 (kc p)).symm
theorem Y3 {of:Str} {p:UInt8→Bool} (h:∀c,of.contains c=p c) (s:Str):Cp s of=s.takeWhile p:=by
 rw [L2]
 congr 1
 funext c
 exact h c
theorem T8 {p:UInt8→Bool} {c:UInt8} {r:Str} (h:p c=true):(c::r).takeWhile p=c::r.takeWhile p:=by rw [O2,if_pos h]
theorem ADo {c:UInt8} {r:Str} (h:Cw c=true) (hr:D8 ((c::r).takeWhile Cr)=false):H8 ((c::r).takeWhile Cr)=decide (((c::r).takeWhile Cr).length≤16):=by
 have hc:Cr c=true:=by unfold Cr;rw [h];rfl
 have ha:((c::r).takeWhile Cr).all Cr=true:=Ay.2 fun b hb=>P7 hb
 rw [T8 hc] at hr ha ⊢
 show (decide _&&Cw c && !D8 _&&List.all _ Cr)=_
 rw [h,hr,ha]
 simp
/-! A text in quotes: what stands in it, how many bytes it takes. -/
def C6:Str→Str×Nat
 | []=>([],0)
 | [c]=>if c==39 then ([],0) else ([c],1)
 | c::d::t=>if c==39 then (if d==39 then (39::(C6 t).1,(C6 t).2+2) else ([],0)) else (c::(C6 (d::t)).1,(C6 (d::t)).2+1)
theorem Sa {c:UInt8} (h:c≠39) (r:Str):C6 (c::r)=(c::(C6 r).1,(C6 r).2+1):=by
 cases r with
 | nil=>simp [C6,h]
 | cons d t=>rw [C6,if_neg (by simpa using h)]
theorem jo (t:Str):C6 (39::39::t)=(39::(C6 t).1,(C6 t).2+2):=by rw [C6];rfl
theorem jp {r:Str} (h:∀t,r≠39::t):C6 (39::r)=([],0):=by
 cases r with
 | nil=>rfl
 | cons d t=>rw [C6,if_pos (show ((39:UInt8)==39)=true from rfl),if_neg (by simpa using fun e:d=39=>h t (by rw [e]))]
theorem Sb:∀u:Str,D5 u=(if (C6 u).2<u.length then some ((C6 u).2+1) else none)∧u.take (C6 u).2=Cb (C6 u).1∧(C6 u).2≤u.length∧((C6 u).2<u.length→u[(C6 u).2]? = some 39)
 | []=>⟨rfl,rfl,Ae _,fun h=>absurd h (by decide)⟩
 | [c]=>by
  by_cases hc:c=39
  ·subst hc;exact ⟨rfl,rfl,by decide,fun _=>rfl⟩
  rw [Sa hc,Lr (by simpa using hc),Ht,show Uz c=[c] from if_neg hc]
  exact ⟨rfl,rfl,Ae _,fun h=>absurd h (by show ¬1<1;omega)⟩
 | c::d::t=>by
  by_cases hc:c=39
  ·subst hc
   rw [Tx]
   by_cases hd:d=39
   ·subst hd
    obtain ⟨h1,h2,h3,h4⟩:=Sb t
    rw [jo,Ht,show Uz 39=[39,39] from rfl]
    refine ⟨?_,?_,by simp only [Aq];omega,fun h=>?_⟩
    ·simp only [beq_self_eq_true,if_true,h1,Aq]
     by_cases hl:(C6 t).2<t.length
     ·rw [if_pos hl,if_pos (by omega)];rfl
     rw [if_neg hl,if_neg (by omega)];rfl
    ·simp only [List.take_succ_cons,h2];rfl
    simp only [Aq] at h
    simp only [Qw]
    exact h4 (by omega)
   rw [jp (fun t' e=>by injection e with e;exact hd e)]
   refine ⟨?_,rfl,Al _,fun _=>rfl⟩
   simp [hd]
  obtain ⟨h1,h2,h3,h4⟩:=Sb (d::t)
  rw [Sa hc,Lr (by simpa using hc),Ht,show Uz c=[c] from if_neg hc]
  refine ⟨?_,?_,by simp only [Aq] at h3 ⊢;omega,fun h=>?_⟩
  ·rw [h1]
   simp only [Aq]
   by_cases hl:(C6 (d::t)).2<t.length+1
   ·rw [if_pos hl,if_pos (by omega)];rfl
   rw [if_neg hl,if_neg (by omega)];rfl
  ·rw [List.take_succ_cons,h2];rfl
  simp only [Aq] at h
  rw [Qw]
  exact h4 (by simp only [Aq];omega)
theorem AI2 (a b:Str):Cb (a++b)=Cb a++Cb b:=by unfold Cb;rw [t7]
theorem xq (t:Str):Wj ([39]++Cb t++[39])=t:=by
 unfold Wj
 have:(([39]++Cb t++[39]:Str).take (([39]++Cb t++[39]:Str).length-1)).drop 1=Cb t:=by
  rw [show ([39]++Cb t++[39]:Str).length-1=([39]++Cb t:Str).length by simp,ke]
  rfl
 rw [this]
 exact ct t
theorem ADp {t:Str} (h:200<t.length):(Dy ([39]++Cb t++[39])).2=7:=by
 have ht:Rj ([39]++Cb t++[39])=⟨2,0,t.take 200⟩:=by
  unfold Rj
  rw [xq]
 have hp:Dr ⟨2,0,t.take 200⟩=true:=by
  unfold Dr
  simp
  omega
 have hpr:De ⟨2,0,t.take 200⟩=[39]++Cb (t.take 200)++[39]:=by
  unfold De
  rw [hp,Lt]
  rfl
 have hq:Kq ([39]++Cb t++[39])=true:=by
  unfold Kq
  simp [Lib.hasPrefix,Lib.hasSuffix,List.isPrefixOf]
  omega
 have hl:(Cb (t.take 200)).length<(Cb t).length:=by
  have e:Cb t=Cb (t.take 200)++Cb (t.drop 200):=by rw [←AI2,Se]
  have h2:=ln (t.drop 200)
  rw [Dh] at h2
  rw [e,Ai]
  omega
 unfold Dy
 have n1:(([39]++Cb t++[39]:Str)==[110,117,108,108])=false:=by rw [beq_eq_false_iff_ne];intro e;injection e with e;exact absurd e (by decide)
 have n2:(([39]++Cb t++[39]:Str)==[116,114,117,101])=false:=by rw [beq_eq_false_iff_ne];intro e;injection e with e;exact absurd e (by decide)
 have n3:(([39]++Cb t++[39]:Str)==[102,97,108,115,101])=false:=by rw [beq_eq_false_iff_ne];intro e;injection e with e;exact absurd e (by decide)
 rw [n1,n2,n3,hq]
 simp only [B1,if_false,Tl,if_true]
 unfold aw
 rw [ht,hpr]
 have:(([39]++Cb (t.take 200)++[39]:Str)==[39]++Cb t++[39])=false:=by
  rw [beq_eq_false_iff_ne]
  intro e
  have:=congrArg List.length e
  simp only [Ai] at this
  omega
 rw [this]
 rfl
def I3:Str→Nat
 | c::d::_=>if d=61∧(c=60∨c=62∨c=33) then 2 else 1
 | _=>1
/-- A word as the reference ARg it: its kind, its text, how many bytes it takes, the error. -/
def ml:Str→Int×Str×Nat×Int
 | []=>(0,[],0,0)
 | c::r =>
  if Cw c then (if D8 ((c::r).takeWhile Cr) then 2 else 1,(c::r).takeWhile Cr,E0 Cr (c::r),if D8 ((c::r).takeWhile Cr) then 0 else if 16<E0 Cr (c::r) then 3 else 0)
  else if By c then (3,(c::r).takeWhile By,E0 By (c::r),if (B6 ((c::r).takeWhile By)).2==6 then 7 else (B6 ((c::r).takeWhile By)).2)
  else if c=39 then (4,(C6 r).1,(C6 r).2+2,if r.length≤(C6 r).2 then 7 else if 200<(C6 r).1.length then 3 else 0)
  else (5,(c::r).take (I3 (c::r)),I3 (c::r),if I3 (c::r)=2∨singles.contains c=true then 0 else 7)
theorem xr {c:UInt8} {r:Str} (h:Cw c=true):ml (c::r)=(if D8 ((c::r).takeWhile Cr) then 2 else 1,(c::r).takeWhile Cr,E0 Cr (c::r),if D8 ((c::r).takeWhile Cr) then 0 else if 16<E0 Cr (c::r) then 3 else 0):=if_pos h
theorem xt {c:UInt8} {r:Str} (h:Cw c=false) (h2:By c=true):ml (c::r)=(3,(c::r).takeWhile By,E0 By (c::r),if (B6 ((c::r).takeWhile By)).2==6 then 7 else (B6 ((c::r).takeWhile By)).2):=by
 rw [ml,if_neg (by rw [h];simp),if_pos h2]
theorem xu {c:UInt8} {r:Str} (h:Cw c=false) (h2:By c=false) (h3:c=39):ml (c::r)=(4,(C6 r).1,(C6 r).2+2,if r.length≤(C6 r).2 then 7 else if 200<(C6 r).1.length then 3 else 0):=by
 rw [ml,if_neg (by rw [h];simp),if_neg (by rw [h2];simp),if_pos h3]
theorem xv {c:UInt8} {r:Str} (h:Cw c=false) (h2:By c=false) (h3:c≠39):ml (c::r)=(5,(c::r).take (I3 (c::r)),I3 (c::r),if I3 (c::r)=2∨singles.contains c=true then 0 else 7):=by
 rw [ml,if_neg (by rw [h];simp),if_neg (by rw [h2];simp),if_neg h3]
/-- Both read the same: the error, and where there is none the word. -/
def AAc (a:Int×Str×Nat×Int) (b:Int×Str×Int×Int):Prop:=a.2.2.2=b.2.2.2∧(b.2.2.2=0→b=(a.1,a.2.1,(a.2.2.1:Int),0))
theorem AL8 {c:UInt8} {r:Str} (ha:∀b∈(c::r:Str),digs.contains b=true):(Dy (c::r)).2=if (B6 (c::r)).2==6 then 7 else (B6 (c::r)).2:=by
 have hn:=Rp c (ha c Ev)
 have n1:((c::r:Str)==[110,117,108,108])=false:=by rw [beq_eq_false_iff_ne];intro e;injection e with e;exact hn.2.2.2.1 e
 have n2:((c::r:Str)==[116,114,117,101])=false:=by rw [beq_eq_false_iff_ne];intro e;injection e with e;exact hn.2.2.2.2.1 e
 have n3:((c::r:Str)==[102,97,108,115,101])=false:=by rw [beq_eq_false_iff_ne];intro e;injection e with e;exact hn.2.2.2.2.2 e
 have hq:Kq (c::r)=false:=by
  unfold Kq
  have:Lib.hasPrefix (c::r) [39]=false:=by simp [Lib.hasPrefix,List.isPrefixOf,Ne.symm hn.2.2.1]
  rw [this]
  simp
 have hv:(B6 (c::r)).2=6∨(B6 (c::r)).2=0∨(B6 (c::r)).2=4:=by
  unfold B6
  split
  ·exact .inl rfl
  cases Lib.parseIntB 64 (c::r)<;>simp
 unfold Dy
 rw [n1,n2,n3,hq]
 simp only [B1,if_false,Tl]
 rcases hv with h|h|h<;>rw [h]<;>rfl
theorem ADq {c:UInt8} {r:Str}:AAc (5,(c::r).take (I3 (c::r)),I3 (c::r),if I3 (c::r)=2∨singles.contains c=true then 0 else 7) (Ni (c::r)):=by
 have h1:Lib.contains singles [c]=singles.contains c:=by
  have:=Q0 (p:=fun c=>Lib.contains singles [c]==singles.contains c) (by kernel_rfl) c
  simpa using this
 have hd:∀d t,r=d::t→((decide ((1:Int)<((c::r).length:Nat))&&Lib.contains Sq ((c::r).take 2))&&((((c::r).getD 1 0).toNat:Int)==61))=decide (I3 (c::r)=2):=by
  rintro d t rfl
  have e2:(((((c::d::t).getD 1 0).toNat:Nat):Int)==61)=decide (d=61):=by
   rw [N3,beq_iff_eq,decide_eq_true_iff]
   show ((d.toNat:Nat):Int)=61↔_
   exact ⟨fun h=>F5.1 (by show d.toNat=61;omega),fun h=>by rw [h];rfl⟩
  rw [e2]
  have e1:decide ((1:Int)<((c::d::t).length:Nat))=true:=by simp;omega
  rw [e1,D0]
  unfold I3
  by_cases h61:d=61
  ·subst h61
   have:=Q0 (p:=fun c=>Lib.contains Sq [c,61]==decide (c=60∨c=62∨c=33)) (by kernel_rfl) c
   have e3:Lib.contains Sq ((c::61::t).take 2)=decide (c=60∨c=62∨c=33):=by simpa using this
   rw [e3]
   by_cases hc:c=60∨c=62∨c=33
   ·simp [hc]
   simp [hc]
  simp [h61]
 cases r with
 | nil =>
  have:Ni [c]=if Lib.contains singles [c] then (5,[c],1,0) else (0,[],0,7):=rfl
  rw [this,h1]
  by_cases hs:singles.contains c=true
  ·rw [if_pos hs,if_pos (.inr hs)]
   exact o5
  rw [if_neg hs,if_neg (by rintro (h|h);exact absurd h (by show ¬(1=2);decide);exact hs h)]
  exact AMq
 | cons d t =>
  have hh:=hd d t rfl
  unfold Ni
  rw [hh]
  by_cases h2:I3 (c::d::t)=2
  ·rw [if_pos (show I3 (c::d::t)=2∨_ from .inl h2),if_pos (show decide (I3 (c::d::t)=2)=true from decide_eq_true h2),h2]
   exact o5
  have h11:I3 (c::d::t)=1:=by
   have:I3 (c::d::t)=1∨I3 (c::d::t)=2:=by
    show (if _ then 2 else 1)=1∨(if _ then 2 else 1)=2
    split
    ·exact .inr rfl
    exact .inl rfl
   rcases this with h|h
   ·exact h
   exact absurd h h2
  rw [if_neg (show ¬decide (I3 (c::d::t)=2)=true by simpa using h2)]
  show AAc _ (if Lib.contains singles [c] then _ else _)
  rw [h1]
  by_cases hs:singles.contains c=true
  ·rw [if_pos (show I3 (c::d::t)=2∨_ from .inr hs),if_pos hs,h11]
   exact o5
  rw [if_neg (show ¬(I3 (c::d::t)=2∨singles.contains c=true) from fun h=>h.elim h2 hs),if_neg hs]
  exact AQ6
theorem Xg {u:Str} (h0:u≠[]):AAc (ml u) (Bi u):=by
 cases u with
 | nil=>exact absurd rfl h0
 | cons c r =>
 cases h:Cw c with
 | true =>
  rw [xr h,ANx h]
  unfold Nh
  rw [Y3 AI1,AN1,Hi]
  cases hr:D8 ((c::r).takeWhile Cr) with
  | true=>exact ⟨rfl,fun _=>rfl⟩
  | false =>
   rw [ADo h hr]
   by_cases hl:((c::r).takeWhile Cr).length≤16
   ·have:¬16<E0 Cr (c::r):=by unfold E0;omega
    rw [decide_eq_true hl]
    simp only [B1,if_false,if_neg this,Hu]
    exact o5
   have:16<E0 Cr (c::r):=by unfold E0;omega
   rw [decide_eq_false hl]
   simp only [B1,if_false,if_pos this,N5,if_true]
   exact AMq
 | false =>
  cases h2:By c with
  | true =>
   rw [xt h h2,ANy h h2]
   unfold Py
   rw [Y3 T7]
   have ha:∀b∈(c::r).takeWhile By,digs.contains b=true:=fun b hb=>by rw [T7];exact P7 hb
   have e:=ha
   rw [T8 h2] at e
   have e2:=AL8 e
   rw [←T8 h2] at e2
   rw [e2]
   generalize (if (B6 ((c::r).takeWhile By)).2==6 then (7:Int) else (B6 ((c::r).takeWhile By)).2)=v
   exact ⟨rfl,fun h=>by have h:v=0:=h;rw [h];rfl⟩
  | false =>
   by_cases h3:c=39
   ·rw [xu h h2 h3,ANz h h2 h3]
    subst h3
    obtain ⟨q1,q2,q3,q4⟩:=Sb r
    unfold Jb
    show AAc _ (match D5 r with|none=>_|some n=>_)
    rw [q1]
    by_cases hl:(C6 r).2<r.length
    ·rw [if_pos hl,if_neg (show ¬r.length≤(C6 r).2 by omega)]
     have et:(39::r:Str).take ((C6 r).2+1+1)=[39]++Cb (C6 r).1++[39]:=by
      rw [List.take_succ_cons,List.take_succ,q4 hl,q2]
      rfl
     simp only [et]
     by_cases h200:200<(C6 r).1.length
     ·rw [ADp h200,if_pos h200]
      exact ⟨rfl,fun h=>absurd h (by show ¬(3:Int)=0;decide)⟩
     rw [ie (by omega),if_neg h200]
     exact o5
    rw [if_neg hl,if_pos (show r.length≤(C6 r).2 by omega)]
    exact AQ6
   rw [xv h h2 h3,AO0 h h2 h3]
   exact ADq
/-! Where the reference's loops are. -/
theorem getD_eq {s:Str} {n:Nat} (h:n<s.length):s.getD n 0=s[n]:=by rw [F7,Ak h];rfl
theorem AL9 {q:UInt8→Bool} {s:Str} {p z:Nat} (h1:p≤z) (h2:z≤p+E0 q (s.drop p)) (hz:z<s.length) (hq:q (s.getD z 0)=true):z+1≤p+E0 q (s.drop p):=by
 rcases Aw z (p+E0 q (s.drop p)) with h|h
 ·omega
 have hz':z=p+E0 q (s.drop p):=by omega
 exfalso
 have e:=kb (p:=q) (l:=s.drop p)
 have hd:(s.drop p).dropWhile q=s.drop z:=by
  have e1:(s.drop p).drop (E0 q (s.drop p))=(s.drop p).dropWhile q:=by
   have e2:=Se (E0 q (s.drop p)) (s.drop p)
   rw [Xf] at e2
   exact List.append_cancel_left (e2.trans e.symm)
  rw [←e1,Qt,hz']
 rw [Jg hz] at hd
 have hh:∀(l:Str) (c:UInt8) (t:Str),l.dropWhile q=c::t→q c=false:=by
  intro l
  induction l with
  | nil=>intro c t h;cases h
  | cons b l ih =>
   intro c t h
   rw [Tm] at h
   split at h
   ·exact ih c t h
   rename_i hb;injection h with h1 h2;subst h1;simpa using hb
 have:=hh _ _ _ hd
 rw [getD_eq hz] at hq
 rw [hq] at this
 cases this
theorem se {q:UInt8→Bool} {s:Str} {p z:Nat} (h1:p≤z) (h2:z≤p+E0 q (s.drop p)) (h:s.length≤z∨q (s.getD z 0)=false):z=p+E0 q (s.drop p):=by
 rcases Aw z (p+E0 q (s.drop p)) with hz|hz
 ·exfalso
  have hl:E0 q (s.drop p)≤s.length-p:=by
   unfold E0
   rw [←Dh]
   exact (kc q).length_le
  have hzl:z<s.length:=by omega
  have e:q s[z]=true:=by
   have hm:((s.drop p).takeWhile q)[z-p]? = some s[z]:=by
    have:=Xf q (s.drop p)
    rw [←this,Ib,if_pos (by omega),Gg,show p+(z-p)=z by omega]
    exact Ak hzl
   exact P7 (Bd hm)
  rcases h with h|h
  ·omega
  rw [getD_eq hzl,e] at h;cases h
 omega
theorem Zs {q:UInt8→Bool} {s:Str} {p:Nat} (hp:p≤s.length):p+E0 q (s.drop p)≤s.length:=by
 have hl:E0 q (s.drop p)≤s.length-p:=by
  unfold E0
  rw [←Dh]
  exact (kc q).length_le
 omega
theorem jq {q:UInt8→Bool} {s:Str} {p:Nat}:(s.take (p+E0 q (s.drop p))).drop p=(s.drop p).takeWhile q:=by
 rw [sw,show p+E0 q (s.drop p)-p=E0 q (s.drop p) by omega,Xf]
/-- The loop through a text in quotes. -/
structure QAt (s:Str) (p z:Nat) (b:Str):Prop where
 lo:p+1≤z
 hi:z≤s.length
 eq:C6 (s.drop (p+1))=(b++(C6 (s.drop z)).1,z-(p+1)+(C6 (s.drop z)).2)
 len:b.length≤z
theorem QAt.start {s:Str} {p:Nat} (hp:p<s.length):QAt s p (p+1) []:=⟨Ae _,hp,by simp,Al _⟩
theorem QAt.one {s:Str} {p z:Nat} {b:Str} (h:QAt s p z b) (hz:z<s.length) (hc:s.getD z 0≠39):QAt s p (z+1) (b++[s.getD z 0]):=by
 have h1:=h.lo
 have h2:=h.len
 refine ⟨by omega,hz,?_,by simp;omega⟩
 rw [h.eq,Jg hz,←getD_eq hz,Sa hc]
 simp
 omega
theorem QAt.two {s:Str} {p z:Nat} {b:Str} (h:QAt s p z b) (hz:z+1<s.length) (hc:s.getD z 0=39) (hd:s.getD (z+1) 0=39):QAt s p (z+1+1) (b++[s.getD z 0]):=by
 have h1:=h.lo
 have h2:=h.len
 refine ⟨by omega,hz,?_,by simp;omega⟩
 rw [h.eq,Jg (show z<s.length by omega),Jg hz,←getD_eq hz,←getD_eq (show z<s.length by omega),hc,hd,jo]
 simp
 omega
theorem QAt.out {s:Str} {p z:Nat} {b:Str} (h:QAt s p z b) (hc:s.length≤z∨(s.getD z 0=39∧(s.length≤z+1∨s.getD (z+1) 0≠39))):C6 (s.drop (p+1))=(b,z-(p+1)):=by
 have e:C6 (s.drop z)=([],0):=by
  rcases hc with hc|⟨hc,hd⟩
  ·rw [M7.2 hc];rfl
  rcases Aw z s.length with hz|hz
  ·rw [Jg hz,←getD_eq hz,hc]
   refine jp fun t et=>?_
   rcases hd with hd|hd
   ·rw [M7.2 hd] at et;cases et
   rcases Aw (z+1) s.length with hz1|hz1
   ·rw [Jg hz1,←getD_eq hz1] at et
    injection et with et
    exact hd et
   rw [M7.2 hz1] at et;cases et
  rw [M7.2 hz];rfl
 rw [h.eq,e]
 simp
end Go.SX.Nb
