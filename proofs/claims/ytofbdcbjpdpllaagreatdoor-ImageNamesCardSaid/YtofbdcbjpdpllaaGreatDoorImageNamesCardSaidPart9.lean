/- On the way (part 9). -/
import Derived.Test.YtofbdcbjpdpllaaGreatDoorImageNamesCardSaidPart8
set_option linter.all false
namespace Go.SX.Nb
open Go Go.SX Go.Proofs
variable [ErrAt]
set_option maxRecDepth 8000
/-! Trees that are trimmed. -/
set_option maxRecDepth 4000
/-! trim: what is no value. -/
section
variable {o:Int} {t:Str} {ks:List Expr}
end
/-! Each value forth is found once: what is not used yet. -/
def Lg:List Bool→List Val→List Val
 | b::u,v::r=>if b then Lg u r else v::Lg u r
 | _,_=>[]
theorem eh:∀row:List Val,Lg (List.replicate row.length false) row=row
 | []=>rfl
 | v::r=>by
  rw [Bh,List.replicate_succ,Lg,if_neg (by simp),eh r]
theorem ek:∀{u:List Bool} {row:List Val} {k:Nat} {v:Val},u[k]? = some false→row[k]? = some v→(v::Lg (u.set k true) row).Perm (Lg u row)
 | [],_,k,_,h,_=>by simp at h
 | _::_,[],k,_,_,h=>by simp at h
 | b::u,a::row,0,v,h,hv=>by
  have e1:b=false:=by simpa using h
  have e2:a=v:=by simpa using hv
  subst e1;subst e2
  rw [List.set_cons_zero,Lg,Lg,if_pos rfl,if_neg (by simp)]
 | b::u,a::row,k+1,v,h,hv=>by
  have ih:=ek (u:=u) (row:=row) (k:=k) (v:=v) (by simpa using h) (by simpa using hv)
  rw [List.set_cons_succ,Lg,Lg]
  cases b with
  | true=>exact ih
  | false =>
   rw [if_neg (by simp),if_neg (by simp)]
   exact (List.Perm.swap a v _).trans (ih.cons a)
theorem W9:∀{u:List Bool} {row:List Val} {v:Val},u.length=row.length→v∈Lg u row→∃k:Nat,u[k]? = some false∧row[k]? = some v
 | [],[],v,_,h=>by cases h
 | [],_::_,_,h,_=>by simp at h
 | _::_,[],_,h,_=>by simp at h
 | b::u,a::row,v,hl,h=>by
  rw [Lg] at h
  cases b with
  | true =>
   obtain ⟨k,h1,h2⟩:=W9 (u:=u) (row:=row) (by simpa using hl) h
   exact ⟨k+1,by simpa using h1,by simpa using h2⟩
  | false =>
   rw [if_neg (by simp)] at h
   rcases Bg.1 h with rfl|h
   ·exact ⟨0,rfl,rfl⟩
   obtain ⟨k,h1,h2⟩:=W9 (u:=u) (row:=row) (by simpa using hl) h
   exact ⟨k+1,by simpa using h1,by simpa using h2⟩
/-- Where the outer loop stands. -/
structure UseAt (x row:List Val) (i:Nat) (u:List Bool):Prop where
 len:u.length=row.length
 perm:(Lg u row).Perm (x.drop i)
theorem UseAt.zero {x row:List Val} (h:x.Perm row):UseAt x row 0 (List.replicate row.length false):=⟨by simp,by rw [eh,Tm];exact h.symm⟩
theorem UseAt.has {x row:List Val} {i:Nat} {u:List Bool} (h:UseAt x row i u) (hi:i<x.length):∃k:Nat,u[k]? = some false∧row[k]? = some x[i]:=
 W9 h.len (h.perm.mem_iff.2 (by rw [Ha hi];exact K6))
theorem UseAt.next {x row:List Val} {i k:Nat} {u:List Bool} (h:UseAt x row i u) (hi:i<x.length) (h1:u[k]? = some false) (h2:row[k]? = some x[i]):UseAt x row (i+1) (u.set k true):=by
 refine ⟨by rw [Cy];exact h.len,?_⟩
 have a:=(ek h1 h2).trans h.perm
 rw [Ha hi] at a
 exact a.cons_inv
/-- Where the inner loop stands: nothing found so far, or found. -/
def Yf (x row:List Val) (i:Nat) (u:List Bool) (s:Nat×Bool×List Bool):Prop:=
 (s.2.1=false∧s.2.2=u∧∀j,j<s.1→¬(u[j]? = some false∧row[j]? = x[i]?))∨(s.2.1=true∧UseAt x row (i+1) s.2.2)
theorem xc {a b:List Str} {i:Nat} (ha:i<a.length) (hb:i<b.length):Cx (a.take (i+1)) (b.take (i+1))=Cx (a.take i) (b.take i)++[mvN a[i] b[i]]:=by
 unfold Cx
 rw [Kb ha,Kb hb,List.zip_append (by simp;omega),C8]
 rfl
theorem el {a b:List Str} {i:Nat} (ha:i≤a.length) (hb:i≤b.length):(Cx (a.take i) (b.take i)).length=i:=by
 unfold Cx
 rw [Aw,Sz,Cn,Cn]
 omega
abbrev nmX (s:Str):AV:=.agg [A4 2,Ad s,A4 0,A4 0,Ad [],.slice false 6 []]
theorem jm (s:Str):Ac (Cr s)=nmX s:=by rw [Am];rfl
abbrev AIa (f t:Str):AV:=.agg [A4 3,Ft [f],Aq [⟨t,0⟩],.slice false 6 [nmX f],.slice false 6 [nmX t]]
theorem AAg (f t:Str):Gn (mvN f t)=AIa f t:=by
 show AV.agg [_,_,_,.slice false 6 [Ac _],.slice false 6 [Ac _]]=_
 rw [jm,jm]
theorem AAz (s:Str):Le (.agg [A4 2,Ad s,A4 0,A4 0,Ad [],.nil]) (nmX s):=by
 have:=V9 2 s noV
 rwa [show Ac (.mk 2 s noV [])=nmX s from jm s] at this
abbrev L0 (u:List Bool):List AV:=u.map Bm
theorem qt (n:Nat):List.replicate n (AV.v (.bool false))=L0 (List.replicate n false):=by simp [L0]
theorem qu {u:List Bool} {k:Nat} (h:k<u.length):Bu (L0 u) k [AV.v (.bool true)]=L0 (u.set k true):=by
 unfold L0 Bu
 rw [List.set_eq_take_append_cons_drop,if_pos h]
 simp [C8,List.map_take,List.map_drop]
theorem qv {u:List Bool} {k:Nat} (h:k<u.length):(L0 u)[k]? = some (Bm u[k]):=by simp [L0,h]
theorem xd {x:Bool} {v w:Val} (h:((!x)&&((v.kind==w.kind&&v.n==w.n)&&v.s==w.s))=true):x=false∧v=w:=by
 obtain ⟨a,b,c⟩:=v
 obtain ⟨a',b',c'⟩:=w
 simp at h
 obtain ⟨h1,⟨h2,h3⟩,h4⟩:=h
 subst h2;subst h3;subst h4
 exact ⟨h1,rfl⟩
theorem xe {x row:List Val} {i:Nat} {u:List Bool} (h:UseAt x row i u) (hi:i<x.length) {k:Nat} {u':List Bool} (hh:Yf x row i u (k,false,u')) (hk:row.length≤k):False:=by
 rcases hh with ⟨_,_,h1⟩|⟨h1,_⟩
 ·obtain ⟨j,a,b⟩:=h.has hi
  have hj:=(Ab.1 b).1
  exact h1 j (by simp only;omega) ⟨a,by rw [b,Aa hi]⟩
 cases h1
theorem en {x row:List Val} {i:Nat} {u u':List Bool} {k:Nat} (hh:Yf x row i u (k,false,u')) (hn:¬(u'[k]? = some false∧row[k]? = x[i]?)):Yf x row i u (k+1,false,u'):=by
 rcases hh with ⟨a,b,h1⟩|⟨h1,_⟩
 ·have b:u'=u:=b
  subst b
  refine .inl ⟨rfl,rfl,fun j hj=>?_⟩
  by_cases e:j=k
  ·subst e;exact hn
  exact h1 j (by simp only at hj ⊢;omega)
 cases h1
theorem Yg {x row:List Val} {i:Nat} {u u':List Bool} {k:Nat} (h:UseAt x row i u) (hi:i<x.length) (hh:Yf x row i u (k,false,u')) (h1:u'[k]? = some false) (h2:row[k]? = some x[i]):Yf x row i u (k+1,true,u'.set k true):=by
 rcases hh with ⟨a,b,_⟩|⟨h1,_⟩
 ·have b:u'=u:=b
  subst b
  exact .inr ⟨rfl,h.next hi h1 h2⟩
 cases h1
theorem c4 (c:List Col) (a b:List Str) (row:List Val) (hrr:∀v∈row, -9223372036854775808≤v.n∧v.n≤9223372036854775807) (Hp:List AObj):AFun Tryz.prog 4 [Aq c,Ft a,Ft b,Br row] Hp (Bm true):=by
 refine Ah [.tmp 8] [0,1,2,3] Tryz.func4 Tryz.ntmps4 (fun d=>?_)
 refine Z2 ?_;refine A2 [0,1,2,3] ?_;refine Z64 ?_;refine A9 Tryz.call16 (c16 _) ?_;refine A5 ?_;refine A2 [0,1,2,3,18] ?_
 refine A3 (fun ht18=>?_) (fun ht18=>?_)
 ·cases ht18
 refine bx ?_;refine A9 Tryz.call10 (c6u c _) ?_;refine A5 ?_;refine Ci ?_;refine Cd Tryz.call11 (fun hB=>c11 row _) ?_;refine Z59 ?_;refine Z85 ?_;refine Wh ?_;refine A2 [0,1,2,3,36] ?_
 refine A3 (fun ht36=>?_) (fun ht36=>?_)
 ·refine Z2 ?_;refine A2 [8] ?_;refine Z98 ?_;exact gh
 have hw:((Kh c=false∧Of row=false)∧a.length=b.length)∧a.length≤8:=by
  simp only [Aw,Eo,bne_eq_false_iff_eq,decide_eq_false_iff_not] at ht36
  exact ⟨⟨ht36.1.1,by omega⟩,by omega⟩
 obtain ⟨⟨⟨hmc,hlg⟩,hab⟩,ha8⟩:=hw
 have hc:=kw hmc
 have hc2:c.length≤1000000:=wx hmc
 have hw4:=wo hlg
 refine bt ?_;refine Pq ?_;refine J0 ?_;refine A2 [0,1,2,3,9] ?_;refine Z35 ?_;refine A2 [0,1,2,3,9,10] ?_
 refine D7 (α:=Nat) (fun i=>⟨152,A7 0 (Aq c) (A7 1 (Ft a) (A7 2 (Ft b) (A7 3 (Br row) (A7 9 ((.slice true 5 ((Cx (a.take i) (b.take i)).map Gn))) (A7 10 (A4 (i:Nat)) (fun _=>.any)))))),Hp,[],[],none⟩) (fun i=>i≤a.length∧(∀j,j<i→∀s t:Str,a[j]? = some s→b[j]? = some t→s.length≤100∧t.length≤100)) (fun i=>a.length-i) (0) ⟨Av _,fun j hj=>by omega⟩ (Cp (by simp [Cx])) rfl (fun i hx=>?_)
 refine Z55 ?_;refine A2 [0,1,2,3,9,10,41] ?_
 refine A3 (fun ht41=>?_) (fun ht41=>?_)
 ·have hlt:i<a.length:=by simpa using ht41
  have hlb:i<b.length:=by omega
  refine Z6 ?_;refine Z21 ?_;refine Z29 ?_
  refine A5 (h:=Ak (i) (Ad a[i]) (fun _=>Bk hlt)) (hr:=?_)
  refine Z0 ?_;refine Z59 ?_
  refine Ci (h:=Ak (i) (Ad b[i]) (fun _=>Bk hlb)) (hr:=?_)
  refine Wh ?_;refine A2 [0,1,2,3,9,10,57] ?_
  refine A3 (fun ht57=>?_) (fun ht57=>?_)
  ·refine Z2 ?_;refine A2 [8] ?_;refine Z98 ?_;refine Z62 ?_;exact gh
  have h100:a[i].length≤100∧b[i].length≤100:=by
   simp only [Eo,decide_eq_false_iff_not] at ht57
   omega
  refine Z6 ?_;refine U3 [0,0,0,6,14,30,0,0,192,448,960,1984,0,0,12288,28672,61440,126976,0,0,786432,1835008,3932160,8126464,16777214,33554430,67108863,134217727] [] [.s [9,58] none [] [],.q 25 [] []] (fun _=>Hp) (fun _=>[]) Al (by kernel_rfl) rfl rfl (fun _=>rfl) ?_;refine Y.moveT ?_
  apply Y.q
  ·intro B hT hF
   refine Z12 ?_
   refine An (h:=Ak (i) (Ad a[i]) (fun _=>Bk hlt)) (hr:=?_)
   refine An ?_;refine U1 jU jS jZ ?_;refine Z12 ?_
   refine An (h:=Ak (i) (Ad b[i]) (fun _=>Bk hlb)) (hr:=?_)
   refine An ?_;refine D.build (places:=#[(0,1),(1,1)]) jU (fun w=>by simp) jZ ?_;refine U1 jU jS jZ ?_;refine Z12 ?_
   refine An (h:=Ak (i) (Ad a[i]) (fun _=>Bk hlt)) (hr:=?_)
   refine An ?_;refine D.buildLe (nmX a[i]) (AAz _) (places:=#[(0,1),(1,1),(2,3),(5,1)]) jU (fun w=>by simp) Tryz.zeroValue26 ?_;refine U1 jU jS jZ ?_;refine Z12 ?_
   refine An (h:=Ak (i) (Ad b[i]) (fun _=>Bk hlb)) (hr:=?_)
   refine An ?_;refine D.buildLe (nmX b[i]) (AAz _) (places:=#[(0,1),(1,1),(2,3),(5,1)]) jU (fun w=>by simp) Tryz.zeroValue26 ?_;refine U1 jU jS jZ ?_;refine D.build (places:=#[(0,1),(1,1),(2,1),(3,1),(4,1)]) jU (fun w=>by simp) jZ ?_;exact Z48
  case hTF=>decide
  refine Fo (tn:=[])  ?_
  refine G8 jU Tryz.type48 ?_ ?_ ?_
  ·have hrl:=el (a:=a) (b:=b) (i:=i) (by omega) (by omega);simp [Tryz.t48];omega
  ·have hrl:=el (a:=a) (b:=b) (i:=i) (by omega) (by omega);simp [Tryz.t48];omega
  refine J0 ?_;refine A2 [0,1,2,3,9,10] ?_;refine Sr ?_;refine A5 ?_;refine A2 [0,1,2,3,9,10] ?_
  refine Bp (i+1) ⟨hlt,fun j hj s t hs ht=>?_⟩ (by omega) (Ea ?_)
  ·by_cases e:j=i
   ·subst e
    rw [Aa hlt] at hs
    rw [Aa hlb] at ht
    injection hs with hs
    injection ht with ht
    subst hs;subst ht
    exact h100
   exact hx.2 j (by omega) s t hs ht
  rw [xc hlt hlb,C8,Bt,Eu,AAg]
  rfl
 have hie:i=a.length:=by have:=hx.1;simp at ht41;omega
 subst hie
 have h:OkMovs (Cx a b):=ACx ha8 (fun s hs=>by
  obtain ⟨j,hj⟩:=Cc hs
  have hjl:=(Ab.1 hj).1
  exact (hx.2 j hjl s _ hj (Aa (by omega))).1) (fun s hs=>by
  obtain ⟨j,hj⟩:=Cc hs
  have hjl:=(Ab.1 hj).1
  exact (hx.2 j (by omega) _ s (Aa (by omega)) hj).2)
 have hL:=qr (c:=c) h hrr
 refine Wj ?_;refine E5 ?_
 have e9:Cx (a.take a.length) (b.take a.length)=Cx a b:=by rw [Lm,hab,Lm]
 rw [e9]
 refine Z28 ?_;refine A9 Tryz.call17 (c17 c hc hc2 (Cx a b) h row hrr hw4 _) ?_;refine Z63 ?_;refine A2 [0,3,9,11,12] ?_;refine Z29 ?_;refine A2 [0,3,9,11,12,93] ?_
 refine A3 (fun ht93=>?_) (fun ht93=>?_)
 ·have hm:=hL.1 (by simpa using ht93)
  refine Z13 ?_;refine Z85 ?_;refine A2 [8] ?_;refine Z98 ?_;exact A8 (Aj A6) ⟨by rw [hm];simp,rfl⟩
 have hL2:=hL.2 (by simpa using ht93)
 have hxl:(Bq c (Cx a b) row).1.length=row.length:=hL2.1.length_eq
 refine Wk ?_
 refine R.makeObj (m:=row.length) jU Tryz.type4 Tryz.sizeOf4 Tryz.zeroValue4 hw4 ?_ (hx:=by rw [Aw];rfl) (hc:=by rw [Aw];rfl)
 refine A5 ?_;refine A2 [0,3,9,11,13] ?_;refine Z35 ?_;refine A2 [0,3,9,11,13,14] ?_
 refine D7 (α:=Nat×List Bool) (fun x=>⟨152,A7 0 (Aq c) (A7 3 (Br row) (A7 9 (.slice true 5 ((Cx a b).map Gn)) (A7 11 (Br (Bq c (Cx a b) row).1) (A7 13 (.sl (oid Hp.length 0) 1 row.length row.length) (A7 14 (A4 (x.1:Nat)) (fun _=>.any)))))),Hp,[.cells 4 (L0 x.2)],[],none⟩) (fun x=>x.1≤(Bq c (Cx a b) row).1.length∧UseAt (Bq c (Cx a b) row).1 row x.1 x.2) (fun x=>(Bq c (Cx a b) row).1.length-x.1) ((0,List.replicate row.length false)) ⟨Av _,.zero hL2.1⟩ (Cp (by simp only [qt];rfl)) rfl (fun x hx=>?_)
 refine Z55 ?_;refine A2 [0,3,9,11,13,14,107] ?_
 refine A3 (fun ht107=>?_) (fun ht107=>?_)
 ·have hlx:x.1<(Bq c (Cx a b) row).1.length:=by simpa using ht107
  refine Z6 ?_;refine Z83 ?_;refine A2 [0,3,9,11,13,14,15] ?_;refine Z35 ?_;refine yb ?_
  refine D7 (α:=Nat×Bool×List Bool) (fun s=>⟨152,A7 0 (Aq c) (A7 3 (Br row) (A7 9 (.slice true 5 ((Cx a b).map Gn)) (A7 11 (Br (Bq c (Cx a b) row).1) (A7 13 (.sl (oid Hp.length 0) 1 row.length row.length) (A7 14 (A4 (x.1:Nat)) (A7 15 (Bm s.2.1) (A7 16 (A4 (s.1:Nat)) (fun _=>.any)))))))),Hp,[.cells 4 (L0 s.2.2)],[],none⟩) (fun s=>s.1≤row.length∧s.2.2.length=row.length∧Yf (Bq c (Cx a b) row).1 row x.1 x.2 s) (fun s=>row.length-s.1) ((0,false,x.2)) ⟨Av _,hx.2.len,.inl ⟨rfl,rfl,fun j hj=>absurd hj (by simp)⟩⟩ (Cp rfl) rfl (fun s hs=>?_)
  refine Z55 ?_;refine A5 ?_;refine U7 ?_;refine A2 [0,3,9,11,13,14,15,16,117] ?_
  refine A3 (fun ht117=>?_) (fun ht117=>?_)
  ·have h117:s.1<row.length∧s.2.1=false:=by simpa using ht117
   obtain ⟨hlk,hh0⟩:=h117
   have hlu:s.1<s.2.2.length:=by have:=hs.2.1;omega
   obtain ⟨k,hit,u⟩:=s
   simp only at hh0 hlk hlu hs ⊢
   subst hh0
   refine Z6 ?_;refine Z21 ?_;refine W.draw [0,0,3,7,15,31,63,63,255,511,63,63,3135,7231,16383,32767] 14 Al (by kernel_rfl) ?_;refine Z12 ?_
   refine An (h:=Q.indexAddrSl (k) (fun _=>hlk) (ho:=T9 _)) (hr:=?_)
   refine An (h:=Q.loadOwn (n:=0) (t':=4) (hy:=qv hlu)) (hr:=?_)
   refine Z12 ?_;refine Z69 ?_
   refine Fl (h:=Ak (k) (Ba row[k]) (fun _=>Bk hlk)) (hr:=?_)
   refine Z69 ?_;refine Fl ?_
   refine Fl (h:=Ak (x.1) (Ba (Bq c (Cx a b) row).1[x.1]) (fun _=>Bk hlx)) (hr:=?_)
   refine Fl ?_;refine Gl ?_
   refine Ci (h:=Mt Wm (Im row[k].kind row[k].n (Bq c (Cx a b) row).1[x.1].kind (Bq c (Cx a b) row).1[x.1].n row[k].s (Bq c (Cx a b) row).1[x.1].s)) (hr:=?_)
   refine A5 ?_;refine A2 [0,3,9,11,13,14,15,16,135] ?_
   refine A3 (fun ht135=>?_) (fun ht135=>?_)
   ·have h135:u[k]=false∧row[k]=((Bq c (Cx a b) row).1)[x.1]:=xd ht135
    refine Z1 ?_
    refine A5 (h:=Q.indexAddrSl (k) (fun _=>hlk) (ho:=T9 _)) (hr:=?_)
    refine R.storeOwn (n:=0) (t':=4) jS ?_ (hfit:=by simp [L0];omega) (hput:=qu hlu)
    refine A2 [0,3,9,11,13,14,16] ?_;refine Z77 ?_;refine yb ?_;refine Sr ?_;refine A5 ?_;refine yb ?_
    first|exact Bp (k+1,true,u.set k true) ⟨hlk,by simp [hs.2.1],Yg hx.2 hlx hs.2.2 (by rw [Aa hlu,h135.1]) (by rw [Aa hlk,h135.2])⟩ (by show _-(k+1)<_-k;omega) (Ea rfl)|exact Bp (k+1,false,u) ⟨hlk,hs.2.1,en hs.2.2 hno⟩ (by show _-(k+1)<_-k;omega) (Ea rfl)
   have hno:¬(u[k]? = some false∧row[k]? = ((Bq c (Cx a b) row).1)[x.1]?):=by
    rintro ⟨e1,e2⟩
    rw [Aa hlu] at e1
    rw [Aa hlk,Aa hlx] at e2
    injection e1 with e1
    injection e2 with e2
    rw [e1,e2] at ht135
    simp at ht135
   refine Z58 ?_;refine A5 ?_;refine yb ?_
   first|exact Bp (k+1,true,u.set k true) ⟨hlk,by simp [hs.2.1],Yg hx.2 hlx hs.2.2 (by rw [Aa hlu,h135.1]) (by rw [Aa hlk,h135.2])⟩ (by show _-(k+1)<_-k;omega) (Ea rfl)|exact Bp (k+1,false,u) ⟨hlk,hs.2.1,en hs.2.2 hno⟩ (by show _-(k+1)<_-k;omega) (Ea rfl)
  refine Wj ?_;refine Z1 ?_;refine A2 [0,3,9,11,13,14,140] ?_
  refine A3 (fun ht140=>?_) (fun ht140=>?_)
  ·exfalso
   have hh:s.2.1=false:=by simpa using ht140
   obtain ⟨k,hit,u⟩:=s
   simp only at hh
   subst hh
   have hk:row.length≤k:=by simpa using ht117
   exact xe hx.2 hlx hs.2.2 hk
  have hh:s.2.1=true:=by simpa using ht140
  have hu:UseAt (Bq c (Cx a b) row).1 row (x.1+1) s.2.2:=by
   rcases hs.2.2 with ⟨e,_⟩|⟨_,e⟩
   ·rw [hh] at e;cases e
   exact e
  refine Z58 ?_;refine A5 ?_;refine A2 [0,3,9,11,13,14] ?_;exact Bp (x.1+1,s.2.2) ⟨hlx,hu⟩ (by show _-(x.1+1)<_-x.1;omega) (Ea rfl)
 refine Wj ?_;refine Z19 ?_;refine Z0 ?_;refine Z34 ?_;refine Cd Tryz.call18 (fun hB=>c18 c hc hc2 (Cx a b) h row hrr hw4 _) ?_;refine Z0 ?_;refine A2 [8] ?_;refine Ep ?_;exact A8 (Aj A6) ⟨by simp [hxl,hL2.2],rfl⟩

end Go.SX.Nb
namespace Go.Proofs.YtofbdcbjpdpllaaGreatDoor
open Go Go.SX Go.SX.Nb Go.ChangeShapes Go.RowKit
set_option maxRecDepth 100000
theorem qw:Tryz.pinned.checked.prog.funcNamed Rows.imageNamesRow.func=some 4:=by kernel_rfl
theorem AAh:laidOutB Tryz.pinned.checked.prog=true:=by kernel_rfl
theorem AAi:(Rows.imageNamesRow.inPlace==Tryz.pinned.checked.prog.inPlace 4)=true:=by kernel_rfl
theorem AAj:(Rows.imageNamesRow.unfollowed==Tryz.pinned.checked.prog.unfollowed 4)=true:=by kernel_rfl
theorem AAk:(Rows.imageNamesRow.recurses==Tryz.pinned.checked.prog.recurses 4)=true:=by kernel_rfl
theorem AAl:(Rows.imageNamesRow.named==Tryz.pinned.checked.prog.varsNamed 4)=true:=by kernel_rfl
theorem AAm:Tryz.pinned.checked.prog.mayEnter=true:=by kernel_rfl
theorem jn:joinedFacts Tryz.pinned.checked.prog 4 Tryz.f4 (OpenSpec.ofChange Rows.imageNamesSpec).bare Rows.imageNamesRow=true:=by
 unfold joinedFacts
 rw [AAh,AAi,AAj,AAk,AAl,AAm]
 kernel_rfl
theorem qx:false=Rows.imageNamesRow.goesBy Tryz.pinned.checked.prog:=by kernel_rfl
theorem qy:Tryz.f4.isInstance Tryz.pinned.checked.prog Rows.imageNamesRow.origin Rows.imageNamesRow.targs:=of_decide_eq_true (by kernel_rfl)
theorem qz:Tryz.f4.isWrapper Tryz.pinned.checked.prog Rows.imageNamesRow.wrapper Rows.imageNamesRow.mainSum:=by
 unfold Func.isWrapper
 first|(rw [if_pos (by decide +kernel)];kernel_rfl)|(rw [if_neg (by decide +kernel)];exact ⟨rfl,rfl⟩)
end Go.Proofs.YtofbdcbjpdpllaaGreatDoor
