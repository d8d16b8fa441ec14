/- On the way (part 10). -/
import Derived.Test.YtofbdcbjpdpllaaGreatDoorInvertFaithfulCardSaidPart9
set_option linter.all false
namespace Go.SX.Nb
open Go Go.SX Go.Proofs
variable [ErrAt]
set_option maxRecDepth 4000
abbrev pmO (L:List Tok) (i:Nat):AObj:=.cells 144 [mj L,A4 (i:Int)]
abbrev mvC (m:Mov):List AV:=[A4 m.kind,.slice true 1 (m.take.map Ah),.slice true 2 (m.give.map El),.slice true 6 (m.ahead.map Aa),.slice true 6 (m.back.map Aa)]
abbrev mvO (m:Mov):AObj:=.cells 48 (mvC m)
/-! Where the parser of moves AJe to. -/
theorem getset {Hp:List AObj} {o:Nat} {A B:AObj} (h:Hp[o]? = some A):(Hp.set o B)[o]? = some B:=by
 have:=(Ac.1 h).1
 simp [this]
/-- The parser's object and the move's, turned. -/
def U2 (L:List Tok) (Hp:List AObj) (o om i:Nat) (x:AObj):List AObj:=(Hp.set o (pmO L i)).set om x
theorem AGh {L:List Tok} {Hp:List AObj} {o om i:Nat} {x:AObj}:(U2 L Hp o om i x).length=Hp.length:=by simp [U2]
def W2 (L:List Tok) (o om:Nat) (Hp H':List AObj):Prop:=∃j m,H'=U2 L Hp o om j (mvO m)
section
variable {L:List Tok} {o om bp bm:Nat} {X:List AObj} {z z':AObj}
end
attribute [go_sem] AGh
section
variable {L:List Tok} {m:Mov} {i:Nat}
end
/-! How long plan.Text's pieces are. -/
section
variable {O X U:List AObj} {i:Nat} {b y:AObj}
end
theorem AAa {c:List Col} (h:Lp c=false):c.length≤1000000:=by
 unfold Lp at h
 simp only [Fe,decide_eq_false_iff_not] at h
 omega
/-! fuse: the chapter's example, and the weight of trees. -/
/-! ref21.Over: names that nothing has stand between. -/
/-! How great the trees of ref21.Over are on the way. -/
theorem AAb {c:List Col} {l:List Mov} {row:List Val} (h:OkMovs l) (h0:RowI (colsAt c l l.length) row):∀k,k≤l.length→(bkM c l row k).2=0→BkAt c l row k
 | 0,_,_=>.zero h0
 | k+1,hk,he=>by
  have h1:(bkM c l row k).2=0:=Hb fun hn=>by
   rw [ln hn (k+1) (by omega)] at he
   exact hn he
  obtain ⟨m,hm⟩:∃m,l[l.length-1-k]? = some m:=⟨l[l.length-1-k],Ae (by omega)⟩
  refine (AAb h h0 k (by omega) h1).next (by omega) hm (fun e he=>(h.each m (Az hm)).back.rng e he) ?_
  rw [←Rg hm h1]
  exact he
theorem tm {c:List Col} {l:List Mov} {row:List Val} (h:OkMovs l) (hrr:∀v∈row, -9223372036854775808≤v.n∧v.n≤9223372036854775807) (hb:(I9 c l row).2=0):RowI c (I9 c l row).1:=by
 unfold I9 at hb ⊢
 split at hb
 ·cases hb
 rename_i h1
 rw [if_neg h1]
 have h2:Gl (colsAt c l l.length) row=true:=by
  simp only [Di,If,not_or,V3] at h1
  exact h1.2
 have:=(AAb h (O8 h2 hrr) l.length (Al _) hb).row
 rw [M5] at this
 exact this
theorem AGi {c:List Col} {l:List Mov} {row:List Val}:∀k,(bkM c l row k).2≠0→(bkM c l row k).1=[]
 | 0,h=>absurd rfl h
 | k+1,h=>by
  rw [bkM] at h ⊢
  split
  ·rfl
  rename_i h1
  rw [if_neg h1] at h
  split at h
  ·exact absurd h (by simpa using h1)
  exact Zq h
theorem tq {c:List Col} (hc:OkCols c) {l:List Mov} {row:List Val} (h:OkMovs l) (hrr:∀v∈row, -9223372036854775808≤v.n∧v.n≤9223372036854775807):(I9 c l row).1.length≤1048576:=by
 by_cases hb:(I9 c l row).2=0
 ·rw [(tm h hrr hb).len]
  exact hc.len
 unfold I9 at hb ⊢
 split
 ·exact jm
 rename_i h1
 rw [if_neg h1] at hb
 rw [AGi _ hb]
 exact jm
theorem AAc {c:List Col} {l:List Mov} {row:List Val} (h:OkMovs l) (hs:((Du c l).2 != 0)=false) (h0:RowI c row):∀k,k≤l.length→(fwM c l row k).2=0→RowI (colsAt c l k) (fwM c l row k).1
 | 0,_,_=>h0
 | k+1,hk,he=>by
  obtain ⟨hmay,hst,_⟩:=Kn hs
  have h1:(fwM c l row k).2=0:=Hb fun hn=>by
   rw [lm hn (k+1) (by omega)] at he
   exact hn he
  obtain ⟨m,hm⟩:∃m,l[k]? = some m:=⟨l[k],Ae (by omega)⟩
  have hml:=Az hm
  have e:=Uy hm h1
  rw [e,It hm]
  exact T5 (Ux hst hm) (Ov hmay m hml) (fun e he=>(h.each m hml).ahead.rng e he) (AAc h hs h0 k (by omega) h1) (by rw [←e];exact he)
theorem ls {c:List Col} {l:List Mov} {row:List Val} (h:OkMovs l) (hrr:∀v∈row, -9223372036854775808≤v.n∧v.n≤9223372036854775807) (hb:(Ef c l row).2=0):RowI (colsAt c l l.length) (Ef c l row).1:=by
 unfold Ef at hb ⊢
 split at hb
 ·cases hb
 rename_i h1
 rw [if_neg h1]
 have h2:((Du c l).2 != 0)=false∧Gl c row=true:=by
  simp only [Di,If,not_or,V3,Rk] at h1
  exact h1
 exact AAc h h2.1 (O8 h2.2 hrr) l.length (Al _) hb
theorem c18 (c:List Col) (hc:OkCols c) (hc2:c.length≤1000000) (l:List Mov) (h:OkMovs l) (row:List Val) (hrr:∀v∈row, -9223372036854775808≤v.n∧v.n≤9223372036854775807) (hrl:row.length≤1048576) (Hp:List AObj):AFun Tryz.prog 18 [Ax c,H2 l,Cf row] Hp (B6 (Q5 c l row)):=by
 refine Ak [.tmp 6] [0,1,2] Tryz.func18 Tryz.ntmps18 (fun d=>?_)
 refine Z2 ?_;refine Xv ?_;refine Z13 ?_;refine A8 Tryz.call17 (c17 c hc hc2 l h row hrr hrl _) ?_;refine Z82 ?_;refine A2 [0,1,2,7,8] ?_;refine Z31 ?_;refine A2 [0,1,2,7,18] ?_
 refine A3 (fun ht18=>?_) (fun ht18=>?_)
 ·have hm:Q5 c l row=false:=if_pos ht18
  refine Z2 ?_;refine pm ?_;exact qi
 have hm:Q5 c l row=(((I9 c l (Ef c l row).1).2==0)&&decide ((I9 c l (Ef c l row).1).1=row)):=if_neg (by rw [ht18];simp)
 have hF:=ls h hrr (by simpa using ht18:(Ef c l row).2=0)
 refine U4 ?_
 refine A8 Tryz.call31 (c31 c hc hc2 l h (Ef c l row).1 (Xi hF.fine) (by rw [hF.len];exact (Gz hc (fun m hm=>h.each m hm) l.length).len) _) ?_
 refine Z82 ?_;refine A2 [2,8,9] ?_;refine AEp ?_;refine C7 Tryz.call51 (fun hB=>c51 (I9 c l (Ef c l row).1).1 row (tq hc h (Xi hF.fine)) _) ?_;refine Z0 ?_;refine Z75 ?_;exact qi

/-! ImageJoins: rows forth and back, move by move. -/
theorem Zt {over:List Col}:∀{l:List Expr} {w:List Col},D9 over l w=0→∀(j:Nat) (x:Expr) (y:Col),l[j]? = some x→w[j]? = some y→Sz x over y.kind=0
 | [],_,_,j,x,y,h,_=>by simp at h
 | _::_,[],_,j,x,y,_,h=>by simp at h
 | a::l,b::w,h,j,x,y,h1,h2=>by
  rw [D9] at h
  by_cases h0:(Sz a over b.kind != 0)=true
  ·rw [if_pos h0] at h
   rw [h] at h0
   cases h0
  rw [if_neg h0] at h
  cases j with
  | zero =>
   have e1:a=x:=by simpa using h1
   have e2:b=y:=by simpa using h2
   rw [←e1,←e2]
   simpa using h0
  | succ j=>exact Zt h j x y (by simpa using h1) (by simpa using h2)
theorem ADf {x:Expr} {c:List Col} {k:Int} {row:List Val} (h:Sz x c k=0) (hr:Gl c row=true) (he:(C6 x c row).2=0):(C6 x c row).1.kind=0∨(C6 x c row).1.kind=k:=by
 unfold Sz at h
 by_cases h1:((Hq x c).2 != 0)=true
 ·rw [if_pos h1] at h
  rw [h] at h1
  cases h1
 rw [if_neg h1] at h
 have h1:(Hq x c).2=0:=by simpa using h1
 by_cases h2:(!Zh x c k)=true
 ·rw [if_pos h2] at h
  cases h
 have h2:Zh x c k=true:=by simpa using h2
 unfold Zh at h2
 simp only [Ai,Di,beq_iff_eq] at h2
 have:=(s9 h1 hr).kind he
 rcases h2.2 with h3|h3<;>omega
theorem lu {c:List Col} {m:Mov} (h:(Bn c m).2=0):D9 c m.ahead (Bs c m)=0∧D9 (Bn c m).1 m.back (Ir c m)=0:=by
 by_cases h1:((Dh c m.take (Bs c m)).2 != 0)=true
 ·rw [nq h1] at h
  rw [show (Dh c m.take (Bs c m)).2=0 from h] at h1
  cases h1
 have h1:((Dh c m.take (Bs c m)).2 != 0)=false:=by simpa using h1
 by_cases h2:(D9 c m.ahead (Bs c m) != 0)=true
 ·rw [nr h1 h2] at h
  rw [show D9 c m.ahead (Bs c m)=0 from h] at h2
  cases h2
 have h2:(D9 c m.ahead (Bs c m) != 0)=false:=by simpa using h2
 by_cases h3:(D9 (Dh c m.take (Bs c m)).1 m.back (Ir c m) != 0)=true
 ·rw [nt h1 h2 h3] at h
  rw [show D9 (Dh c m.take (Bs c m)).1 m.back (Ir c m)=0 from h] at h3
  cases h3
 have h3:(D9 (Dh c m.take (Bs c m)).1 m.back (Ir c m) != 0)=false:=by simpa using h3
 rw [nu h1 h2 h3]
 exact ⟨by simpa using h2,by simpa using h3⟩
theorem Xl {c:List Col} {row:List Val}:∀{l:List Expr},(B4 c row l).2=0→∀(j:Nat) (x:Expr),l[j]? = some x→(C6 x c row).2=0∧(B4 c row l).1[j]? = some (C6 x c row).1
 | [],_,j,x,h=>by simp at h
 | a::r,h,j,x,hx=>by
  rw [B4] at h ⊢
  by_cases h1:((C6 a c row).2 != 0)=true
  ·rw [if_pos h1] at h
   rw [show (C6 a c row).2=0 from h] at h1
   cases h1
  rw [if_neg h1] at h ⊢
  by_cases h2:((B4 c row r).2 != 0)=true
  ·rw [if_pos h2] at h
   rw [show (B4 c row r).2=0 from h] at h2
   cases h2
  rw [if_neg h2]
  cases j with
  | zero =>
   have e1:a=x:=by simpa using hx
   rw [←e1]
   exact ⟨by simpa using h1,rfl⟩
  | succ j=>exact Xl (l:=r) (by simpa using h2) j x (by simpa using hx)
theorem T7 {take:List Str}:∀{c:List Col} {row:List Val},row.length=c.length→∀(i:Nat) (v:Val) (y:Col),(Fj take c row)[i]? = some v→(Df c take)[i]? = some y→∃j:Nat,row[j]? = some v∧c[j]? = some y
 | [],[],_,i,v,y,h,_=>by simp [Fj] at h
 | a::c,b::row,hl,i,v,y,h1,h2=>by
  have hl2:row.length=c.length:=by simpa using hl
  unfold Fj at h1
  unfold Df at h2
  rw [List.zip_cons_cons,Rn] at h1
  rw [Rn] at h2
  have ih:=T7 (take:=take) hl2
  by_cases ht:(!take.contains a.name)=true
  ·rw [if_pos ht] at h1 h2
   cases i with
   | zero=>exact ⟨0,by simpa using h1,by simpa using h2⟩
   | succ i =>
    obtain ⟨j,e1,e2⟩:=ih i v y (by simpa [Fj] using h1) (by simpa [Df] using h2)
    exact ⟨j+1,by simpa using e1,by simpa using e2⟩
  rw [if_neg ht] at h1 h2
  obtain ⟨j,e1,e2⟩:=ih i v y (by simpa [Fj] using h1) (by simpa [Df] using h2)
  exact ⟨j+1,by simpa using e1,by simpa using e2⟩
 | [],_::_,hl,_,_,_,_,_=>by simp at hl
 | _::_,[],hl,_,_,_,_,_=>by simp at hl
theorem ig {c:List Col} (h:Ee c=true):Ic c=true:=by
 unfold Ee at h
 simp only [Ai] at h
 exact h.2
/-- What AJe forth is a row over the columns behind. -/
theorem lv {c:List Col} {m:Mov} {row:List Val} (ht:(Bn c m).2=0) (hm:Jd m=true) (hg:∀e∈m.ahead,Be Ci e=true) (h:RowI c row) (hp:Gl c row=true) (hf:(C2 c m row).2=0):Gl (Bn c m).1 (C2 c m row).1=true:=by
 have hR:=T5 ht hm hg h hf
 obtain ⟨e1,hrc,hrt⟩:=M0 ht
 obtain ⟨p1,p2,p3⟩:=row_iff.1 hp
 refine row_iff.2 ⟨ig hrt,hR.len,fun i v y hv hy=>?_⟩
 refine ⟨(hR.fine v (Az hv)).plain,?_⟩
 have hk:(B4 c row m.ahead).2=0:=by
  unfold C2 at hf
  by_cases h1:((B4 c row m.ahead).2 != 0)=true
  ·rw [if_pos h1] at hf
   exact hf
  simpa using h1
 have ev:C2 c m row=(Fj m.take c row++(B4 c row m.ahead).1,0):=if_neg (by rw [hk];simp)
 rw [ev] at hv
 rw [e1] at hy
 have hlen:=O7 (take:=m.take) h.len
 rcases Bo i (Fj m.take c row).length with hi|hi
 ·rw [D5 hi] at hv
  rw [D5 (by omega)] at hy
  obtain ⟨j,j1,j2⟩:=T7 h.len i v y hv hy
  exact (p3 j v y j1 j2).2
 rw [D6 hi] at hv
 rw [D6 (by omega),←hlen] at hy
 generalize i-(Fj m.take c row).length=j at hv hy
 have hj:j<m.ahead.length:=by
  have:=(Ac.1 hv).1
  rw [Mn hk] at this
  exact this
 obtain ⟨a1,a2⟩:=Xl hk j m.ahead[j] (Ae hj)
 rw [a2] at hv
 injection hv with hv
 rw [←hv]
 exact ADf (Zt (lu ht).1 j _ y (Ae hj) hy) hp a1
theorem ADg {v:Str} {l:List Str} {j:Nat} (h:Jl v l=(j:Int)):l[j]? = some v:=by
 unfold Jl at h
 cases hf:l.findIdx? (·==v) with
 | none=>rw [hf] at h;exact absurd (show (-1:Int)=(j:Int) from h) (by omega)
 | some i =>
  rw [hf] at h
  have h:(i:Int)=(j:Int):=h
  have e:i=j:=by omega
  obtain ⟨a,b,_⟩:=N2.1 hf
  rw [←e,Ae a]
  have:l[i]=v:=by simpa using b
  rw [this]
theorem Uz {c:List Col} (h:Ee c=true):(c.map (·.name)).Nodup:=(xg (by rw [H6];exact h)).2.2
/-! Columns of parts of moves. -/
theorem AAd {c:List Col} {l:List Mov} {row:List Val} (hs:((Du c l).2 != 0)=false) (hp:Gl c row=true):Ef c l row=fwM c l row l.length:=if_neg (by rw [hs,hp];simp)
theorem ADh {c:List Col} {l:List Mov} {row:List Val} (hs:((Du c l).2 != 0)=false) (hp:Gl (colsAt c l l.length) row=true):I9 c l row=bkM c l row l.length:=if_neg (by rw [hs,hp];simp)
/-! A row that went forth through a move AJe back through it, where the trees back come to what was taken. -/
theorem Xm {c:List Col} {m:Mov} {row:List Val} (hf:(C2 c m row).2=0):(B4 c row m.ahead).2=0∧(C2 c m row).1=Fj m.take c row++(B4 c row m.ahead).1:=by
 unfold C2 at hf ⊢
 split at hf
 ·rename_i h1
  rw [show (B4 c row m.ahead).2=0 from hf] at h1
  cases h1
 rename_i h1
 rw [if_neg h1]
 exact ⟨by simpa using h1,rfl⟩
theorem lw {c:List Col} {m:Mov} {row:List Val} (ht:(Bn c m).2=0) (h:row.length=c.length) (hf:(C2 c m row).2=0) (hb:(B4 (Bn c m).1 (C2 c m row).1 m.back).2=0)
  (hw:∀(j:Nat) (y:Col) (v:Val),c[j]? = some y→row[j]? = some v→0≤Jl y.name m.take→(B4 (Bn c m).1 (C2 c m row).1 m.back).1.getD (Jl y.name m.take).toNat noV=v):
  Cj c (Bn c m).1 m (C2 c m row).1=(row,0):=by
 obtain ⟨e1,hrc,hrt⟩:=M0 ht
 have hcn:=Uz hrc
 have hdn:=Uz hrt
 have ev:=(Xm hf).2
 unfold Cj
 rw [if_neg (by rw [hb];simp)]
 refine Kt (M2 fun j=>?_) rfl
 show (c.map _)[j]? = row[j]?
 rw [Cm]
 cases hy:c[j]? with
 | none =>
  rw [iq] at hy
  exact (Gb (by omega)).symm
 | some y =>
  have hj:=(Ac.1 hy).1
  obtain ⟨v,hv⟩:∃v,row[j]? = some v:=⟨row[j],Ae (by omega)⟩
  rw [hv]
  refine congrArg some ?_
  unfold Rf
  by_cases hi:0≤Jl y.name m.take
  ·rw [if_pos hi]
   exact hw j y v hy hv hi
  rw [if_neg hi]
  have hst:y∈Df c m.take:=by
   unfold Df
   rw [Uc]
   refine ⟨Az hy,?_⟩
   rw [←cd,decide_eq_false hi]
   rfl
  obtain ⟨p,hp⟩:=Ct hst
  have hpl:=(Ac.1 hp).1
  have hd:(Bn c m).1[p]? = some y:=by rw [e1,D5 hpl];exact hp
  have hkl:p<(Fj m.take c row).length:=by rw [O7 h];exact hpl
  obtain ⟨j',h1,h2⟩:=T7 h p _ y (Ae hkl) hp
  have hjj:j'=j:=Int.ofNat.inj ((Im hcn h2).symm.trans (Im hcn hy))
  subst hjj
  rw [Im hdn hd,Int.toNat_natCast,ev,Ch,D5 hkl,Ae hkl,Option.getD_some]
  rw [h1] at hv
  exact Option.some.inj hv
theorem ADi {a f:Str} (h:0≤Jl a [f]):f=a∧Jl a [f]=0:=by
 obtain ⟨j,hj,hl⟩:=o5 h
 have hj0:j=0:=by simpa using hl
 subst hj0
 have:=ADg hj
 exact ⟨by simpa using this,hj⟩
theorem Q6 {c:List Col} {row:List Val} {x:Expr}:B4 c row [x]=if (C6 x c row).2 != 0 then ([],(C6 x c row).2) else ([(C6 x c row).1],0):=by
 rw [B4]
 split
 ·rfl
 rw [B4,if_neg (by simp)]
/-- A move that takes one column and gives one. -/
theorem AAe {c:List Col} {m:Mov} {row:List Val} {f:Str} {y:Expr} (ht:(Bn c m).2=0) (h:row.length=c.length) (htk:m.take=[f]) (hbk:m.back=[y]) (hf:(C2 c m row).2=0) (he:C6 y (Bn c m).1 (C2 c m row).1=(row.getD (Br f c).toNat noV,0)):Cj c (Bn c m).1 m (C2 c m row).1=(row,0):=by
 have hr:B4 (Bn c m).1 (C2 c m row).1 m.back=([row.getD (Br f c).toNat noV],0):=by
  rw [hbk,Q6,he,if_neg (by simp)]
 obtain ⟨_,hrc,_⟩:=M0 ht
 refine lw ht h hf (by rw [hr]) fun j y0 v hy hv hi=>?_
 rw [htk] at hi
 obtain ⟨e,ei⟩:=ADi hi
 rw [hr,htk,ei]
 show row.getD (Br f c).toNat noV=v
 rw [e,Im (Uz hrc) hy,Int.toNat_natCast,Ch,hv]
 rfl
theorem AAf {c:List Col} {m:Mov} {row:List Val} {t:Str} {k:Int} {x:Expr} (ht:(Bn c m).2=0) (hg:Bs c m=[⟨t,k⟩]) (ha:m.ahead=[x]) (h:row.length=c.length) (hf:(C2 c m row).2=0):(C6 x c row).2=0∧Gv (Bn c m).1 (C2 c m row).1 t=((C6 x c row).1,0):=by
 obtain ⟨e1,hrc,hrt⟩:=M0 ht
 obtain ⟨hr,ev⟩:=Xm hf
 rw [ha] at hr ev
 have h0:(C6 x c row).2=0:=by
  rw [Q6] at hr
  split at hr
  ·exact hr
  rename_i h1;simpa using h1
 refine ⟨h0,?_⟩
 rw [Q6,if_neg (by rw [h0];simp)] at ev
 have hd:(Bn c m).1[(Df c m.take).length]? = some ⟨t,k⟩:=by rw [e1,hg,D6 (Al _),M5];rfl
 unfold Gv
 have hfm:=Im (Uz hrt) hd
 have hfm:Br t (Bn c m).1=((Df c m.take).length:Int):=hfm
 rw [if_neg (by rw [hfm];omega),hfm,Int.toNat_natCast,ev,Ch,←O7 h,D6 (Al _),M5]
 rfl
theorem AGj {x:Expr} {c:List Col} {l:List Val} (h:(C6 x c l).2=0):Am x=true∧Gl c l=true∧C6 x c l=Ag c l x:=by
 have h:(P6 Aj x c l).2=0:=h
 show _∧_∧P6 Aj x c l=_
 unfold P6 at h ⊢
 split at h
 ·cases h
 rename_i h1
 rw [if_neg h1]
 simp only [Di,If,not_or,V3] at h1
 exact ⟨h1.1,h1.2,rfl⟩
theorem AGk {x:Expr} {c:List Col} {l:List Val} (hx:Am x=true) (hr:Gl c l=true):C6 x c l=Ag c l x:=by
 show P6 Aj x c l=_
 unfold P6
 rw [if_neg (by rw [hx,hr];simp)]
theorem ADj {c:List Col} {l:List Val} {t:Str}:Ag c l (Bb t)=Gv c l t:=by
 show Dx Aj _ _ _=_
 rw [Eh]
 rfl
set_option maxRecDepth 8000
/-! invert.Move, and InvertFaithful: forth and back. -/
abbrev mvZ:Mov:=⟨0,[],[],[],[]⟩
abbrev mvI (nm:Str) (k:Int) (x y:Expr):Mov:=⟨6,[nm],[⟨nm,k⟩],[x],[y]⟩
/-- invert.Move. -/
def Fk (c:List Col) (nm:Str) (k:Int) (x:Expr):Mov×Int:=
 if !Ee c then (mvZ,1) else if Br nm c<0 then (mvZ,9) else match ofI x nm nm with
 | none=>(mvZ,14)
 | some y=>if (Ge c [mvI nm k x y]).2 != 0 then (mvZ,(Ge c [mvI nm k x y]).2) else (mvI nm k x y,0)
theorem AGl {x y:Expr} {c c':List Col} {l l':List Val} {a b:Str} {v:Val} (hfl:∀v∈l,Fine v) (hn:Be Cb x=true) (hg:Be Ci x=true) (hO:ofI x a b=some y) (hv:Ag c l x=(v,0)) (hb:Gv c' l' b=(v,0)):Am y=true∧Ag c' l' y=Gv c l a:=by
 unfold ofI at hO
 split at hO
 ·cases hO
 rename_i h0
 simp only [Rk,Fe,K1] at h0
 split at hO
 ·rename_i hR
  injection hO with hO
  have hR:(Eu (sizeE x) x (Bb b)).1.op=2∧(Eu (sizeE x) x (Bb b)).1.text=a:=by simpa using hR
  obtain ⟨w,g1,g2⟩:=cu (c:=c) (c':=c') (l':=l') hfl (sizeE x) x (Bb b) v hn hg hv (by rw [ADj];exact hb)
  rw [←hO]
  refine ⟨Mm _ _ _ (by rw [Mg];exact h0.2),?_⟩
  rw [g2,←g1]
  show Dx Aj c l _=_
  rw [Eh]
  unfold F8
  rw [hR.1,hR.2]
  rfl
 cases hO
theorem tt {c:List Col} {nm:Str} {k:Int} {x y:Expr} {row:List Val} (hfd:¬Br nm c<0) (hg:Be Ci x=true) (hO:ofI x nm nm=some y) (hs:((Du c [mvI nm k x y]).2 != 0)=false) (hrr:∀v∈row, -9223372036854775808≤v.n∧v.n≤9223372036854775807) (hf:(Ef c [mvI nm k x y] row).2=0):Q5 c [mvI nm k x y] row=true:=by
 generalize hm:mvI nm k x y=m at *
 by_cases h0:(((Du c [m]).2 != 0) || !Gl c row)=true
 ·rw [show Ef c [m] row=([],1) from if_pos h0] at hf
  cases hf
 have h1:Gl c row=true:=by
  have:((Du c [m]).2 != 0)=false∧Gl c row=true:=by simpa using h0
  exact this.2
 have hR:=O8 h1 hrr
 obtain ⟨hmay,hst,_⟩:=Kn hs
 have htn:(Bn c m).2=0:=Ux hst (k:=0) rfl
 have hmv:=Ov hmay m (B2.2 rfl)
 have e:Ef c [m] row=C2 c m row:=(AAd hs h1).trans (Uy (k:=0) rfl rfl)
 have hf1:(C2 c m row).2=0:=by rw [←e];exact hf
 have hpd:=lv htn hmv (fun z hz=>by rw [←hm] at hz;rw [B2.1 hz];exact hg) hR h1 hf1
 have hlv:=AAf htn (t:=nm) (k:=k) (x:=x) (by rw [←hm];rfl) (by rw [←hm]) hR.len hf1
 obtain ⟨hx,_,hev⟩:=AGj hlv.1
 have hn:=Ip (by rw [←Em];exact hx)
 obtain ⟨hy,hyv⟩:=AGl (c:=c) (l:=row) (c':=(Bn c m).1) (l':=(C2 c m row).1) hR.fine hn hg hO (v:=(C6 x c row).1) (by rw [←hev];exact Kt rfl hlv.1) (by rw [hlv.2])
 have hbk:=AAe (f:=nm) (y:=y) htn hR.len (by rw [←hm]) (by rw [←hm]) hf1 (by rw [AGk hy hpd,hyv];unfold Gv;rw [if_neg hfd])
 have eb:I9 c [m] (C2 c m row).1=(row,0):=(ADh hs hpd).trans ((Rg (k:=0) (m:=m) rfl rfl).trans hbk)
 unfold Q5
 rw [e,eb,if_neg (by rw [hf1];simp)]
 simp
/-- What invert.Move gives is faithful. -/
theorem lx {c:List Col} {nm:Str} {k:Int} {x:Expr} {row:List Val} (hg:Be Ci x=true) (he:(Fk c nm k x).2=0) (hrr:∀v∈row, -9223372036854775808≤v.n∧v.n≤9223372036854775807) (hf:(Ef c [(Fk c nm k x).1] row).2=0):Q5 c [(Fk c nm k x).1] row=true:=by
 unfold Fk at he hf ⊢
 split at he
 ·cases he
 rename_i h1
 rw [if_neg h1] at hf ⊢
 split at he
 ·cases he
 rename_i h2
 rw [if_neg h2] at hf ⊢
 cases hO:ofI x nm nm with
 | none=>rw [hO] at he;cases he
 | some y =>
  rw [hO] at he hf
  simp only at he hf ⊢
  by_cases h3:((Ge c [mvI nm k x y]).2 != 0)=true
  ·rw [if_pos h3] at he
   rw [show (Ge c [mvI nm k x y]).2=0 from he] at h3
   cases h3
  rw [if_neg h3] at hf ⊢
  refine tt h2 hg hO ?_ hrr hf
  unfold Ef at hf
  by_cases h4:((Du c [mvI nm k x y]).2 != 0)=true
  ·rw [h4] at hf
   cases hf
  simpa using h4
set_option maxRecDepth 4000
section
variable {c:List Col} {nm:Str} {k:Int} {x:Expr}
theorem ANm (h:(!Lf c)=true):Fk c nm k x=(mvZ,1):=by rw [H6] at h;exact if_pos h
theorem ANn (h:(!Lf c)=false) (h2:decide (Br nm c<0)=true):Fk c nm k x=(mvZ,9):=by
 rw [H6] at h
 unfold Fk
 rw [if_neg (by rw [h];simp),if_pos (by simpa using h2)]
theorem ANo (h:(!Lf c)=false) (h2:decide (Br nm c<0)=false) (h3:ofI x nm nm=none):Fk c nm k x=(mvZ,14):=by
 rw [H6] at h
 unfold Fk
 rw [if_neg (by rw [h];simp),if_neg (by simpa using h2),h3]
theorem ANp (h:(!Lf c)=false) (h2:decide (Br nm c<0)=false) {y:Expr} (h3:ofI x nm nm=some y) (h4:((Ge c [mvI nm k x y]).2 != 0)=true):Fk c nm k x=(mvZ,(Ge c [mvI nm k x y]).2):=by
 rw [H6] at h
 unfold Fk
 rw [if_neg (by rw [h];simp),if_neg (by simpa using h2),h3]
 simp only
 rw [if_pos h4]
theorem ANq (h:(!Lf c)=false) (h2:decide (Br nm c<0)=false) {y:Expr} (h3:ofI x nm nm=some y) (h4:((Ge c [mvI nm k x y]).2 != 0)=false):Fk c nm k x=(mvI nm k x y,0):=by
 rw [H6] at h
 unfold Fk
 rw [if_neg (by rw [h];simp),if_neg (by simpa using h2),h3]
 simp only
 rw [if_neg (by rw [h4];simp)]
theorem ii {x:Expr} (h:Am x=true) (hg:Be Ci x=true):OkEs [x]:=by
 have:=Lz (e:=x) (by rw [←Em];exact h)
 exact ⟨by simp,fun e he=>by rw [B2.1 he];exact Gd (by decide) this.1,fun e he=>by rw [B2.1 he];omega,fun e he=>by rw [B2.1 he];exact hg⟩
theorem AAg {y:Expr} (hn:nm.length≤1048576) (hx:Am x=true) (hg:Be Ci x=true) (hy:Am y=true) (hgy:Be Ci y=true):OkMovs [mvI nm k x y]:=
 ⟨by simp,fun m hm=>by
  rw [B2.1 hm]
  exact ⟨by simp,fun s hs=>by rw [B2.1 hs];exact hn,⟨by simp,fun z hz=>by rw [B2.1 hz];exact hn⟩,by simp,ii hx hg,ii hy hgy⟩⟩
theorem AAh (hn:nm.length≤1048576) (hg:Be Ci x=true) (h:(Fk c nm k x).2=0):OkMovs [(Fk c nm k x).1]:=by
 unfold Fk at h ⊢
 split at h
 ·cases h
 rename_i h1
 rw [if_neg h1]
 split at h
 ·cases h
 rename_i h2
 rw [if_neg h2]
 cases hO:ofI x nm nm with
 | none=>rw [hO] at h;cases h
 | some y =>
  rw [hO] at h
  simp only at h ⊢
  obtain ⟨a,b,e⟩:=ie hg hO
  by_cases h3:((Ge c [mvI nm k x y]).2 != 0)=true
  ·rw [if_pos h3] at h
   rw [show (Ge c [mvI nm k x y]).2=0 from h] at h3
   cases h3
  rw [if_neg h3]
  exact AAg hn a hg b e
theorem AE3 (x:Expr):Iq [x]=.slice false 6 [.agg (Bw x)]:=by rw [Iq,C9,F9,Ad]
theorem V0:Le (.agg [A4 0,.nil,.nil,.nil,.nil]) (Jn mvZ):=by
 refine .agg _ _ rfl (by simp [AV.one,Value.oneCell',sv]) fun i y y' h1 h2=>?_
 match i with
 | 0=>simp at h1 h2;subst h1;subst h2;exact .inl rfl
 | 1=>simp at h1 h2;subst h1;subst h2;exact .inr ⟨rfl,1,rfl⟩
 | 2=>simp at h1 h2;subst h1;subst h2;exact .inr ⟨rfl,2,rfl⟩
 | 3=>simp at h1 h2;subst h1;subst h2;exact .inr ⟨rfl,6,rfl⟩
 | 4=>simp at h1 h2;subst h1;subst h2;exact .inr ⟨rfl,6,rfl⟩
 | i+5=>simp at h1
end
abbrev mvX (nm:Str) (k:Int) (x y:Expr):AV:=.agg [A4 6,Ho [nm],Ax [⟨nm,k⟩],.slice false 6 [.agg (Bw x)],.slice false 6 [.agg (Bw y)]]
theorem AAi (nm:Str) (k:Int) (x y:Expr):Jn (mvI nm k x y)=mvX nm k x y:=by
 show AV.agg [_,_,_,Iq [x],Iq [y]]=_
 rw [AE3,AE3]
theorem AJt (c:List Col) (hc:OkCols c) (hc2:c.length≤1000000) (nm:Str) (k:Int) (x y:Expr) (h:OkMovs [mvI nm k x y]) (Hp:List AObj):AFun Tryz.prog 59 [Ax c,.slice false 5 [mvX nm k x y]] Hp (.tup [A4 (Ge c [mvI nm k x y]).1,A4 (Ge c [mvI nm k x y]).2]):=by
 have:=c59 c hc hc2 [mvI nm k x y] h Hp
 rwa [H2,C9,F9,AAi] at this
theorem c23 (c:List Col) (hc:OkCols c) (hc2:c.length≤1000000) (nm:Str) (hnm:nm.length≤1048576) (k:Int) (n:Nat) (x:Expr) (hok:okE n x) (hn:n≤1048576) (hg:Be Ci x=true) (Hp:List AObj):AFun Tryz.prog 23 [Ax c,Ah nm,A4 k,Aa x] Hp (.tup [Jn (Fk c nm k x).1,A4 (Fk c nm k x).2]):=by
 refine Ak [.cell 8 48,.tmp 9] [0,1,2,3] Tryz.func23 Tryz.ntmps23 (fun d=>?_)
 refine ph ?_;refine A2 [0,1,2,7,8] ?_;refine Z36 ?_;refine AEs ?_;refine A2 [0,1,2,7,8,17] ?_
 refine A3 (fun ht17=>?_) (fun ht17=>?_)
 ·have hm:=ANm (nm:=nm) (k:=k) (x:=x) ht17
  refine Z79 ?_;refine Ek 18 _ V0 ?_;exact AB8
 refine Z6 ?_;refine Z31 ?_;refine A8 Tryz.call58 (c58 c hc nm _) ?_;refine A5 ?_;refine A2 [0,1,2,7,8,22] ?_
 refine A3 (fun ht22=>?_) (fun ht22=>?_)
 ·have hm:=ANn (k:=k) (x:=x) ht17 ht22
  refine Z79 ?_;refine Ek 23 _ V0 ?_;exact AB8
 refine U4 ?_;refine A8 Tryz.call14 (c14 n x hok hn hg nm nm hnm hnm _) ?_;refine No ?_;refine A2 [0,1,2,7,8,10,11] ?_;refine Z31 ?_;refine A2 [0,1,2,7,8,10,32] ?_
 refine A3 (fun ht32=>?_) (fun ht32=>?_)
 ·have hm:=ANo (k:=k) ht17 ht22 (Ra (by simpa using ht32))
  refine Z79 ?_;refine Ek 33 _ V0 ?_;exact AB8
 have hO:=R9 (show (ofI x nm nm).isSome=true by simpa using ht32)
 obtain ⟨hrx,hry,hyg⟩:=ie hg hO
 have hM:=AAg (k:=k) hnm hrx hg hry hyg
 refine Z74 ?_;refine U7 ?_;refine Z0 ?_;refine jn ?_;refine U7 ?_;refine A5 ?_;refine U7 ?_;refine A5 ?_;refine U7 ?_;refine AId ?_;refine Z16 ?_;refine A2 [0,8,12] ?_;refine Z31 ?_;refine U7 ?_;refine A8 Tryz.call59 (AJt c hc hc2 nm k x ((ofI x nm nm).getD A9) hM _) ?_;refine Z82 ?_;refine A2 [8,12,14] ?_;refine Z1 ?_;refine A2 [8,12,14,53] ?_
 refine A3 (fun ht53=>?_) (fun ht53=>?_)
 ·have hm:=ANp ht17 ht22 hO ht53
  refine Z79 ?_;refine Ek 54 _ V0 ?_;refine A5 ?_;exact AB8
 have hm:=ANq ht17 ht22 hO ht53
 refine Z74 ?_;refine Z7 ?_;refine A2 [8,9] ?_;refine Gn ?_;exact A7 (Aw (As jA jS) A6) ⟨by rw [hm];show _=AV.tup [Jn (mvI nm k x ((ofI x nm nm).getD A9)),A4 0];rw [AAi];rfl,rfl⟩ (hlow:=by simp [or_imp,forall_and,Ab])

theorem c6 (x:Expr) (gx:Be Ci x=true) (c:List Col) (l:List Val) (hlr:∀v∈l, -9223372036854775808≤v.n∧v.n≤9223372036854775807) (at_ k:Int) (Hp:List AObj):AFun Tryz.prog 6 [Aa x,Ax c,Cf l,A4 at_,A4 k] Hp (B6 true):=by
 refine Ak [.tmp 10] [0,1,2,3,4] Tryz.func6 Tryz.ntmps6 (fun d=>?_)
 refine Z1 ?_;refine A2 [1,2,3,4,5] ?_;refine Z56 ?_;refine A8 Tryz.call8 (c8 _) ?_;refine A5 ?_;refine A2 [1,2,3,4,5,17] ?_
 refine A3 (fun ht17=>?_) (fun ht17=>?_)
 ·cases ht17
 refine bc ?_;refine A8 Tryz.call9 (c9 x _) ?_;refine A5 ?_;refine Ca ?_;refine C7 Tryz.call10 (fun hB=>c6u c _) ?_;refine dw ?_;refine C7 Tryz.call11 (fun hB=>c11 l _) ?_;refine S3 ?_;refine Z64 ?_;refine A2 [1,2,3,4,5,32] ?_
 refine A3 (fun ht32=>?_) (fun ht32=>?_)
 ·refine Z2 ?_;refine A2 [10] ?_;refine Z41 ?_;exact qb
 rw [Au] at ht32
 have h32:((xd x=false∧Lp c=false)∧P7 l=false)∧c.length≠0:=by simpa using ht32
 obtain ⟨⟨⟨hwx,hmc⟩,hlg⟩,hcn⟩:=h32
 have hs:=ABs hwx
 have hc:=ABw hmc
 have hc2:c.length≤1000000:=AAa hmc
 have hl1:=yw hlg
 have hcl:c.length≤50:=by unfold Lp at hmc;simp at hmc;omega
 refine ba ?_
 obtain ⟨i,hkl,hke⟩:=AIs at_ c.length (by omega) (by omega)
 refine Z82 ?_
 refine A5 (h:=Q.rem (h0:=fun _=>by rw [Au,wrap_u64 (by omega) (by omega)];omega)) (hr:=?_)
 refine A5 ?_
 rw [Au,hke]
 refine A5 ?_;refine A2 [1,2,4,5,11] ?_;refine Hd [0,0,0,6,14,30,0,0,255,511,1023,1023,0,6143,16383] [12,13] [.q 12 [] [],.s [12] (some 0) [] [1],.s [] (some 1) [0] []] (fun _=>Hp) (fun B=>if B 0=true then [(if B 1=true then .cells 48 (Ua (Fk c c[i].name k x).1) else .cells 48 [A4 0,.nil,.nil,.nil,.nil]:AObj)] else []) Ar (by kernel_rfl) rfl rfl (fun _=>rfl) ?_
 apply Y.q
 ·intro B hT hF
  refine Z35 ?_
  refine B1 (h:=Ap (i) (El c[i]) (fun _=>Bv hkl)) (hr:=?_)
  refine Vo ?_;refine D0 Tryz.call23 (c23 c hc hc2 c[i].name (hc.2 _ (C4 hkl)) k 61 x hs.ok (by decide) gx _) ?_;exact AAw
 case hTF=>decide
 refine Y.alloc (zs:=[A4 0,.nil,.nil,.nil,.nil]) (n:=0) (u:=Hp.length) Tryz.zeroValue48 (fun B hT hF hB=>⟨rfl,by simp [hB],by simp [upd,hB,hF 1 (by simp)],rfl⟩) ?_;refine b6 (u:=Hp.length) (n:=0) (t':=48) (cs:=[A4 0,.nil,.nil,.nil,.nil]) (cs':=Ua (Fk c c[i].name k x).1) Tryz.sizeOf48 (fun B hT hF hB=>⟨rfl,by simp [hT 0 (by simp),hB],by simp [upd,hT 0 (by simp),hB],rfl⟩) ?_;refine He (tn:=[12,13]) (O:=[.cells 48 (Ua (Fk c c[i].name k x).1)]) ?_;refine A5 ?_;refine A2 [1,2,12,13] ?_;refine Z31 ?_;refine A2 [1,2,12,53] ?_
 refine A3 (fun ht53=>?_) (fun ht53=>?_)
 ·refine Z2 ?_;refine A2 [10] ?_;refine Z41 ?_;exact qb
 have h53:(Fk c c[i].name k x).2=0:=by simpa using ht53
 have hM:=AAh (hc.2 _ (C4 hkl)) gx h53
 have hlaw:(((Ef c [(Fk c c[i].name k x).1] l).2 != 0) || Q5 c [(Fk c c[i].name k x).1] l)=true:=by
  cases hq:((Ef c [(Fk c c[i].name k x).1] l).2 != 0) with
  | true=>rfl
  | false=>exact lx gx h53 hlr (by simpa using hq)
 refine U5 ?_;refine U7 ?_;refine A5 ?_;refine A8 Tryz.call17 (c17 c hc hc2 [(Fk c c[i].name k x).1] hM l hlr hl1 _) ?_;refine Z82 ?_;refine A2 [1,2,12,15] ?_;refine AEp ?_;refine G.buildSl jU jS jZ ?_;refine Ca ?_;refine C7 Tryz.call18 (fun hB=>c18 c hc hc2 [(Fk c c[i].name k x).1] hM l hlr hl1 _) ?_;refine Z0 ?_;refine A2 [10] ?_;refine Gn ?_;exact A7 (An A6) ⟨by rw [hlaw],rfl⟩

end Go.SX.Nb
namespace Go.Proofs.YtofbdcbjpdpllaaGreatDoor
open Go Go.SX Go.SX.Nb Go.ChangeShapes Go.RowKit
set_option maxRecDepth 100000
theorem tw:Tryz.pinned.checked.prog.funcNamed Rows.invertFaithfulRow.func=some 6:=by kernel_rfl
theorem ADk:laidOutB Tryz.pinned.checked.prog=true:=by kernel_rfl
theorem ADl:(Rows.invertFaithfulRow.inPlace==Tryz.pinned.checked.prog.inPlace 6)=true:=by kernel_rfl
theorem ADm:(Rows.invertFaithfulRow.unfollowed==Tryz.pinned.checked.prog.unfollowed 6)=true:=by kernel_rfl
theorem ADn:(Rows.invertFaithfulRow.recurses==Tryz.pinned.checked.prog.recurses 6)=true:=by kernel_rfl
theorem ADo:(Rows.invertFaithfulRow.named==Tryz.pinned.checked.prog.varsNamed 6)=true:=by kernel_rfl
theorem ADp:Tryz.pinned.checked.prog.mayEnter=true:=by kernel_rfl
theorem ly:joinedFacts Tryz.pinned.checked.prog 6 Tryz.f6 (OpenSpec.ofChange Rows.invertFaithfulSpec).bare Rows.invertFaithfulRow=true:=by
 unfold joinedFacts
 rw [ADk,ADl,ADm,ADn,ADo,ADp]
 kernel_rfl
theorem tx:false=Rows.invertFaithfulRow.goesBy Tryz.pinned.checked.prog:=by kernel_rfl
theorem tz:Tryz.f6.isInstance Tryz.pinned.checked.prog Rows.invertFaithfulRow.origin Rows.invertFaithfulRow.targs:=of_decide_eq_true (by kernel_rfl)
theorem u1:Tryz.f6.isWrapper Tryz.pinned.checked.prog Rows.invertFaithfulRow.wrapper Rows.invertFaithfulRow.mainSum:=by
 unfold Func.isWrapper
 first|(rw [if_pos (by decide +kernel)];kernel_rfl)|(rw [if_neg (by decide +kernel)];exact ⟨rfl,rfl⟩)
end Go.Proofs.YtofbdcbjpdpllaaGreatDoor
