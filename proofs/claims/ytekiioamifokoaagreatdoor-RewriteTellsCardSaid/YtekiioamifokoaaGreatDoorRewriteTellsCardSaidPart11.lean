/- On the way (part 11). -/
import Derived.Test.YtekiioamifokoaaGreatDoorRewriteTellsCardSaidPart10
set_option linter.all false
namespace Go.SX.Nb
open Go Go.SX Go.Proofs
variable [ErrAt]
set_option maxRecDepth 4000
theorem c77 (l:List Expr) (hl:l.length≤1048576) (Hp:List AObj):AFun Tryz.prog 77 [Bd l] Hp (Bd l):=by
 refine Ah [.tmp 2] [0] Tryz.func77 Tryz.ntmps77 (fun d=>?_)
 refine nk ?_
 refine R.eqlNil jU (by kernel_rfl) (fun b hb=>?_)
 refine A2 [0,4] ?_
 refine A3 (fun ht4=>?_) (fun ht4=>?_)
 ·have hl0:l=[]:=by simpa using hb ht4
  subst hl0
  refine Z2 ?_;refine R.nilTmp 2 6 false ?_;refine Z3 ?_;refine Gg ?_;exact ALh
 refine Z4 ?_;refine Z29 ?_;refine A5 ?_
 refine D5 jU Tryz.type27 ?_ ?_ ?_
 ·simp [Tryz.t27];omega
 ·simp [Tryz.t27];omega
 refine Kk ?_;refine Z3 ?_;exact ALh

theorem c33 (q:Qry) (h:QW q) (c:List Col) (hc:OkCols c) (l:List Expr) (hll:l.length≤1048576) (hcl:c.length=l.length) (hlo:∀e∈l,okE 61 e) (hn:∀s∈q.cols,¬At s c<0) (Hp:List AObj):AFun Tryz.prog 33 [Qi q,Ai c,Bd l] Hp (.tup [Zv (M4 q c l).1,A4 (M4 q c l).2]):=by
 refine Ah [.cell 6 37,.tmp 7] [0,1,2] Tryz.func33 Tryz.ntmps33 (fun d=>?_)
 refine ec ?_;refine n8 ?_;refine Z1 ?_;refine AKq ?_;refine vp ?_;refine Z53 ?_;refine Fx 1 0 6 ?_;refine Fx 1 6 6 ?_;refine Z75 ?_;refine A2 [1,2,3,6,8,17,18,19] ?_
 refine Bg (α:=Nat) (fun i=>⟨60,A6 1 (Ai c) (A6 2 (Bd l) (A6 3 (.ro (qoC false q)) (A6 6 (.ptr (oid Hp.length 0) 0) (A6 8 (.ptr (oid Hp.length 1) 0) (A6 17 (E4 q.cols) (A6 18 (A4 (q.cols.length:Nat)) (A6 19 (A4 (i:Nat)) (fun _=>.any)))))))),Hp,[.cells 37 [.nil,A4 0,Ab [],A4 0,A4 0,Ab [],.nil,A4 0],.cells 37 [.slice true 6 (((q.cols.take i).map (Ib c l)).map A7),A4 0,Ab [],A4 0,A4 0,Ab [],.slice true 6 [],A4 q.lim]],[],none⟩) (fun i=>i≤q.cols.length) (fun i=>q.cols.length-i) (0) (Ao _) (B4 (by simp)) rfl (fun i hi=>?_)
 refine Z2 ?_;refine A2 [1,2,3,6,8,17,18,19,20] ?_
 refine E2 (fun ht20=>?_) (fun ht20=>?_)
 ·have hlt:i<q.cols.length:=by simpa using ht20
  have hkl:=h.len
  obtain ⟨j,hj,hjc⟩:=tw (hn _ (As hlt))
  have hk:0≤At q.cols[i] c∧(At q.cols[i] c).toNat<l.length:=by omega
  have hget:(l.map A7)[(At q.cols[i] c).toNat]? = some (A7 (Ib c l q.cols[i])):=by
   rw [Ch,Ac hk.2]
   unfold Ib
   rw [Cq,Ac hk.2]
   rfl
  refine Tt ?_
  refine A5 (h:=Ad (i) (Ab q.cols[i]) (fun _=>Ar hlt)) (hr:=?_)
  refine Z0 ?_;refine A2 [1,2,3,6,8,10,17,18,19] ?_;refine P6 [0,1,0,0,0,24,60,124,252,511,1023,2047] [1] [.q 1 [] [0],.s [24] (some 0) [] [],.q 7 [] []] (fun _=>Hp) (fun B=>[.cells 37 [.nil,A4 0,Ab [],A4 0,A4 0,Ab [],.nil,A4 0],.cells 37 (if B 0=true then [.slice false 6 (((q.cols.take i).map (Ib c l)).map A7),A4 0,Ab [],A4 0,A4 0,Ab [],.slice true 6 [],A4 q.lim] else [.slice true 6 (((q.cols.take i).map (Ib c l)).map A7),A4 0,Ab [],A4 0,A4 0,Ab [],.slice true 6 [],A4 q.lim])]) Ap (by kernel_rfl) rfl rfl (fun _=>rfl) ?_
  apply Y.q
  ·intro B hT hF
   exact Z60
  case hTF=>decide
  refine dx (u:=Hp.length) (n:=1) (t':=37) (cs:=[.slice true 6 (((q.cols.take i).map (Ib c l)).map A7),A4 0,Ab [],A4 0,A4 0,Ab [],.slice true 6 [],A4 q.lim]) (cs':=[.slice false 6 (((q.cols.take i).map (Ib c l)).map A7),A4 0,Ab [],A4 0,A4 0,Ab [],.slice true 6 [],A4 q.lim]) Tryz.isAgg25 (fun B hB=>⟨rfl,by simp only [hB];rfl,by simp [upd],rfl⟩) ?_
  apply Y.q
  ·intro B hT hF
   refine Z37 ?_;refine I3 Tryz.call60 (c60 c hc q.cols[i] _) ?_
   refine Av (h:=Ad ((At q.cols[i] c).toNat) (A7 (Ib c l q.cols[i])) (fun _=>hget)) (hr:=?_)
   exact na
  case hTF=>decide
  refine Gx (tn:=[1]) (O:=[.cells 37 [.nil,A4 0,Ab [],A4 0,A4 0,Ab [],.nil,A4 0],.cells 37 [.slice false 6 (((q.cols.take i).map (Ib c l)).map A7),A4 0,Ab [],A4 0,A4 0,Ab [],.slice true 6 [],A4 q.lim]]) ?_
  refine D5 jU Tryz.type27 ?_ ?_ ?_
  ·simp only [Ag,Bx,B8,Bq,Tryz.t27];omega
  ·simp only [Ag,Bx,B8,Bq,Tryz.t27];omega
  refine AD8 ?_;refine A2 [1,2,3,6,8,17,18,19] ?_;refine X0 ?_;refine A2 [1,2,3,6,8,17,18,19] ?_;exact AJi
 have hxe:q.cols.length≤i:=by simpa using ht20
 rw [Cu hxe]
 refine Z17 ?_;refine Z7 ?_;refine A2 [1,2,3,6,8,36] ?_
 refine A3 (fun ht36=>?_) (fun ht36=>?_)
 ·have htr:=ce (c:=c) (l:=l) ht36
  refine Z61 ?_;refine Aa Tryz.call77 (c77 l hll _) ?_;refine Z49 ?_;refine vp ?_;refine Gf ?_;refine Z46 ?_;refine A2 [1,2,3,6,8,43] ?_
  refine A3 (fun ht43=>?_) (fun ht43=>?_)
  ·refine Z42 ?_;exact AJ8
  refine eg ?_;refine Aa Tryz.call78 (c78 q.whr h.ok c hc l hll hlo _) ?_;refine Qf ?_;refine A2 [6,8,11,12] ?_;refine Z7 ?_;refine A2 [6,8,11,12,54] ?_
  refine A3 (fun ht54=>?_) (fun ht54=>?_)
  ·refine vm ?_;exact AJ9
  refine Nr ?_;refine AD2 ?_;refine Z42 ?_;refine Z26 ?_;exact AJ6
 have htr:=Yp (c:=c) (l:=l) ht36
 refine Z4 ?_;refine Z46 ?_;refine A2 [1,2,3,6,8,43] ?_
 refine A3 (fun ht43=>?_) (fun ht43=>?_)
 ·refine Z42 ?_;exact AJ8
 refine eg ?_;refine Aa Tryz.call78 (c78 q.whr h.ok c hc l hll hlo _) ?_;refine Qf ?_;refine A2 [6,8,11,12] ?_;refine Z7 ?_;refine A2 [6,8,11,12,54] ?_
 refine A3 (fun ht54=>?_) (fun ht54=>?_)
 ·refine vm ?_;exact AJ9
 refine Nr ?_;refine AD2 ?_;refine Z42 ?_;refine Z26 ?_;exact AJ6

theorem Yq {q:Qry} {c:List Col} (h:Dk q c=0):∀s∈q.cols,¬At s c<0:=by
 intro s hs hf
 unfold Dk at h
 split at h
 ·cases h
 rw [if_pos (E7.2 ⟨s,hs,by simpa using hf⟩)] at h
 cases h
/-! ref21.Over: names that nothing has stand between. -/
def H6 (i:Nat):Str:=[35,UInt8.ofNat (97+i)]
def C5 (c:List Col) (x:Expr):Nat→Expr
 | 0=>x
 | i+1=>match c[i]? with|some y=>Ik y.name (Bo (H6 i)) (C5 c x i)|none=>C5 c x i
def D3 (l:List Expr) (x:Expr):Nat→Expr
 | 0=>x
 | i+1=>match l[i]? with|some z=>Ik (H6 i) z (D3 l x i)|none=>D3 l x i
/-- ref21.Over. -/
def Qv (x:Expr) (c:List Col) (l:List Expr):Expr×Int:=
 if ((!(B2 x)) || !(F8 c)) || ((c.length:Int) != (l.length:Int)) then (Aw,1)
 else if l.any (fun e => !(B2 e)) then (Aw,1)
 else if (Cb x).any (fun t=>decide (At t c<0)) then (Aw,9)
 else if !(B2 (D3 l (C5 c x c.length) c.length)) then (Aw,3)
 else (D3 l (C5 c x c.length) c.length,0)
mutual
def Jg (f:Str→Expr):Expr→Expr
 | .mk o t v k=>if o==2 then f t else .mk o t v (Jh f k)
def Jh (f:Str→Expr):List Expr→List Expr
  | []=>[]
  | e::r=>Jg f e::Jh f r
 end
mutual
theorem Yr (s:Str) (y:Expr) (f:Str→Expr):∀x:Expr,Ik s y (Jg f x)=Jg (fun t=>Ik s y (f t)) x
 | .mk o t v k=>by
  rw [Jg,Jg]
  by_cases h:(o==2)=true
  ·rw [if_pos h,if_pos h]
  have h1:(o==2)=false:=by simpa using h
  rw [if_neg h,if_neg h,Ik,h1,if_neg (by simp),cf s y f k]
theorem cf (s:Str) (y:Expr) (f:Str→Expr):∀x:List Expr,jq s y (Jh f x)=Jh (fun t=>Ik s y (f t)) x
  | []=>rfl
  | e::r=>by rw [Jh,Jh,jq,Yr s y f e,cf s y f r]
 end
theorem Ru (c:List Col) (f:Str→Expr) (x:Expr):∀i,C5 c (Jg f x) i=Jg (fun t=>C5 c (f t) i) x
 | 0=>rfl
 | i+1=>by
  rw [C5,Ru c f x i]
  simp only [C5]
  cases c[i]? with
  | none=>rfl
  | some y=>exact Yr _ _ _ x
theorem Rv (l:List Expr) (f:Str→Expr) (x:Expr):∀i,D3 l (Jg f x) i=Jg (fun t=>D3 l (f t) i) x
 | 0=>rfl
 | i+1=>by
  rw [D3,Rv l f x i]
  simp only [D3]
  cases l[i]? with
  | none=>rfl
  | some y=>exact Yr _ _ _ x
mutual
theorem gh:∀x:Expr,F7 E5 x=true→Jg Bo x=x
 | .mk o t v k,h=>by
  rw [Ht,Az] at h
  rw [Jg]
  by_cases h2:(o==2)=true
  ·rw [if_pos h2]
   obtain ⟨h3,_⟩:=h
   have ho:o=2:=by simpa using h2
   subst ho
   cases Nx h3
   rfl
  rw [if_neg h2,ll k h.2]
theorem ll:∀x:List Expr,Km E5 x=true→Jh Bo x=x
  | [],_=>rfl
  | e::r,h=>by
    rw [Km,Az] at h
    rw [Jh,gh e h.1,ll r h.2]
 end
mutual
theorem Ys {f g:Str→Expr}:∀x:Expr,(∀t,named t x=true→f t=g t)→Jg f x=Jg g x
 | .mk o t v k,h=>by
  rw [Jg,Jg]
  by_cases h2:(o==2)=true
  ·rw [if_pos h2,if_pos h2]
   exact h t (by rw [Gq];show ((o==2&&t==t) || _)=true;rw [h2];simp)
  rw [if_neg h2,if_neg h2,Ve k fun t ht=>h t (by rw [Gq];show (_ || H0 t k)=true;rw [ht];simp)]
theorem Ve {f g:Str→Expr}:∀x:List Expr,(∀t,H0 t x=true→f t=g t)→Jh f x=Jh g x
  | [],_=>rfl
  | e::r,h=>by
    rw [Jh,Jh,Ys e fun t ht=>h t (by rw [Ew,ht];rfl),Ve r fun t ht=>h t (by rw [Ew,ht];simp)]
 end
mutual
theorem cg (c:List Col) (l:List Expr):∀x:Expr,(∀t,named t x=true→¬(At t c<0))→putF c l x=some (Jg (fun t=>l.getD (At t c).toNat Aw) x)
 | .mk o t v k,h=>by
  rw [putF,Jg]
  by_cases h2:(o==2)=true
  ·rw [if_pos h2,if_pos h2,if_neg (h t (by rw [Gq];show ((o==2&&t==t) || _)=true;rw [h2];simp))]
  rw [if_neg h2,if_neg h2,Yt c l k fun t ht=>h t (by rw [Gq];show (_ || H0 t k)=true;rw [ht];simp)]
  rfl
theorem Yt (c:List Col) (l:List Expr):∀x:List Expr,(∀t,H0 t x=true→¬(At t c<0))→Kp c l x=some (Jh (fun t=>l.getD (At t c).toNat Aw) x)
  | [],_=>rfl
  | e::r,h=>by
    rw [Kp,Jh,cg c l e fun t ht=>h t (by rw [Ew,ht];rfl),Yt c l r fun t ht=>h t (by rw [Ew,ht];simp)]
    rfl
 end
mutual
theorem tx (c:List Col) (l:List Expr) {s:Str} (hs:At s c<0):∀x:Expr,F7 E5 x=true→named s x=true→putF c l x=none
 | .mk o t v k,hn,h=>by
  rw [putF]
  by_cases h2:(o==2)=true
  ·rw [if_pos h2]
   rw [Ht,Az] at hn
   obtain ⟨h3,_⟩:=hn
   have ho:o=2:=by simpa using h2
   subst ho
   cases Nx h3
   rw [Gq] at h
   have:t=s:=by
    simp [Bo,Expr.op,Expr.text,Expr.kids,H0,Fp] at h
    exact h
   rw [if_pos (by rw [this];exact hs)]
  rw [if_neg h2]
  rw [Ht,Az] at hn
  have h1:(o==2)=false:=by simpa using h2
  rw [Gq] at h
  have h:((o==2&&t==s) || H0 s k)=true:=h
  rw [h1,H9,Ce] at h
  rw [lm c l hs k hn.2 h]
  rfl
theorem lm (c:List Col) (l:List Expr) {s:Str} (hs:At s c<0):∀x:List Expr,Km E5 x=true→H0 s x=true→Kp c l x=none
  | [],_,h=>by cases h
  | e::r,hn,h=>by
    rw [Km,Az] at hn
    rw [Ew,Dg] at h
    rw [Kp]
    rcases h with h|h
    · rw [tx c l hs e hn.1 h]
    rw [lm c l hs r hn.2 h]
    cases putF c l e<;>rfl
 end
mutual
theorem Rw {s:Str}:∀x:Expr,F7 E5 x=true→named s x=true→Hl s=true
 | .mk o t v k,hn,h=>by
  rw [Ht,Az] at hn
  rw [Gq,Dg] at h
  rcases h with h|h
  ·obtain ⟨h3,_⟩:=hn
   have h:(o==2&&t==s)=true:=h
   simp only [Az,beq_iff_eq] at h
   obtain ⟨rfl,rfl⟩:=h
   cases Nx h3 with
   | name t ht=>exact ht
  exact Vf k hn.2 h
theorem Vf {s:Str}:∀x:List Expr,Km E5 x=true→H0 s x=true→Hl s=true
  | [],_,h=>by cases h
  | e::r,hn,h=>by
    rw [Km,Az] at hn
    rw [Ew,Dg] at h
    rcases h with h|h
    · exact Rw e hn.1 h
    exact Vf r hn.2 h
 end
theorem tz (i:Nat):Hl (H6 i)=false:=by
 have:Hr 35=false:=by decide
 unfold H6 Hl
 simp [this]
theorem AC5 {i j:Nat} (hi:i<100) (hj:j<100) (h:H6 i=H6 j):i=j:=by
 unfold H6 at h
 simp only [Qz,and_true,true_and] at h
 have:=congrArg UInt8.toNat h
 simp only [UInt8.toNat_ofNat'] at this
 omega
theorem Vg (s:Str) (y:Expr):Ik s y (Bo s)=y:=ABd (by simp [Bo,Expr.op,Expr.text])
theorem O2 {s t:Str} (y:Expr) (h:t≠s):Ik s y (Bo t)=Bo t:=by
 rw [Bo,Ik,if_neg (by simpa using h)]
 rfl
theorem O3 {c:List Col} (hc:F8 c=true) {t:Str} {j:Nat} (hj:At t c=(j:Int)) (hjc:j<c.length) (ht:(c.getD j ⟨[],0⟩).name=t):∀i,C5 c (Bo t) i=if i≤j then Bo t else Bo (H6 j)
 | 0=>by rw [if_pos (Ao _)];rfl
 | i+1=>by
  obtain ⟨hok,hnd⟩:=ka hc
  rw [C5]
  have ih:=O3 hc hj hjc ht i
  cases hi:c[i]? with
  | none =>
   have:c.length≤i:=mm.1 hi
   rw [ih]
   show (if i≤j then Bo t else Bo (H6 j))=_
   rw [if_neg (by omega),if_neg (by omega)]
  | some y =>
   show Ik y.name _ _=_
   have hf:=Ro hnd hi
   rw [ih]
   by_cases e:i=j
   ·subst e
    have hy:y.name=t:=by
     rw [←ht,Cq,hi]
     rfl
    rw [if_pos (An _),if_neg (by omega),hy]
    exact Vg _ _
   by_cases h:i≤j
   ·rw [if_pos h,if_pos (by omega)]
    refine O2 _ fun h2=>?_
    rw [←h2,hj] at hf
    omega
   rw [if_neg h,if_neg (by omega)]
   refine O2 _ fun h2=>?_
   have h3:=(hok y (Bi hi)).name
   rw [←h2,Eh,tz] at h3
   cases h3
theorem Rx {l:List Expr} (hl:∀e∈l,F7 E5 e=true) (h100:l.length<100) {j:Nat} (hj:j<l.length):∀i,D3 l (Bo (H6 j)) i=if i≤j then Bo (H6 j) else l.getD j Aw
 | 0=>by rw [if_pos (Ao _)];rfl
 | i+1=>by
  rw [D3]
  have ih:=Rx hl h100 hj i
  cases hi:l[i]? with
  | none =>
   have:l.length≤i:=mm.1 hi
   rw [ih]
   show (if i≤j then Bo (H6 j) else l.getD j Aw)=_
   rw [if_neg (by omega),if_neg (by omega)]
  | some z =>
   show Ik (H6 i) z _=_
   have hil:=(Ae.1 hi).1
   rw [ih]
   by_cases e:i=j
   ·subst e
    rw [if_pos (An _),if_neg (by omega),Vg,Cq,hi]
    rfl
   by_cases h:i≤j
   ·rw [if_pos h,if_pos (by omega)]
    exact O2 _ fun h2=>e (AC5 (by omega) (by omega) h2.symm)
   rw [if_neg h,if_neg (by omega),Cq,Ac hj]
   refine put_none _ _ _ ?_
   cases hn:named (H6 i) l[j] with
   | false=>exact hn
   | true =>
    have h3:=Rw l[j] (hl _ (As hj)) hn
    rw [tz] at h3
    cases h3
/-- What is put one behind the other, over marks, is put at once. -/
theorem W9 {x:Expr} {c:List Col} {l:List Expr} (h12:c.length<100):Dr x c l=Qv x c l:=by
 have hany:l.any Fy=l.any (fun e => !(B2 e)):=by
  congr 1
  funext e
  rw [Fy,D6]
 unfold Dr Qv
 rw [D6,hany,Md]
 by_cases h1:(((!(B2 x)) || !(F8 c)) || ((c.length:Int) != (l.length:Int)))=true
 ·rw [if_pos h1,if_pos (by simp only [Dg] at h1 ⊢;rcases h1 with (h|h)|h;exact .inl (.inl (.inl h));exact .inl (.inr h);exact .inr h)]
 rw [if_neg h1]
 by_cases h2:(l.any fun e => !(B2 e))=true
 ·rw [if_pos h2,if_pos (by rw [h2];simp)]
 rw [if_neg h2,if_neg (by simp only [Dg] at h1 ⊢;rintro (((h|h)|h)|h);exact h1 (.inl (.inl h));exact h2 h;exact h1 (.inl (.inr h));exact h1 (.inr h))]
 simp only [Dg,not_or,Kq,ma,bne_iff_ne,ne_eq,mb] at h1
 obtain ⟨⟨hx,hc⟩,hl⟩:=h1
 have hxn:=K1 hx
 have hln:∀e∈l,F7 E5 e=true:=fun e he=>K1 (by
  cases h:B2 e with
  | true=>rfl
  | false=>exact absurd (E7.2 ⟨e,he,by rw [h];rfl⟩) h2)
 by_cases h3:((Cb x).any fun t=>decide (At t c<0))=true
 ·rw [if_pos h3]
  obtain ⟨t,ht,hf⟩:=E7.1 h3
  rw [tx c l (of_decide_eq_true hf) x hxn (by rw [←U9];exact R0.2 ht)]
 rw [if_neg h3]
 have hfd:∀t,named t x=true→¬(At t c<0):=fun t ht hf=>h3 (E7.2 ⟨t,R0.1 (by rw [U9];exact ht),decide_eq_true hf⟩)
 rw [cg c l x hfd]
 have e:D3 l (C5 c x c.length) c.length=Jg (fun t=>l.getD (At t c).toNat Aw) x:=by
  have e1:C5 c x c.length=Jg (fun t=>C5 c (Bo t) c.length) x:=by
   conv=>lhs;rw [←gh x hxn]
   exact Ru c Bo x c.length
  rw [e1,Rv]
  refine Ys x fun t ht=>?_
  obtain ⟨j,hj,hjc⟩:=Fl (hfd t ht)
  obtain ⟨j',y,hy,hyn,hj'⟩:=find_mem.1 (hfd t ht)
  have hjj:j=j':=by omega
  subst hjj
  rw [O3 hc hj hjc (by rw [Cq,hy];exact hyn),if_neg (by omega),Rx hln (by omega) (by omega),if_neg (by omega),hj]
  rfl
 rw [e]
 show (if Bc _=true then _ else _)=_
 rw [D6]
 cases B2 (Jg (fun t=>l.getD (At t c).toNat Aw) x)<;>rfl
/-! How great the trees of ref21.Over are on the way. -/
mutual
theorem Un {f:Str→Expr} {S:Nat} (h1:1≤S):∀x:Expr,(∀t,named t x=true→sizeE (f t)≤S)→sizeE (Jg f x)≤sizeE x*S
 | .mk o t v k,h=>by
  rw [Jg]
  by_cases h2:(o==2)=true
  ·rw [if_pos h2,sizeE]
   have h3:=h t (by rw [Gq];show ((o==2&&t==t) || _)=true;rw [h2];simp)
   have:S≤(1+Bv k)*S:=S6 _ (by omega)
   omega
  rw [if_neg h2,sizeE,sizeE,G9]
  have:=Yu h1 k fun t ht=>h t (by rw [Gq];show (_ || H0 t k)=true;rw [ht];simp)
  omega
theorem Yu {f:Str→Expr} {S:Nat} (h1:1≤S):∀x:List Expr,(∀t,H0 t x=true→sizeE (f t)≤S)→Bv (Jh f x)≤Bv x*S
  | [],_=>by simp [Jh,Bv]
  | e::r,h=>by
    rw [Jh,Bv,Bv,G9]
    have a:=Un h1 e fun t ht=>h t (by rw [Ew,ht];rfl)
    have b:=Yu h1 r fun t ht=>h t (by rw [Ew,ht];simp)
    omega
 end
theorem cj (f:Str→Expr):∀k,Jh f k=k.map (Jg f)
 | []=>rfl
 | e::r=>by rw [Jh,cj f r];rfl
theorem ck {t:Str} {x:Expr}:∀{k:List Expr},x∈k→named t x=true→H0 t k=true
 | a::r,h,hn=>by
  rw [Ew]
  rcases B3.1 h with rfl|h
  ·rw [hn];rfl
  rw [ck h hn];simp
theorem gi {f:Str→Expr} {m:Nat}:∀(n:Nat) (x:Expr),okE n x→(∀t,named t x=true→okE m (f t))→okE (n+m) (Jg f x)
 | 0,x,h,_=>h.elim
 | n+1,.mk o t v k,h,hf=>by
  rw [Jg]
  by_cases h2:(o==2)=true
  ·rw [if_pos h2]
   exact Fq (by omega) (hf t (by rw [Gq];show ((o==2&&t==t) || _)=true;rw [h2];simp))
  rw [if_neg h2,show n+1+m=(n+m)+1 by omega,cj]
  refine ⟨h.1,by show (k.map (Jg f)).length≤_;rw [Ag];exact h.2.1,fun z hz=>?_⟩
  have hz':z∈k.map (Jg f):=hz
  obtain ⟨y,hy,rfl⟩:=Cj.1 hz'
  exact gi n y (h.2.2 y hy) fun t ht=>hf t (by rw [Gq];show (_ || H0 t k)=true;rw [ck hy ht];simp)
theorem gj {s:Str} (h:s.length≤1048576):okE 1 (Bo s):=⟨h,by simp [Bo,Expr.kids],fun z hz=>by simp [Bo,Expr.kids] at hz⟩
theorem cm (s:Str):sizeE (Bo s)=1:=rfl
/-- What ref21.Over stands on behind its checks. -/
structure OverOk (x:Expr) (c:List Col) (l:List Expr):Prop where
 hx:B2 x=true
 hc:F8 c=true
 hl:c.length=l.length
 top:c.length<100
 all:∀e∈l,B2 e=true
 fd:∀t,named t x=true→¬(At t c<0)
theorem OverOk.m1 {x:Expr} {c:List Col} {l:List Expr} (h:OverOk x c l) (i:Nat):C5 c x i=Jg (fun t=>C5 c (Bo t) i) x:=by
 conv=>lhs;rw [←gh x (K1 h.hx)]
 exact Ru c Bo x i
theorem OverOk.name {x:Expr} {c:List Col} {l:List Expr} (h:OverOk x c l) {t:Str} (ht:named t x=true) (i:Nat):C5 c (Bo t) i=Bo t∨∃j,C5 c (Bo t) i=Bo (H6 j):=by
 obtain ⟨j,hj,hjc⟩:=Fl (h.fd t ht)
 obtain ⟨j',y,hy,hyn,hj'⟩:=find_mem.1 (h.fd t ht)
 have hjj:j=j':=by omega
 subst hjj
 rw [O3 h.hc hj hjc (by rw [Cq,hy];exact hyn)]
 split
 ·exact .inl rfl
 exact .inr ⟨_,rfl⟩
theorem qv {t:Str} (h:Hl t=true):t.length≤16:=by
 cases t with
 | nil=>simp
 | cons c r =>
  simp only [Hl,Az,decide_eq_true_eq] at h
  exact h.1.1.1
theorem OverOk.marks {x:Expr} {c:List Col} {l:List Expr} (h:OverOk x c l) (i:Nat):okE 31 (C5 c x i)∧sizeE (C5 c x i)≤300:=by
 have h0:=Hw h.hx
 rw [h.m1 i]
 refine ⟨gi (m:=1) 30 x h0.1 fun t ht=>?_,?_⟩
 ·rcases h.name ht i with e|⟨j,e⟩
  ·rw [e]
   exact gj (by have:=qv (Rw x (K1 h.hx) ht);omega)
  rw [e]
  exact gj (by simp [H6])
 have:=Un (f:=fun t=>C5 c (Bo t) i) (S:=1) (An _) x fun t ht=>by
  rcases h.name ht i with e|⟨j,e⟩<;>rw [e]<;>exact An _
 omega
theorem OverOk.f1 {x:Expr} {c:List Col} {l:List Expr} (h:OverOk x c l) (i:Nat):D3 l (C5 c x c.length) i=Jg (fun t=>D3 l (C5 c (Bo t) c.length) i) x:=by
 rw [h.m1,Rv]
theorem OverOk.fill {x:Expr} {c:List Col} {l:List Expr} (h:OverOk x c l) {t:Str} (ht:named t x=true) (i:Nat):(∃j,D3 l (C5 c (Bo t) c.length) i=Bo (H6 j))∨D3 l (C5 c (Bo t) c.length) i∈l:=by
 obtain ⟨j,hj,hjc⟩:=Fl (h.fd t ht)
 obtain ⟨j',y,hy,hyn,hj'⟩:=find_mem.1 (h.fd t ht)
 have hjj:j=j':=by omega
 subst hjj
 have hl:=h.hl
 have ht:=h.top
 rw [O3 h.hc hj hjc (by rw [Cq,hy];exact hyn),if_neg (by omega),Rx (fun e he=>K1 (h.all e he)) (by omega) (by omega)]
 split
 ·exact .inl ⟨j,rfl⟩
 refine .inr ?_
 rw [Cq,Ac (by omega)]
 exact As (by omega)
theorem OverOk.fills {x:Expr} {c:List Col} {l:List Expr} (h:OverOk x c l) (i:Nat):okE 60 (D3 l (C5 c x c.length) i)∧sizeE (D3 l (C5 c x c.length) i)≤90000:=by
 have h0:=Hw h.hx
 rw [h.f1 i]
 refine ⟨gi (m:=30) 30 x h0.1 fun t ht=>?_,?_⟩
 ·rcases h.fill ht i with ⟨j,e⟩|e
  ·rw [e]
   exact Fq (by omega) (gj (by simp [H6]))
  exact (Hw (h.all _ e)).1
 have:=Un (f:=fun t=>D3 l (C5 c (Bo t) c.length) i) (S:=300) (by decide) x fun t ht=>by
  rcases h.fill ht i with ⟨j,e⟩|e
  ·rw [e,cm];decide
  exact (Hw (h.all _ e)).2
 have h2:sizeE x*300≤300*300:=M9 _ h0.2
 omega
theorem AMo (i:Nat) (h:i<100):IntKind.u8.wrap (97+(i:Int))=((UInt8.ofNat (97+i)).toNat:Int):=by
 have e:(UInt8.ofNat (97+i)).toNat=(97+i) % 256:=UInt8.toNat_ofNat'
 rw [e]
 simp [IntKind.wrap,IntKind.signed,IntKind.bits]
theorem AFb {x:Expr} {c:List Col} {l:List Expr} (h:(((!(B2 x)) || !(F8 c)) || ((c.length:Int) != (l.length:Int)))=true):Qv x c l=(Aw,1):=if_pos h
theorem AFc {x:Expr} {c:List Col} {l:List Expr} (h:(((!(B2 x)) || !(F8 c)) || ((c.length:Int) != (l.length:Int)))=false) {e:Expr} (he:e∈l) (h2:B2 e=false):Qv x c l=(Aw,1):=by
 unfold Qv
 rw [if_neg (by rw [h];simp),if_pos (E7.2 ⟨e,he,by rw [h2];rfl⟩)]
theorem AFd {x:Expr} {c:List Col} {l:List Expr} (h:(((!(B2 x)) || !(F8 c)) || ((c.length:Int) != (l.length:Int)))=false) (h2:∀(j:Nat) (e:Expr),l[j]? = some e→(!(B2 e))=false):l.any (fun e => !(B2 e))=false∧Qv x c l=if (Cb x).any (fun t=>decide (At t c<0)) then (Aw,9)
 else if !(B2 (D3 l (C5 c x c.length) c.length)) then (Aw,3)
 else (D3 l (C5 c x c.length) c.length,0):=by
 have h3:l.any (fun e => !(B2 e))=false:=by
  rw [Jq]
  intro e he
  obtain ⟨j,hj⟩:=C9 he
  rw [h2 j e hj]
  simp
 refine ⟨h3,?_⟩
 unfold Qv
 rw [if_neg (by rw [h];simp),if_neg (by rw [h3];simp)]
theorem AC6 {x:Expr} {c:List Col} {l:List Expr} (h:(((!(B2 x)) || !(F8 c)) || ((c.length:Int) != (l.length:Int)))=false) (h2:l.any (fun e => !(B2 e))=false) (h100:c.length<100) (h3:∀(j:Nat) (t:Str),(Cb x)[j]? = some t→decide (At t c<0)=false):OverOk x c l:=by
 simp only [Dn,Mh,bne_eq_false_iff_eq] at h
 refine ⟨h.1.1,h.1.2,by omega,h100,fun e he=>?_,fun t ht=>?_⟩
 ·rw [Jq] at h2
  simpa using h2 e he
 have:t∈Cb x:=R0.1 (by rw [U9];exact ht)
 obtain ⟨j,hj⟩:=C9 this
 simpa using h3 j t hj
theorem AC7 {c:List Col} {x:Expr} {i:Nat} (h:i<c.length):C5 c x (i+1)=Ik c[i].name (Bo (H6 i)) (C5 c x i):=by rw [C5,Ac h]
theorem AC8 {l:List Expr} {x:Expr} {i:Nat} (h:i<l.length):D3 l x (i+1)=Ik (H6 i) l[i] (D3 l x i):=by rw [D3,Ac h]
theorem c91 (i:Nat) (h:i<100) (Hp:List AObj):AFun Tryz.prog 91 [A4 (i:Nat)] Hp (Ab (H6 i)):=by
 refine Ah [.tmp 2] [0] Tryz.func91 Tryz.ntmps91 (fun d=>?_)
 refine Z44 ?_;refine Z2 ?_
 refine A5 (h:=Q.add64 (h1:=fun _=>by omega) (h2:=fun _=>by omega)) (hr:=?_)
 refine A5 ?_
 rw [AMo i h]
 refine Ns ?_;refine R.bytesStr [UInt8.ofNat (97+i)] jU jU jU ?_
 refine A5 (h:=Q.sadd (hl:=fun _=>by simp only [B8,Bq];omega)) (hr:=?_)
 exact AD7

theorem c44 (x:Expr) (hok:okE 61 x) (hsz:sizeE x≤1048576) (c:List Col) (hc:OkCols c) (h100:c.length<100) (l:List Expr) (hll:l.length≤1048576) (hlo:∀e∈l,okE 61 e) (hls:∀e∈l,sizeE e≤1048576) (Hp:List AObj):AFun Tryz.prog 44 [A7 x,Ai c,Bd l] Hp (.tup [A7 (Qv x c l).1,A4 (Qv x c l).2]):=by
 refine Ah [.cell 6 27,.tmp 7] [0,1,2] Tryz.func44 Tryz.ntmps44 (fun d=>?_)
 refine nf ?_;refine Rd ?_;refine n8 ?_;refine Z25 ?_;refine Aa Tryz.call87 (c87 61 x hok (by decide) hsz _) ?_;refine Z95 ?_;refine Bm Tryz.call40 (fun hB=>c40 c hc _) ?_;refine B7 ?_;refine Z52 ?_;refine Z80 ?_;refine A2 [1,2,3,6,27] ?_
 refine A3 (fun ht27=>?_) (fun ht27=>?_)
 ·simp only [Ag] at ht27
  have hm:=AFb ht27
  refine v9 ?_;exact Z84
 simp only [Ag] at ht27
 refine Mw ?_;refine vp ?_
 refine Bg (α:=Nat) (fun i=>⟨93,A6 1 (Ai c) (A6 2 (Bd l) (A6 3 (.ptr (oid Hp.length 0) 0) (A6 6 (.ptr (oid Hp.length 1) 0) (A6 8 (A4 (i:Nat)) (fun _=>.any))))),Hp,[.cells 27 (D0 x),.cells 27 [A4 0,Ab [],A4 0,A4 0,Ab [],.nil]],[],none⟩) (fun i=>i≤l.length∧∀(j:Nat) (y:Expr),j<i→l[j]? = some y→(!(B2 y))=false) (fun i=>l.length-i) (0) ⟨Ao _,fun j y h=>by omega⟩ (B4 (by simp)) rfl (fun i hi=>?_)
 refine Z46 ?_;refine A2 [1,2,3,6,8,32] ?_
 refine A3 (fun ht32=>?_) (fun ht32=>?_)
 ·have hlt:i<l.length:=by simpa using ht32
  refine Sk ?_
  refine A5 (h:=Ad (i) (A7 l[i]) (fun _=>Ar hlt)) (hr:=?_)
  refine A5 ?_;refine Aa Tryz.call87 (c87 61 l[i] (hlo _ (As hlt)) (by decide) (hls _ (As hlt)) _) ?_;refine A5 ?_;refine A2 [1,2,3,6,8,40] ?_
  refine A3 (fun ht40=>?_) (fun ht40=>?_)
  ·have hm:=AFc ht27 (As hlt) (by simpa using ht40)
   refine v9 ?_;refine ef ?_;exact AJe
  refine Z68 ?_;refine vp ?_;exact Au (i+1) ⟨hlt,Bw hlt hi.2 ht40⟩ (by omega) (Bk rfl)
 have hxe:l.length≤i:=by simpa using ht32
 obtain ⟨hany,hm3⟩:=AFd ht27 (fun j y hy=>hi.2 j y (by have:=(Ae.1 hy).1;omega) hy)
 have hnl:=wu x
 refine Zk ?_;refine Aa Tryz.call89 (c89 x hsz _) ?_;refine A5 ?_;refine A2 [1,2,3,6,9] ?_;refine Z25 ?_;refine A2 [1,2,3,6,9,10] ?_
 refine Bg (α:=Nat) (fun i=>⟨93,A6 1 (Ai c) (A6 2 (Bd l) (A6 3 (.ptr (oid Hp.length 0) 0) (A6 6 (.ptr (oid Hp.length 1) 0) (A6 9 (E4 (Cb x)) (A6 10 (A4 (i:Nat)) (fun _=>.any)))))),Hp,[.cells 27 (D0 x),.cells 27 [A4 0,Ab [],A4 0,A4 0,Ab [],.nil]],[],none⟩) (fun i=>i≤(Cb x).length∧∀(j:Nat) (y:Str),j<i→(Cb x)[j]? = some y→decide (At y c<0)=false) (fun i=>(Cb x).length-i) (0) ⟨Ao _,fun j y h=>by omega⟩ (B4 (by simp)) rfl (fun i hi=>?_)
 refine Z46 ?_;refine A2 [1,2,3,6,9,10,47] ?_
 refine A3 (fun ht47=>?_) (fun ht47=>?_)
 ·have hlt:i<(Cb x).length:=by simpa using ht47
  refine Sj ?_
  refine A5 (h:=Ad (i) (Ab (Cb x)[i]) (fun _=>Ar hlt)) (hr:=?_)
  refine A5 ?_;refine Aa Tryz.call41 (c41 c hc (Cb x)[i] _) ?_;refine A5 ?_;refine A2 [1,2,3,6,9,10,56] ?_
  refine A3 (fun ht56=>?_) (fun ht56=>?_)
  ·have hm:Qv x c l=(Aw,9):=by rw [hm3,if_pos (E7.2 ⟨_,As hlt,ht56⟩)]
   refine v9 ?_;refine ef ?_;exact AJe
  refine Z68 ?_;refine A2 [1,2,3,6,9,10] ?_;exact Au (i+1) ⟨hlt,Bw hlt hi.2 ht56⟩ (by omega) (Bk rfl)
 have hxe:(Cb x).length≤i:=by simpa using ht47
 have hn3:∀(j:Nat) (t:Str),(Cb x)[j]? = some t→decide (At t c<0)=false:=fun j y hy=>hi.2 j y (by have:=(Ae.1 hy).1;omega) hy
 have hov:=AC6 ht27 hany h100 hn3
 have hm4:=hm3.trans (if_neg (by rw [E7];rintro ⟨t,ht,hf⟩;obtain ⟨j,hj⟩:=C9 ht;rw [hn3 j t hj] at hf;cases hf))
 have hcl:=hov.hl
 refine ix ?_;refine A2 [1,2,3,6,11] ?_
 refine Bg (α:=Nat) (fun i=>⟨93,A6 1 (Ai c) (A6 2 (Bd l) (A6 3 (.ptr (oid Hp.length 0) 0) (A6 6 (.ptr (oid Hp.length 1) 0) (A6 11 (A4 (i:Nat)) (fun _=>.any))))),Hp,[.cells 27 (D0 (C5 c x i)),.cells 27 [A4 0,Ab [],A4 0,A4 0,Ab [],.nil]],[],none⟩) (fun i=>i≤c.length) (fun i=>c.length-i) (0) (Ao _) (B4 (by simp [C5])) rfl (fun i hi=>?_)
 refine Z46 ?_;refine A2 [1,2,3,6,11,61] ?_
 refine A3 (fun ht61=>?_) (fun ht61=>?_)
 ·have hlt:i<c.length:=by simpa using ht61
  refine Z35 ?_;refine Wv [0,0,0,6,14,30,0,64,192,511,1023] 9 Ap (by kernel_rfl) ?_;refine Z37 ?_
  refine Av (h:=Ad (i) (Bl c[i]) (fun _=>Ar hlt)) (hr:=?_)
  refine Z37 ?_;refine I3 Tryz.call91 (c91 i (by omega) _) ?_;refine To (places:=#[(0,1),(1,1),(2,3),(5,1)]) jU (fun w=>by simp) jZ ?_;refine Hf ?_;refine R.wk 72 _ (Qc (H6 i)) ?_;refine Aa Tryz.call90 (c90 c[i].name (Bo (H6 i)) 61 (C5 c x i) (Fq (by decide) (hov.marks i).1) _) ?_;refine Gz ?_;refine A2 [1,2,3,6,11] ?_;refine Z87 ?_;refine A2 [1,2,3,6,11] ?_;exact Au (i+1) hlt (by omega) (Bk (by rw [AC7 hlt];rfl))
 have hxe:i=c.length:=by simp at ht61;omega
 subst hxe
 refine ix ?_;refine A2 [1,2,3,6,12] ?_
 refine Bg (α:=Nat) (fun i=>⟨93,A6 1 (Ai c) (A6 2 (Bd l) (A6 3 (.ptr (oid Hp.length 0) 0) (A6 6 (.ptr (oid Hp.length 1) 0) (A6 12 (A4 (i:Nat)) (fun _=>.any))))),Hp,[.cells 27 (D0 (D3 l (C5 c x c.length) i)),.cells 27 [A4 0,Ab [],A4 0,A4 0,Ab [],.nil]],[],none⟩) (fun i=>i≤c.length) (fun i=>c.length-i) (0) (Ao _) (B4 (by simp [D3])) rfl (fun i hi=>?_)
 refine Z46 ?_;refine A2 [1,2,3,6,12,77] ?_
 refine A3 (fun ht77=>?_) (fun ht77=>?_)
 ·have hlt:i<c.length:=by simpa using ht77
  have hle:i<l.length:=by omega
  refine Z35 ?_;refine Wv [0,0,2,0,0,24,56,127,255] 7 Ap (by kernel_rfl) ?_;refine Z10 ?_;refine I3 Tryz.call91 (c91 i (by omega) _) ?_;refine Z10 ?_
  refine Av (h:=Ad (i) (A7 l[i]) (fun _=>Ar hle)) (hr:=?_)
  refine vj ?_;refine Aa Tryz.call90 (c90 (H6 i) l[i] 61 (D3 l (C5 c x c.length) i) (Fq (by decide) (hov.fills i).1) _) ?_;refine Gz ?_;refine A2 [1,2,3,6,12] ?_;refine Z87 ?_;refine A2 [1,2,3,6,12] ?_;exact Au (i+1) hlt (by omega) (Bk (by rw [AC8 hle];rfl))
 have hxe:i=c.length:=by simp at ht77;omega
 subst hxe
 refine ix ?_
 refine Aa Tryz.call87 (c87 61 (D3 l (C5 c x c.length) c.length) (Fq (by decide) (hov.fills c.length).1) (by decide) (by have:=(hov.fills c.length).2;omega) _) ?_
 refine A5 ?_;refine A2 [3,6,90] ?_
 refine A3 (fun ht90=>?_) (fun ht90=>?_)
 ·have hm:=hm4.trans (if_pos ht90)
  refine v9 ?_;exact Z84
 have hm:=hm4.trans (if_neg (by rw [ht90];simp))
 refine Z4 ?_;refine Z42 ?_;refine ef ?_;exact A9 (B9 (B5 jA jS) A8) ⟨by rw [hm];show _=AV.tup [A7 (D3 l (C5 c x c.length) c.length),A4 0];rw [Al]<;>rfl,rfl⟩ (hlow:=by simp [or_imp,forall_and,Am])

theorem Uo {take:List Str}:∀{c:List Col} {l:List Expr},E0 take c l=((c.zip l).filter fun p => !take.contains p.1.name).map (·.2)
 | [],[]=>rfl
 | [],_::_=>rfl
 | _::_,[]=>rfl
 | y::c,x::l=>by
  rw [E0,List.zip_cons_cons,R1]
  cases h:take.contains y.name with
  | true=>simp only [Kr,Ay,if_false,if_true];exact Uo
  | false=>simp only [Th,Ay,if_false,if_true,Br];rw [Uo]
theorem cn {take:List Str}:∀{c:List Col} {l:List Expr},c.length=l.length→Cd c take=((c.zip l).filter fun p => !take.contains p.1.name).map (·.1)
 | [],[],_=>rfl
 | [],_::_,h=>by simp at h
 | _::_,[],h=>by simp at h
 | y::c,x::l,h=>by
  have ih:=cn (take:=take) (c:=c) (l:=l) (by simpa using h)
  unfold Cd at ih ⊢
  rw [List.zip_cons_cons,R1,R1]
  cases h:take.contains y.name with
  | true=>simp only [Kr,Ay,if_false];exact ih
  | false=>simp only [Th,if_true,Br];rw [ih]
theorem xd {take:List Str} {c:List Col} {l:List Expr} (hl:c.length=l.length) (hn:(c.map (·.name)).Nodup):E0 take c l=(Cd c take).map fun y=>l.getD (At y.name c).toNat Aw:=by
 rw [Uo,cn hl,N9]
 refine S3 fun p hp=>?_
 obtain ⟨i,hi⟩:=C9 (Vr.1 hp).1
 rw [da] at hi
 show p.2=l.getD (At p.1.name c).toNat Aw
 rw [Ro hn hi.1,Int.toNat_natCast,Cq,hi.2]
 rfl
theorem AC9 {c:List Col} {take:List Str} {y:Col} (h:y∈Cd c take):y∈c:=by
 unfold Cd at h
 exact (Vr.1 h).1
theorem ACa {c:List Col} (hn:(c.map (·.name)).Nodup) {y:Col} (h:y∈c):¬At y.name c<0:=by
 obtain ⟨i,hi⟩:=C9 h
 rw [Ro hn hi]
 omega
theorem Yv {c:List Col} {l0:List Mov}:∀e∈Be c l0 0,sizeE e≤1048576:=by
 intro e he
 obtain ⟨y,_,rfl⟩:=Cj.1 he
 rw [cm]
 decide
theorem O4 {c:List Col} {t:List Expr}:∀(l:List Expr),(C3 c t l).2=0→∀e∈(C3 c t l).1,Bc e=true
 | [],_,e,h=>by cases h
 | x::r,he,e,h=>by
  unfold C3 at he h
  split at he
  ·rename_i h3
   exact absurd he (by simpa using h3)
  rename_i h3
  rw [if_neg h3] at h
  split at he
  ·rename_i h4
   exact absurd he (by simpa using h4)
  rename_i h4
  rw [if_neg h4] at h
  rcases B3.1 h with rfl|h
  ·have h5:(Dr x c t).2=0:=by simpa using h3
   unfold Dr at h5 ⊢
   split at h5
   ·exact absurd (show (1:Int)=0 from h5) (by decide)
   rename_i h6
   rw [if_neg h6]
   cases hp:putF c t x with
   | none=>rw [hp] at h5;exact absurd (show (9:Int)=0 from h5) (by decide)
   | some y =>
    rw [hp] at h5
    simp only at h5 ⊢
    split at h5
    ·rename_i h7
     rw [if_pos h7];exact h7
    exact absurd (show (3:Int)=0 from h5) (by decide)
  exact O4 r (by simpa using h4) e h
theorem xe {c:List Col} {ms:List Mov} {k:Nat} {m:Mov} (hk:ms[k]? = some m) (h:∀e∈Be c ms k,sizeE e≤1048576) (he:((C3 (colsAt c ms k) (Be c ms k) m.ahead).2 != 0)=false):∀e∈Be c ms (k+1),sizeE e≤1048576:=by
 intro e h2
 rw [Be,hk] at h2
 rcases Ds.1 h2 with h2|h2
 ·exact h e (Li e h2)
 have h3:=O4 m.ahead (by simpa using he) e h2
 rw [D6] at h3
 have:=(Hw h3).2
 omega
theorem c16 (c:List Col) (hc:OkCols c) (l:List Mov) (h:OkMovs l) (hS:((Cg c l).2 != 0)=false) (Hp:List AObj):AFun Tryz.prog 16 [Ai c,Dm l] Hp (.tup [Bd (Es c l).1,A4 (Es c l).2]):=by
 refine Ah [.tmp 4,.tmp 5] [0,1] Tryz.func16 Tryz.ntmps16 (fun d=>?_)
 refine vh ?_;refine Zh ?_;refine A2 [0,1,6] ?_;refine Z25 ?_;refine A2 [0,1,6,7] ?_
 refine Bg (α:=Nat) (fun x=>⟨108,A6 0 (Ai c) (A6 1 (Dm l) (A6 6 (.slice true 6 (((c.take x).map fun y=>Bo y.name).map A7)) (A6 7 (A4 (x:Nat)) (fun _=>.any)))),Hp,[],[],none⟩) (fun x=>x≤c.length) (fun x=>c.length-x) (0) (Ao _) (B4 (by simp)) rfl (fun x hx=>?_)
 refine Z46 ?_;refine A2 [0,1,6,7,21] ?_
 refine A3 (fun ht21=>?_) (fun ht21=>?_)
 ·have hlt:x<c.length:=by simpa using ht21
  have hcl:=hc.1
  refine Z35 ?_;refine Z83 ?_;refine Z0 ?_
  refine A5 (h:=Ad (x) (Bl c[x]) (fun _=>Ar hlt)) (hr:=?_)
  refine AGt ?_;refine R.wk 30 _ (Qc c[x].name) ?_;refine Ns ?_
  refine D5 jU Tryz.type27 ?_ ?_ ?_
  ·simp only [Ag,Bx,B8,Bq,Tryz.t27];omega
  ·simp only [Ag,Bx,B8,Bq,Tryz.t27];omega
  refine Kk ?_;refine A2 [0,1,6,7] ?_;refine Z87 ?_;refine A2 [0,1,6,7] ?_;refine Au (x+1) hlt (by omega) ?_
  rw [Iu hlt,Bn]
  exact Di (own:=[]) (fun _=>.refl _) (by repeat (first|exact Bt|refine Bs (by first|exact Iq|exact Cr|exact Iv|exact Dq|exact Kn|(simp [or_imp,forall_and];done)) ?_)) (by simp) (by simp)
 have hxe:c.length≤x:=by simpa using ht21
 have hm:=Ul hS
 obtain ⟨hmay,hst,hss⟩:=K5 hS
 obtain ⟨hmv,hl8⟩:=g9 hmay h
 have hrc:Cx c=true:=by unfold K3 at hmay;simp only [Az] at hmay;exact hmay.1
 refine Z36 ?_;refine Z53 ?_
 rw [Cu hxe]
 refine R.wk 6 _ (.strip true 6 _) ?_;refine A5 ?_;refine A2 [0,1,6,8] ?_
 refine Bg (α:=Nat) (fun k=>⟨108,A6 0 (Ai (colsAt c l k)) (A6 1 (Dm l) (A6 6 (Bd (Be c l k)) (A6 8 (A4 (k:Nat)) (fun _=>.any)))),Hp,[],[],none⟩) (fun k=>k≤l.length∧M2 c l k∧TOk (Be c l k)∧(Be c l k).length=(colsAt c l k).length∧(∀e∈(Be c l k),sizeE e≤1048576)) (fun k=>l.length-k) (0) ⟨Ao _,AIi,Yh hc,by simp [Be,L7,colsAt],Yv⟩ (B4 rfl) rfl (fun k hk=>?_)
 refine Z46 ?_;refine A2 [0,1,6,8,36] ?_
 refine A3 (fun ht36=>?_) (fun ht36=>?_)
 ·have hlt:k<l.length:=by simpa using ht36
  have hmk:l[k]? = some l[k]:=Ac hlt
  have hmo:=h.each _ (As hlt)
  obtain ⟨_,hnf,hTo,hTl,hTs⟩:=hk
  have hCo:=Ez hc (fun m hm=>h.each m hm) k
  have hCr:=O0 hrc hst k
  have hC12:=(Pj (by rw [J6];exact hCr)).1
  have hCn:=(Pj (by rw [J6];exact hCr)).2.2
  have hC1:(colsAt c l k).length<100:=by omega
  have htn:=Sz hst hmk
  have hteq:=(Pp htn).1
  have hcnt:=(Gm (Lg (Lj hmay _ (As hlt)))).1
  have hgl:=It (colsAt c l k) l[k]
  have hal:=hmo.ahead.len
  refine Sj ?_
  refine A5 (h:=Ad (k) (G5 l[k]) (fun _=>Ar hlt)) (hr:=?_)
  refine A5 ?_;refine Aa Tryz.call38 (c38 (colsAt c l k) hCo l[k] (hmv _ (As hlt)) _) ?_;refine Z82 ?_;refine A2 [0,1,6,8,9] ?_;refine Zh ?_;refine A2 [0,1,6,8,9,11] ?_;refine Z25 ?_;refine A2 [0,1,6,8,9,11,12] ?_
  refine Bg (α:=Nat) (fun i=>⟨108,A6 0 (Ai (colsAt c l k)) (A6 1 (Dm l) (A6 6 (Bd (Be c l k)) (A6 8 (A4 (k:Nat)) (A6 9 (Ai (Ba (colsAt c l k) l[k]).1) (A6 11 (.slice true 6 (((l[k].ahead.take i).map (fun e=>(Dr e (colsAt c l k) (Be c l k)).1)).map A7)) (A6 12 (A4 (i:Nat)) (fun _=>.any))))))),Hp,[],[],none⟩) (fun i=>i≤l[k].ahead.length∧∀(j:Nat) (y:Expr),j<i→l[k].ahead[j]? = some y→((Dr y (colsAt c l k) (Be c l k)).2 != 0)=false) (fun i=>l[k].ahead.length-i) (0) ⟨Ao _,fun j y h=>by omega⟩ (B4 (by simp)) rfl (fun i hi=>?_)
  refine Z30 ?_
  refine A5 (h:=Ad (k) (G5 l[k]) (fun _=>Ar hlt)) (hr:=?_)
  refine Z75 ?_;refine A2 [0,1,6,8,9,11,12,56] ?_
  refine A3 (fun ht56=>?_) (fun ht56=>?_)
  ·have hli:i<l[k].ahead.length:=by simpa using ht56
   refine Sk ?_
   refine A5 (h:=Ad (k) (G5 l[k]) (fun _=>Ar hlt)) (hr:=?_)
   refine Z8 ?_
   refine A5 (h:=Ad (i) (A7 l[k].ahead[i]) (fun _=>Ar hli)) (hr:=?_)
   refine Z8 ?_;refine Aa Tryz.call44 (c44 l[k].ahead[i] (hmo.ahead.ok _ (As hli)) (hmo.ahead.size _ (As hli)) (colsAt c l k) hCo hC1 (Be c l k) (by omega) hTo.ok hTs _) ?_
   rw [←W9 hC1]
   refine Qf ?_;refine A2 [0,1,6,8,9,11,12,13,14] ?_;refine Z7 ?_;refine A2 [0,1,6,8,9,11,12,13,14,74] ?_
   refine A3 (fun ht74=>?_) (fun ht74=>?_)
   ·have hm2:=qi hmk hnf (by rw [N7 hi.2 (Ac hli) ht74];exact ht74)
    rw [N7 hi.2 (Ac hli) ht74] at hm2
    refine Z1 ?_;refine zf ?_;refine Z41 ?_;refine Z28 ?_;refine Z28 ?_;exact ALc
   refine vl ?_
   refine D5 jU Tryz.type27 ?_ ?_ ?_
   ·simp only [Ag,Bx,B8,Bq,Tryz.t27];omega
   ·simp only [Ag,Bx,B8,Bq,Tryz.t27];omega
   refine Kk ?_;refine A2 [0,1,6,8,9,11,12] ?_;refine Z87 ?_;refine A2 [0,1,6,8,9,11,12] ?_;refine Au (i+1) ⟨hli,Bw hli hi.2 ht74⟩ (by omega) ?_
   rw [Iu hli,Bn]
   rw [Br,Ct,Al]
   simp only [show Tryz.t27.size=6 from rfl]
   exact Di (own:=[]) (fun _=>.refl _) (by repeat (first|exact Bt|refine Bs (by first|exact K4|exact Cr|exact Iv|exact Dq|exact Kn|(simp [or_imp,forall_and];done)) ?_)) (by simp) (by simp)
  have hie:l[k].ahead.length≤i:=by simpa using ht56
  have hov:=Qe fun j y hy=>hi.2 j y (by have:=(Ae.1 hy).1;omega) hy
  have hbn:((C3 (colsAt c l k) (Be c l k) l[k].ahead).2 != 0)=false:=by rw [hov];rfl
  rw [Cu hie]
  have hDl:=congrArg List.length hteq
  simp only [Ax] at hDl
  have hsl0:=F1 (colsAt c l k) l[k].take
  refine Z36 ?_;refine Zh ?_;refine A2 [0,1,6,8,9,11,15] ?_;refine Z25 ?_;refine A2 [0,1,6,8,9,11,15,16] ?_
  refine Bg (α:=Nat) (fun q=>⟨108,A6 0 (Ai (colsAt c l k)) (A6 1 (Dm l) (A6 6 (Bd (Be c l k)) (A6 8 (A4 (k:Nat)) (A6 9 (Ai (Ba (colsAt c l k) l[k]).1) (A6 11 (.slice true 6 ((l[k].ahead.map (fun e=>(Dr e (colsAt c l k) (Be c l k)).1)).map A7)) (A6 15 (.slice true 6 ((((Cd (colsAt c l k) l[k].take).take q).map (fun y:Col=>(Be c l k).getD (At y.name (colsAt c l k)).toNat Aw)).map A7)) (A6 16 (A4 (q:Nat)) (fun _=>.any)))))))),Hp,[],[],none⟩) (fun q=>q≤(Cd (colsAt c l k) l[k].take).length) (fun q=>(Cd (colsAt c l k) l[k].take).length-q) (0) (Ao _) (B4 (by simp)) rfl (fun q hq=>?_)
  refine Z99 ?_
  refine A5 (h:=Q.sub64 (h1:=fun _=>by simp only [Ag];omega) (h2:=fun _=>by simp only [Ag];omega)) (hr:=?_)
  refine A5 ?_;refine A2 [0,1,6,8,9,11,15,16,87] ?_
  refine A3 (fun ht87=>?_) (fun ht87=>?_)
  ·have hql:q<(Cd (colsAt c l k) l[k].take).length:=by
    have:=congrArg List.length hteq
    simp only [Ax] at this
    simp only [Ag,decide_eq_true_eq] at ht87
    omega
   have hdq:((Ba (colsAt c l k) l[k]).1.map Bl)[q]? = some (Bl (Cd (colsAt c l k) l[k].take)[q]):=by
    rw [hteq,Ch,Dw hql,Ac hql]
    rfl
   have hgq:=(Yg (c:=(colsAt c l k)) (l:=(Be c l k)) (s:=(Cd (colsAt c l k) l[k].take)[q].name) hTl.symm (ACa hCn (AC9 (As hql))))
   obtain ⟨hgq,hgq2,hgq3⟩:=hgq
   have hsl:=F1 (colsAt c l k) l[k].take
   refine Z35 ?_;refine Z83 ?_;refine Z75 ?_
   refine A5 (h:=Ad (q) (Bl (Cd (colsAt c l k) l[k].take)[q]) (fun _=>hdq)) (hr:=?_)
   refine Z0 ?_;refine Aa Tryz.call41 (c41 (colsAt c l k) hCo (Cd (colsAt c l k) l[k].take)[q].name _) ?_
   refine A5 (h:=Ad ((At (Cd (colsAt c l k) l[k].take)[q].name (colsAt c l k)).toNat) (A7 ((fun y:Col=>(Be c l k).getD (At y.name (colsAt c l k)).toNat Aw) (Cd (colsAt c l k) l[k].take)[q])) (fun _=>hgq)) (hr:=?_)
   refine Z55 ?_
   refine D5 jU Tryz.type27 ?_ ?_ ?_
   ·simp only [Ag,Bx,B8,Bq,Tryz.t27];omega
   ·simp only [Ag,Bx,B8,Bq,Tryz.t27];omega
   refine Kk ?_;refine A2 [0,1,6,8,9,11,15,16] ?_;refine Z87 ?_;refine A2 [0,1,6,8,9,11,15,16] ?_
   refine Au (q+1) hql (by omega) (Bk ?_)
   rw [Iu hql,Bn,Br,Ct,Al]
   rfl
  have hqe:(Cd (colsAt c l k) l[k].take).length≤q:=by
   have:=congrArg List.length hteq
   simp only [Ax] at this
   simp only [Ag,decide_eq_false_iff_not] at ht87
   omega
  rw [Cu hqe,←xd hTl.symm hCn]
  have hsl:=F1 (colsAt c l k) l[k].take
  have hstl:=Lh (take:=l[k].take) hTl.symm
  refine Z36 ?_;refine Ef ?_;refine R.moveT ?_;refine A5 ?_
  refine D5 jU Tryz.type27 ?_ ?_ ?_
  ·simp only [Ag,Bx,B8,Bq,Tryz.t27];omega
  ·simp only [Ag,Bx,B8,Bq,Tryz.t27];omega
  refine R.wk 105 _ (.strip true 6 _) ?_;refine A5 ?_;refine A2 [1,6,8,9] ?_;refine Z45 ?_;refine A2 [0,1,6,8] ?_;refine Z87 ?_;refine A2 [0,1,6,8] ?_
  refine Au (k+1) ⟨hlt,ga hmk hnf hbn,gb hmk hmo hTo hbn,Yi hmk (Lj hmay _ (As hlt)) htn hTl hbn,xe hmk hTs hbn⟩ (by omega) (Bk ?_)
  rw [lb hmk,Fh hmk,hov]<;>rfl
 have hke:k=l.length:=by have:=hk.1;simp at ht36;omega
 subst hke
 have hm2:=qj hk.2.1
 refine Z36 ?_;refine Z16 ?_;exact AJd

/-! The trees of all columns ahead, from the last move to the first. -/
def Fa (c:List Col):List Mov→List Expr×Int
 | []=>(L7 c,0)
 | m::r=>if (Fa (Ba c m).1 r).2 != 0 then ([],(Fa (Ba c m).1 r).2) else if (C3 (Ba c m).1 (Fa (Ba c m).1 r).1 m.back).2 != 0 then ([],(C3 (Ba c m).1 (Fa (Ba c m).1 r).1 m.back).2)
  else (I1 c m.take (C3 (Ba c m).1 (Fa (Ba c m).1 r).1 m.back).1 (Fa (Ba c m).1 r).1 (Ba c m).1,0)
theorem ln {c:List Col} {m:Mov} (hc:OkCols c) (hm:OkMov m):OkCols (Ba c m).1:=by
 simpa [colsAt] using Ez hc (ms:=[m]) (fun x hx=>by rw [Bh.1 hx];exact hm) 1
theorem co {c:List Col} (h:Cx c=true):((Cg c []).2 != 0)=false:=by
 have:K3 c []=true:=by unfold K3;rw [h];rfl
 unfold Cg Fe
 rw [if_pos this]
 rfl
theorem xf {c:List Col} (h:Cx c=true):Es c []=(L7 c,0):=by rw [Ul (co h)];rfl
theorem qw {c:List Col} {m:Mov} {r:List Mov} (h:(C2 c (m::r)).2=0):(Ba c m).2=0∧(C2 (Ba c m).1 r).2=0:=by
 unfold C2 at h
 split at h
 ·rename_i h1;exact absurd h (by simpa using h1)
 rename_i h1;exact ⟨by simpa using h1,h⟩
theorem ACb {c d:List Col} {take:List Str} {was t:List Expr} {p:Expr→Prop} (h0:p Aw) (hw:∀e∈was,p e) (ht:∀e∈t,p e):∀e∈I1 c take was t d,p e:=fun e he=>by
 obtain ⟨x,_,rfl⟩:=Cj.1 he
 rcases tq (take:=take) (was:=was) (t:=t) (d:=d) (x:=x) with h|h|h
 ·exact hw _ h
 ·exact ht _ h
 rw [h];exact h0
/-- Trees that may be put. -/
structure BOk (t:List Expr) (n:Nat):Prop where
 tok:TOk t
 size:∀e∈t,sizeE e≤1048576
 len:t.length=n
theorem T7:∀(l:List Mov) (c:List Col),OkCols c→(∀m∈l,OkMov m)→(Fa c l).2=0→BOk (Fa c l).1 c.length
 | [],c,hc,_,_=>⟨Yh hc,Yv (c:=c) (l0:=[]),by simp [Fa,L7]⟩
 | m::r,c,hc,hm,h=>by
  have hmo:=hm m Iy
  unfold Fa at h ⊢
  split at h
  ·rename_i h1;exact absurd h (by simpa using h1)
  rename_i h1
  rw [if_neg h1]
  have ih:=T7 r _ (ln hc hmo) (fun x hx=>hm x (K7 _ hx)) (by simpa using h1)
  split at h
  ·rename_i h2;exact absurd h (by simpa using h2)
  rename_i h2
  rw [if_neg h2]
  have h3:=O4 m.back (by simpa using h2)
  refine ⟨lc (Qd ih.tok _ hmo.back.ok hmo.back.rng (by simpa using h2)) ih.tok,ACb (by decide) (fun e he=>?_) ih.size,by simp [I1]⟩
  have h4:=h3 e he
  rw [D6] at h4
  have:=(Hw h4).2
  omega
/-- Where a name was last met among the first k. -/
def O5 (v:Str) (l:List Str) (k:Nat):Int:=if 0≤I5 v l∧I5 v l<k then I5 v l else -1
theorem APq {v:Str} {l:List Str}:O5 v l 0 = -1:=if_neg (by omega)
theorem AIr {v:Str} {l:List Str} {k:Nat} (h:l.length≤k):O5 v l k=I5 v l:=by
 unfold O5
 split
 ·rfl
 rename_i h1
 by_cases h0:0≤I5 v l
 ·obtain ⟨j,hj,hjl⟩:=qq h0
  exact absurd ⟨h0,by omega⟩ h1
 have:I5 v l = -1:=by
  unfold I5 at h0 ⊢
  cases hf:l.findIdx? (·==v) with
  | none=>rfl
  | some i=>rw [hf] at h0;exact absurd (Int.natCast_nonneg i) h0
 exact this.symm
theorem xg {v:Str} {l:List Str} {k:Nat} (hn:l.Nodup) (hk:k<l.length) (h:l[k]=v):I5 v l=k:=pl hk h (fun j y hj hy e=>by
 have h':List.Pairwise (·≠·) l:=hn
 rw [Vu] at h'
 obtain ⟨hj',ej⟩:=Ae.1 hy
 exact h' j k hj' hk hj (by rw [ej,e,h]))
theorem AIs {v:Str} {l:List Str} {k:Nat} (hn:l.Nodup) (hk:k<l.length) (h:(l[k]==v)=true):O5 v l (k+1)=k:=by
 have:=xg hn hk (by simpa using h)
 unfold O5
 rw [this,if_pos ⟨by omega,by omega⟩]
theorem AFe {v:Str} {l:List Str} {k:Nat} (hk:k<l.length) (h:(l[k]==v)=false):O5 v l (k+1)=O5 v l k:=by
 have hne:I5 v l≠k:=fun e=>by
  unfold I5 at e
  cases hf:l.findIdx? (·==v) with
  | none=>rw [hf] at e;exact absurd e (by simp)
  | some i =>
   rw [hf] at e
   have e2:i=k:=Int.ofNat.inj e
   subst e2
   have:=(Ll.1 hf).2.1
   rw [h] at this
   cases this
 unfold O5
 by_cases h1:0≤I5 v l∧I5 v l<k
 ·rw [if_pos h1,if_pos ⟨h1.1,by omega⟩]
 rw [if_neg h1,if_neg (by omega)]
theorem lq {c:List Col} {m:Mov} (h:(Ba c m).2=0):m.take.Nodup:=by
 unfold Ba at h
 split at h
 ·rename_i h1
  exact AHe
 rename_i h1
 exact (pz (sj (by simpa using h1:(D9 c m.take (Bf c m)).2=0)).2.1).2
set_option maxHeartbeats 1000000 in
theorem c18:∀(l:List Mov) (c:List Col),OkCols c→OkMovs l→Cx c=true→(∀m∈l,Fs m=true)→(C2 c l).2=0→∀Hp:List AObj,AFun Tryz.prog 18 [Ai c,Dm l] Hp (.tup [Bd (Fa c l).1,A4 (Fa c l).2]):=by
 intro l
 generalize hn:l.length=n
 induction n using Nat.strongRecOn generalizing l with
 | _ n ih =>
 intro c hc h hrc hmv hst Hp
 refine Ah [.tmp 4,.tmp 5] [0,1] Tryz.func18 Tryz.ntmps18 (fun d=>?_)
 refine vh ?_;refine Z30 ?_;refine A2 [0,1,21] ?_
 refine A3 (fun ht21=>?_) (fun ht21=>?_)
 ·obtain rfl:l=[]:=by simpa using ht21
  refine Z1 ?_;refine Aa Tryz.call16 (c16 c hc [] h (co hrc) _) ?_
  rw [xf hrc]
  refine Z75 ?_;refine Z41 ?_;exact A9 (B9 A8 A8) ⟨rfl,rfl⟩ (hlow:=by simp only [Ni,B3,Dt,or_false];rintro y (rfl|rfl);exact Cr;simp)
 obtain ⟨m,r,rfl⟩:∃m r,l=m::r:=by
  cases l with
  | nil=>simp at ht21
  | cons m r=>exact ⟨m,r,rfl⟩
 have hmo:=h.each m Iy
 have hm1:=hmv m Iy
 have hst2:=qw hst
 have hteq:=Pp hst2.1
 have hDo:=ln hc hmo
 have hnd:=lq hst2.1
 have hcl:=(Pj (by rw [J6];exact hrc)).1
 have hdl:=(Pj (by rw [J6];exact hteq.2.2)).1
 have hcnt:=(Gm (Lg hm1)).2
 have hbl:=hmo.back.len
 refine Of ?_
 refine A5 (h:=Ad (0) (G5 m) (fun _=>rfl)) (hr:=?_)
 refine Si ?_;refine A2 [0,1,6] ?_;refine Z1 ?_;refine Aa Tryz.call38 (c38 c hc m (t7 hmo (Lg hm1)) _) ?_;refine Z82 ?_;refine A2 [0,1,6,7] ?_;refine Z1 ?_
 refine A5 (h:=Q.cutL 1 (fun _=>by simp) (fun _=>An _)) (hr:=?_)
 refine Aa Tryz.call18 (ih r.length (by rw [←hn];simp) r rfl (Ba c m).1 hDo ⟨by have:=h.len;simp at this;omega,fun x hx=>h.each x (.tail _ hx)⟩ hteq.2.2 (fun x hx=>hmv x (.tail _ hx)) hst2.2 _) ?_
 refine Z82 ?_;refine A2 [0,6,7,9,10] ?_;refine Z7 ?_;refine A2 [0,6,7,9,10,44] ?_
 refine A3 (fun ht44=>?_) (fun ht44=>?_)
 ·have hm:Fa c (m::r)=([],(Fa (Ba c m).1 r).2):=by rw [Fa,if_pos ht44]
  refine Z1 ?_;refine zf ?_;exact Z70
 have hbo:=T7 r (Ba c m).1 hDo (fun x hx=>h.each x (.tail _ hx)) (by simpa using ht44)
 have hb:Fa c (m::r)=if (C3 (Ba c m).1 (Fa (Ba c m).1 r).1 m.back).2 != 0 then ([],(C3 (Ba c m).1 (Fa (Ba c m).1 r).1 m.back).2) else (I1 c m.take (C3 (Ba c m).1 (Fa (Ba c m).1 r).1 m.back).1 (Fa (Ba c m).1 r).1 (Ba c m).1,0):=by rw [Fa,if_neg (by rw [ht44];simp)]
 have hst3:∀y∈c,¬0≤I5 y.name m.take→∃j:Nat,At y.name (Ba c m).1=j∧j<(Ba c m).1.length:=fun y hy hn=>AG7 hst2.1 hy hn
 have hbl2:=hbo.len
 generalize (Fa (Ba c m).1 r).1=t at *
 generalize (Ba c m).1=d at *
 refine Z4 ?_;refine Zh ?_;refine A2 [0,6,7,9,11] ?_;refine Z25 ?_;refine A2 [0,6,7,9,11,12] ?_
 refine Bg (α:=Nat) (fun i=>⟨121,A6 0 (Ai c) (A6 6 (.ptr (oid Hp.length 0) 0) (A6 7 (Ai d) (A6 9 (Bd t) (A6 11 (.slice true 6 (((m.back.take i).map (fun e=>(Dr e d t).1)).map A7)) (A6 12 (A4 (i:Nat)) (fun _=>.any)))))),Hp,[AObj.cells 80 (Io m)],[],none⟩) (fun i=>i≤m.back.length∧∀(j:Nat) (y:Expr),j<i→m.back[j]? = some y→((Dr y d t).2 != 0)=false) (fun i=>m.back.length-i) (0) ⟨Ao _,fun j y h=>by omega⟩ (B4 (by simp)) rfl (fun i hi=>?_)
 refine Z99 ?_;refine A2 [0,6,7,9,11,12,51] ?_
 refine A3 (fun ht51=>?_) (fun ht51=>?_)
 ·have hli:i<m.back.length:=by simpa using ht51
  refine Sj ?_
  refine A5 (h:=Ad (i) (A7 m.back[i]) (fun _=>Ar hli)) (hr:=?_)
  refine Z8 ?_;refine Aa Tryz.call44 (c44 m.back[i] (hmo.back.ok _ (As hli)) (hmo.back.size _ (As hli)) d hDo (by omega) t (by omega) hbo.tok.ok hbo.size _) ?_
  rw [←W9 (show d.length<100 by omega)]
  refine Qf ?_;refine A2 [0,6,7,9,11,12,13,14] ?_;refine Z7 ?_;refine A2 [0,6,7,9,11,12,13,14,66] ?_
  refine A3 (fun ht66=>?_) (fun ht66=>?_)
  ·have hv:=N7 hi.2 (Ac hli) ht66
   rw [hv] at hb
   have hm:=hb.trans (if_pos ht66)
   refine Z1 ?_;refine zf ?_;refine Z41 ?_;exact ACw
  refine vl ?_
  refine D5 jU Tryz.type27 ?_ ?_ ?_
  ·simp only [Ag,Bx,Ax,B8,Bq,Tryz.t27];omega
  ·simp only [Ag,Bx,Ax,B8,Bq,Tryz.t27];omega
  refine Kk ?_;refine A2 [0,6,7,9,11,12] ?_;refine Z87 ?_;refine A2 [0,6,7,9,11,12] ?_;refine Au (i+1) ⟨hli,Bw hli hi.2 ht66⟩ (by omega) ?_
  rw [Iu hli,Bn]
  rw [Br,Ct,Al]
  exact Di (own:=[AObj.cells 80 (Io m)]) (fun _=>.refl _) (by repeat (first|exact Bt|refine Bs (by first|exact Iq|exact K4|exact Cr|exact Dq|exact Kn|(simp [oid,or_imp,forall_and];done)) ?_)) (by intro x hx;rw [Bh.1 hx];exact Qb) (by simp)
 have hie:m.back.length≤i:=by simpa using ht51
 have hov:=Qe fun j y hy=>hi.2 j y (by have:=(Ae.1 hy).1;omega) hy
 rw [Cu hie]
 rw [hov] at hb
 replace hb:=hb.trans (if_neg (by simp))
 simp only at hb
 have hwl:(m.back.map (fun e=>(Dr e d t).1)).length=m.take.length:=by rw [Ag];exact hcnt
 generalize m.back.map (fun e=>(Dr e d t).1)=w at *
 refine Z36 ?_;refine Zh ?_;refine A2 [0,6,7,9,11,15] ?_;refine Z25 ?_;refine AA0 ?_
 refine Bg (α:=Nat) (fun z=>⟨121,A6 0 (Ai c) (A6 6 (.ptr (oid Hp.length 0) 0) (A6 7 (Ai d) (A6 9 (Bd t) (A6 11 (.slice true 6 (w.map A7)) (A6 15 (.slice true 6 (((I1 c m.take w t d).take z).map A7)) (A6 16 (A4 (z:Nat)) (fun _=>.any))))))),Hp,[AObj.cells 80 (Io m)],[],none⟩) (fun z=>z≤c.length) (fun z=>c.length-z) (0) (Ao _) (B4 (by simp)) rfl (fun z hz=>?_)
 refine Z46 ?_;refine A2 [0,6,7,9,11,15,16,76] ?_
 refine A3 (fun ht76=>?_) (fun ht76=>?_)
 ·have hz2:z<c.length:=by simpa using ht76
  have hnl:((I1 c m.take w t d).take z).length≤z:=List.length_take_le _ _
  refine Z35 ?_;refine Z2 ?_;refine A2 [0,6,7,9,11,15,16,17] ?_;refine Z25 ?_;refine ADi ?_
  refine Bg (α:=Nat) (fun j=>⟨121,A6 0 (Ai c) (A6 6 (.ptr (oid Hp.length 0) 0) (A6 7 (Ai d) (A6 9 (Bd t) (A6 11 (.slice true 6 (w.map A7)) (A6 15 (.slice true 6 (((I1 c m.take w t d).take z).map A7)) (A6 16 (A4 (z:Nat)) (A6 17 (A4 (O5 c[z].name m.take j)) (A6 18 (A4 (j:Nat)) (fun _=>.any))))))))),Hp,[AObj.cells 80 (Io m)],[],none⟩) (fun j=>j≤m.take.length) (fun j=>m.take.length-j) (0) (Ao _) (B4 (by rw [APq]<;>rfl)) rfl (fun j hj=>?_)
  refine Z99 ?_;refine A2 [0,6,7,9,11,15,16,17,18,83] ?_
  refine A3 (fun ht83=>?_) (fun ht83=>?_)
  ·have hlj:j<m.take.length:=by simpa using ht83
   refine Z35 ?_;refine Er [0,1,0,7,15,0,0,96,224,480,1023] 10 Ap (by kernel_rfl) ?_;refine Z37 ?_
   refine Av (h:=Ad (j) (Ab m.take[j]) (fun _=>Ar hlj)) (hr:=?_)
   refine Z37 ?_
   refine Av (h:=Ad (z) (Bl c[z]) (fun _=>Ar hz2)) (hr:=?_)
   refine Z10 ?_;refine ee ?_;refine A2 [0,6,7,9,11,15,16,17,18,96] ?_
   refine A3 (fun ht96=>?_) (fun ht96=>?_)
   ·have hat:=AIs hnd hlj ht96
    refine Z45 ?_;refine ADi ?_;refine Z87 ?_;refine ADi ?_
    refine Au (j+1) hlj (by omega) (Bk ?_)
    rw [hat]<;>rfl
   have hat:=AFe hlj ht96
   refine Z68 ?_;refine ADi ?_
   refine Au (j+1) hlj (by omega) (Bk ?_)
   rw [hat]<;>rfl
  have hje:m.take.length≤j:=by simpa using ht83
  rw [AIr hje]
  refine Z36 ?_;refine Z1 ?_;refine A2 [0,6,7,9,11,15,16,17,99] ?_
  refine A3 (fun ht99=>?_) (fun ht99=>?_)
  ·obtain ⟨q,hq,hql⟩:=qq (by simpa using ht99)
   have hpk:Me m.take w t d c[z]=w.getD q Aw:=by unfold Me;rw [if_pos (by rw [hq];omega),hq];rfl
   refine Z83 ?_;refine Z0 ?_
   refine A5 (h:=Ad (q) (A7 (w.getD q Aw)) (fun _=>AEu (by omega))) (hr:=?_)
   refine Z55 ?_
   refine D5 jU Tryz.type27 ?_ ?_ ?_
   ·simp only [Ag,Bx,Ax,B8,Bq,Tryz.t27];omega
   ·simp only [Ag,Bx,Ax,B8,Bq,Tryz.t27];omega
   refine Kk ?_;refine AA0 ?_;refine Z87 ?_;refine AA0 ?_
   refine Au (z+1) hz2 (by omega) (Bk ?_)
   rw [T3 hz2,hpk,Bn,Br,Ct,Al]
   rfl
  have hjn:¬0≤I5 c[z].name m.take:=by simpa using ht99
  obtain ⟨q,hq,hql⟩:=hst3 _ (As hz2) hjn
  have hpk:Me m.take w t d c[z]=t.getD q Aw:=by unfold Me;rw [if_neg hjn,hq];rfl
  refine Z83 ?_;refine Z75 ?_
  refine A5 (h:=Ad (z) (Bl c[z]) (fun _=>Ar hz2)) (hr:=?_)
  refine Z0 ?_;refine Aa Tryz.call41 (c41 d hDo c[z].name _) ?_
  refine A5 (h:=Ad (q) (A7 (t.getD q Aw)) (fun _=>AEu (by omega))) (hr:=?_)
  refine Z55 ?_
  refine D5 jU Tryz.type27 ?_ ?_ ?_
  ·simp only [Ag,Bx,Ax,B8,Bq,Tryz.t27];omega
  ·simp only [Ag,Bx,Ax,B8,Bq,Tryz.t27];omega
  refine Kk ?_;refine AA0 ?_;refine Z87 ?_;refine AA0 ?_
  refine Au (z+1) hz2 (by omega) (Bk ?_)
  rw [T3 hz2,hpk,Bn,Br,Ct,Al]
  rfl
 have hze:c.length≤z:=by simpa using ht76
 rw [Cu (by rw [I1,Ag];exact hze)]
 refine Z36 ?_;refine Z16 ?_;refine Z50 ?_;exact A9 (B9 A8 A8) ⟨by rw [hb],rfl⟩ (hlow:=by simp only [Ni,B3,Dt,or_false];rintro y (rfl|rfl);exact Cr;simp)

theorem AFf {c:List Col} {ms:List Mov} {i:Nat} {t:List Expr} {m:Mov} (hk:ms[i]? = some m):Rt c ms i t=C3 (colsAt c ms (i+1)) t m.back:=by unfold Rt;rw [Cq,hk];rfl
theorem cp {c:List Col} {ms:List Mov} {z:Int} (hz:z≠0):∀i,i≤ms.length→Fa (colsAt c ms i) (ms.drop i)=([],z)→Fa c ms=([],z)
 | 0,_,h=>h
 | i+1,hi,h=>by
  have hk:ms[i]? = some ms[i]:=Ac (by omega)
  refine cp hz i (by omega) ?_
  rw [Ko hk,Fa,←Fh hk,h]
  exact if_pos (by simpa using hz)
theorem lr {c:List Col} {ms:List Mov}:∀i,i≤ms.length→∀t,Fa (colsAt c ms i) (ms.drop i)=(t,0)→Fa c ms=Pq c ms i t
 | 0,_,t,h=>h
 | i+1,hi,t,h=>by
  have hk:ms[i]? = some ms[i]:=Ac (by omega)
  have e:Fa (colsAt c ms i) (ms.drop i)=if (Rt c ms i t).2 != 0 then ([],(Rt c ms i t).2) else (I1 (colsAt c ms i) (ms.getD i Um).take (Rt c ms i t).1 t (colsAt c ms (i+1)),0):=by
   rw [Ko hk,Fa,←Fh hk,h,AFf hk,Cq,hk]
   exact if_neg (by simp)
  rw [Pq]
  split
  ·rename_i h1
   exact cp (by simpa using h1) i (by omega) (e.trans (if_pos h1))
  rename_i h1
  exact lr i (by omega) _ (e.trans (if_neg h1))
theorem gk {c:List Col} {l:List Mov} (h:((Cg c l).2 != 0)=false):Je c l=Fa c l:=by
 rw [T0 h]
 exact (lr l.length (An _) _ (by rw [me];rfl)).symm
theorem Up {c:List Col} {l:List Mov} (b:Bool) (h:((Fe c l).2 != 0)=b):((Cg c l).2 != 0)=b:=by
 unfold Cg
 split
 ·exact h
 exact h
theorem c26 (a:List Expr) (ha:∀e∈a,okE 61 e) (hl:a.length≤1048576) (Hp:List AObj):AFun Tryz.prog 26 [Bd a,Bd a] Hp (B0 true):=by
 refine Ah [.tmp 4] [0,1] Tryz.func26 Tryz.ntmps26 (fun d=>?_)
 refine Z48 ?_;refine Z99 ?_;refine A2 [0,1,10] ?_
 refine A3 (fun ht10=>?_) (fun ht10=>?_)
 ·simp at ht10
 refine Mw ?_;refine A2 [0,1,5] ?_
 refine Bg (α:=Nat) (fun x=>⟨27,A6 0 (Bd a) (A6 1 (Bd a) (A6 5 (A4 (x:Nat)) (fun _=>.any))),Hp,[],[],none⟩) (fun x=>x≤a.length) (fun x=>a.length-x) (0) (Ao _) (B4 (by simp)) rfl (fun x hx=>?_)
 refine Z46 ?_;refine A2 [0,1,5,14] ?_
 refine A3 (fun ht14=>?_) (fun ht14=>?_)
 ·have hlt:x<a.length:=by simpa using ht14
  refine Z35 ?_;refine Er [0,0,3,7,0,0,48,112,255,511] 8 Ap (by kernel_rfl) ?_;refine Z10 ?_
  refine Av (h:=Ad (x) (A7 a[x]) (fun _=>Ar hlt)) (hr:=?_)
  refine Z37 ?_
  refine Av (h:=Ad (x) (A7 a[x]) (fun _=>Ar hlt)) (hr:=?_)
  refine vj ?_;refine Aa Tryz.call27 (c27 61 a[x] (ha _ (As hlt)) a[x] _) ?_;refine A5 ?_;refine A2 [0,1,5,26] ?_
  refine A3 (fun ht26=>?_) (fun ht26=>?_)
  ·exfalso
   simp [Xt] at ht26
  refine Z68 ?_;refine A2 [0,1,5] ?_;exact Au (x+1) hlt (by omega) (Bk rfl)
 refine Zk ?_;exact ACv

/-! How long plan.Text's pieces are. -/
/-- The trees forth are as many as the columns behind, and may be walked. -/
theorem ls {c:List Col} {l:List Mov} (hc:OkCols c) (h:OkMovs l) (hs:((Cg c l).2 != 0)=false):TOk (Es c l).1∧((Es c l).2=0→(Es c l).1.length=(Ec c l).1.length):=by
 obtain ⟨hmay,hst,_⟩:=K5 hs
 have hmv:=Lj hmay
 have e:Es c l=Jc c (L7 c) l:=if_neg (by rw [hs];simp)
 have key:∀k,k≤l.length→(M2 c l k∧TOk (Be c l k)∧(Be c l k).length=(colsAt c l k).length)∨(∃z,z≠0∧Jc c (L7 c) l=([],z)):=by
  intro k
  induction k with
  | zero=>exact fun _=>.inl ⟨AIi,Yh hc,by simp [Be,L7,colsAt]⟩
  | succ k ih =>
   intro hk
   rcases ih (by omega) with ⟨h1,h2,h3⟩|h1
   ·have hmk:l[k]? = some l[k]:=Ac (by omega)
    cases he:((C3 (colsAt c l k) (Be c l k) l[k].ahead).2 != 0) with
    | true=>exact .inr ⟨_,by simpa using he,qi hmk h1 he⟩
    | false=>exact .inl ⟨ga hmk h1 he,gb hmk (h.each _ (As (by omega))) h2 he,Yi hmk (hmv _ (As (by omega))) (Sz hst hmk) h3 he⟩
   exact .inr h1
 rcases key l.length (An _) with ⟨h1,h2,h3⟩|⟨z,hz,h1⟩
 ·rw [e,qj h1,Uk hs]
  exact ⟨h2,fun _=>h3⟩
 rw [e,h1]
 exact ⟨⟨fun e h=>(Ed h).elim,fun e h=>(Ed h).elim⟩,fun h=>absurd h hz⟩
theorem gm {c:List Col} {l:List Mov} (hc:OkCols c) (h:OkMovs l) (h0:((Ec c l).2 != 0)=false):((Cg c l).2 != 0)=false∧OkCols (Ec c l).1:=by
 have hs:((Cg c l).2 != 0)=false:=by
  unfold Ec at h0
  split at h0
  ·rename_i h1;rw [show ((Cg c l).2 != 0)=false from h0] at h1;cases h1
  rename_i h1;simpa using h1
 exact ⟨hs,by rw [Uk hs];exact Ez hc (fun m hm=>h.each m hm) _⟩
theorem Pr {c:List Col} {l:List Mov}:(Gn c l).2=(Fe c l).2:=by
 unfold Gn Fe
 split<;>rfl
theorem Yw {c:List Col} {l:List Mov} (b:Bool) (h:((Gn c l).2 != 0)=b):((Cg c l).2 != 0)=b:=Up b (by rw [←Pr];exact h)
theorem AGb {q:Qry} {c:List Col} {l:List Mov} (h:((Ec c l).2 != 0)=true):E1 q c l=(I2,1):=if_pos h
theorem AGc {q:Qry} {c:List Col} {l:List Mov} (h:((Ec c l).2 != 0)=false) (h1:(Dk q (Ec c l).1 != 0)=true):E1 q c l=(I2,Dk q (Ec c l).1):=by
 unfold E1;rw [if_neg (by rw [h];simp),if_pos h1]
theorem AGd {q:Qry} {c:List Col} {l:List Mov} (h:((Ec c l).2 != 0)=false) (h1:(Dk q (Ec c l).1 != 0)=false) (h2:((Es c l).2 != 0)=true):E1 q c l=(I2,(Es c l).2):=by
 unfold E1;rw [if_neg (by rw [h];simp),if_neg (by rw [h1];simp),if_pos h2]
theorem AGe {q:Qry} {c:List Col} {l:List Mov} (h:((Ec c l).2 != 0)=false) (h1:(Dk q (Ec c l).1 != 0)=false) (h2:((Es c l).2 != 0)=false):E1 q c l=M4 q (Ec c l).1 (Es c l).1:=by
 unfold E1;rw [if_neg (by rw [h];simp),if_neg (by rw [h1];simp),if_neg (by rw [h2];simp)]
theorem AGf {q:Qry} {c:List Col} {l:List Mov} (h:((Gn c l).2 != 0)=true):H3 q c l=(I2,1):=if_pos h
theorem AGg {q:Qry} {c:List Col} {l:List Mov} (h:((Gn c l).2 != 0)=false) (h1:(Dk q c != 0)=true):H3 q c l=(I2,Dk q c):=by
 unfold H3;rw [if_neg (by rw [h];simp),if_pos h1]
theorem AGh {q:Qry} {c:List Col} {l:List Mov} (h:((Gn c l).2 != 0)=false) (h1:(Dk q c != 0)=false) (h2:((Je c l).2 != 0)=true):H3 q c l=(I2,(Je c l).2):=by
 unfold H3;rw [if_neg (by rw [h];simp),if_neg (by rw [h1];simp),if_pos h2]
theorem AGi {q:Qry} {c:List Col} {l:List Mov} (h:((Gn c l).2 != 0)=false) (h1:(Dk q c != 0)=false) (h2:((Je c l).2 != 0)=false):H3 q c l=M4 q c (Je c l).1:=by
 unfold H3;rw [if_neg (by rw [h];simp),if_neg (by rw [h1];simp),if_neg (by rw [h2];simp)]
/-- What the trees of a turn must be. -/
structure TreesOk (q:Qry) (c:List Col) (t:List Expr):Prop where
 len:t.length≤1048576
 cl:c.length=t.length
 ok:∀e∈t,okE 61 e
 names:∀s∈q.cols,¬At s c<0
theorem Vh {q:Qry} {c:List Col} {l:List Mov} (hc:OkCols c) (h:OkMovs l) (h0:((Ec c l).2 != 0)=false) (h1:(Dk q (Ec c l).1 != 0)=false) (h2:((Es c l).2 != 0)=false):TreesOk q (Ec c l).1 (Es c l).1:=by
 obtain ⟨hs,hB⟩:=gm hc h h0
 obtain ⟨ht,hl⟩:=ls hc h hs
 have hl:=hl (by simpa using h2)
 exact ⟨by rw [hl];exact hB.len,hl.symm,ht.ok,Yq (by simpa using h1)⟩
theorem Yx {q:Qry} {c:List Col} {l:List Mov} (hc:OkCols c) (h:OkMovs l) (h0:((Gn c l).2 != 0)=false) (h1:(Dk q c != 0)=false) (h2:((Je c l).2 != 0)=false):TreesOk q c (Je c l).1∧∀e∈(Je c l).1,sizeE e≤1048576:=by
 have hs:=Yw false h0
 have e:=gk hs
 have hb:=T7 l c hc (fun m hm=>h.each m hm) (by rw [←e];simpa using h2)
 rw [←e] at hb
 exact ⟨⟨by rw [hb.len];exact hc.len,hb.len.symm,hb.tok.ok,Yq (by simpa using h1)⟩,hb.size⟩
theorem c11 (q:Qry) (hq:QW q) (c:List Col) (hc:OkCols c) (hc2:c.length≤1000000) (l:List Mov) (h:OkMovs l) (Hp:List AObj):AFun Tryz.prog 11 [Qi q,Ai c,Dm l] Hp (.tup [Zv (E1 q c l).1,A4 (E1 q c l).2]):=by
 refine Ah [.cell 6 37,.tmp 7] [0,1,2] Tryz.func11 Tryz.ntmps11 (fun d=>?_)
 refine ec ?_;refine n8 ?_;refine Z1 ?_;refine Aa Tryz.call21 (c21 c hc hc2 l h _) ?_;refine Z82 ?_;refine A2 [1,2,3,6,8,9] ?_;refine Z7 ?_;refine A2 [1,2,3,6,8,19] ?_
 refine A3 (fun ht19=>?_) (fun ht19=>?_)
 ·refine Z33 ?_;refine Gz ?_;refine Z76 ?_;exact A9 (B9 (B5 jA jS) A8) ⟨by rw [AGb ht19]<;>rfl,rfl⟩ (hlow:=by simp [or_imp,forall_and]<;>(repeat' apply And.intro)<;>(intros;exact Am _ _))
 obtain ⟨hs,hB⟩:=gm hc h ht19
 refine j5 ?_;refine Aa Tryz.call25 (c25 q hq _ hB _) ?_;refine A5 ?_;refine A2 [1,2,3,6,8,10] ?_;refine Z1 ?_;refine A2 [1,2,3,6,8,10,25] ?_
 refine A3 (fun ht25=>?_) (fun ht25=>?_)
 ·refine vm ?_;refine Z76 ?_;exact A9 (B9 (B5 jA jS) A8) ⟨by rw [AGc ht19 ht25]<;>rfl,rfl⟩ (hlow:=by simp [or_imp,forall_and]<;>(repeat' apply And.intro)<;>(intros;exact Am _ _))
 refine Nr ?_;refine Aa Tryz.call32 (c32 c hc hc2 l h _) ?_;refine Z82 ?_;refine A2 [3,6,8,9,11] ?_;refine Z7 ?_;refine A2 [3,6,8,9,11,35] ?_
 refine A3 (fun ht35=>?_) (fun ht35=>?_)
 ·refine vm ?_;refine Z76 ?_;exact A9 (B9 (B5 jA jS) A8) ⟨by rw [AGd ht19 ht25 ht35]<;>rfl,rfl⟩ (hlow:=by simp [or_imp,forall_and]<;>(repeat' apply And.intro)<;>(intros;exact Am _ _))
 have hT:=Vh hc h ht19 ht25 ht35
 refine Rc ?_;refine Aa Tryz.call33 (c33 q hq (Ec c l).1 hB (Es c l).1 hT.len hT.cl hT.ok hT.names _) ?_;refine Z0 ?_;refine Gz ?_;refine ef ?_;exact A9 (B9 (B5 jA jS) A8) ⟨by rw [AGe ht19 ht25 ht35]<;>rfl,rfl⟩ (hlow:=by simp [or_imp,forall_and]<;>(repeat' apply And.intro)<;>(intros;exact Am _ _))

theorem APr (q:Qry) (hq:QW q) (c:List Col) (hc:OkCols c) (hc2:c.length≤1000000) (l:List Mov) (h:OkMovs l) (Hp:List AObj):AFun Tryz.prog 12 [Qi q,Ai c,Dm l] Hp (.tup [Zv (H3 q c l).1,A4 (H3 q c l).2]):=by
 refine Ah [.cell 6 37,.tmp 7] [0,1,2] Tryz.func12 Tryz.ntmps12 (fun d=>?_)
 refine ec ?_;refine n8 ?_;refine Z7 ?_;refine Aa Tryz.call34 (c34 c hc hc2 l h _) ?_;refine Z82 ?_;refine A2 [1,2,3,6,9] ?_;refine Z1 ?_;refine A2 [1,2,3,6,20] ?_
 refine A3 (fun ht20=>?_) (fun ht20=>?_)
 ·refine Z33 ?_;refine Gz ?_;refine Z76 ?_;exact A9 (B9 (B5 jA jS) A8) ⟨by rw [AGf ht20]<;>rfl,rfl⟩ (hlow:=by simp [or_imp,forall_and]<;>(repeat' apply And.intro)<;>(intros;exact Am _ _))
 refine j5 ?_;refine Aa Tryz.call25 (c25 q hq c hc _) ?_;refine A5 ?_;refine A2 [1,2,3,6,10] ?_;refine Z1 ?_;refine A2 [1,2,3,6,10,26] ?_
 refine A3 (fun ht26=>?_) (fun ht26=>?_)
 ·refine vm ?_;refine Z76 ?_;exact A9 (B9 (B5 jA jS) A8) ⟨by rw [AGg ht20 ht26]<;>rfl,rfl⟩ (hlow:=by simp [or_imp,forall_and]<;>(repeat' apply And.intro)<;>(intros;exact Am _ _))
 refine Nr ?_;refine Aa Tryz.call35 (c35 c hc hc2 l h _) ?_;refine Z82 ?_;refine A2 [1,3,6,11,12] ?_;refine Z7 ?_;refine A2 [1,3,6,11,12,36] ?_
 refine A3 (fun ht36=>?_) (fun ht36=>?_)
 ·refine vm ?_;refine Z76 ?_;exact A9 (B9 (B5 jA jS) A8) ⟨by rw [AGh ht20 ht26 ht36]<;>rfl,rfl⟩ (hlow:=by simp [or_imp,forall_and]<;>(repeat' apply And.intro)<;>(intros;exact Am _ _))
 have hT:=(Yx hc h ht20 ht26 ht36).1
 refine Rc ?_;refine Aa Tryz.call33 (c33 q hq c hc (Je c l).1 hT.len hT.cl hT.ok hT.names _) ?_;refine Z0 ?_;refine Gz ?_;refine ef ?_;exact A9 (B9 (B5 jA jS) A8) ⟨by rw [AGi ht20 ht26 ht36]<;>rfl,rfl⟩ (hlow:=by simp [or_imp,forall_and]<;>(repeat' apply And.intro)<;>(intros;exact Am _ _))

theorem c17 (q:Qry) (h:QW q) (c:List Col) (hc:OkCols c) (l:List Expr) (hll:l.length≤1048576) (hcl:c.length=l.length) (hlo:∀e∈l,okE 61 e) (hn:∀s∈q.cols,¬At s c<0) (hqa:q.all=true→q.cols=[]) (h100:c.length<100) (hsz:∀e∈l,sizeE e≤1048576) (Hp:List AObj):AFun Tryz.prog 17 [Qi q,Ai c,Bd l] Hp (.tup [Zv (M4 q c l).1,A4 (M4 q c l).2]):=by
 refine Ah [.cell 6 45,.tmp 7] [0,1,2] Tryz.func17 Tryz.ntmps17 (fun d=>?_)
 refine ec ?_;refine n8 ?_;refine Z1 ?_;refine AKq ?_;refine vp ?_;refine Z53 ?_;refine Fx 1 0 6 ?_;refine Fx 1 6 6 ?_;refine Z0 ?_;refine A2 [1,2,3,6,8,16] ?_
 refine A3 (fun ht16=>?_) (fun ht16=>?_)
 ·have htr:=ce (c:=c) (l:=l) ht16
  have hc0:=hqa ht16
  refine Z45 ?_;refine Gz ?_;refine vp ?_;refine Gf ?_;refine Z25 ?_;refine A2 [1,2,3,6,8,9] ?_
  refine Bg (α:=Nat) (fun i=>⟨61,A6 1 (Ai c) (A6 2 (Bd l) (A6 3 (.ro (qoC false q)) (A6 6 (.ptr (oid Hp.length 0) 0) (A6 8 (.ptr (oid Hp.length 1) 0) (A6 9 (A4 (i:Nat)) (fun _=>.any)))))),Hp,[.cells 45 [.nil,A4 0,Ab [],A4 0,A4 0,Ab [],.nil,A4 0],.cells 45 [Bd l,A4 0,Ab [],A4 0,A4 0,Ab [],.slice true 6 [],A4 q.lim]],[],none⟩) (fun i=>i≤q.cols.length) (fun i=>q.cols.length-i) (0) (Ao _) (B4 (by simp)) rfl (fun i hi=>?_)
  refine Z99 ?_;refine A2 [1,2,3,6,8,9,23] ?_
  refine A3 (fun ht23=>?_) (fun ht23=>?_)
  ·rw [hc0] at ht23
   simp at ht23
   omega
  refine Z36 ?_;refine Z46 ?_;refine A2 [1,2,3,6,8,44] ?_
  refine A3 (fun ht44=>?_) (fun ht44=>?_)
  ·refine Z42 ?_;exact AJa
  refine AKr ?_;refine Qf ?_;refine A2 [6,8,10,11] ?_;refine Z53 ?_
  rw [←W9 h100]
  refine Z0 ?_;refine A2 [6,8,10,11,55] ?_
  refine A3 (fun ht55=>?_) (fun ht55=>?_)
  ·refine AGn ?_;refine Z49 ?_;exact AJb
  refine Nr ?_;refine AD2 ?_;refine Z42 ?_;refine Z26 ?_;exact AJ7
 have htr:=Yp (c:=c) (l:=l) ht16
 refine Mw ?_;refine A2 [1,2,3,6,8,9] ?_
 refine Bg (α:=Nat) (fun i=>⟨61,A6 1 (Ai c) (A6 2 (Bd l) (A6 3 (.ro (qoC false q)) (A6 6 (.ptr (oid Hp.length 0) 0) (A6 8 (.ptr (oid Hp.length 1) 0) (A6 9 (A4 (i:Nat)) (fun _=>.any)))))),Hp,[.cells 45 [.nil,A4 0,Ab [],A4 0,A4 0,Ab [],.nil,A4 0],.cells 45 [.slice true 6 (((q.cols.take i).map (Ib c l)).map A7),A4 0,Ab [],A4 0,A4 0,Ab [],.slice true 6 [],A4 q.lim]],[],none⟩) (fun i=>i≤q.cols.length) (fun i=>q.cols.length-i) (0) (Ao _) (B4 (by simp)) rfl (fun i hi=>?_)
 refine Z99 ?_;refine A2 [1,2,3,6,8,9,23] ?_
 refine A3 (fun ht23=>?_) (fun ht23=>?_)
 ·have hlt:i<q.cols.length:=by simpa using ht23
  have hkl:=h.len
  obtain ⟨j,hj,hjc⟩:=tw (hn _ (As hlt))
  have hk:0≤At q.cols[i] c∧(At q.cols[i] c).toNat<l.length:=by omega
  have hget:(l.map A7)[(At q.cols[i] c).toNat]? = some (A7 (Ib c l q.cols[i])):=by
   rw [Ch,Ac hk.2]
   unfold Ib
   rw [Cq,Ac hk.2]
   rfl
  refine Z35 ?_;refine P6 [0,1,0,0,0,16,0,112,240,504,1020,2044,4092,8191,16383,32767] [1] [.q 1 [] [0],.s [27] (some 0) [] [],.q 11 [] []] (fun _=>Hp) (fun B=>[.cells 45 [.nil,A4 0,Ab [],A4 0,A4 0,Ab [],.nil,A4 0],.cells 45 (if B 0=true then [.slice false 6 (((q.cols.take i).map (Ib c l)).map A7),A4 0,Ab [],A4 0,A4 0,Ab [],.slice true 6 [],A4 q.lim] else [.slice true 6 (((q.cols.take i).map (Ib c l)).map A7),A4 0,Ab [],A4 0,A4 0,Ab [],.slice true 6 [],A4 q.lim])]) Ap (by kernel_rfl) rfl rfl (fun _=>rfl) ?_
  apply Y.q
  ·intro B hT hF
   exact Z60
  case hTF=>decide
  refine dx (u:=Hp.length) (n:=1) (t':=45) (cs:=[.slice true 6 (((q.cols.take i).map (Ib c l)).map A7),A4 0,Ab [],A4 0,A4 0,Ab [],.slice true 6 [],A4 q.lim]) (cs':=[.slice false 6 (((q.cols.take i).map (Ib c l)).map A7),A4 0,Ab [],A4 0,A4 0,Ab [],.slice true 6 [],A4 q.lim]) Tryz.isAgg25 (fun B hB=>⟨rfl,by simp only [hB];rfl,by simp [upd],rfl⟩) ?_
  apply Y.q
  ·intro B hT hF
   refine Z10 ?_;refine Z37 ?_
   refine Av (h:=Ad (i) (Ab q.cols[i]) (fun _=>Ar hlt)) (hr:=?_)
   refine Av ?_;refine I3 Tryz.call41 (c41 c hc q.cols[i] _) ?_
   refine Av (h:=Ad ((At q.cols[i] c).toNat) (A7 (Ib c l q.cols[i])) (fun _=>hget)) (hr:=?_)
   exact na
  case hTF=>decide
  refine Gx (tn:=[1]) (O:=[.cells 45 [.nil,A4 0,Ab [],A4 0,A4 0,Ab [],.nil,A4 0],.cells 45 [.slice false 6 (((q.cols.take i).map (Ib c l)).map A7),A4 0,Ab [],A4 0,A4 0,Ab [],.slice true 6 [],A4 q.lim]]) ?_
  refine D5 jU Tryz.type27 ?_ ?_ ?_
  ·simp only [Ag,Bx,B8,Bq,Tryz.t27];omega
  ·simp only [Ag,Bx,B8,Bq,Tryz.t27];omega
  refine AD8 ?_;refine A2 [1,2,3,6,8,9] ?_;refine Z87 ?_;refine A2 [1,2,3,6,8,9] ?_;exact AJi
 have hxe:q.cols.length≤i:=by simpa using ht23
 rw [Cu hxe]
 refine Z36 ?_;refine Z46 ?_;refine A2 [1,2,3,6,8,44] ?_
 refine A3 (fun ht44=>?_) (fun ht44=>?_)
 ·refine Z42 ?_;exact AJa
 refine AKr ?_;refine Qf ?_;refine A2 [6,8,10,11] ?_;refine Z53 ?_
 rw [←W9 h100]
 refine Z0 ?_;refine A2 [6,8,10,11,55] ?_
 refine A3 (fun ht55=>?_) (fun ht55=>?_)
 ·refine AGn ?_;refine Z49 ?_;exact AJb
 refine Nr ?_;refine AD2 ?_;refine Z42 ?_;refine Z26 ?_;exact AJ7

theorem c14 (p:Pln) (hw:okE 61 p.whr) (ht:∀e∈p.trees,okE 61 e) (hl:p.trees.length≤1048576) (Hp:List AObj):AFun Tryz.prog 14 [Zv p,Zv p] Hp (B0 true):=by
 refine Ah [.tmp 4] [0,1] Tryz.func14 Tryz.ntmps14 (fun d=>?_)
 refine zm ?_;refine Z34 ?_;refine Aa Tryz.call26 (c26 p.trees ht hl _) ?_;refine A5 ?_;refine Qg ?_;refine Bm Tryz.call27 (fun hB=>c27 61 p.whr hw p.whr _) ?_;refine Z52 ?_;refine B7 ?_;refine Z0 ?_;refine Z20 ?_;exact A9 (Aj A8) ⟨by simp [Xt],rfl⟩

/-! What ref22.Run answers is what query.Run answers. -/
theorem ACc {q:Qry} {c:List Col} (h:(!Ja q || !F8 c)=true):Dk q c=1:=if_pos (by rw [Md];exact h)
theorem ACd {q:Qry} {c:List Col} (h:(!Ja q || !F8 c)=false):Dk q c=if q.cols.any (fun s=>decide (At s c<0)) then 9 else if !Va q then 0 else Pm q.whr c 3:=if_neg (by rw [Md,h];decide)
theorem xh {c:List Col} {l:List Str} {k:Nat} (hk:k<l.length) (h:decide (At l[k] c<0)=true):(l.any fun s=>decide (At s c<0))=true:=E7.2 ⟨_,As hk,h⟩
theorem xi {c:List Col} {l:List Str} (h:∀(j:Nat) (y:Str),j<l.length→l[j]? = some y→decide (At y c<0)=false):(l.any fun s=>decide (At s c<0))=false:=by
 rw [Jq]
 intro y hy
 obtain ⟨j,hj,rfl⟩:=Wd hy
 rw [h j _ hj (Ac hj)]
 decide
theorem c15 (q:Qry) (h:QW q) (c:List Col) (hc:OkCols c) (Hp:List AObj):AFun Tryz.prog 15 [Qi q,Ai c] Hp (A4 (Dk q c)):=by
 refine Ah [.tmp 4] [0,1] Tryz.func15 Tryz.ntmps15 (fun d=>?_)
 refine Z1 ?_;refine A2 [1,2] ?_;refine Z25 ?_;refine Aa Tryz.call39 (c39 q h _) ?_;refine Z95 ?_;refine Bm Tryz.call40 (C:=(((!(Ja q))==false))) (fun hB=>c40 c hc _) ?_;refine Z80 ?_;refine A2 [1,2,13] ?_
 refine A3 (fun ht13=>?_) (fun ht13=>?_)
 ·have hm:=ACc ht13
  exact vg
 have hm0:=ACd ht13
 have hlen:=h.len
 refine Mw ?_;refine A2 [1,2,5] ?_
 refine Bg (α:=Nat) (fun x=>⟨36,A6 1 (Ai c) (A6 2 (.ro (qoC false q)) (A6 5 (A4 (x:Nat)) (fun _=>.any))),Hp,[],[],none⟩) (fun x=>x≤q.cols.length∧∀(j:Nat) (y:Str),j<x→q.cols[j]? = some y→decide (At y c<0)=false) (fun x=>q.cols.length-x) (0) (by simp) (Em _) rfl (fun x hx=>?_)
 refine Z99 ?_;refine A2 [1,2,5,18] ?_
 refine A3 (fun ht18=>?_) (fun ht18=>?_)
 ·have hlt:x<q.cols.length:=by simpa using ht18
  refine Z35 ?_;refine Z34 ?_
  refine A5 (h:=Ad (x) (Ab q.cols[x]) (fun _=>Ar hlt)) (hr:=?_)
  refine A5 ?_;refine Aa Tryz.call41 (c41 c hc q.cols[x] _) ?_;refine A5 ?_;refine A2 [1,2,5,28] ?_
  refine A3 (fun ht28=>?_) (fun ht28=>?_)
  ·have hm:=hm0.trans (if_pos (xh hlt (by simpa using ht28)))
   refine Z2 ?_;refine Z20 ?_;exact ACx
  refine Z68 ?_;refine A2 [1,2,5] ?_;exact Au (x+1) ⟨hlt,Ij (p:=fun j y=>decide (At y c<0)=false) hlt hx.2 (by simpa using ht28)⟩ (by omega) (Bk rfl)
 have ha:=xi (c:=c) fun j y hj=>hx.2 j y (by simp at ht18;omega)
 have hm1:=hm0.trans (if_neg (by rw [ha];decide))
 refine ix ?_;refine Aa Tryz.call42 (c42 q h _) ?_;refine A5 ?_;refine A2 [1,2,31] ?_
 refine A3 (fun ht31=>?_) (fun ht31=>?_)
 ·have hm:=hm1.trans (if_pos ht31)
  exact vg
 have hm:=hm1.trans (if_neg (by rw [ht31];decide))
 refine Rc ?_;refine Aa Tryz.call43 (c43 61 q.whr h.ok (by decide) h.size 3 c hc _) ?_;refine A5 ?_;exact AKc

/-! mig.Parse: the first fault is n7. -/
inductive PR (α:Type) where
 | ok (r:α) (i:Nat)
 | bad (e a:Int)
def PR.bind {α β:Type} (x:PR α) (f:α→Nat→PR β):PR β:=match x with
 | .ok r i=>f r i
 | .bad e a=>.bad e a
def cq {α:Type} (L:List Tok) (i:Nat) (e:Int):PR α:=.bad e (Af L i).at_
def isP (L:List Tok) (s:Str) (i:Nat):Bool:=(((Af L i).kind==5) || ((Af L i).kind==2))&&((Af L i).text==s)
def Da (L:List Tok) (s:Str) (i:Nat):PR Unit:=if isP L s i then .ok () (i+1) else cq L i 8
def Ic (L:List Tok) (i:Nat):PR Str:=if (Af L i).kind != 1 then cq L i 8 else .ok (Af L i).text (i+1)
def u4 (L:List Tok) (nm:Str) (j:Nat):PR Col:=if ((Af L j).kind != 2) || (V6 (Af L j).text==0) then cq L j 8 else .ok ⟨nm,V6 (Af L j).text⟩ (j+1)
def La (L:List Tok) (i:Nat):PR Col:=(Ic L i).bind (u4 L)
def Oe (L:List Tok) (i:Nat):PR Expr:=if (atM L i).2.2.1 != 0 then .bad (atM L i).2.2.1 (atM L i).2.2.2 else .ok (atM L i).1 (atM L i).2.1.toNat
def E6 (m:Mov) (c:Col):Mov:={ m with give:=m.give++[c] }
def u5 (m:Mov) (x:Expr):Mov:={ m with ahead:=m.ahead++[x] }
def Fm (L:List Tok) (m:Mov) (i:Nat):PR Mov:=(La L i).bind fun c j=>(Da L [61] j).bind fun _ j=>(Oe L j).bind fun x j=>.ok (u5 (E6 m c) x) j
def Vi (L:List Tok) (n:Int) (k:Nat) (i:Nat):Bool:=decide ((k:Int)<n) || ((n==0)&&(decide ((k:Int)<2) || isP L [44] i))
/-- Things with commas between, behind the first k. -/
def T8 (L:List Tok) (n:Int) (one:Mov→Nat→PR Mov):Nat→Nat→Mov→Nat→PR Mov
 | 0,_,m,i=>.ok m i
 | f+1,k,m,i=>if Vi L n k i then (Da L [44] i).bind fun _ j=>(one m j).bind fun m j=>T8 L n one f (k+1) m j else .ok m i
def Ji (L:List Tok) (n:Int) (one:Mov→Nat→PR Mov) (m:Mov) (i:Nat):PR Mov:=(one m i).bind fun m j=>T8 L n one (L.length+1) 1 m j
def ACe:Str:=[98,97,99,107]
def L0:Str:=[105,110,116,111]
def toW:Str:=[116,111]
def u6 (m:Mov) (x:Expr):Mov:={ m with back:=m.back++[x] }
def Vj (L:List Tok) (m:Mov) (i:Nat):PR Mov:=(Oe L i).bind fun x j=>.ok (u6 m x) j
def Gu (L:List Tok) (m:Mov) (i:Nat):PR Mov:=(Da L ACe i).bind fun _ j=>Ji L m.take.length (Vj L) m j
def Lc (L:List Tok) (m:Mov) (i:Nat):PR Mov:=(Ic L i).bind fun s j=>(Da L toW j).bind fun _ j=>(Ic L j).bind fun t j=>.ok ⟨m.kind,[s],[⟨t,0⟩],[Bo s],[Bo t]⟩ j
def takeS (m:Mov) (s:Str):Mov:={ m with take:=[s] }
def u7 (m:Mov) (s:Str):Mov:={ m with take:=m.take++[s] }
def T9 (L:List Tok) (m:Mov) (i:Nat):PR Mov:=(Ic L i).bind fun s j=>.ok (u7 m s) j
def Jj (L:List Tok) (m:Mov) (i:Nat):PR Mov:=
 if m.kind==1 then Fm L m i
 else if m.kind==2 then (Ic L i).bind fun s j=>Gu L (takeS m s) j
 else if m.kind==3 then Lc L m i
 else if m.kind==4 then (Ic L i).bind fun s j=>(Da L L0 j).bind fun _ j=>(Ji L 0 (Fm L) (takeS m s) j).bind fun m j=>Gu L m j
 else if m.kind==5 then (Ji L 0 (T9 L) m i).bind fun m j=>(Da L L0 j).bind fun _ j=>(Fm L m j).bind fun m j=>Gu L m j
 else if m.kind==6 then (Fm L m i).bind fun m j=>Gu L (takeS m (m.give.getD 0 ⟨[],0⟩).name) j
 else .ok m i
def migWords:List Str:=[[],[97,100,100],[100,114,111,112],[114,101,110,97,109,101],[115,112,108,105,116],[109,101,114,103,101],[114,101,116,121,112,101]]
def Et (k:Int):Str:=if (decide (k<1) || decide (6<k))=true then [] else migWords.getD k.toNat []
def Ig (s:Str):Int:=if Et 1==s then 1 else if Et 2==s then 2 else if Et 3==s then 3 else if Et 4==s then 4 else if Et 5==s then 5 else if Et 6==s then 6 else 0
def Ps (L:List Tok) (i:Nat):PR Mov:=
 if ((Af L i).kind != 2) || (Ig (Af L i).text==0) then cq L i 8
 else (Jj L ⟨Ig (Af L i).text,[],[],[],[]⟩ (i+1)).bind fun m j=>(Da L [59] j).bind fun _ j=>.ok m j
/-- Moves, behind some. -/
def O6 (L:List Tok):Nat→List Mov→Nat→PR (List Mov)
 | 0,l,i=>.ok l i
 | f+1,l,i=>if (Af L i).kind != 0 then (if (l.length:Int)==8 then cq L i 3 else (Ps L i).bind fun m j=>O6 L f (l++[m]) j) else .ok l i
def Kx (L:List Tok):PR (List Mov):=O6 L 9 [] 0
/-- The moves; the fault's code and place. -/
def Yy (s:Str):List Mov×Int×Int:=
 if (Bu s).2.1 != 0 then ([],(Bu s).2.1,(Bu s).2.2)
 else match Kx (Bu s).1 with
  | .ok l _=>(l,0,0)
  | .bad e a=>([],e,a)
end Go.SX.Nb
namespace Go.SX
variable [GI:GlobInv]
open Classical
section
variable {P:Program} {d:Nat}
variable {sz:Nat} {dfs:List Nat} {rnd:Option Nat} {l0:List Oper} {up own:(Nat→Bool)→List AObj} {KP:List PanicEntry→St→Prop} {E:List Oper→(Nat→AV)→Prop} {S:List SegY} {l:List Oper} {fr:Nat→AV} {ty:TypeId} {pos:String} {aft:Array Edge} {s:Nat} {T F:List Nat}
end
section
variable {P:Program} {d:Nat} {ops:Array Oper}
theorem AW.upEq {c:Code} {sz:Nat} {fr:Nat→AV} {up up' own:List AObj} {dfs:List Nat} {rnd:Option Nat} {K:Exit→St→Prop} (e:up=up') (h:AW P d c ⟨sz,fr,up',own,dfs,rnd⟩ K):AW P d c ⟨sz,fr,up,own,dfs,rnd⟩ K:=e ▸ h
end
end Go.SX
namespace Go.SX
def Ry:=@AW.upEq
end Go.SX
