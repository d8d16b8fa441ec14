/- On the way (part 9). -/
import Derived.Shelf.Strconv.AtoiAll
import Derived.Below
import Derived.Test.YtfngkblpcigciaaGreatDoorQueryRunsCardSaidPart8
set_option linter.all false
namespace Go.SX.Nb
open Go Go.SX Go.Proofs Go.RowKit
variable [ErrAt]
set_option maxRecDepth 4000
theorem c75 (s:Str) (hs:s.length≤1048576) (Hp:List AObj):AFun Tryz.prog 75 [Ac s] Hp (.tup [A5 (Tb s),.any]):=by
 refine AFun.libAny (xs:=[sv s]) (n:=.int .i64 (Tb s)) (fun w hg=>?_)
 have hz:(⟨s.toArray⟩:ByteArray).size≤1048576:=by simpa [ByteArray.size] using hs
 unfold Tb
 rcases h:Lib.atoiAll s with v|_|_
 ·refine (Any.strconv_Atoi_ok Tryz.lays172 ⟨s.toArray⟩ (by omega) v h w).mono ?_
  rintro e w' ⟨rfl,hb⟩
  refine ⟨_,rfl,?_⟩
  rcases hb with rfl|⟨t,rfl⟩
  ·exact Below.refl _ _
  exact Lib.bytesWorld_below _ _ _
 ·refine (Any.strconv_Atoi_syntax Tryz.lays172 ⟨s.toArray⟩ (by omega) h _ w (bo hg) (.inr ⟨_,_,rfl⟩)).mono ?_
  rintro e w' ⟨N,rfl,_,_,hb⟩
  exact ⟨_,rfl,hb⟩
 refine (Any.strconv_Atoi_range Tryz.lays172 ⟨s.toArray⟩ (by omega) h _ w (N6 hg) (.inr ⟨_,_,rfl⟩)).mono ?_
 rintro e w' ⟨N,rfl,_,_,hb⟩
 exact ⟨_,rfl,hb⟩
theorem c45 (n:Int) (h0 : -9223372036854775808≤n) (h1:n≤9223372036854775807) (Hp:List AObj):AFun Tryz.prog 45 [A5 n] Hp (Ac (Lib.itoa n)):=by
 refine K0 (xs:=[.int .i64 n]) (v:=sv (Lib.itoa n)) (fun G w=>.v _ _) (fun w hg=>?_)
 refine (Any.strconv_Itoa Tryz.lays171 n h0 h1 w (el hg)).mono ?_
 rintro e w' ⟨rfl,k,os,rfl⟩
 exact ⟨rfl,Vj _ _ _⟩
end Go.SX.Nb
namespace Go.SX.Nb
open Go Go.SX Go.Proofs
variable [ErrAt]
set_option maxRecDepth 4000
theorem AGz {l:List Tok} {s:Str} {S:QS} (h:isQ l s S=true):(Ak l S.i).kind≠0:=by
 unfold isQ at h
 simp only [Al,C7,beq_iff_eq] at h
 rcases h.1.2 with e|e<;>rw [e]<;>decide
theorem Jl {l:List Tok} (hl:TokEnd l) {s:Str} {S:QS} (hi:S.i<l.length) (h:isQ l s S=true):(Eh S).i<l.length:=hl.step hi (AGz h)
theorem Qv (l:List Tok) (e:Int) (S:QS):(I6 l e S).i=S.i:=by unfold I6;split<;>rfl
theorem iw {l:List Tok} (hl:TokEnd l) {s:Str} {S:QS} (hi:S.i<l.length):(Qo l s S).i<l.length:=by
 unfold Qo
 split
 ·rename_i h;exact Jl hl hi h
 rw [Qv];exact hi
theorem M5 {l:List Tok} (hl:TokEnd l) {q:Qry} {S:QS} (hi:S.i<l.length) (hc:q.cols.length≤12):S.i≤(Gu l (q,S)).2.i∧(Gu l (q,S)).2.i<l.length∧(Gu l (q,S)).1.cols.length≤12:=by
 unfold Gu
 split
 ·exact ⟨Ap _,hi,hc⟩
 split
 ·exact AJm
 split
 ·exact AJm
 rename_i h1 h2 h3
 have hk:(Ak l S.i).kind≠0:=by
  have:(Ak l S.i).kind=1:=by simpa using h2
  rw [this];decide
 refine ⟨Jc _,hl.step hi hk,?_⟩
 simp only [beq_iff_eq] at h3
 rw [Aq,Pt]
 simp only at h3 ⊢
 omega
/-- Where the loop of names stands. -/
structure QNames (l:List Tok) (r0 r:Qry×QS):Prop where
 lt:r.2.i<l.length
 cols:r.1.cols.length≤12
 fuel:∃n,K7 l l.length r0=K7 l n r∧l.length-r.2.i≤n
theorem QNames.start {l:List Tok} {r:Qry×QS} (h1:r.2.i<l.length) (h2:r.1.cols.length≤12):QNames l r r:=⟨h1,h2,l.length,rfl,by omega⟩
theorem QNames.on {l:List Tok} (hl:TokEnd l) {r0 r:Qry×QS} (h:QNames l r0 r) (hq:isQ l [44] r.2=true):QNames l r0 (Gu l (r.1,Eh r.2))∧r.2.i+1≤(Gu l (r.1,Eh r.2)).2.i:=by
 obtain ⟨n,e,hn⟩:=h.fuel
 have hlt:=Jl hl h.lt hq
 obtain ⟨f1,f2,f3⟩:=M5 hl (q:=r.1) hlt h.cols
 have h1:=h.lt
 refine ⟨⟨f2,f3,n-1,?_,?_⟩,f1⟩
 ·rw [e]
  obtain ⟨m,rfl⟩:∃m,n=m+1:=⟨n-1,by omega⟩
  rw [K7,if_pos hq]
  rfl
 have:r.2.i+1≤(Gu l (r.1,Eh r.2)).2.i:=f1
 omega
theorem QNames.out {l:List Tok} {r0 r:Qry×QS} (h:QNames l r0 r) (hq:isQ l [44] r.2=false):K7 l l.length r0=r:=by
 obtain ⟨n,e,_⟩:=h.fuel
 rw [e]
 cases n with
 | zero=>rfl
 | succ n=>rw [K7,if_neg (by rw [hq];simp)]
theorem qA {Hp:List AObj} {o ox:Nat} {A B:AObj} (hl:o<Hp.length) (hne:ox≠o):((Hp.set o A).set ox B)[o]? = some A:=by rw [Cr hne];simp [hl]
theorem qB {Hp:List AObj} {o ox:Nat} {A B:AObj} (hl:ox<Hp.length):((Hp.set o A).set ox B)[ox]? = some B:=by simp [hl]
theorem zp {Hp:List AObj} {o ox:Nat} {A A' B:AObj} (hne:ox≠o):((Hp.set o A).set ox B).set o A'=(Hp.set o A').set ox B:=by rw [Lj _ _ hne,Cb]
theorem ANc {Hp:List AObj} {o ox m:Nat} {A A' B B':AObj} (hl:o<Hp.length) (hlx:ox<Hp.length) (hne:ox≠o) (hA:ObjLow m A') (hB:ObjLow m B') (h:∀x∈(Hp.set o A).set ox B,ObjLow m x):∀x∈(Hp.set o A').set ox B',ObjLow m x:=by
 intro x hx
 obtain ⟨i,hi⟩:=Cg hx
 by_cases h1:i=ox
 ·subst h1
  rw [qB hlx] at hi
  injection hi with hi
  subst hi
  exact hB
 by_cases h2:i=o
 ·subst h2
  rw [qA hl hne] at hi
  injection hi with hi
  subst hi
  exact hA
 refine h x (Be (i:=i) ?_)
 rw [Cr (Ne.symm h1),Cr (Ne.symm h2)] at hi ⊢
 exact hi
/-- A call that turns the parser and the query. -/
theorem nz {d:Nat} {ops:Array Oper} {rest:List Oper} {sz s:Nat} {fr:Nat→AV} {Hp:List AObj} {rnd:Option Nat} {Q:St→Prop} {ty:TypeId} {pos:String} {aft:Array Edge} {g:FuncId} {xs:List Operand} {ats:Array TypeId} {args:List AV} {l:List Tok} {S S':QS} {q q':Qry} {o oq:Nat}
  (hcall:∀args w,(callFunc g args).run Tryz.prog w=.ok (.enter g args) w) (hl:o<Hp.length) (hlq:oq<Hp.length) (hne:oq≠o)
  (h:ACall Tryz.prog g args ((Hp.set o (prq l S)).set oq (qo true q)++[]) (fun r H'=>r=Ti∧H'=(((Hp.set o (prq l S)).set oq (qo true q)++[]).set o (prq l S')).set oq (qo true q')))
  (hr:ARun Tryz.prog d ops rest ⟨sz,A9 s Ti fr,(Hp.set o (prq l S')).set oq (qo true q'),[],[],rnd⟩ Q)
  (ha:xs.map (B9 fr)=args:=by simp only [go_sem,↓reduceIte,Nat.reduceEqDiff,Nat.reduceAdd]<;>rfl) (hs:Nat.blt s sz=true:=by rfl):
  ARun Tryz.prog d ops (⟨some s,.call ⟨.value (.func g),xs.toArray,ats⟩,ty,pos,aft,none⟩::rest) ⟨sz,fr,(Hp.set o (prq l S)).set oq (qo true q),[],[],rnd⟩ Q:=by
 refine R.callX (up':=(Hp.set o (prq l S')).set oq (qo true q')) (own':=[]) hcall (h.mono fun r H' e=>⟨e.1,e.2.trans ?_⟩) (by simp) (fun hlow=>?_) hr (by simp) ha hs
 ·rw [Fz,Fz,zp hne,Cb]
 exact ANc hl hlq hne I2 zo hlow
theorem AH0 (b:Bool) (q:Qry):AObj.cells 29 [At b,.slice true 1 (q.cols.map Ac),A5 q.whr.op,Ac q.whr.text,A5 q.whr.val.kind,A5 q.whr.val.n,Ac q.whr.val.s,.slice false 6 (q.whr.kids.map Ae),A5 q.lim]=qo true (Kw b q):=rfl
theorem AKt {l:List Tok} {q:Qry} {S:QS} (h:isQ l [42] S=true):M3 l (q,S)=(Kw true q,Eh S):=if_pos h
theorem AKu {l:List Tok} {q:Qry} {S:QS} (h:isQ l [42] S=false):M3 l (q,S)=K7 l l.length (Gu l (Kw false q,S)):=if_neg (by show ¬(isQ l [42] S=true);rw [h];simp)
theorem c39 (l:List Tok) (S:QS) (q:Qry) (o oq:Nat) (Hp:List AObj) (hne:oq≠o) (ho:Hp[o]? = some (prq l S)) (hoq:Hp[oq]? = some (qo true q)) (hi:S.i<l.length) (hl:TokEnd l) (hll:l.length≤500000) (hc12:q.cols.length≤12):ACall Tryz.prog 39 [.ptr o 0,.ptr oq 0] Hp (fun r H'=>r=Ti∧H'=(Hp.set o (prq l (M3 l (q,S)).2)).set oq (qo true (M3 l (q,S)).1)):=by
 have hlo:=(Ad.1 ho).1
 have hlq:=(Ad.1 hoq).1
 refine Ah [] [0,1] Tryz.func39 Tryz.ntmps39 (fun d=>?_)
 refine Z8 ?_;refine Bk Tryz.call72 ho (by simp) I2 (c72 l S [42] o _ (Ar ho) hi (by omega)) ?_;refine Z0 ?_
 refine Ew jS (by rw [Cr (Ne.symm hne)];exact hoq) ?_ ?_
 ·simp
 refine A2 [0,1] ?_;refine Z13 ?_
 refine A4 (h:=Cn (qB hlq)) (hr:=?_)
 refine A2 [0,1,12] ?_
 refine A3 (fun ht12=>?_) (fun ht12=>?_)
 ·have hq:isQ l [42] S=true:=ht12
  have e:=AKt (q:=q) hq
  rw [X7 hq,hq]
  refine Z9 ?_;exact A8 .nores (hp:=⟨rfl,by rw [e];rfl⟩)
 have hq:isQ l [42] S=false:=ht12
 have e:=AKu (q:=q) hq
 rw [X8 hq,hq]
 rw [AH0]
 refine jt ?_
 have f0:=M5 hl (q:=Kw false q) hi hc12
 refine Z0 ?_
 refine nz Tryz.call73 hlo hlq hne (c73 l S (Kw false q) o oq _ hne (Ar (qA hlo hne)) (Ar (qB hlq)) hi (by omega) (by show q.cols.length≤_;omega)) ?_
 refine A2 [0,1] ?_
 refine Bh (α:=Qry×QS) (fun r=>⟨21,A9 0 (.ptr o 0) (A9 1 (.ptr oq 0) (fun _=>.any)),(Hp.set o (prq l r.2)).set oq (qo true r.1),[],[],none⟩) (fun r=>QNames l (Gu l (Kw false q,S)) r) (fun r=>l.length-r.2.i) (Gu l (Kw false q,S)) (.start f0.2.1 f0.2.2) (Fq _) rfl (fun r hr=>?_)
 refine Z23 ?_;refine Bk Tryz.call72 (qA hlo hne) (by simp) I2 (c72 l r.2 [44] o _ (Ar (qA hlo hne)) hr.lt (by omega)) ?_;refine A2 [0,1,17] ?_
 refine A3 (fun ht17=>?_) (fun ht17=>?_)
 ·have hq1:isQ l [44] r.2=true:=ht17
  have hlt1:=Jl hl hr.lt hq1
  have hon:=hr.on hl hq1
  rw [X7 hq1,zp hne]
  refine w7 ?_;refine Z28 ?_
  refine nz Tryz.call73 hlo hlq hne (c73 l (Eh r.2) r.1 o oq _ hne (Ar (qA hlo hne)) (Ar (qB hlq)) hlt1 (by omega) (by have:=hr.cols;omega)) ?_
  refine A2 [0,1] ?_;refine Hc ?_
  refine B5 (Gu l (r.1,Eh r.2)) hon.1 (by have:=hr.lt;have:=hon.2;omega) (Bx rfl)
 have hq1:isQ l [44] r.2=false:=ht17
 have hout:=hr.out hq1
 rw [X8 hq1,zp hne]
 refine Z36 ?_;refine K.lpE ?_;exact Jz .nores (hp:=⟨rfl,by rw [e,hout]⟩)

theorem ACy {l:List Tok} {q:Qry} {S:QS} (h:isQ l Kx S=false):J2 l (q,S)=(q,S):=if_neg (by show ¬(isQ l Kx S=true);rw [h];simp)
theorem ACz {l:List Tok} {q:Qry} {S:QS} (h:isQ l Kx S=true) (h2:((atM l (S.i+1)).2.2.1 != 0)=true):J2 l (q,S)=(q,⟨S.i+1,(atM l (S.i+1)).2.2.1,(atM l (S.i+1)).2.2.2⟩):=by
 unfold J2
 rw [if_pos (by exact h),if_pos (by exact h2)]
theorem AD0 {l:List Tok} {q:Qry} {S:QS} {k:Nat} (h:isQ l Kx S=true) (h2:((atM l (S.i+1)).2.2.1 != 0)=false) (hk:(atM l (S.i+1)).2.1=(k:Int)):J2 l (q,S)=(⟨q.all,q.cols,(atM l (S.i+1)).1,q.lim⟩,⟨k,S.code,S.at_⟩):=by
 unfold J2
 rw [if_pos (by exact h),if_neg (by show ¬_=true;rw [h2];simp),hk]
 rfl
theorem AD1 {l:List Tok} {q:Qry} {S:QS} (h:isQ l K8 S=false):I1 l (q,S)=(q,S):=if_neg (by show ¬(isQ l K8 S=true);rw [h];simp)
theorem AD2 {l:List Tok} {q:Qry} {S:QS} (h:isQ l K8 S=true) (h2:((Ak l (S.i+1)).kind != 3)=true):I1 l (q,S)=(q,I6 l 8 (Eh S)):=by
 unfold I1
 rw [if_pos (by exact h),if_pos (by exact h2)]
theorem AD3 {l:List Tok} {q:Qry} {S:QS} (h:isQ l K8 S=true) (h2:((Ak l (S.i+1)).kind != 3)=false) (h3:decide ((100000:Int)<Tb (Ak l (S.i+1)).text)=true):I1 l (q,S)=(q,I6 l 3 (Eh S)):=by
 unfold I1
 rw [if_pos (by exact h),if_neg (by show ¬_=true;rw [h2];simp),if_pos (by exact h3)]
theorem AD4 {l:List Tok} {q:Qry} {S:QS} (h:isQ l K8 S=true) (h2:((Ak l (S.i+1)).kind != 3)=false) (h3:decide ((100000:Int)<Tb (Ak l (S.i+1)).text)=false):I1 l (q,S)=(⟨q.all,q.cols,q.whr,Tb (Ak l (S.i+1)).text⟩,Eh (Eh S)):=by
 unfold I1
 rw [if_pos (by exact h),if_neg (by show ¬_=true;rw [h2];simp),if_neg (by show ¬_=true;rw [h3];simp)]
theorem Jm {Hp:List AObj} {o:Nat} {A:AObj} (hl:o<Hp.length):(Hp.set o A)[o]? = some A:=by simp [hl]
theorem tc {Hp:List AObj} {o oq:Nat} {A B:AObj} (hne:oq≠o) (hoq:Hp[oq]? = some B):(Hp.set o A)[oq]? = some B:=by rw [Cr (Ne.symm hne)];exact hoq
theorem c40 (l:List Tok) (S:QS) (q:Qry) (o oq:Nat) (Hp:List AObj) (hne:oq≠o) (ho:Hp[o]? = some (prq l S)) (hoq:Hp[oq]? = some (qo true q)) (hi:S.i<l.length) (hl:TokEnd l) (hll:l.length≤500000) (hc12:q.cols.length≤12):ACall Tryz.prog 40 [.ptr o 0,.ptr oq 0] Hp (fun r H'=>r=Ti∧H'=(Hp.set o (prq l (J2 l (q,S)).2)).set oq (qo true (J2 l (q,S)).1)):=by
 have hlo:=(Ad.1 ho).1
 have hlq:=(Ad.1 hoq).1
 refine Ah [] [0,1] Tryz.func40 Tryz.ntmps40 (fun d=>?_)
 refine Z23 ?_;refine Bk Tryz.call72 ho (by simp) I2 (c72 l S Kx o _ (Ar ho) hi (by omega)) ?_;refine A4 ?_;refine A2 [0,1,9] ?_
 refine A3 (fun ht9=>?_) (fun ht9=>?_)
 ·have hq:isQ l Kx S=false:=by simpa using ht9
  have e:=ACy (q:=q) hq
  rw [X8 hq,Cp ho]
  exact Z40
 have hq:isQ l Kx S=true:=by simpa using ht9
 have hi1:S.i+1<l.length:=Jl hl hi hq
 rw [X7 hq]
 refine Z3 ?_;refine Fs [0,1,3,7,0,16,48,112,255,511,1023,1023,1023,0,0,26623,61439,131071] [] [.q 13 [] [],.s [4] none [] [],.s [6] none [] [],.s [4] none [] [],.q 1 [] [],.s [6] none [] []] (fun _=>Hp.set o (prq l (Eh S))) (fun _=>[]) Aj (by kernel_rfl) rfl rfl (fun _=>rfl) ?_
 apply Y.q
 ·intro B hT hF
  refine Z34 ?_
  refine An (h:=Cn (Jm hlo)) (hr:=?_)
  refine Z34 ?_
  refine An (h:=Cn (Jm hlo)) (hr:=?_)
  refine Cy Tryz.call74 (c74 l (S.i+1) hi1 hl hll (fun n Dv h1 h2=>rl hl (by omega) n Dv h1 h2) _) ?_;exact pi
 case hTF=>decide
 refine Y.allocP Tryz.zeroValue27 ?_;refine Y.allocP Tryz.zeroValue50 ?_;refine Y.storeP Tryz.sizeOf27 ?_
 apply Y.q
 ·intro B hT hF
  exact Z79
 case hTF=>decide
 refine Y.storeP Tryz.sizeOf50 ?_;refine F7 (tn:=[])  ?_;refine A2 [0,1,4,5,6] ?_;refine Z32 ?_;refine A2 [0,1,4,5,6,25] ?_
 refine A3 (fun ht25=>?_) (fun ht25=>?_)
 ·have e:=ACz (q:=q) hq ht25
  refine Z20 ?_
  refine Ew jS (Jm hlo) ?_ ?_
  ·simp
  refine A2 [] ?_;exact Z40
 obtain ⟨k,hk,hkl⟩:=n8 hl (by omega) hi1 (by simpa using ht25)
 have e:=AD0 (q:=q) hq ht25 hk
 rw [hk]
 refine Z3 ?_;refine Z28 ?_;refine Z61 ?_
 refine Ew jS (tc hne hoq) ?_ ?_
 ·intro z hz
  simp only [By,Fv,or_false] at hz
  rcases hz with rfl|rfl|rfl|rfl|rfl|rfl
  all_goals first|exact Eq|simp
 refine Z0 ?_
 refine Ew jS (qA hlo hne) ?_ ?_
 ·simp
 exact Z74

theorem c41 (l:List Tok) (S:QS) (q:Qry) (o oq:Nat) (Hp:List AObj) (hne:oq≠o) (ho:Hp[o]? = some (prq l S)) (hoq:Hp[oq]? = some (qo true q)) (hi:S.i<l.length) (hl:TokEnd l) (hll:l.length≤500000) (hc12:q.cols.length≤12):ACall Tryz.prog 41 [.ptr o 0,.ptr oq 0] Hp (fun r H'=>r=Ti∧H'=(Hp.set o (prq l (I1 l (q,S)).2)).set oq (qo true (I1 l (q,S)).1)):=by
 have hlo:=(Ad.1 ho).1
 have hlq:=(Ad.1 hoq).1
 refine Ah [] [0,1] Tryz.func41 Tryz.ntmps41 (fun d=>?_)
 refine Z23 ?_;refine Bk Tryz.call72 ho (by simp) I2 (c72 l S K8 o _ (Ar ho) hi (by omega)) ?_;refine A4 ?_;refine A2 [0,1,9] ?_
 refine A3 (fun ht9=>?_) (fun ht9=>?_)
 ·have hq:isQ l K8 S=false:=by simpa using ht9
  have e:=AD1 (q:=q) hq
  rw [X8 hq,Cp ho]
  exact Z40
 have hq:isQ l K8 S=true:=by simpa using ht9
 have hi1:S.i+1<l.length:=Jl hl hi hq
 rw [X7 hq]
 refine Z3 ?_;refine Fs [0,1,3,7,0,16,48,112,255,511,0,2047] [] [.q 10 [] [],.s [4] none [] [],.s [4] none [] []] (fun _=>Hp.set o (prq l (Eh S))) (fun _=>[]) Aj (by kernel_rfl) rfl rfl (fun _=>rfl) ?_
 apply Y.q
 ·intro B hT hF
  refine Z34 ?_
  refine An (h:=Cn (Jm hlo)) (hr:=?_)
  refine Z34 ?_
  refine An (h:=Cn (Jm hlo)) (hr:=?_)
  refine An (h:=Ag ((S.i+1)) (Ic (Ak l (S.i+1))) (fun _=>M0 hi1)) (hr:=?_)
  exact Z79
 case hTF=>decide
 refine AF1 ?_;refine F7 (tn:=[])  ?_;refine A2 [0,1,4] ?_;refine Z1 ?_;refine A7 Tryz.call75 (c75 (Ak l (S.i+1)).text (hl.text _) _) ?_;refine Z86 ?_;refine A2 [0,1,4,5] ?_;refine Z19 ?_;refine Z20 ?_;refine A2 [0,1,5,26] ?_
 refine A3 (fun ht26=>?_) (fun ht26=>?_)
 ·have e:=AD2 (q:=q) hq ht26
  refine Z2 ?_;refine Bk Tryz.call42 (Jm hlo) (by simp) I2 (c42 l (Eh S) 8 o _ (Ar (Jm hlo)) hi1) ?_;refine A2 [] ?_;exact Z76
 refine Z13 ?_;refine A2 [0,1,5,32] ?_
 refine A3 (fun ht32=>?_) (fun ht32=>?_)
 ·have e:=AD3 (q:=q) hq ht26 ht32
  refine Z2 ?_;refine Bk Tryz.call42 (Jm hlo) (by simp) I2 (c42 l (Eh S) 3 o _ (Ar (Jm hlo)) hi1) ?_;refine A2 [] ?_;exact Z76
 have e:=AD4 (q:=q) hq ht26 ht32
 refine Z18 ?_;refine Z20 ?_
 refine Ew jS (tc hne hoq) ?_ ?_
 ·simp
 refine A2 [0] ?_;refine Z22 ?_
 refine A4 (h:=Cn (qA hlo hne)) (hr:=?_)
 refine A4 (h:=Q.add64 (h2:=fun _=>by rw [show (Eh S).i=S.i+1 from rfl];omega)) (hr:=?_)
 refine Z0 ?_
 refine Ew jS (qA hlo hne) ?_ ?_
 ·simp
 exact Z74

theorem Tj {l:List Tok} (hl:TokEnd l):∀(n:Nat) (r:Qry×QS),r.2.i<l.length→r.1.cols.length≤12→(K7 l n r).2.i<l.length∧(K7 l n r).1.cols.length≤12
 | 0,r,h1,h2=>⟨h1,h2⟩
 | n+1,r,h1,h2=>by
  rw [K7]
  split
  ·rename_i hq
   obtain ⟨_,f2,f3⟩:=M5 hl (q:=r.1) (Jl hl h1 hq) h2
   exact Tj hl n _ f2 f3
  exact ⟨h1,h2⟩
theorem ix {l:List Tok} (hl:TokEnd l) {r:Qry×QS} (h1:r.2.i<l.length) (h2:r.1.cols.length≤12):(M3 l r).2.i<l.length∧(M3 l r).1.cols.length≤12:=by
 unfold M3
 split
 ·rename_i hq;exact ⟨Jl hl h1 hq,h2⟩
 obtain ⟨_,f2,f3⟩:=M5 hl (q:=Kw false r.1) h1 h2
 exact Tj hl _ _ f2 f3
theorem iy {l:List Tok} (hl:TokEnd l) (hll:l.length≤500000) {r:Qry×QS} (h1:r.2.i<l.length) (h2:r.1.cols.length≤12):(J2 l r).2.i<l.length∧(J2 l r).1.cols.length≤12:=by
 unfold J2
 split
 ·rename_i hq
  have hi1:r.2.i+1<l.length:=Jl hl h1 hq
  split
  ·exact ⟨hi1,h2⟩
  rename_i h
  obtain ⟨k,hk,hkl⟩:=n8 hl (by omega) hi1 (by simpa using h)
  refine ⟨?_,h2⟩
  show (atM l (r.2.i+1)).2.1.toNat<_
  rw [hk,Int.toNat_natCast]
  exact hkl
 exact ⟨h1,h2⟩
theorem iz {l:List Tok} (hl:TokEnd l) {r:Qry×QS} (h1:r.2.i<l.length) (h2:r.1.cols.length≤12):(I1 l r).2.i<l.length∧(I1 l r).1.cols.length≤12:=by
 unfold I1
 split
 ·rename_i hq
  have hi1:(Eh r.2).i<l.length:=Jl hl h1 hq
  split
  ·exact ⟨by rw [Qv];exact hi1,h2⟩
  split
  ·exact ⟨by rw [Qv];exact hi1,h2⟩
  rename_i h _
  have hk:(Ak l (Eh r.2).i).kind≠0:=by
   have:(Ak l (r.2.i+1)).kind=3:=by simpa using h
   show (Ak l (r.2.i+1)).kind≠0
   rw [this];decide
  exact ⟨hl.step hi1 hk,h2⟩
 exact ⟨h1,h2⟩
def q0Q:Qry:=⟨false,[],Am, -1⟩
def s1Q (l:List Tok):QS:=Qo l Qp ⟨0,0,0⟩
def r1Q (l:List Tok):Qry×QS:=M3 l (q0Q,s1Q l)
def r2Q (l:List Tok):Qry×QS:=J2 l (r1Q l)
def r3Q (l:List Tok):Qry×QS:=I1 l (r2Q l)
def s4Q (l:List Tok):QS:=Qo l [59] (r3Q l).2
def s5Q (l:List Tok):QS:=AK9 l (s4Q l)
theorem AKv:Le (.agg [At false,.nil,A5 0,Ac [],A5 0,A5 0,Ac [],.nil,A5 (-1)]) (.agg [At false,.nil,A5 0,Ac [],A5 0,A5 0,Ac [],.slice false 6 [],A5 (-1)]):=by
 refine .agg _ _ rfl (by simp [AV.one,Value.oneCell',sv]) fun i y y' h1 h2=>?_
 match i with
 | 0=>simp at h1 h2;subst h1;subst h2;exact .inl rfl
 | 1=>simp at h1 h2;subst h1;subst h2;exact .inl rfl
 | 2=>simp at h1 h2;subst h1;subst h2;exact .inl rfl
 | 3=>simp at h1 h2;subst h1;subst h2;exact .inl rfl
 | 4=>simp at h1 h2;subst h1;subst h2;exact .inl rfl
 | 5=>simp at h1 h2;subst h1;subst h2;exact .inl rfl
 | 6=>simp at h1 h2;subst h1;subst h2;exact .inl rfl
 | 7=>simp at h1 h2;subst h1;subst h2;exact .inr ⟨rfl,6,rfl⟩
 | 8=>simp at h1 h2;subst h1;subst h2;exact .inl rfl
 | i+9=>simp at h1
abbrev M6 (q:Qry):AV:=.agg (qoC false q)
theorem AD5 {n:Nat} {q:Qry}:Low n (M6 q):=by
 have h:∀z∈qoC false q,Low n z:=zo (n:=n) (own:=false) (q:=q)
 simpa using h
theorem X9 {n:Nat}:oid n 4≠oid n 3:=by unfold oid;omega
theorem c6 (s:Str) (hs:s.length≤1048576) (Hp:List AObj):AFun Tryz.prog 15 [Ac s] Hp (.tup [M6 (Ky s).1,.agg [A5 (Ky s).2.1,A5 (Ky s).2.2]]):=by
 refine Ah [.cell 2 29,.cell 3 50] [0] Tryz.func15 Tryz.ntmps15 (fun d=>?_)
 refine Z33 ?_;refine Ks ?_;refine A2 [0,2,3] ?_;refine Z2 ?_;refine A7 Tryz.call37 (c37 s hs _) ?_;refine Z11 ?_;refine vl ?_;refine Vh ?_;refine Z32 ?_;refine A2 [2,3,4,5,15] ?_
 refine A3 (fun ht15=>?_) (fun ht15=>?_)
 ·have e:Ky s=(gx,(Bp s).2.1,((Bp s).2.2:Int)):=if_pos ht15
  refine Fs [0,0,1,7] [2] [.q 2 [] [],.s [] (some 0) [] []] (fun _=>Hp) (fun _=>[.cells 29 [At false,.nil,A5 0,Ac [],A5 0,A5 0,Ac [],.nil,A5 0],.cells 50 [A5 0,A5 0],.cells 50 [A5 (Bp s).2.1,A5 ((Bp s).2.2:Nat)]]) Aj (by kernel_rfl) rfl rfl (fun _=>rfl) ?_
  apply Y.q
  ·intro B hT hF
   refine D.build (places:=#[(0,1),(1,1),(2,6),(8,1)]) jU (fun w=>by simp) jZ ?_;exact Z79
  case hTF=>decide
  refine AJn ?_;refine F7 (tn:=[2])  ?_;exact AF7
 have e0:¬((Bp s).2.1 != 0)=true:=by rw [ht15];simp
 have hz:(Bp s).2.1=0:=by simpa using ht15
 have hle:=ABm hz
 have hlen:=ABv hz
 have hpos:0<(Bp s).1.length:=hle.pos
 have hl5:(Bp s).1.length≤500000:=by omega
 have f1:(s1Q (Bp s).1).i<(Bp s).1.length:=iw hle hpos
 have f2:(r1Q (Bp s).1).2.i<(Bp s).1.length∧(r1Q (Bp s).1).1.cols.length≤12:=ix hle (r:=(q0Q,s1Q (Bp s).1)) f1 (show ([]:List Str).length≤12 by decide)
 have f3:(r2Q (Bp s).1).2.i<(Bp s).1.length∧(r2Q (Bp s).1).1.cols.length≤12:=iy hle hl5 f2.1 f2.2
 have f4:(r3Q (Bp s).1).2.i<(Bp s).1.length∧(r3Q (Bp s).1).1.cols.length≤12:=iz hle f3.1 f3.2
 have f5:(s4Q (Bp s).1).i<(Bp s).1.length:=iw hle f4.1
 have hp:Ky s=nf (Bp s).1:=if_neg e0
 refine Z93 ?_;refine Lq (places:=#[(0,1),(1,1),(2,2)]) jU (fun w=>by simp) jZ ?_;refine R.box ?_;refine A4 ?_;refine A2 [2,3,6] ?_;refine Eg ?_;refine Lq (places:=#[(0,1),(1,1),(2,6),(8,1)]) jU (fun w=>by simp) jZ ?_;refine R.wk 21 _ AKv ?_;refine Z16 ?_;refine A2 [2,3,6,7] ?_;refine Eg ?_;refine Pa 4 1 1 ?_;refine A4 ?_
 refine Mx (n:=3) (x:=prq (Bp s).1 (s1Q (Bp s).1)) Tryz.call38 (c38 (Bp s).1 ⟨0,0,0⟩ Qp (oid Hp.length 3) _ (by rw [Bi];rfl) hpos (by omega)) ?_
 refine AAo ?_
 refine R.callX (up':=Hp) (own':=[.cells 29 [At false,.nil,A5 0,Ac [],A5 0,A5 0,Ac [],.nil,A5 0],.cells 50 [A5 0,A5 0],.cells 50 [A5 (Bp s).2.1,A5 ((Bp s).2.2:Nat)],prq (Bp s).1 (r1Q (Bp s).1).2,qo true (r1Q (Bp s).1).1]) Tryz.call39 ((c39 (Bp s).1 (s1Q (Bp s).1) q0Q (oid Hp.length 3) (oid Hp.length 4) _ X9 (by rw [Bi];rfl) (by rw [Bi];rfl) f1 hle hl5 (by decide)).mono fun r H' e=>⟨e.1,e.2.trans (by rw [F3,F3];rfl)⟩) rfl (fun h=>h) ?_
 refine AAo ?_
 refine R.callX (up':=Hp) (own':=[.cells 29 [At false,.nil,A5 0,Ac [],A5 0,A5 0,Ac [],.nil,A5 0],.cells 50 [A5 0,A5 0],.cells 50 [A5 (Bp s).2.1,A5 ((Bp s).2.2:Nat)],prq (Bp s).1 (r2Q (Bp s).1).2,qo true (r2Q (Bp s).1).1]) Tryz.call40 ((c40 (Bp s).1 (r1Q (Bp s).1).2 (r1Q (Bp s).1).1 (oid Hp.length 3) (oid Hp.length 4) _ X9 (by rw [Bi];rfl) (by rw [Bi];rfl) f2.1 hle hl5 f2.2).mono fun r H' e=>⟨e.1,e.2.trans (by rw [F3,F3];rfl)⟩) rfl (fun h=>h) ?_
 refine AAo ?_
 refine R.callX (up':=Hp) (own':=[.cells 29 [At false,.nil,A5 0,Ac [],A5 0,A5 0,Ac [],.nil,A5 0],.cells 50 [A5 0,A5 0],.cells 50 [A5 (Bp s).2.1,A5 ((Bp s).2.2:Nat)],prq (Bp s).1 (r3Q (Bp s).1).2,qo true (r3Q (Bp s).1).1]) Tryz.call41 ((c41 (Bp s).1 (r2Q (Bp s).1).2 (r2Q (Bp s).1).1 (oid Hp.length 3) (oid Hp.length 4) _ X9 (by rw [Bi];rfl) (by rw [Bi];rfl) f3.1 hle hl5 f3.2).mono fun r H' e=>⟨e.1,e.2.trans (by rw [F3,F3];rfl)⟩) rfl (fun h=>h) ?_
 refine AAo ?_
 refine Mx (n:=3) (x:=prq (Bp s).1 (s4Q (Bp s).1)) Tryz.call38 (c38 (Bp s).1 (r3Q (Bp s).1).2 [59] (oid Hp.length 3) _ (by rw [Bi];rfl) f4.1 (by omega)) ?_
 refine A2 [2,3,6,7] ?_;refine Kp ?_;refine W.draw [0,1,3,7,0,16,48,112,255,511,1023,2047] 8 Aj (by kernel_rfl) ?_;refine Z92 ?_;refine Z92 ?_;refine Ee ?_
 refine A4 (h:=Ag ((s4Q (Bp s).1).i) (Ic (Ak (Bp s).1 (s4Q (Bp s).1).i)) (fun _=>M0 f5)) (hr:=?_)
 refine Z11 ?_;refine A2 [2,3,6,7,43] ?_
 refine A3 (fun ht43=>?_) (fun ht43=>?_)
 ·have e5:s5Q (Bp s).1=I6 (Bp s).1 8 (s4Q (Bp s).1):=if_pos ht43
  refine Z43 ?_
  refine Mx (n:=3) (x:=prq (Bp s).1 (I6 (Bp s).1 8 (s4Q (Bp s).1))) Tryz.call42 (c42 (Bp s).1 (s4Q (Bp s).1) 8 (oid Hp.length 3) _ (by rw [Bi];rfl) f5) ?_
  refine A2 [2,3,6,7] ?_;refine Ef ?_;refine Z48 ?_;refine Z0 ?_;refine A2 [2,3,6,7,51] ?_
  refine A3 (fun ht51=>?_) (fun ht51=>?_)
  ·rw [←e5] at ht51 ⊢
   have e:Ky s=(gx,(s5Q (Bp s).1).code,(s5Q (Bp s).1).at_):=by rw [hp];exact if_pos ht51
   refine AJo ?_
   apply Y.q
   ·intro B hT hF
    exact AHo
   case hTF=>decide
   refine Z94 ?_;exact AF7
  rw [←e5] at ht51
  have e:Ky s=((r3Q (Bp s).1).1,0,0):=by rw [hp];exact if_neg (by show ¬(((s5Q (Bp s).1).code != 0)=true);rw [ht51];simp)
  refine Z93 ?_;refine Z26 ?_;refine F1 ?_;exact AHb
 have e5:s5Q (Bp s).1=s4Q (Bp s).1:=if_neg (by rw [ht43];simp)
 refine jy ?_;refine Z0 ?_;refine A2 [2,3,6,7,51] ?_
 refine A3 (fun ht51=>?_) (fun ht51=>?_)
 ·rw [←e5] at ht51 ⊢
  have e:Ky s=(gx,(s5Q (Bp s).1).code,(s5Q (Bp s).1).at_):=by rw [hp];exact if_pos ht51
  refine AJo ?_
  apply Y.q
  ·intro B hT hF
   exact AHo
  case hTF=>decide
  refine Z94 ?_;exact AF7
 rw [←e5] at ht51
 have e:Ky s=((r3Q (Bp s).1).1,0,0):=by rw [hp];exact if_neg (by show ¬(((s5Q (Bp s).1).code != 0)=true);rw [ht51];simp)
 refine Z93 ?_;refine Z26 ?_;refine F1 ?_;exact AHb

structure QW (q:Qry):Prop where
 ok:okE 61 q.whr
 size:sizeE q.whr≤1048576
 rng:Dk Hy q.whr=true
 len:q.cols.length≤1048576
 names:∀s∈q.cols,s.length≤1048576
def noN (s:Str):Bool := !(Fj s)
def Xa (ks:List Str):Int:=if ks.any noN then (ks.findIdx noN:Int) else -1
theorem zq {ks:List Str} {i:Nat} (h:i<ks.length) (hn:noN ks[i]=true) (hp:∀(j:Nat) (y:Str),j<i→ks[j]? = some y→¬noN y=true):(i:Int)=Xa ks:=by
 unfold Xa
 rw [if_pos (Gw.2 ⟨_,Br h,hn⟩)]
 congr 1
 refine (List.findIdx_eq h |>.2 ⟨hn,fun j hj=>?_⟩).symm
 have:=hp j (ks[j]'(by omega)) hj (Aa (by omega))
 simpa using this
theorem lv {ks:List Str} (hp:∀(j:Nat) (y:Str),ks[j]? = some y→¬noN y=true):(-1:Int)=Xa ks:=by
 unfold Xa
 rw [if_neg]
 intro h
 obtain ⟨y,hy,hn⟩:=Gw.1 h
 obtain ⟨j,hj⟩:=Cg hy
 exact hp j y hj hn
theorem td (ks:List Str):decide (0≤Xa ks)=ks.any noN:=by
 unfold Xa
 cases ks.any noN<;>simp
theorem zr {α:Type} {p:α→Bool} (l:List α):(!(l.any fun s => !(p s)))=l.all p:=by
 induction l with
 | nil=>rfl
 | cons a r ih=>rw [List.any_cons,List.all_cons,←ih];cases p a<;>simp
theorem o0 {q:Qry} (h:((((q.all != ((q.cols.length:Int)==0)) || decide ((12:Int)<(q.cols.length:Int))) || decide (q.lim < -1)) || decide ((100000:Int)<q.lim))=true):Dq q=false:=if_pos h
theorem cu {q:Qry} (h:((((q.all != ((q.cols.length:Int)==0)) || decide ((12:Int)<(q.cols.length:Int))) || decide (q.lim < -1)) || decide ((100000:Int)<q.lim))=false):Dq q=((q.cols.all Fj)&&(!(Fa q) || Cz q.whr)):=if_neg (by rw [h];simp)
theorem AD6 {q:Qry} (h:((((q.all != ((q.cols.length:Int)==0)) || decide ((12:Int)<(q.cols.length:Int))) || decide (q.lim < -1)) || decide ((100000:Int)<q.lim))=false):Dq q=(!(q.cols.any noN)&&(!(Fa q) || C3 q.whr)):=by rw [cu h,←zr,Ds];rfl
theorem AD7 {q:Qry} (h:((((q.all != ((q.cols.length:Int)==0)) || decide ((12:Int)<(q.cols.length:Int))) || decide (q.lim < -1)) || decide ((100000:Int)<q.lim))=false) {s:Str} (hs:s∈q.cols) (hn:K2 s=false):Dq q=false:=by
 rw [cu h]
 have:q.cols.all Fj=false:=by
  rw [I7]
  intro e
  have:=B1.1 e s hs
  rw [Ly,hn] at this
  cases this
 rw [this];rfl
theorem AD8 {q:Qry} (h:((((q.all != ((q.cols.length:Int)==0)) || decide ((12:Int)<(q.cols.length:Int))) || decide (q.lim < -1)) || decide ((100000:Int)<q.lim))=false) (hn:∀s∈q.cols,K2 s=true):Dq q=(!(Fa q) || Cz q.whr):=by
 rw [cu h]
 have:q.cols.all Fj=true:=B1.2 fun s hs=>by rw [Ly];exact hn s hs
 rw [this];rfl
def Tk (q:Qry):Bool:=if decide ((20:Int)<(q.cols.length:Int)) || Yp q.whr then true else q.cols.any fun s=>decide ((100:Int)<(s.length:Int))
theorem AD9 {q:Qry} (h:(decide ((20:Int)<(q.cols.length:Int)) || Yp q.whr)=true):Tk q=true:=if_pos h
theorem ADa {q:Qry} (h:(decide ((20:Int)<(q.cols.length:Int)) || Yp q.whr)=false) {s:Str} (hs:s∈q.cols) (hn:decide ((100:Int)<(s.length:Int))=true):Tk q=true:=by
 unfold Tk
 rw [if_neg (by rw [h];simp)]
 exact Gw.2 ⟨s,hs,hn⟩
theorem ADb {q:Qry} (h:(decide ((20:Int)<(q.cols.length:Int)) || Yp q.whr)=false) (hn:∀s∈q.cols,decide ((100:Int)<(s.length:Int))=false):Tk q=false:=by
 unfold Tk
 rw [if_neg (by rw [h];simp),I7]
 intro e
 obtain ⟨s,hs,h2⟩:=Gw.1 e
 rw [hn s hs] at h2;cases h2
theorem Xb {α:Type} {l:List α} {P:α→Prop} {i:Nat} (h:i<l.length) (hx:∀y∈l.take i,P y) (hr:P l[i]):∀y∈l.take (i+1),P y:=by
 intro y hy
 rw [Fw h,H7] at hy
 rcases hy with hy|hy
 ·exact hx y hy
 rw [Ck] at hy;subst hy;exact hr
theorem Zl {α:Type} {l:List α} {P:α→Prop} {i:Nat} (h:l.length≤i) (hx:∀y∈l.take i,P y):∀y∈l,P y:=by rwa [De h] at hx
theorem c59 (s:Str) (hs:s.length≤1048576) (Hp:List AObj):AFun Tryz.prog 59 [Ac s] Hp (At (noN s)):=by
 refine Ah [.tmp 2] [0] Tryz.func59 Tryz.ntmps59 (fun d=>?_)
 refine Z58 ?_;refine Z2 ?_;refine A7 Tryz.call60 (c60 s hs _) ?_;exact jo

theorem c63 (ks:List Str) (hkl:ks.length≤1048576) (hks:∀s∈ks,s.length≤1048576) (Hp:List AObj):AFun Tryz.prog 63 [J4 ks,.fn (.func 59) [] []] Hp (A5 (Xa ks)):=by
 refine Ah [.tmp 4] [0,1] Tryz.func63 Tryz.ntmps63 (fun d=>?_)
 refine Z64 ?_;refine Z32 ?_;refine A2 [0,1,7,8] ?_
 refine Bh (α:=Nat) (fun x=>⟨19,A9 0 (J4 ks) (A9 1 (.fn (.func 59) [] []) (A9 7 (A5 ks.length) (A9 8 (A5 (x:Nat)) (fun _=>.any)))),Hp,[],[],none⟩) (fun x=>x≤ks.length∧∀(j:Nat) (y:Str),j<x→ks[j]? = some y→¬noN y=true) (fun x=>ks.length-x) (0) (by simp) (Bc (by simp)) rfl (fun x hx=>?_)
 refine Z2 ?_;refine A2 [0,1,7,8,9] ?_
 refine Gz (fun ht9=>?_) (fun ht9=>?_)
 ·have hlt:x<ks.length:=by simpa using ht9
  refine Z19 ?_;refine Z1 ?_;refine A2 [0,1,5,7,8] ?_;refine Z13 ?_
  refine A4 (h:=Ag (x) (Ac ks[x]) (fun _=>B7 hlt)) (hr:=?_)
  refine A4 ?_;refine R.callV Tryz.call59 (c59 ks[x] (hks _ (Br hlt)) _) ?_;refine A2 [0,1,5,7,8,16] ?_
  refine A3 (fun ht16=>?_) (fun ht16=>?_)
  ·refine Z1 ?_;refine py ?_;exact A8 (Ai A6) ⟨by rw [zq hlt ht16 hx.2],rfl⟩
  refine Vf ?_;exact AHj
 refine Z31 ?_;refine bg ?_;exact A8 (Ai A6) ⟨by rw [lv (K1 (by simp at ht9;omega) hx.2)],rfl⟩

theorem c27 (ks:List Str) (hkl:ks.length≤1048576) (hks:∀s∈ks,s.length≤1048576) (Hp:List AObj):AFun Tryz.prog 27 [J4 ks,.fn (.func 59) [] []] Hp (At (ks.any noN)):=by
 refine Ah [.tmp 4] [0,1] Tryz.func27 Tryz.ntmps27 (fun d=>?_)
 refine Z64 ?_;refine Z1 ?_;refine A7 Tryz.call63 (c63 ks hkl hks _) ?_;refine Z0 ?_;refine Z27 ?_;exact A8 (Ai A6) ⟨by rw [←td];try rfl,rfl⟩

theorem c30 (q:Qry) (h:QW q) (Hp:List AObj):AFun Tryz.prog 30 [M6 q] Hp (At (Fa q)):=by
 refine Ah [.tmp 2] [0] Tryz.func30 Tryz.ntmps30 (fun d=>?_)
 refine Z87 ?_;refine Z82 ?_;refine R.wk 5 _ Ng ?_;refine A7 Tryz.call66 (c66 61 q.whr h.ok Am _) ?_;exact jo

theorem c22 (q:Qry) (h:QW q) (Hp:List AObj):AFun Tryz.prog 22 [M6 q] Hp (At (Fa q)):=by
 refine Ah [.tmp 2] [0] Tryz.func22 Tryz.ntmps22 (fun d=>?_)
 refine Z87 ?_;refine Z82 ?_;refine R.wk 5 _ Ng ?_;refine A7 Tryz.call51 (c51 61 q.whr h.ok Am _) ?_;exact jo

theorem c25 (q:Qry) (h:QW q) (Hp:List AObj):AFun Tryz.prog 25 [M6 q] Hp (At (Dq q)):=by
 refine Ah [.tmp 2] [0] Tryz.func25 Tryz.ntmps25 (fun d=>?_)
 refine Z87 ?_;refine Z48 ?_;refine Z0 ?_;refine Xl ?_;refine Z0 ?_;refine Z78 ?_;refine Z90 ?_;refine A2 [1,25] ?_
 refine A3 (fun ht25=>?_) (fun ht25=>?_)
 ·rw [B6] at ht25
  have e:=o0 ht25
  exact AIe
 rw [B6] at ht25
 have e:=AD6 ht25
 refine Z88 ?_;refine A7 Tryz.call27 (c27 q.cols h.len h.names _) ?_;refine N4 ?_;refine Bw Tryz.call30 (fun hB=>c30 q h _) ?_;refine Q8 ?_;refine Bw Tryz.call61 (fun hB=>c61 61 q.whr h.ok (by decide) _) ?_;refine B3 ?_;exact AIk

theorem c33 (q:Qry) (h:QW q) (Hp:List AObj):AFun Tryz.prog 33 [M6 q] Hp (At (Dq q)):=by
 refine Ah [.tmp 2] [0] Tryz.func33 Tryz.ntmps33 (fun d=>?_)
 refine Z87 ?_;refine Z48 ?_;refine Z0 ?_;refine Xl ?_;refine Z0 ?_;refine Z78 ?_;refine Z90 ?_;refine A2 [1,26] ?_
 refine A3 (fun ht26=>?_) (fun ht26=>?_)
 ·rw [B6] at ht26
  have e:=o0 ht26
  exact AIe
 rw [B6] at ht26
 refine Kq ?_;refine Tw ?_
 refine Bh (α:=Nat) (fun x=>⟨49,A9 1 (.ro (qoC false q)) (A9 3 (A5 (x:Nat)) (fun _=>.any)),Hp,[],[],none⟩) (fun x=>x≤q.cols.length∧∀s∈q.cols.take x,K2 s=true) (fun x=>q.cols.length-x) (0) ⟨Av _,fun s hs=>by simp at hs⟩ (Bc (by simp)) rfl (fun x hx=>?_)
 refine Lu ?_;refine A2 [1,3,31] ?_
 refine A3 (fun ht31=>?_) (fun ht31=>?_)
 ·have hlt:x<q.cols.length:=by simpa using ht31
  have hlen:=h.len
  refine q9 ?_
  refine A4 (h:=Ag (x) (Ac q.cols[x]) (fun _=>B7 hlt)) (hr:=?_)
  refine A4 ?_;refine A7 Tryz.call68 (c68 q.cols[x] (h.names _ (Br hlt)) _) ?_;refine A4 ?_;refine A2 [1,3,40] ?_
  refine A3 (fun ht40=>?_) (fun ht40=>?_)
  ·have e:=AD7 ht26 (Br hlt) (by simpa using ht40)
   refine dy ?_;exact AFc
  refine Z96 ?_;refine Tw ?_;exact B5 (x+1) ⟨hlt,Xb hlt hx.2 (by simpa using ht40)⟩ (by omega) (Bx rfl)
 have hxe:q.cols.length≤x:=by simpa using ht31
 have e:=AD8 ht26 (Zl hxe hx.2)
 refine Z52 ?_;refine Z2 ?_;refine A7 Tryz.call22 (c22 q h _) ?_;refine Z46 ?_;refine Bw Tryz.call69 (fun hB=>c69 61 q.whr h.ok (by decide) h.size _) ?_;exact AIk

theorem c7 (q:Qry) (Hp:List AObj):AFun Tryz.prog 7 [M6 q] Hp (At (Tk q)):=by
 refine Ah [.tmp 2] [0] Tryz.func7 Tryz.ntmps7 (fun d=>?_)
 refine Z87 ?_;refine Lu ?_;refine Z6 ?_;refine Bw Tryz.call17 (fun hB=>c17 q.whr _) ?_;refine A4 ?_;refine A2 [1,12] ?_
 refine A3 (fun ht12=>?_) (fun ht12=>?_)
 ·rw [B6] at ht12
  have e:=AD9 ht12
  refine dw ?_;exact AFd
 rw [B6] at ht12
 have hl20:q.cols.length≤20:=by
  simp only [Cv,decide_eq_false_iff_not] at ht12
  omega
 refine Kq ?_;refine Tw ?_
 refine Bh (α:=Nat) (fun x=>⟨27,A9 1 (.ro (qoC false q)) (A9 3 (A5 (x:Nat)) (fun _=>.any)),Hp,[],[],none⟩) (fun x=>x≤q.cols.length∧∀s∈q.cols.take x,decide ((100:Int)<(s.length:Int))=false) (fun x=>q.cols.length-x) (0) ⟨Av _,fun s hs=>by simp at hs⟩ (Bc (by simp)) rfl (fun x hx=>?_)
 refine Lu ?_;refine A2 [1,3,17] ?_
 refine A3 (fun ht17=>?_) (fun ht17=>?_)
 ·have hlt:x<q.cols.length:=by simpa using ht17
  refine q9 ?_
  refine A4 (h:=Ag (x) (Ac q.cols[x]) (fun _=>B7 hlt)) (hr:=?_)
  refine Z11 ?_;refine A2 [1,3,26] ?_
  refine A3 (fun ht26=>?_) (fun ht26=>?_)
  ·have e:=ADa ht12 (Br hlt) ht26
   refine dy ?_;exact AFd
  refine Z96 ?_;refine Tw ?_;exact B5 (x+1) ⟨hlt,Xb hlt hx.2 ht26⟩ (by omega) (Bx rfl)
 have hxe:q.cols.length≤x:=by simpa using ht17
 have e:=ADb ht12 (Zl hxe hx.2)
 refine ec ?_;exact AFd

end Go.SX.Nb
namespace Go.SX
variable [GI:GlobInv]
open Classical Go.RowKit
section
variable {P:Program} {g:FuncId} {Hp:List AObj}
/-- Where a slice of plain values lies. -/
def AKw (w:World) (u:Value) (l:List Value):Prop:=
 (u=.slice none 0 0∧l=[])∨∃(ad:Addr) (c:Nat),u=.slice (some ad) l.length c∧l.length≤c∧(l≠[]→ad.spot=none)∧(∀(j:Nat) (x:Value),l[j]? = some x→w.cell? ⟨ad.block,ad.off+j,none⟩=some x)
theorem AFun.libSl {l xs:List Value} {o:Bool} {r:AV} {v:Value} (hr:∀G w,Rep G w none r v) (h:∀w u,Hu w→AKw w u l→Calls P g (u::xs).toArray w (fun e w'=>e=.returned v∧Below w.heap.size w w')):AFun P g (.slice o 1 (l.map .v)::xs.map .v) Hp r:=by
 intro d G w vs hn hv hH hT hTop
 have hn':vs.size=xs.length+1:=by simpa using hn
 have h0:vs[0]? = some (vs[0]'(by omega)):=Eb (by omega)
 have hvs:vs=((vs[0]'(by omega))::xs).toArray:=by
  apply Y2
  ·simpa using hn'
  intro i h1 h2
  cases i with
  | zero=>rfl
  | succ i =>
   have hi:i<xs.length:=by omega
   have hrp:=hv (i+1) (.v xs[i]) vs[i+1] (by simp [hi]) (Eb h1)
   have:=Kh hrp
   simpa using this
 have hsl:AKw w (vs[0]'(by omega)) l:=by
  have hrp:=hv 0 _ _ rfl h0
  rcases G6 (.inl rfl) hrp with ⟨e,hl⟩|⟨ad,c,f,e,hc,hF,_⟩
  ·exact .inl ⟨e,by simpa using hl⟩
  rw [B6] at e hc
  refine .inr ⟨ad,c,e,hc,fun hne=>hF.spot (by simpa using hne),fun j x hj=>?_⟩
  have hx:(l.map AV.v)[j]? = some (.v x):=by rw [C8,hj];rfl
  have h1:=(hF.cell j _ 0 _ hx rfl).2
  have h2:=Kh (hF.rep j _ 0 _ hx rfl)
  rw [h2] at h1
  simpa using h1
 rw [hvs]
 refine (callsIn_wide.2 (h w _ (fun x hx=>let ⟨_,u,a,b⟩:=hT.glob x hx;⟨u,a,b⟩) hsl)).mono ?_
 rintro e w' ⟨rfl,hb⟩
 obtain ⟨h1,h2⟩:=Pb hH hT hb
 exact ⟨v,G,r,Hp,rfl,(hr G w').lift,h1,h2,(Lv hT hb).keep _,rfl,rfl,rfl⟩
end
end Go.SX
