/- On the way (part 10). -/
import Derived.Shelf.Strconv.AtoiAll
import Derived.Test.YtekiioamifokoaaGreatDoorRewriteTellsCardSaidPart9
set_option linter.all false
namespace Go.SX.Nb
open Go Go.SX Go.Proofs Go.RowKit
variable [ErrAt]
set_option maxRecDepth 4000
theorem APk (s:Str) (hs:s.length≤1048576) (Hp:List AObj):AFun Tryz.prog 121 [Ab s] Hp (.tup [A4 (V9 s),.any]):=by
 refine AFun.libAny (xs:=[sv s]) (n:=.int .i64 (V9 s)) (fun w hg=>?_)
 have hz:(⟨s.toArray⟩:ByteArray).size≤1048576:=by simpa [ByteArray.size] using hs
 unfold V9
 rcases h:Lib.atoiAll s with v|_|_
 ·refine (Any.strconv_Atoi_ok Tryz.lays172 ⟨s.toArray⟩ (by omega) v h w).mono ?_
  rintro e w' ⟨rfl,hb⟩
  refine ⟨_,rfl,?_⟩
  rcases hb with rfl|⟨t,rfl⟩
  ·exact Below.refl _ _
  exact Lib.bytesWorld_below _ _ _
 ·refine (Any.strconv_Atoi_syntax Tryz.lays172 ⟨s.toArray⟩ (by omega) h _ w (er hg) (.inr ⟨_,_,rfl⟩)).mono ?_
  rintro e w' ⟨N,rfl,_,_,hb⟩
  exact ⟨_,rfl,hb⟩
 refine (Any.strconv_Atoi_range Tryz.lays172 ⟨s.toArray⟩ (by omega) h _ w (P8 hg) (.inr ⟨_,_,rfl⟩)).mono ?_
 rintro e w' ⟨N,rfl,_,_,hb⟩
 exact ⟨_,rfl,hb⟩
end Go.SX.Nb
namespace Go.SX.Nb
open Go Go.SX Go.Proofs
variable [ErrAt]
set_option maxRecDepth 4000
theorem AIp {l:List Tok} {s:Str} {S:QS} (h:isQ l s S=true):(Af l S.i).kind≠0:=by
 unfold isQ at h
 simp only [Az,Dg,beq_iff_eq] at h
 rcases h.1.2 with e|e<;>rw [e]<;>decide
theorem L8 {l:List Tok} (hl:TokEnd l) {s:Str} {S:QS} (hi:S.i<l.length) (h:isQ l s S=true):(F3 S).i<l.length:=hl.step hi (AIp h)
theorem T5 (l:List Tok) (e:Int) (S:QS):(Jo l e S).i=S.i:=by unfold Jo;split<;>rfl
theorem lg {l:List Tok} (hl:TokEnd l) {s:Str} {S:QS} (hi:S.i<l.length):(Sy l s S).i<l.length:=by
 unfold Sy
 split
 ·rename_i h;exact L8 hl hi h
 rw [T5];exact hi
theorem O1 {l:List Tok} (hl:TokEnd l) {q:Qry} {S:QS} (hi:S.i<l.length) (hc:q.cols.length≤12):S.i≤(I0 l (q,S)).2.i∧(I0 l (q,S)).2.i<l.length∧(I0 l (q,S)).1.cols.length≤12:=by
 unfold I0
 split
 ·exact ⟨An _,hi,hc⟩
 split
 ·exact ALe
 split
 ·exact ALe
 rename_i h1 h2 h3
 have hk:(Af l S.i).kind≠0:=by
  have:(Af l S.i).kind=1:=by simpa using h2
  rw [this];decide
 refine ⟨J0 _,hl.step hi hk,?_⟩
 simp only [beq_iff_eq] at h3
 rw [Ax,K6]
 simp only at h3 ⊢
 omega
/-- Where the loop of names stands. -/
structure QNames (l:List Tok) (r0 r:Qry×QS):Prop where
 lt:r.2.i<l.length
 cols:r.1.cols.length≤12
 fuel:∃n,Lw l l.length r0=Lw l n r∧l.length-r.2.i≤n
theorem QNames.start {l:List Tok} {r:Qry×QS} (h1:r.2.i<l.length) (h2:r.1.cols.length≤12):QNames l r r:=⟨h1,h2,l.length,rfl,by omega⟩
theorem QNames.on {l:List Tok} (hl:TokEnd l) {r0 r:Qry×QS} (h:QNames l r0 r) (hq:isQ l [44] r.2=true):QNames l r0 (I0 l (r.1,F3 r.2))∧r.2.i+1≤(I0 l (r.1,F3 r.2)).2.i:=by
 obtain ⟨n,e,hn⟩:=h.fuel
 have hlt:=L8 hl h.lt hq
 obtain ⟨f1,f2,f3⟩:=O1 hl (q:=r.1) hlt h.cols
 have h1:=h.lt
 refine ⟨⟨f2,f3,n-1,?_,?_⟩,f1⟩
 ·rw [e]
  obtain ⟨m,rfl⟩:∃m,n=m+1:=⟨n-1,by omega⟩
  rw [Lw,if_pos hq]
  rfl
 have:r.2.i+1≤(I0 l (r.1,F3 r.2)).2.i:=f1
 omega
theorem QNames.out {l:List Tok} {r0 r:Qry×QS} (h:QNames l r0 r) (hq:isQ l [44] r.2=false):Lw l l.length r0=r:=by
 obtain ⟨n,e,_⟩:=h.fuel
 rw [e]
 cases n with
 | zero=>rfl
 | succ n=>rw [Lw,if_neg (by rw [hq];simp)]
theorem qA {Hp:List AObj} {o ox:Nat} {A B:AObj} (hl:o<Hp.length) (hne:ox≠o):((Hp.set o A).set ox B)[o]? = some A:=by rw [Cf hne];simp [hl]
theorem qB {Hp:List AObj} {o ox:Nat} {A B:AObj} (hl:ox<Hp.length):((Hp.set o A).set ox B)[ox]? = some B:=by simp [hl]
theorem AC1 {Hp:List AObj} {o ox:Nat} {A A' B:AObj} (hne:ox≠o):((Hp.set o A).set ox B).set o A'=(Hp.set o A').set ox B:=by rw [Na _ _ hne,C6]
theorem APl {Hp:List AObj} {o ox m:Nat} {A A' B B':AObj} (hl:o<Hp.length) (hlx:ox<Hp.length) (hne:ox≠o) (hA:ObjLow m A') (hB:ObjLow m B') (h:∀x∈(Hp.set o A).set ox B,ObjLow m x):∀x∈(Hp.set o A').set ox B',ObjLow m x:=by
 intro x hx
 obtain ⟨i,hi⟩:=C9 hx
 by_cases h1:i=ox
 ·subst h1
  rw [qB hlx] at hi
  injection hi with hi
  subst hi
  exact hB
 by_cases h2:i=o
 ·subst h2
  rw [qA hl hne] at hi
  injection hi with hi
  subst hi
  exact hA
 refine h x (Bi (i:=i) ?_)
 rw [Cf (Ne.symm h1),Cf (Ne.symm h2)] at hi ⊢
 exact hi
/-- A call that turns the parser and the query. -/
theorem tr {d:Nat} {ops:Array Oper} {rest:List Oper} {sz s:Nat} {fr:Nat→AV} {Hp:List AObj} {rnd:Option Nat} {Q:St→Prop} {ty:TypeId} {pos:String} {aft:Array Edge} {g:FuncId} {xs:List Operand} {ats:Array TypeId} {args:List AV} {l:List Tok} {S S':QS} {q q':Qry} {o oq:Nat}
  (hcall:∀args w,(callFunc g args).run Tryz.prog w=.ok (.enter g args) w) (hl:o<Hp.length) (hlq:oq<Hp.length) (hne:oq≠o)
  (h:ACall Tryz.prog g args ((Hp.set o (prq l S)).set oq (qo true q)++[]) (fun r H'=>r=Vc∧H'=(((Hp.set o (prq l S)).set oq (qo true q)++[]).set o (prq l S')).set oq (qo true q')))
  (hr:ARun Tryz.prog d ops rest ⟨sz,A6 s Vc fr,(Hp.set o (prq l S')).set oq (qo true q'),[],[],rnd⟩ Q)
  (ha:xs.map (Bb fr)=args:=by simp only [go_sem,↓reduceIte,Nat.reduceEqDiff,Nat.reduceAdd]<;>rfl) (hs:Nat.blt s sz=true:=by rfl):
  ARun Tryz.prog d ops (⟨some s,.call ⟨.value (.func g),xs.toArray,ats⟩,ty,pos,aft,none⟩::rest) ⟨sz,fr,(Hp.set o (prq l S)).set oq (qo true q),[],[],rnd⟩ Q:=by
 refine Hi (up':=(Hp.set o (prq l S')).set oq (qo true q')) (own':=[]) hcall (h.mono fun r H' e=>⟨e.1,e.2.trans ?_⟩) (by simp) (fun hlow=>?_) hr (by simp) ha hs
 ·rw [Ha,Ha,AC1 hne,C6]
 exact APl hl hlq hne Jf ABz hlow
theorem AIq (b:Bool) (q:Qry):AObj.cells 29 [B0 b,.slice true 1 (q.cols.map Ab),A4 q.whr.op,Ab q.whr.text,A4 q.whr.val.kind,A4 q.whr.val.n,Ab q.whr.val.s,.slice false 6 (q.whr.kids.map A7),A4 q.lim]=qo true (Mt b q):=rfl
theorem AMj {l:List Tok} {q:Qry} {S:QS} (h:isQ l [42] S=true):Ny l (q,S)=(Mt true q,F3 S):=if_pos h
theorem AMk {l:List Tok} {q:Qry} {S:QS} (h:isQ l [42] S=false):Ny l (q,S)=Lw l l.length (I0 l (Mt false q,S)):=if_neg (by show ¬(isQ l [42] S=true);rw [h];simp)
theorem c69 (l:List Tok) (S:QS) (q:Qry) (o oq:Nat) (Hp:List AObj) (hne:oq≠o) (ho:Hp[o]? = some (prq l S)) (hoq:Hp[oq]? = some (qo true q)) (hi:S.i<l.length) (hl:TokEnd l) (hll:l.length≤500000) (hc12:q.cols.length≤12):ACall Tryz.prog 69 [.ptr o 0,.ptr oq 0] Hp (fun r H'=>r=Vc∧H'=(Hp.set o (prq l (Ny l (q,S)).2)).set oq (qo true (Ny l (q,S)).1)):=by
 have hlo:=(Ae.1 ho).1
 have hlq:=(Ae.1 hoq).1
 refine Ah [] [0,1] Tryz.func69 Tryz.ntmps69 (fun d=>?_)
 refine Z7 ?_;refine Cl Tryz.call118 ho (by simp) Jf (AC0 l S [42] o _ (Ak ho) hi (by omega)) ?_;refine Z0 ?_
 refine De jS (by rw [Cf (Ne.symm hne)];exact hoq) ?_ ?_
 ·simp
 refine A2 [0,1] ?_;refine Z16 ?_
 refine A5 (h:=Bj (qB hlq)) (hr:=?_)
 refine A2 [0,1,12] ?_
 refine A3 (fun ht12=>?_) (fun ht12=>?_)
 ·have hq:isQ l [42] S=true:=ht12
  have e:=AMj (q:=q) hq
  rw [Yj hq,hq]
  refine Z12 ?_;exact A9 .nores (hp:=⟨rfl,by rw [e];rfl⟩)
 have hq:isQ l [42] S=false:=ht12
 have e:=AMk (q:=q) hq
 rw [Yk hq,hq]
 rw [AIq]
 refine ir ?_
 have f0:=O1 hl (q:=Mt false q) hi hc12
 refine Z0 ?_
 refine tr Tryz.call119 hlo hlq hne (AMi l S (Mt false q) o oq _ hne (Ak (qA hlo hne)) (Ak (qB hlq)) hi (by omega) (by show q.cols.length≤_;omega)) ?_
 refine A2 [0,1] ?_
 refine Bg (α:=Qry×QS) (fun r=>⟨21,A6 0 (.ptr o 0) (A6 1 (.ptr oq 0) (fun _=>.any)),(Hp.set o (prq l r.2)).set oq (qo true r.1),[],[],none⟩) (fun r=>QNames l (I0 l (Mt false q,S)) r) (fun r=>l.length-r.2.i) (I0 l (Mt false q,S)) (.start f0.2.1 f0.2.2) (Em _) rfl (fun r hr=>?_)
 refine Z25 ?_;refine Cl Tryz.call118 (qA hlo hne) (by simp) Jf (AC0 l r.2 [44] o _ (Ak (qA hlo hne)) hr.lt (by omega)) ?_;refine A2 [0,1,17] ?_
 refine A3 (fun ht17=>?_) (fun ht17=>?_)
 ·have hq1:isQ l [44] r.2=true:=ht17
  have hlt1:=L8 hl hr.lt hq1
  have hon:=hr.on hl hq1
  rw [Yj hq1,AC1 hne]
  refine vi ?_;refine Z45 ?_
  refine tr Tryz.call119 hlo hlq hne (AMi l (F3 r.2) r.1 o oq _ hne (Ak (qA hlo hne)) (Ak (qB hlq)) hlt1 (by omega) (by have:=hr.cols;omega)) ?_
  refine A2 [0,1] ?_;refine I4 ?_
  refine Au (I0 l (r.1,F3 r.2)) hon.1 (by have:=hr.lt;have:=hon.2;omega) (Bk rfl)
 have hq1:isQ l [44] r.2=false:=ht17
 have hout:=hr.out hq1
 rw [Yk hq1,AC1 hne]
 refine nj ?_;exact Eo .nores (hp:=⟨rfl,by rw [e,hout]⟩)

theorem AEw {l:List Tok} {q:Qry} {S:QS} (h:isQ l Pl S=false):Kw l (q,S)=(q,S):=if_neg (by show ¬(isQ l Pl S=true);rw [h];simp)
theorem AEx {l:List Tok} {q:Qry} {S:QS} (h:isQ l Pl S=true) (h2:((atM l (S.i+1)).2.2.1 != 0)=true):Kw l (q,S)=(q,⟨S.i+1,(atM l (S.i+1)).2.2.1,(atM l (S.i+1)).2.2.2⟩):=by
 unfold Kw
 rw [if_pos (by exact h),if_pos (by exact h2)]
theorem AEy {l:List Tok} {q:Qry} {S:QS} {k:Nat} (h:isQ l Pl S=true) (h2:((atM l (S.i+1)).2.2.1 != 0)=false) (hk:(atM l (S.i+1)).2.1=(k:Int)):Kw l (q,S)=(⟨q.all,q.cols,(atM l (S.i+1)).1,q.lim⟩,⟨k,S.code,S.at_⟩):=by
 unfold Kw
 rw [if_pos (by exact h),if_neg (by show ¬_=true;rw [h2];simp),hk]
 rfl
theorem AEz {l:List Tok} {q:Qry} {S:QS} (h:isQ l Nz S=false):J9 l (q,S)=(q,S):=if_neg (by show ¬(isQ l Nz S=true);rw [h];simp)
theorem AF0 {l:List Tok} {q:Qry} {S:QS} (h:isQ l Nz S=true) (h2:((Af l (S.i+1)).kind != 3)=true):J9 l (q,S)=(q,Jo l 8 (F3 S)):=by
 unfold J9
 rw [if_pos (by exact h),if_pos (by exact h2)]
theorem AF1 {l:List Tok} {q:Qry} {S:QS} (h:isQ l Nz S=true) (h2:((Af l (S.i+1)).kind != 3)=false) (h3:decide ((100000:Int)<V9 (Af l (S.i+1)).text)=true):J9 l (q,S)=(q,Jo l 3 (F3 S)):=by
 unfold J9
 rw [if_pos (by exact h),if_neg (by show ¬_=true;rw [h2];simp),if_pos (by exact h3)]
theorem AF2 {l:List Tok} {q:Qry} {S:QS} (h:isQ l Nz S=true) (h2:((Af l (S.i+1)).kind != 3)=false) (h3:decide ((100000:Int)<V9 (Af l (S.i+1)).text)=false):J9 l (q,S)=(⟨q.all,q.cols,q.whr,V9 (Af l (S.i+1)).text⟩,F3 (F3 S)):=by
 unfold J9
 rw [if_pos (by exact h),if_neg (by show ¬_=true;rw [h2];simp),if_neg (by show ¬_=true;rw [h3];simp)]
theorem L9 {Hp:List AObj} {o:Nat} {A:AObj} (hl:o<Hp.length):(Hp.set o A)[o]? = some A:=by simp [hl]
theorem xa {Hp:List AObj} {o oq:Nat} {A B:AObj} (hne:oq≠o) (hoq:Hp[oq]? = some B):(Hp.set o A)[oq]? = some B:=by rw [Cf (Ne.symm hne)];exact hoq
theorem c70 (l:List Tok) (S:QS) (q:Qry) (o oq:Nat) (Hp:List AObj) (hne:oq≠o) (ho:Hp[o]? = some (prq l S)) (hoq:Hp[oq]? = some (qo true q)) (hi:S.i<l.length) (hl:TokEnd l) (hll:l.length≤500000) (hc12:q.cols.length≤12):ACall Tryz.prog 70 [.ptr o 0,.ptr oq 0] Hp (fun r H'=>r=Vc∧H'=(Hp.set o (prq l (Kw l (q,S)).2)).set oq (qo true (Kw l (q,S)).1)):=by
 have hlo:=(Ae.1 ho).1
 have hlq:=(Ae.1 hoq).1
 refine Ah [] [0,1] Tryz.func70 Tryz.ntmps70 (fun d=>?_)
 refine Z25 ?_;refine Cl Tryz.call118 ho (by simp) Jf (AC0 l S Pl o _ (Ak ho) hi (by omega)) ?_;refine A5 ?_;refine A2 [0,1,9] ?_
 refine A3 (fun ht9=>?_) (fun ht9=>?_)
 ·have hq:isQ l Pl S=false:=by simpa using ht9
  have e:=AEw (q:=q) hq
  rw [Yk hq,Co ho]
  exact Z39
 have hq:isQ l Pl S=true:=by simpa using ht9
 have hi1:S.i+1<l.length:=L8 hl hi hq
 rw [Yj hq]
 refine Z4 ?_;refine Hh [0,1,3,7,0,16,48,112,255,511,1023,1023,1023,0,0,26623,61439,131071] [] [.q 13 [] [],.s [4] none [] [],.s [6] none [] [],.s [4] none [] [],.q 1 [] [],.s [6] none [] []] (fun _=>Hp.set o (prq l (F3 S))) (fun _=>[]) Ap (by kernel_rfl) rfl rfl (fun _=>rfl) ?_
 apply Y.q
 ·intro B hT hF
  refine Z37 ?_
  refine Av (h:=Bj (L9 hlo)) (hr:=?_)
  refine Z37 ?_
  refine Av (h:=Bj (L9 hlo)) (hr:=?_)
  refine I3 Tryz.call120 (AM3 l (S.i+1) hi1 hl hll (fun n Dv h1 h2=>bq hl (by omega) n Dv h1 h2) _) ?_;exact io
 case hTF=>decide
 refine Y.allocP Tryz.zeroValue27 ?_;refine Y.allocP Tryz.zeroValue73 ?_;refine Y.storeP Tryz.sizeOf27 ?_
 apply Y.q
 ·intro B hT hF
  exact Z60
 case hTF=>decide
 refine Y.storeP Tryz.sizeOf73 ?_;refine nu ?_;refine A2 [0,1,4,5,6] ?_;refine Z30 ?_;refine A2 [0,1,4,5,6,25] ?_
 refine A3 (fun ht25=>?_) (fun ht25=>?_)
 ·have e:=AEx (q:=q) hq ht25
  refine Z34 ?_
  refine De jS (L9 hlo) ?_ ?_
  ·simp
  refine Ku ?_;exact Z39
 obtain ⟨k,hk,hkl⟩:=fm hl (by omega) hi1 (by simpa using ht25)
 have e:=AEy (q:=q) hq ht25 hk
 rw [hk]
 refine Z4 ?_;refine Z45 ?_;refine Z75 ?_
 refine De jS (xa hne hoq) ?_ ?_
 ·intro z hz
  simp only [B3,Ed,or_false] at hz
  rcases hz with rfl|rfl|rfl|rfl|rfl|rfl
  all_goals first|exact Cv|simp
 refine Z0 ?_
 refine De jS (qA hlo hne) ?_ ?_
 ·simp
 exact Z78

theorem c71 (l:List Tok) (S:QS) (q:Qry) (o oq:Nat) (Hp:List AObj) (hne:oq≠o) (ho:Hp[o]? = some (prq l S)) (hoq:Hp[oq]? = some (qo true q)) (hi:S.i<l.length) (hl:TokEnd l) (hll:l.length≤500000) (hc12:q.cols.length≤12):ACall Tryz.prog 71 [.ptr o 0,.ptr oq 0] Hp (fun r H'=>r=Vc∧H'=(Hp.set o (prq l (J9 l (q,S)).2)).set oq (qo true (J9 l (q,S)).1)):=by
 have hlo:=(Ae.1 ho).1
 have hlq:=(Ae.1 hoq).1
 refine Ah [] [0,1] Tryz.func71 Tryz.ntmps71 (fun d=>?_)
 refine Z25 ?_;refine Cl Tryz.call118 ho (by simp) Jf (AC0 l S Nz o _ (Ak ho) hi (by omega)) ?_;refine A5 ?_;refine A2 [0,1,9] ?_
 refine A3 (fun ht9=>?_) (fun ht9=>?_)
 ·have hq:isQ l Nz S=false:=by simpa using ht9
  have e:=AEz (q:=q) hq
  rw [Yk hq,Co ho]
  exact Z39
 have hq:isQ l Nz S=true:=by simpa using ht9
 have hi1:S.i+1<l.length:=L8 hl hi hq
 rw [Yj hq]
 refine Z4 ?_;refine Hh [0,1,3,7,0,16,48,112,255,511,0,2047] [] [.q 10 [] [],.s [4] none [] [],.s [4] none [] []] (fun _=>Hp.set o (prq l (F3 S))) (fun _=>[]) Ap (by kernel_rfl) rfl rfl (fun _=>rfl) ?_
 apply Y.q
 ·intro B hT hF
  refine Z37 ?_
  refine Av (h:=Bj (L9 hlo)) (hr:=?_)
  refine Z37 ?_
  refine Av (h:=Bj (L9 hlo)) (hr:=?_)
  refine Av (h:=Ad ((S.i+1)) (Ix (Af l (S.i+1))) (fun _=>Mq hi1)) (hr:=?_)
  exact Z60
 case hTF=>decide
 refine AH2 ?_;refine nu ?_;refine A2 [0,1,4] ?_;refine Z1 ?_;refine Aa Tryz.call121 (APk (Af l (S.i+1)).text (hl.text _) _) ?_;refine Z82 ?_;refine A2 [0,1,4,5] ?_;refine Z13 ?_;refine Z34 ?_;refine A2 [0,1,5,26] ?_
 refine A3 (fun ht26=>?_) (fun ht26=>?_)
 ·have e:=AF0 (q:=q) hq ht26
  refine Z2 ?_;refine Cl Tryz.call72 (L9 hlo) (by simp) Jf (c72 l (F3 S) 8 o _ (Ak (L9 hlo)) hi1) ?_;refine Ku ?_;exact Z79
 refine Z16 ?_;refine A2 [0,1,5,32] ?_
 refine A3 (fun ht32=>?_) (fun ht32=>?_)
 ·have e:=AF1 (q:=q) hq ht26 ht32
  refine Z2 ?_;refine Cl Tryz.call72 (L9 hlo) (by simp) Jf (c72 l (F3 S) 3 o _ (Ak (L9 hlo)) hi1) ?_;refine Ku ?_;exact Z79
 have e:=AF2 (q:=q) hq ht26 ht32
 refine Z47 ?_;refine Z34 ?_
 refine De jS (xa hne hoq) ?_ ?_
 ·simp
 refine A2 [0] ?_;refine Z74 ?_
 refine A5 (h:=Bj (qA hlo hne)) (hr:=?_)
 refine A5 (h:=Q.add64 (h2:=fun _=>by rw [show (F3 S).i=S.i+1 from rfl];omega)) (hr:=?_)
 refine Z0 ?_
 refine De jS (qA hlo hne) ?_ ?_
 ·simp
 exact Z78

theorem Vd {l:List Tok} (hl:TokEnd l):∀(n:Nat) (r:Qry×QS),r.2.i<l.length→r.1.cols.length≤12→(Lw l n r).2.i<l.length∧(Lw l n r).1.cols.length≤12
 | 0,r,h1,h2=>⟨h1,h2⟩
 | n+1,r,h1,h2=>by
  rw [Lw]
  split
  ·rename_i hq
   obtain ⟨_,f2,f3⟩:=O1 hl (q:=r.1) (L8 hl h1 hq) h2
   exact Vd hl n _ f2 f3
  exact ⟨h1,h2⟩
theorem lh {l:List Tok} (hl:TokEnd l) {r:Qry×QS} (h1:r.2.i<l.length) (h2:r.1.cols.length≤12):(Ny l r).2.i<l.length∧(Ny l r).1.cols.length≤12:=by
 unfold Ny
 split
 ·rename_i hq;exact ⟨L8 hl h1 hq,h2⟩
 obtain ⟨_,f2,f3⟩:=O1 hl (q:=Mt false r.1) h1 h2
 exact Vd hl _ _ f2 f3
theorem li {l:List Tok} (hl:TokEnd l) (hll:l.length≤500000) {r:Qry×QS} (h1:r.2.i<l.length) (h2:r.1.cols.length≤12):(Kw l r).2.i<l.length∧(Kw l r).1.cols.length≤12:=by
 unfold Kw
 split
 ·rename_i hq
  have hi1:r.2.i+1<l.length:=L8 hl h1 hq
  split
  ·exact ⟨hi1,h2⟩
  rename_i h
  obtain ⟨k,hk,hkl⟩:=fm hl (by omega) hi1 (by simpa using h)
  refine ⟨?_,h2⟩
  show (atM l (r.2.i+1)).2.1.toNat<_
  rw [hk,Int.toNat_natCast]
  exact hkl
 exact ⟨h1,h2⟩
theorem lj {l:List Tok} (hl:TokEnd l) {r:Qry×QS} (h1:r.2.i<l.length) (h2:r.1.cols.length≤12):(J9 l r).2.i<l.length∧(J9 l r).1.cols.length≤12:=by
 unfold J9
 split
 ·rename_i hq
  have hi1:(F3 r.2).i<l.length:=L8 hl h1 hq
  split
  ·exact ⟨by rw [T5];exact hi1,h2⟩
  split
  ·exact ⟨by rw [T5];exact hi1,h2⟩
  rename_i h _
  have hk:(Af l (F3 r.2).i).kind≠0:=by
   have:(Af l (r.2.i+1)).kind=3:=by simpa using h
   show (Af l (r.2.i+1)).kind≠0
   rw [this];decide
  exact ⟨hl.step hi1 hk,h2⟩
 exact ⟨h1,h2⟩
def q0Q:Qry:=⟨false,[],Aw, -1⟩
def s1Q (l:List Tok):QS:=Sy l fu ⟨0,0,0⟩
def r1Q (l:List Tok):Qry×QS:=Ny l (q0Q,s1Q l)
def r2Q (l:List Tok):Qry×QS:=Kw l (r1Q l)
def r3Q (l:List Tok):Qry×QS:=J9 l (r2Q l)
def s4Q (l:List Tok):QS:=Sy l [59] (r3Q l).2
def s5Q (l:List Tok):QS:=AM5 l (s4Q l)
theorem AMl:Le (.agg [B0 false,.nil,A4 0,Ab [],A4 0,A4 0,Ab [],.nil,A4 (-1)]) (.agg [B0 false,.nil,A4 0,Ab [],A4 0,A4 0,Ab [],.slice false 6 [],A4 (-1)]):=by
 refine .agg _ _ rfl (by simp [AV.one,Value.oneCell',sv]) fun i y y' h1 h2=>?_
 match i with
 | 0=>simp at h1 h2;subst h1;subst h2;exact .inl rfl
 | 1=>simp at h1 h2;subst h1;subst h2;exact .inl rfl
 | 2=>simp at h1 h2;subst h1;subst h2;exact .inl rfl
 | 3=>simp at h1 h2;subst h1;subst h2;exact .inl rfl
 | 4=>simp at h1 h2;subst h1;subst h2;exact .inl rfl
 | 5=>simp at h1 h2;subst h1;subst h2;exact .inl rfl
 | 6=>simp at h1 h2;subst h1;subst h2;exact .inl rfl
 | 7=>simp at h1 h2;subst h1;subst h2;exact .inr ⟨rfl,6,rfl⟩
 | 8=>simp at h1 h2;subst h1;subst h2;exact .inl rfl
 | i+9=>simp at h1
abbrev Qi (q:Qry):AV:=.agg (qoC false q)
theorem AF3 {n:Nat} {q:Qry}:Low n (Qi q):=by
 have h:∀z∈qoC false q,Low n z:=ABz (n:=n) (own:=false) (q:=q)
 simpa using h
theorem Yl {n:Nat}:oid n 4≠oid n 3:=by unfold oid;omega
theorem c6 (s:Str) (hs:s.length≤1048576) (Hp:List AObj):AFun Tryz.prog 30 [Ab s] Hp (.tup [Qi (Mu s).1,.agg [A4 (Mu s).2.1,A4 (Mu s).2.2]]):=by
 refine Ah [.cell 2 29,.cell 3 73] [0] Tryz.func30 Tryz.ntmps30 (fun d=>?_)
 refine zp ?_;refine A2 [0,2,3] ?_;refine Z2 ?_;refine Aa Tryz.call66 (c66 s hs _) ?_;refine Z8 ?_;refine iq ?_;refine Zl ?_;refine Z30 ?_;refine A2 [2,3,4,5,15] ?_
 refine A3 (fun ht15=>?_) (fun ht15=>?_)
 ·have e:Mu s=(kr,(Bu s).2.1,((Bu s).2.2:Int)):=if_pos ht15
  refine Hh [0,0,1,7] [2] [.q 2 [] [],.s [] (some 0) [] []] (fun _=>Hp) (fun _=>[.cells 29 [B0 false,.nil,A4 0,Ab [],A4 0,A4 0,Ab [],.nil,A4 0],.cells 73 [A4 0,A4 0],.cells 73 [A4 (Bu s).2.1,A4 ((Bu s).2.2:Nat)]]) Ap (by kernel_rfl) rfl rfl (fun _=>rfl) ?_
  apply Y.q
  ·intro B hT hF
   refine To (places:=#[(0,1),(1,1),(2,6),(8,1)]) jU (fun w=>by simp) jZ ?_;exact Z60
  case hTF=>decide
  refine ALf ?_;refine Gx (tn:=[2])  ?_;refine AH8 ?_;refine eb ?_;exact AGp
 have e0:¬((Bu s).2.1 != 0)=true:=by rw [ht15];simp
 have hz:(Bu s).2.1=0:=by simpa using ht15
 have hle:=s8 hz
 have hlen:=sq hz
 have hpos:0<(Bu s).1.length:=hle.pos
 have hl5:(Bu s).1.length≤500000:=by omega
 have f1:(s1Q (Bu s).1).i<(Bu s).1.length:=lg hle hpos
 have f2:(r1Q (Bu s).1).2.i<(Bu s).1.length∧(r1Q (Bu s).1).1.cols.length≤12:=lh hle (r:=(q0Q,s1Q (Bu s).1)) f1 (show ([]:List Str).length≤12 by decide)
 have f3:(r2Q (Bu s).1).2.i<(Bu s).1.length∧(r2Q (Bu s).1).1.cols.length≤12:=li hle hl5 f2.1 f2.2
 have f4:(r3Q (Bu s).1).2.i<(Bu s).1.length∧(r3Q (Bu s).1).1.cols.length≤12:=lj hle f3.1 f3.2
 have f5:(s4Q (Bu s).1).i<(Bu s).1.length:=lg hle f4.1
 have hp:Mu s=sw (Bu s).1:=if_neg e0
 refine Of ?_;refine Nk (places:=#[(0,1),(1,1),(2,2)]) jU (fun w=>by simp) jZ ?_;refine R.box ?_;refine A5 ?_;refine A2 [2,3,6] ?_;refine Ef ?_;refine Nk (places:=#[(0,1),(1,1),(2,6),(8,1)]) jU (fun w=>by simp) jZ ?_;refine R.wk 21 _ AMl ?_;refine Z11 ?_;refine A2 [2,3,6,7] ?_;refine Ef ?_;refine Fx 4 1 1 ?_;refine A5 ?_
 refine Tp (n:=3) (x:=prq (Bu s).1 (s1Q (Bu s).1)) Tryz.call68 (c68 (Bu s).1 ⟨0,0,0⟩ fu (oid Hp.length 3) _ (by rw [B6];rfl) hpos (by omega)) ?_
 refine AD4 ?_
 refine Hi (up':=Hp) (own':=[.cells 29 [B0 false,.nil,A4 0,Ab [],A4 0,A4 0,Ab [],.nil,A4 0],.cells 73 [A4 0,A4 0],.cells 73 [A4 (Bu s).2.1,A4 ((Bu s).2.2:Nat)],prq (Bu s).1 (r1Q (Bu s).1).2,qo true (r1Q (Bu s).1).1]) Tryz.call69 ((c69 (Bu s).1 (s1Q (Bu s).1) q0Q (oid Hp.length 3) (oid Hp.length 4) _ Yl (by rw [B6];rfl) (by rw [B6];rfl) f1 hle hl5 (by decide)).mono fun r H' e=>⟨e.1,e.2.trans (by rw [Du,Du];rfl)⟩) rfl (fun h=>h) ?_
 refine AD4 ?_
 refine Hi (up':=Hp) (own':=[.cells 29 [B0 false,.nil,A4 0,Ab [],A4 0,A4 0,Ab [],.nil,A4 0],.cells 73 [A4 0,A4 0],.cells 73 [A4 (Bu s).2.1,A4 ((Bu s).2.2:Nat)],prq (Bu s).1 (r2Q (Bu s).1).2,qo true (r2Q (Bu s).1).1]) Tryz.call70 ((c70 (Bu s).1 (r1Q (Bu s).1).2 (r1Q (Bu s).1).1 (oid Hp.length 3) (oid Hp.length 4) _ Yl (by rw [B6];rfl) (by rw [B6];rfl) f2.1 hle hl5 f2.2).mono fun r H' e=>⟨e.1,e.2.trans (by rw [Du,Du];rfl)⟩) rfl (fun h=>h) ?_
 refine AD4 ?_
 refine Hi (up':=Hp) (own':=[.cells 29 [B0 false,.nil,A4 0,Ab [],A4 0,A4 0,Ab [],.nil,A4 0],.cells 73 [A4 0,A4 0],.cells 73 [A4 (Bu s).2.1,A4 ((Bu s).2.2:Nat)],prq (Bu s).1 (r3Q (Bu s).1).2,qo true (r3Q (Bu s).1).1]) Tryz.call71 ((c71 (Bu s).1 (r2Q (Bu s).1).2 (r2Q (Bu s).1).1 (oid Hp.length 3) (oid Hp.length 4) _ Yl (by rw [B6];rfl) (by rw [B6];rfl) f3.1 hle hl5 f3.2).mono fun r H' e=>⟨e.1,e.2.trans (by rw [Du,Du];rfl)⟩) rfl (fun h=>h) ?_
 refine AD4 ?_
 refine Tp (n:=3) (x:=prq (Bu s).1 (s4Q (Bu s).1)) Tryz.call68 (c68 (Bu s).1 (r3Q (Bu s).1).2 [59] (oid Hp.length 3) _ (by rw [B6];rfl) f4.1 (by omega)) ?_
 refine A2 [2,3,6,7] ?_;refine Lq ?_;refine W.draw [0,1,3,7,0,16,48,112,255,511,1023,2047] 8 Ap (by kernel_rfl) ?_;refine Rb ?_;refine Rb ?_;refine Hf ?_
 refine A5 (h:=Ad ((s4Q (Bu s).1).i) (Ix (Af (Bu s).1 (s4Q (Bu s).1).i)) (fun _=>Mq f5)) (hr:=?_)
 refine Z8 ?_;refine A2 [2,3,6,7,43] ?_
 refine A3 (fun ht43=>?_) (fun ht43=>?_)
 ·have e5:s5Q (Bu s).1=Jo (Bu s).1 8 (s4Q (Bu s).1):=if_pos ht43
  refine Z61 ?_
  refine Tp (n:=3) (x:=prq (Bu s).1 (Jo (Bu s).1 8 (s4Q (Bu s).1))) Tryz.call72 (c72 (Bu s).1 (s4Q (Bu s).1) 8 (oid Hp.length 3) _ (by rw [B6];rfl) f5) ?_
  refine A2 [2,3,6,7] ?_;refine Gf ?_;refine Z46 ?_;refine Z0 ?_;refine A2 [2,3,6,7,51] ?_
  refine A3 (fun ht51=>?_) (fun ht51=>?_)
  ·rw [←e5] at ht51 ⊢
   have e:Mu s=(kr,(s5Q (Bu s).1).code,(s5Q (Bu s).1).at_):=by rw [hp];exact if_pos ht51
   refine ALg ?_
   apply Y.q
   ·intro B hT hF
    exact AJq
   case hTF=>decide
   refine Z97 ?_;refine AH8 ?_;refine eb ?_;exact AGp
  rw [←e5] at ht51
  have e:Mu s=((r3Q (Bu s).1).1,0,0):=by rw [hp];exact if_neg (by show ¬(((s5Q (Bu s).1).code != 0)=true);rw [ht51];simp)
  refine Of ?_;refine Z24 ?_;refine eb ?_;exact AJc
 have e5:s5Q (Bu s).1=s4Q (Bu s).1:=if_neg (by rw [ht43];simp)
 refine Z4 ?_;refine Z46 ?_;refine Z0 ?_;refine A2 [2,3,6,7,51] ?_
 refine A3 (fun ht51=>?_) (fun ht51=>?_)
 ·rw [←e5] at ht51 ⊢
  have e:Mu s=(kr,(s5Q (Bu s).1).code,(s5Q (Bu s).1).at_):=by rw [hp];exact if_pos ht51
  refine ALg ?_
  apply Y.q
  ·intro B hT hF
   exact AJq
  case hTF=>decide
  refine Z97 ?_;refine AH8 ?_;refine eb ?_;exact AGp
 rw [←e5] at ht51
 have e:Mu s=((r3Q (Bu s).1).1,0,0):=by rw [hp];exact if_neg (by show ¬(((s5Q (Bu s).1).code != 0)=true);rw [ht51];simp)
 refine Of ?_;refine Z24 ?_;refine eb ?_;exact AJc

structure QW (q:Qry):Prop where
 ok:okE 61 q.whr
 size:sizeE q.whr≤1048576
 rng:F7 Lv q.whr=true
 len:q.cols.length≤1048576
 names:∀s∈q.cols,s.length≤1048576
def noN (s:Str):Bool := !(Cc s)
def Ym (ks:List Str):Int:=if ks.any noN then (ks.findIdx noN:Int) else -1
theorem AC2 {ks:List Str} {i:Nat} (h:i<ks.length) (hn:noN ks[i]=true) (hp:∀(j:Nat) (y:Str),j<i→ks[j]? = some y→¬noN y=true):(i:Int)=Ym ks:=by
 unfold Ym
 rw [if_pos (E7.2 ⟨_,As h,hn⟩)]
 congr 1
 refine (mi h |>.2 ⟨hn,fun j hj=>?_⟩).symm
 have:=hp j (ks[j]'(by omega)) hj (Ac (by omega))
 simpa using this
theorem qt {ks:List Str} (hp:∀(j:Nat) (y:Str),ks[j]? = some y→¬noN y=true):(-1:Int)=Ym ks:=by
 unfold Ym
 rw [if_neg]
 intro h
 obtain ⟨y,hy,hn⟩:=E7.1 h
 obtain ⟨j,hj⟩:=C9 hy
 exact hp j y hj hn
theorem xb (ks:List Str):decide (0≤Ym ks)=ks.any noN:=by
 unfold Ym
 cases ks.any noN<;>simp
theorem AC3 {α:Type} {p:α→Bool} (l:List α):(!(l.any fun s => !(p s)))=l.all p:=by
 induction l with
 | nil=>rfl
 | cons a r ih=>rw [List.any_cons,List.all_cons,←ih];cases p a<;>simp
theorem tt {q:Qry} (h:((((q.all != ((q.cols.length:Int)==0)) || decide ((12:Int)<(q.cols.length:Int))) || decide (q.lim < -1)) || decide ((100000:Int)<q.lim))=true):Ja q=false:=if_pos h
theorem gc {q:Qry} (h:((((q.all != ((q.cols.length:Int)==0)) || decide ((12:Int)<(q.cols.length:Int))) || decide (q.lim < -1)) || decide ((100000:Int)<q.lim))=false):Ja q=((q.cols.all Cc)&&(!(Va q) || B2 q.whr)):=if_neg (by rw [h];simp)
theorem AF4 {q:Qry} (h:((((q.all != ((q.cols.length:Int)==0)) || decide ((12:Int)<(q.cols.length:Int))) || decide (q.lim < -1)) || decide ((100000:Int)<q.lim))=false):Ja q=(!(q.cols.any noN)&&(!(Va q) || Bc q.whr)):=by rw [gc h,←AC3,D6];rfl
theorem AF5 {q:Qry} (h:((((q.all != ((q.cols.length:Int)==0)) || decide ((12:Int)<(q.cols.length:Int))) || decide (q.lim < -1)) || decide ((100000:Int)<q.lim))=false) {s:Str} (hs:s∈q.cols) (hn:Hl s=false):Ja q=false:=by
 rw [gc h]
 have:q.cols.all Cc=false:=by
  rw [G7]
  intro e
  have:=B1.1 e s hs
  rw [Eh,hn] at this
  cases this
 rw [this];rfl
theorem AF6 {q:Qry} (h:((((q.all != ((q.cols.length:Int)==0)) || decide ((12:Int)<(q.cols.length:Int))) || decide (q.lim < -1)) || decide ((100000:Int)<q.lim))=false) (hn:∀s∈q.cols,Hl s=true):Ja q=(!(Va q) || B2 q.whr):=by
 rw [gc h]
 have:q.cols.all Cc=true:=B1.2 fun s hs=>by rw [Eh];exact hn s hs
 rw [this];rfl
def T6 (q:Qry):Bool:=if decide ((20:Int)<(q.cols.length:Int)) || Pg q.whr then true else q.cols.any fun s=>decide ((100:Int)<(s.length:Int))
theorem AF7 {q:Qry} (h:(decide ((20:Int)<(q.cols.length:Int)) || Pg q.whr)=true):T6 q=true:=if_pos h
theorem AF8 {q:Qry} (h:(decide ((20:Int)<(q.cols.length:Int)) || Pg q.whr)=false) {s:Str} (hs:s∈q.cols) (hn:decide ((100:Int)<(s.length:Int))=true):T6 q=true:=by
 unfold T6
 rw [if_neg (by rw [h];simp)]
 exact E7.2 ⟨s,hs,hn⟩
theorem AF9 {q:Qry} (h:(decide ((20:Int)<(q.cols.length:Int)) || Pg q.whr)=false) (hn:∀s∈q.cols,decide ((100:Int)<(s.length:Int))=false):T6 q=false:=by
 unfold T6
 rw [if_neg (by rw [h];simp),G7]
 intro e
 obtain ⟨s,hs,h2⟩:=E7.1 e
 rw [hn s hs] at h2;cases h2
theorem Yn {α:Type} {l:List α} {P:α→Prop} {i:Nat} (h:i<l.length) (hx:∀y∈l.take i,P y) (hr:P l[i]):∀y∈l.take (i+1),P y:=by
 intro y hy
 rw [Id h,Ds] at hy
 rcases hy with hy|hy
 ·exact hx y hy
 rw [Bh] at hy;subst hy;exact hr
theorem cd {α:Type} {l:List α} {P:α→Prop} {i:Nat} (h:l.length≤i) (hx:∀y∈l.take i,P y):∀y∈l,P y:=by rwa [Cu h] at hx
theorem APm (s:Str) (hs:s.length≤1048576) (Hp:List AObj):AFun Tryz.prog 104 [Ab s] Hp (B0 (noN s)):=by
 refine Ah [.tmp 2] [0] Tryz.func104 Tryz.ntmps104 (fun d=>?_)
 refine Z44 ?_;refine Z2 ?_;exact AKu

theorem AMm (ks:List Str) (hkl:ks.length≤1048576) (hks:∀s∈ks,s.length≤1048576) (Hp:List AObj):AFun Tryz.prog 106 [E4 ks,.fn (.func 104) [] []] Hp (A4 (Ym ks)):=by
 refine Ah [.tmp 4] [0,1] Tryz.func106 Tryz.ntmps106 (fun d=>?_)
 refine iw ?_
 refine Bg (α:=Nat) (fun x=>⟨19,A6 0 (E4 ks) (A6 1 (.fn (.func 104) [] []) (A6 7 (A4 ks.length) (A6 8 (A4 (x:Nat)) (fun _=>.any)))),Hp,[],[],none⟩) (fun x=>x≤ks.length∧∀(j:Nat) (y:Str),j<x→ks[j]? = some y→¬noN y=true) (fun x=>ks.length-x) (0) (by simp) (B4 (by simp)) rfl (fun x hx=>?_)
 refine ik ?_
 refine E2 (fun ht9=>?_) (fun ht9=>?_)
 ·have hlt:x<ks.length:=by simpa using ht9
  refine iv ?_
  refine A5 (h:=Ad (x) (Ab ks[x]) (fun _=>Ar hlt)) (hr:=?_)
  refine A5 ?_;refine P2 Tryz.call104 (APm ks[x] (hks _ (As hlt)) _) ?_;refine j6 ?_
  refine A3 (fun ht16=>?_) (fun ht16=>?_)
  ·refine ip ?_;refine Z28 ?_;exact A9 (Aj A8) ⟨by rw [AC2 hlt ht16 hx.2],rfl⟩
  refine Ra ?_;exact AJl
 refine Wz ?_;refine Z20 ?_;exact A9 (Aj A8) ⟨by rw [qt (Kl (by simp at ht9;omega) hx.2)],rfl⟩

theorem APn (ks:List Str) (hkl:ks.length≤1048576) (hks:∀s∈ks,s.length≤1048576) (Hp:List AObj):AFun Tryz.prog 58 [E4 ks,.fn (.func 104) [] []] Hp (B0 (ks.any noN)):=by
 refine Ah [.tmp 4] [0,1] Tryz.func58 Tryz.ntmps58 (fun d=>?_)
 refine j4 ?_;refine Aa Tryz.call106 (AMm ks hkl hks _) ?_;refine Z0 ?_;refine Z20 ?_;exact A9 (Aj A8) ⟨by rw [←xb];try rfl,rfl⟩

theorem c61 (q:Qry) (h:QW q) (Hp:List AObj):AFun Tryz.prog 61 [Qi q] Hp (B0 (Va q)):=by
 refine Ah [.tmp 2] [0] Tryz.func61 Tryz.ntmps61 (fun d=>?_)
 refine Z66 ?_;refine Z86 ?_;refine R.wk 5 _ Pk ?_;refine Aa Tryz.call109 (AI5 61 q.whr h.ok Aw _) ?_;exact Z91

theorem c42 (q:Qry) (h:QW q) (Hp:List AObj):AFun Tryz.prog 42 [Qi q] Hp (B0 (Va q)):=by
 refine Ah [.tmp 2] [0] Tryz.func42 Tryz.ntmps42 (fun d=>?_)
 refine Z66 ?_;refine Z86 ?_;refine R.wk 5 _ Pk ?_;refine Aa Tryz.call27 (c27 61 q.whr h.ok Aw _) ?_;exact Z91

theorem c57 (q:Qry) (h:QW q) (Hp:List AObj):AFun Tryz.prog 57 [Qi q] Hp (B0 (Ja q)):=by
 refine Ah [.tmp 2] [0] Tryz.func57 Tryz.ntmps57 (fun d=>?_)
 refine Z66 ?_;refine Z46 ?_;refine Z0 ?_;refine Z52 ?_;refine Z67 ?_;refine Z67 ?_;refine A5 ?_;refine A2 [1,25] ?_
 refine A3 (fun ht25=>?_) (fun ht25=>?_)
 ·rw [Ag] at ht25
  have e:=tt ht25
  exact AKa
 rw [Ag] at ht25
 have e:=AF4 ht25
 refine Nr ?_;refine Aa Tryz.call58 (APn q.cols h.len h.names _) ?_;refine Z95 ?_;refine Bm Tryz.call61 (fun hB=>c61 q h _) ?_;refine Qg ?_;refine Bm Tryz.call96 (fun hB=>c96 61 q.whr h.ok (by decide) _) ?_;refine B7 ?_;exact AKf

theorem c39 (q:Qry) (h:QW q) (Hp:List AObj):AFun Tryz.prog 39 [Qi q] Hp (B0 (Ja q)):=by
 refine Ah [.tmp 2] [0] Tryz.func39 Tryz.ntmps39 (fun d=>?_)
 refine Z66 ?_;refine Z46 ?_;refine Z0 ?_;refine Z52 ?_;refine Z67 ?_;refine Z67 ?_;refine A5 ?_;refine A2 [1,26] ?_
 refine A3 (fun ht26=>?_) (fun ht26=>?_)
 ·rw [Ag] at ht26
  have e:=tt ht26
  exact AKa
 rw [Ag] at ht26
 refine Mw ?_;refine Tv ?_
 refine Bg (α:=Nat) (fun x=>⟨49,A6 1 (.ro (qoC false q)) (A6 3 (A4 (x:Nat)) (fun _=>.any)),Hp,[],[],none⟩) (fun x=>x≤q.cols.length∧∀s∈q.cols.take x,Hl s=true) (fun x=>q.cols.length-x) (0) ⟨Ao _,fun s hs=>by simp at hs⟩ (B4 (by simp)) rfl (fun x hx=>?_)
 refine Z99 ?_;refine A2 [1,3,31] ?_
 refine A3 (fun ht31=>?_) (fun ht31=>?_)
 ·have hlt:x<q.cols.length:=by simpa using ht31
  have hlen:=h.len
  refine Sj ?_
  refine A5 (h:=Ad (x) (Ab q.cols[x]) (fun _=>Ar hlt)) (hr:=?_)
  refine A5 ?_;refine Aa Tryz.call86 (c86 q.cols[x] (h.names _ (As hlt)) _) ?_;refine A5 ?_;refine A2 [1,3,40] ?_
  refine A3 (fun ht40=>?_) (fun ht40=>?_)
  ·have e:=AF5 ht26 (As hlt) (by simpa using ht40)
   refine Zi ?_;exact AHf
  refine Z68 ?_;refine Tv ?_;exact Au (x+1) ⟨hlt,Yn hlt hx.2 (by simpa using ht40)⟩ (by omega) (Bk rfl)
 have hxe:q.cols.length≤x:=by simpa using ht31
 have e:=AF6 ht26 (cd hxe hx.2)
 refine Zk ?_;refine Aa Tryz.call42 (c42 q h _) ?_;refine Z21 ?_;refine Bm Tryz.call87 (fun hB=>c87 61 q.whr h.ok (by decide) h.size _) ?_;exact AKf

theorem c8 (q:Qry) (Hp:List AObj):AFun Tryz.prog 8 [Qi q] Hp (B0 (T6 q)):=by
 refine Ah [.tmp 2] [0] Tryz.func8 Tryz.ntmps8 (fun d=>?_)
 refine Z66 ?_;refine Z99 ?_;refine Z5 ?_;refine Bm Tryz.call31 (fun hB=>c31 q.whr _) ?_;refine A5 ?_;refine A2 [1,12] ?_
 refine A3 (fun ht12=>?_) (fun ht12=>?_)
 ·rw [Ag] at ht12
  have e:=AF7 ht12
  refine nd ?_;exact AHg
 rw [Ag] at ht12
 have hl20:q.cols.length≤20:=by
  simp only [Dn,decide_eq_false_iff_not] at ht12
  omega
 refine Mw ?_;refine Tv ?_
 refine Bg (α:=Nat) (fun x=>⟨27,A6 1 (.ro (qoC false q)) (A6 3 (A4 (x:Nat)) (fun _=>.any)),Hp,[],[],none⟩) (fun x=>x≤q.cols.length∧∀s∈q.cols.take x,decide ((100:Int)<(s.length:Int))=false) (fun x=>q.cols.length-x) (0) ⟨Ao _,fun s hs=>by simp at hs⟩ (B4 (by simp)) rfl (fun x hx=>?_)
 refine Z99 ?_;refine A2 [1,3,17] ?_
 refine A3 (fun ht17=>?_) (fun ht17=>?_)
 ·have hlt:x<q.cols.length:=by simpa using ht17
  refine Sj ?_
  refine A5 (h:=Ad (x) (Ab q.cols[x]) (fun _=>Ar hlt)) (hr:=?_)
  refine Z8 ?_;refine A2 [1,3,26] ?_
  refine A3 (fun ht26=>?_) (fun ht26=>?_)
  ·have e:=AF8 ht12 (As hlt) ht26
   refine Zi ?_;exact AHg
  refine Z68 ?_;refine Tv ?_;exact Au (x+1) ⟨hlt,Yn hlt hx.2 ht26⟩ (by omega) (Bk rfl)
 have hxe:q.cols.length≤x:=by simpa using ht17
 have e:=AF9 ht12 (cd hxe hx.2)
 refine iy ?_;exact AHg

theorem AMn {q:Qry} (h:T6 q=false) (hg:F7 Lv q.whr=true):QW q:=by
 unfold T6 at h
 split at h
 ·cases h
 rename_i h1
 simp only [Dg,decide_eq_true_eq,not_or,Ol] at h1
 have hs:=ry h1.2
 refine ⟨hs.ok,by have:=hs.size;omega,hg,by omega,fun s hs=>?_⟩
 rw [G7] at h
 have:¬((100:Int)<(s.length:Int)):=fun e=>h (E7.2 ⟨s,hs,by simpa using e⟩)
 omega
/-! SoundJoins: one behind the other, in one. -/
/-! image: rows forth and back. -/
def AFa (c:List Col) (s:Str):Bool:=decide (At s c<0)
def Yo (p:Str→Bool) (ks:List Str):Int:=if ks.any p then (ks.findIdx p:Int) else -1
theorem AC4 {p:Str→Bool} {ks:List Str} {i:Nat} (h:i<ks.length) (hn:p ks[i]=true) (hp:∀(j:Nat) (y:Str),j<i→ks[j]? = some y→¬p y=true):(i:Int)=Yo p ks:=by
 unfold Yo
 rw [if_pos (E7.2 ⟨_,As h,hn⟩)]
 congr 1
 refine (mi h |>.2 ⟨hn,fun j hj=>?_⟩).symm
 have:=hp j (ks[j]'(by omega)) hj (Ac (by omega))
 simpa using this
theorem qu {p:Str→Bool} {ks:List Str} (hp:∀(j:Nat) (y:Str),ks[j]? = some y→¬p y=true):(-1:Int)=Yo p ks:=by
 unfold Yo
 rw [if_neg]
 intro h
 obtain ⟨y,hy,hn⟩:=E7.1 h
 obtain ⟨j,hj⟩:=C9 hy
 exact hp j y hj hn
theorem xc (p:Str→Bool) (ks:List Str):decide (0≤Yo p ks)=ks.any p:=by
 unfold Yo
 cases ks.any p<;>simp
theorem c59 (c:List Col) (hc:OkCols c) (s:Str) (Hp:List AObj):AFun Tryz.prog 59 [Ab s,.ro [Ai c]] Hp (B0 (AFa c s)):=by
 refine Ah [.tmp 3] [0,1] Tryz.func59 Tryz.ntmps59 (fun d=>?_)
 refine j4 ?_;refine Aa Tryz.call60 (c60 c hc s _) ?_;refine Z0 ?_;refine A2 [3] ?_;refine El ?_;exact zu

theorem APo (c:List Col) (hc:OkCols c) (ks:List Str) (hkl:ks.length≤1048576) (Hp:List AObj):AFun Tryz.prog 106 [E4 ks,.fn (.func 59) [] [.ro [Ai c]]] Hp (A4 (Yo (AFa c) ks)):=by
 refine Ah [.tmp 4] [0,1] Tryz.func106 Tryz.ntmps106 (fun d=>?_)
 refine iw ?_
 refine Bg (α:=Nat) (fun x=>⟨19,A6 0 (E4 ks) (A6 1 (.fn (.func 59) [] [.ro [Ai c]]) (A6 7 (A4 ks.length) (A6 8 (A4 (x:Nat)) (fun _=>.any)))),Hp,[],[],none⟩) (fun x=>x≤ks.length∧∀(j:Nat) (y:Str),j<x→ks[j]? = some y→¬AFa c y=true) (fun x=>ks.length-x) (0) (by simp) (B4 (by simp)) rfl (fun x hx=>?_)
 refine ik ?_
 refine E2 (fun ht9=>?_) (fun ht9=>?_)
 ·have hlt:x<ks.length:=by simpa using ht9
  refine iv ?_
  refine A5 (h:=Ad (x) (Ab ks[x]) (fun _=>Ar hlt)) (hr:=?_)
  refine A5 ?_;refine P2 Tryz.call59 (c59 c hc ks[x] _) ?_;refine j6 ?_
  refine A3 (fun ht16=>?_) (fun ht16=>?_)
  ·refine ip ?_;refine Z28 ?_;exact A9 (Aj A8) ⟨by rw [AC4 hlt ht16 hx.2],rfl⟩
  refine Ra ?_;exact AJl
 refine Wz ?_;refine Z20 ?_;exact A9 (Aj A8) ⟨by rw [qu (Kl (by simp at ht9;omega) hx.2)],rfl⟩

theorem APp (c:List Col) (hc:OkCols c) (ks:List Str) (hkl:ks.length≤1048576) (Hp:List AObj):AFun Tryz.prog 58 [E4 ks,.fn (.func 59) [] [.ro [Ai c]]] Hp (B0 (ks.any (AFa c))):=by
 refine Ah [.tmp 4] [0,1] Tryz.func58 Tryz.ntmps58 (fun d=>?_)
 refine j4 ?_;refine Aa Tryz.call106 (APo c hc ks hkl _) ?_;refine Z0 ?_;refine Z20 ?_;exact A9 (Aj A8) ⟨by rw [←xc];try rfl,rfl⟩

theorem c25 (q:Qry) (h:QW q) (c:List Col) (hc:OkCols c) (Hp:List AObj):AFun Tryz.prog 25 [Qi q,Ai c] Hp (A4 (Dk q c)):=by
 refine Ah [.tmp 4] [0,1] Tryz.func25 Tryz.ntmps25 (fun d=>?_)
 refine zm ?_;refine Z25 ?_;refine Aa Tryz.call57 (c57 q h _) ?_;refine Z95 ?_;refine Bm Tryz.call50 (C:=(((!(Ja q))==false))) (fun hB=>c50 c hc _) ?_;refine Z80 ?_;refine A2 [2,3,14] ?_
 refine A3 (fun ht14=>?_) (fun ht14=>?_)
 ·have hm:Dk q c=1:=if_pos ht14
  exact vg
 refine j5 ?_;refine J4 ?_;refine Aa Tryz.call58 (APp c hc q.cols h.len _) ?_;refine A2 [2,3,18] ?_
 refine A3 (fun ht18=>?_) (fun ht18=>?_)
 ·have hm:Dk q c=9:=by unfold Dk;rw [if_neg (by rw [ht14];simp)];exact if_pos ht18
  exact vg
 have ht18b:¬(q.cols.any fun s=>decide (At s c<0))=true:=fun e=>Bool.false_ne_true (ht18.symm.trans e)
 refine Mw ?_;refine Aa Tryz.call61 (c61 q h _) ?_;refine A5 ?_;refine A2 [2,3,21] ?_
 refine A3 (fun ht21=>?_) (fun ht21=>?_)
 ·have hm:Dk q c=0:=by unfold Dk;rw [if_neg (by rw [ht14];simp),if_neg ht18b,if_pos ht21]
  exact vg
 have hm0:Dk q c=if (Ej q.whr c).2 != 0 then (Ej q.whr c).2 else if !Y4 q.whr c 3 then 10 else 0:=by unfold Dk;rw [if_neg (by rw [ht14];simp),if_neg ht18b,if_neg (by rw [ht21];simp)]
 refine np ?_;refine Aa Tryz.call62 (c62 61 q.whr h.ok (by decide) c hc _) ?_;refine Z82 ?_;refine A2 [2,3,6] ?_;refine Z1 ?_;refine A2 [2,3,6,30] ?_
 refine A3 (fun ht30=>?_) (fun ht30=>?_)
 ·have hm:Dk q c=(Ej q.whr c).2:=by rw [hm0,if_pos ht30]
  refine Z1 ?_;refine A2 [4] ?_;exact Z77
 refine np ?_;refine Aa Tryz.call63 (c63 61 q.whr h.ok (by decide) c hc 3 _) ?_;refine A5 ?_;refine A2 [36] ?_
 refine A3 (fun ht36=>?_) (fun ht36=>?_)
 ·have hm:Dk q c=10:=by rw [hm0,if_neg (by rw [ht30];simp),if_pos ht36]
  exact vg
 have hm:Dk q c=0:=by rw [hm0,if_neg (by rw [ht30];simp),if_neg (by rw [ht36];simp)]
 refine Of ?_;exact AKc

/-! What rewrite.turn, Forth, Back answer. -/
structure Pln where
 trees:List Expr
 whr:Expr
 lim:Int
def I2:Pln:=⟨[],Aw,0⟩
abbrev ge (p:Pln):List AV:=[Bd p.trees,A4 p.whr.op,Ab p.whr.text,A4 p.whr.val.kind,A4 p.whr.val.n,Ab p.whr.val.s,Bd p.whr.kids,A4 p.lim]
abbrev Zv (p:Pln):AV:=.agg (ge p)
def Ib (c:List Col) (l:List Expr) (s:Str):Expr:=l.getD (At s c).toNat Aw
def M3 (q:Qry) (c:List Col) (l:List Expr):List Expr:=if q.all then l else q.cols.map (Ib c l)
def M4 (q:Qry) (c:List Col) (l:List Expr):Pln×Int:=
 if q.whr.op==0 then (⟨M3 q c l,Aw,q.lim⟩,0) else if (Dr q.whr c l).2 != 0 then (I2,(Dr q.whr c l).2) else (⟨M3 q c l,(Dr q.whr c l).1,q.lim⟩,0)
def E1 (q:Qry) (c:List Col) (l:List Mov):Pln×Int:=
 if (Ec c l).2 != 0 then (I2,1) else if Dk q (Ec c l).1 != 0 then (I2,Dk q (Ec c l).1) else if (Es c l).2 != 0 then (I2,(Es c l).2) else M4 q (Ec c l).1 (Es c l).1
def H3 (q:Qry) (c:List Col) (l:List Mov):Pln×Int:=
 if (Gn c l).2 != 0 then (I2,1) else if Dk q c != 0 then (I2,Dk q c) else if (Je c l).2 != 0 then (I2,(Je c l).2) else M4 q c (Je c l).1
theorem AG8 {q:Qry} {c:List Col} {l:List Expr} (h:(q.whr.op==0)=true):M4 q c l=(⟨M3 q c l,Aw,q.lim⟩,0):=if_pos h
theorem AG9 {q:Qry} {c:List Col} {l:List Expr} (h:(q.whr.op==0)=false) (h2:((Dr q.whr c l).2 != 0)=true):M4 q c l=(I2,(Dr q.whr c l).2):=by
 unfold M4;rw [if_neg (by rw [h];simp),if_pos h2]
theorem AGa {q:Qry} {c:List Col} {l:List Expr} (h:(q.whr.op==0)=false) (h2:((Dr q.whr c l).2 != 0)=false):M4 q c l=(⟨M3 q c l,(Dr q.whr c l).1,q.lim⟩,0):=by
 unfold M4;rw [if_neg (by rw [h];simp),if_neg (by rw [h2];simp)]
theorem ce {q:Qry} {c:List Col} {l:List Expr} (h:q.all=true):M3 q c l=l:=by unfold M3;rw [h];rfl
theorem Yp {q:Qry} {c:List Col} {l:List Expr} (h:q.all=false):M3 q c l=q.cols.map (Ib c l):=by unfold M3;rw [h];rfl
theorem gg:Le (.agg [.nil,A4 0,Ab [],A4 0,A4 0,Ab [],.nil,A4 0]) (Zv I2):=.agg _ _ rfl (by simp [I2,Aw];repeat' (first|rfl|apply And.intro)) fun i y y' h h'=>by
 rcases i with _|_|_|_|_|_|_|_|i<;>simp at h h'<;>subst h<;>subst h'
 ·exact .inr ⟨rfl,_,rfl⟩
 ·exact .inl rfl
 ·exact .inl rfl
 ·exact .inl rfl
 ·exact .inl rfl
 ·exact .inl rfl
 ·exact .inr ⟨rfl,_,rfl⟩
 exact .inl rfl
theorem tw {c:List Col} {s:Str} (h:¬At s c<0):∃j:Nat,At s c=(j:Int)∧j<c.length:=Fl h
end Go.SX.Nb
namespace Go.SX
variable [GI:GlobInv]
open Classical
section
variable {P:Program} {d:Nat} {st:St} {dst:Option Tmp} {ty:TypeId} {pos:String} {aft:Array Edge} {gd:Option (Nat×Bool)}
variable {sz:Nat} {fr:Nat→AV} {up own own':List AObj} {dfs:List Nat} {rnd:Option Nat} {Q:St→Prop} {ops:Array Oper} {rest:List Oper} {s:Nat}
theorem OpV.le {o:Oper} {st:St} {y y':AV} (h:OpV P d o st y) (hl:Le y y'):OpV P d o st y':=fun G a w hrel Q' =>
 Jr (fun a w ⟨G',v,e,r,k,hrep⟩=>⟨G',v,e,r,k,hrep.le hl⟩) (h G a w hrel Q')
variable {l0:List Oper} {E:List Oper→(Nat→AV)→Prop} {kd:Nat}
end
end Go.SX
namespace Go.SX
variable [GI:GlobInv]
open Classical
section
variable {P:Program} {d:Nat} {st:St} {ty:TypeId} {pos:String} {aft:Array Edge} {gd:Option (Nat×Bool)} {ats:Array TypeId}
variable {sz:Nat} {fr:Nat→AV} {up own own':List AObj} {dfs:List Nat} {rnd:Option Nat} {Q:St→Prop} {ops:Array Oper} {rest:List Oper} {s:Nat}
/-- A struct that is built, whose nil slices are taken as empty ones. -/
theorem R.buildLe {t:TypeId} {fs:Array Field} {places:Array (Nat×Nat)} {parts:List (Nat×Operand)} {z:Value} {zs cs:List AV} {ys:List (Nat×AV)} (y':AV) (hle:Le (.agg cs) y') (hu:P.underlying t=some (.struct fs))
  (hpl:∀w,(fs.mapM (m:=Sem) fun f=>do Pure.pure (f.offset,←Go.sizeOf f.type)).run P w=.ok places w) (hz:∀w,(zeroValue t).run P w=.ok z w) (hr:ARun P d ops rest ⟨sz,A6 s y' fr,up,own,dfs,rnd⟩ Q)
  (hzs:z.cells.toList.map Ee=zs:=by exact sL0) (hone:zs.all AV.one=true:=by exact sL1) (hys:(parts.map fun p=>(p.1,Bb fr p.2))=ys:=by exact sL0)
  (hf:Ii (fun i=>places[i]?) zs ys=some cs:=by simp [Ii,go_sem]<;>rfl) (hs:Nat.blt s sz=true:=by rfl):
  ARun P d ops (⟨some s,.build t parts.toArray,ty,pos,aft,none⟩::rest) ⟨sz,fr,up,own,dfs,rnd⟩ Q:=by
 subst hys
 exact Wi rfl rfl hs (OpV.le (mn hu hpl hz hzs.symm hone hf) hle) hr
end
end Go.SX
