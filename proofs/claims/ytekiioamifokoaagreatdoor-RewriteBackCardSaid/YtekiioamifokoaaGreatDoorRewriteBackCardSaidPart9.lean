/- On the way (part 9). -/
import Derived.Shelf.Strconv.AtoiAll
import Derived.Test.YtekiioamifokoaaGreatDoorRewriteBackCardSaidPart8
set_option linter.all false
namespace Go.SX.Nb
open Go Go.SX Go.Proofs Go.RowKit
variable [ErrAt]
set_option maxRecDepth 4000
theorem ATe (s:Str) (hs:s.length≤1048576) (Hp:List AObj):AFun Tryz.prog 121 [Ac s] Hp (.tup [A3 (Wn s),.any]):=by
 refine AFun.libAny (xs:=[sv s]) (n:=.int .i64 (Wn s)) (fun w hg=>?_)
 have hz:(⟨s.toArray⟩:ByteArray).size≤1048576:=by simpa [ByteArray.size] using hs
 unfold Wn
 rcases h:Lib.atoiAll s with v|_|_
 ·refine (Any.strconv_Atoi_ok Tryz.lays172 ⟨s.toArray⟩ (by omega) v h w).mono ?_
  rintro e w' ⟨rfl,hb⟩
  refine ⟨_,rfl,?_⟩
  rcases hb with rfl|⟨t,rfl⟩
  ·exact Below.refl _ _
  exact Lib.bytesWorld_below _ _ _
 ·refine (Any.strconv_Atoi_syntax Tryz.lays172 ⟨s.toArray⟩ (by omega) h _ w (iy hg) (.inr ⟨_,_,rfl⟩)).mono ?_
  rintro e w' ⟨N,rfl,_,_,hb⟩
  exact ⟨_,rfl,hb⟩
 refine (Any.strconv_Atoi_range Tryz.lays172 ⟨s.toArray⟩ (by omega) h _ w (Q6 hg) (.inr ⟨_,_,rfl⟩)).mono ?_
 rintro e w' ⟨N,rfl,_,_,hb⟩
 exact ⟨_,rfl,hb⟩
end Go.SX.Nb
namespace Go.SX.Nb
open Go Go.SX Go.Proofs
variable [ErrAt]
set_option maxRecDepth 4000
theorem AMb {l:List Tok} {s:Str} {S:QS} (h:isQ l s S=true):(Af l S.i).kind≠0:=by
 unfold isQ at h
 simp only [As,D7,beq_iff_eq] at h
 rcases h.1.2 with e|e<;>rw [e]<;>decide
theorem Ln {l:List Tok} (hl:TokEnd l) {s:Str} {S:QS} (hi:S.i<l.length) (h:isQ l s S=true):(Ff S).i<l.length:=hl.step hi (AMb h)
theorem U4 (l:List Tok) (e:Int) (S:QS):(Jv l e S).i=S.i:=by unfold Jv;split<;>rfl
theorem ni {l:List Tok} (hl:TokEnd l) {s:Str} {S:QS} (hi:S.i<l.length):(U0 l s S).i<l.length:=by
 unfold U0
 split
 ·rename_i h;exact Ln hl hi h
 rw [U4];exact hi
theorem P1 {l:List Tok} (hl:TokEnd l) {q:Qry} {S:QS} (hi:S.i<l.length) (hc:q.cols.length≤12):S.i≤(Hy l (q,S)).2.i∧(Hy l (q,S)).2.i<l.length∧(Hy l (q,S)).1.cols.length≤12:=by
 unfold Hy
 split
 ·exact ⟨Al _,hi,hc⟩
 split
 ·exact AOz
 split
 ·exact AOz
 rename_i h1 h2 h3
 have hk:(Af l S.i).kind≠0:=by
  have:(Af l S.i).kind=1:=by simpa using h2
  rw [this];decide
 refine ⟨J5 _,hl.step hi hk,?_⟩
 simp only [beq_iff_eq] at h3
 rw [Ai,Kc]
 simp only at h3 ⊢
 omega
/-- Where the loop of names stands. -/
structure QNames (l:List Tok) (r0 r:Qry×QS):Prop where
 lt:r.2.i<l.length
 cols:r.1.cols.length≤12
 fuel:∃n,Mb l l.length r0=Mb l n r∧l.length-r.2.i≤n
theorem QNames.start {l:List Tok} {r:Qry×QS} (h1:r.2.i<l.length) (h2:r.1.cols.length≤12):QNames l r r:=⟨h1,h2,l.length,rfl,by omega⟩
theorem QNames.on {l:List Tok} (hl:TokEnd l) {r0 r:Qry×QS} (h:QNames l r0 r) (hq:isQ l [44] r.2=true):QNames l r0 (Hy l (r.1,Ff r.2))∧r.2.i+1≤(Hy l (r.1,Ff r.2)).2.i:=by
 obtain ⟨n,e,hn⟩:=h.fuel
 have hlt:=Ln hl h.lt hq
 obtain ⟨f1,f2,f3⟩:=P1 hl (q:=r.1) hlt h.cols
 have h1:=h.lt
 refine ⟨⟨f2,f3,n-1,?_,?_⟩,f1⟩
 ·rw [e]
  obtain ⟨m,rfl⟩:∃m,n=m+1:=⟨n-1,by omega⟩
  rw [Mb,if_pos hq]
  rfl
 have:r.2.i+1≤(Hy l (r.1,Ff r.2)).2.i:=f1
 omega
theorem QNames.out {l:List Tok} {r0 r:Qry×QS} (h:QNames l r0 r) (hq:isQ l [44] r.2=false):Mb l l.length r0=r:=by
 obtain ⟨n,e,_⟩:=h.fuel
 rw [e]
 cases n with
 | zero=>rfl
 | succ n=>rw [Mb,if_neg (by rw [hq];simp)]
theorem qA {Hp:List AObj} {o ox:Nat} {A B:AObj} (hl:o<Hp.length) (hne:ox≠o):((Hp.set o A).set ox B)[o]? = some A:=by rw [Bk hne];simp [hl]
theorem qB {Hp:List AObj} {o ox:Nat} {A B:AObj} (hl:ox<Hp.length):((Hp.set o A).set ox B)[ox]? = some B:=by simp [hl]
theorem AEv {Hp:List AObj} {o ox:Nat} {A A' B:AObj} (hne:ox≠o):((Hp.set o A).set ox B).set o A'=(Hp.set o A').set ox B:=by rw [O5 _ _ hne,C6]
theorem ATf {Hp:List AObj} {o ox m:Nat} {A A' B B':AObj} (hl:o<Hp.length) (hlx:ox<Hp.length) (hne:ox≠o) (hA:ObjLow m A') (hB:ObjLow m B') (h:∀x∈(Hp.set o A).set ox B,ObjLow m x):∀x∈(Hp.set o A').set ox B',ObjLow m x:=by
 intro x hx
 obtain ⟨i,hi⟩:=Cb hx
 by_cases h1:i=ox
 ·subst h1
  rw [qB hlx] at hi
  injection hi with hi
  subst hi
  exact hB
 by_cases h2:i=o
 ·subst h2
  rw [qA hl hne] at hi
  injection hi with hi
  subst hi
  exact hA
 refine h x (Aw (i:=i) ?_)
 rw [Bk (Ne.symm h1),Bk (Ne.symm h2)] at hi ⊢
 exact hi
/-- A call that turns the parser and the query. -/
theorem vq {d:Nat} {ops:Array Oper} {rest:List Oper} {sz s:Nat} {fr:Nat→AV} {Hp:List AObj} {rnd:Option Nat} {Q:St→Prop} {ty:TypeId} {pos:String} {aft:Array Edge} {g:FuncId} {xs:List Operand} {ats:Array TypeId} {args:List AV} {l:List Tok} {S S':QS} {q q':Qry} {o oq:Nat}
  (hcall:∀args w,(callFunc g args).run Tryz.prog w=.ok (.enter g args) w) (hl:o<Hp.length) (hlq:oq<Hp.length) (hne:oq≠o)
  (h:ACall Tryz.prog g args ((Hp.set o (prq l S)).set oq (qo true q)++[]) (fun r H'=>r=Wp∧H'=(((Hp.set o (prq l S)).set oq (qo true q)++[]).set o (prq l S')).set oq (qo true q')))
  (hr:ARun Tryz.prog d ops rest ⟨sz,A6 s Wp fr,(Hp.set o (prq l S')).set oq (qo true q'),[],[],rnd⟩ Q)
  (ha:xs.map (Bc fr)=args:=by simp only [go_sem,↓reduceIte,Nat.reduceEqDiff,Nat.reduceAdd]<;>rfl) (hs:Nat.blt s sz=true:=by rfl):
  ARun Tryz.prog d ops (⟨some s,.call ⟨.value (.func g),xs.toArray,ats⟩,ty,pos,aft,none⟩::rest) ⟨sz,fr,(Hp.set o (prq l S)).set oq (qo true q),[],[],rnd⟩ Q:=by
 refine Hf (up':=(Hp.set o (prq l S')).set oq (qo true q')) (own':=[]) hcall (h.mono fun r H' e=>⟨e.1,e.2.trans ?_⟩) (by simp) (fun hlow=>?_) hr (by simp) ha hs
 ·rw [H4,H4,AEv hne,C6]
 exact ATf hl hlq hne Jj AEt hlow
theorem AMc (b:Bool) (q:Qry):AObj.cells 29 [B4 b,.slice true 1 (q.cols.map Ac),A3 q.whr.op,Ac q.whr.text,A3 q.whr.val.kind,A3 q.whr.val.n,Ac q.whr.val.s,.slice false 6 (q.whr.kids.map Aa),A3 q.lim]=qo true (Nj b q):=rfl
theorem AQa {l:List Tok} {q:Qry} {S:QS} (h:isQ l [42] S=true):Ow l (q,S)=(Nj true q,Ff S):=if_pos h
theorem AQb {l:List Tok} {q:Qry} {S:QS} (h:isQ l [42] S=false):Ow l (q,S)=Mb l l.length (Hy l (Nj false q,S)):=if_neg (by show ¬(isQ l [42] S=true);rw [h];simp)
theorem c69 (l:List Tok) (S:QS) (q:Qry) (o oq:Nat) (Hp:List AObj) (hne:oq≠o) (ho:Hp[o]? = some (prq l S)) (hoq:Hp[oq]? = some (qo true q)) (hi:S.i<l.length) (hl:TokEnd l) (hll:l.length≤500000) (hc12:q.cols.length≤12):ACall Tryz.prog 69 [.ptr o 0,.ptr oq 0] Hp (fun r H'=>r=Wp∧H'=(Hp.set o (prq l (Ow l (q,S)).2)).set oq (qo true (Ow l (q,S)).1)):=by
 have hlo:=(Ad.1 ho).1
 have hlq:=(Ad.1 hoq).1
 refine Ae [] [0,1] Tryz.func69 Tryz.ntmps69 (fun d=>?_)
 refine Z7 ?_;refine Cr Tryz.call118 ho (by simp) Jj (AEu l S [42] o _ (Aj ho) hi (by omega)) ?_;refine Z0 ?_
 refine Cx jS (by rw [Bk (Ne.symm hne)];exact hoq) ?_ ?_
 ·simp
 refine A2 [0,1] ?_;refine Z15 ?_
 refine A5 (h:=Bd (qB hlq)) (hr:=?_)
 refine A2 [0,1,12] ?_
 refine A4 (fun ht12=>?_) (fun ht12=>?_)
 ·have hq:isQ l [42] S=true:=ht12
  have e:=AQa (q:=q) hq
  rw [aa hq,hq]
  refine Z34 ?_;exact A9 .nores (hp:=⟨rfl,by rw [e];rfl⟩)
 have hq:isQ l [42] S=false:=ht12
 have e:=AQb (q:=q) hq
 rw [ac hq,hq]
 rw [AMc]
 refine l6 ?_
 have f0:=P1 hl (q:=Nj false q) hi hc12
 refine Z0 ?_
 refine vq Tryz.call119 hlo hlq hne (AQ9 l S (Nj false q) o oq _ hne (Aj (qA hlo hne)) (Aj (qB hlq)) hi (by omega) (by show q.cols.length≤_;omega)) ?_
 refine A2 [0,1] ?_
 refine Bi (α:=Qry×QS) (fun r=>⟨21,A6 0 (.ptr o 0) (A6 1 (.ptr oq 0) (fun _=>.any)),(Hp.set o (prq l r.2)).set oq (qo true r.1),[],[],none⟩) (fun r=>QNames l (Hy l (Nj false q,S)) r) (fun r=>l.length-r.2.i) (Hy l (Nj false q,S)) (.start f0.2.1 f0.2.2) (N8 _) rfl (fun r hr=>?_)
 refine Z33 ?_;refine Cr Tryz.call118 (qA hlo hne) (by simp) Jj (AEu l r.2 [44] o _ (Aj (qA hlo hne)) hr.lt (by omega)) ?_;refine A2 [0,1,17] ?_
 refine A4 (fun ht17=>?_) (fun ht17=>?_)
 ·have hq1:isQ l [44] r.2=true:=ht17
  have hlt1:=Ln hl hr.lt hq1
  have hon:=hr.on hl hq1
  rw [aa hq1,AEv hne]
  refine ACd ?_;refine Z21 ?_
  refine vq Tryz.call119 hlo hlq hne (AQ9 l (Ff r.2) r.1 o oq _ hne (Aj (qA hlo hne)) (Aj (qB hlq)) hlt1 (by omega) (by have:=hr.cols;omega)) ?_
  refine A2 [0,1] ?_;refine N9 ?_
  refine Bt (Hy l (r.1,Ff r.2)) hon.1 (by have:=hr.lt;have:=hon.2;omega) (Dx rfl)
 have hq1:isQ l [44] r.2=false:=ht17
 have hout:=hr.out hq1
 rw [ac hq1,AEv hne]
 refine Z52 ?_;refine K.lpE ?_;exact F4 .nores (hp:=⟨rfl,by rw [e,hout]⟩)

theorem AI7 {l:List Tok} {q:Qry} {S:QS} (h:isQ l Ql S=false):L4 l (q,S)=(q,S):=if_neg (by show ¬(isQ l Ql S=true);rw [h];simp)
theorem AI8 {l:List Tok} {q:Qry} {S:QS} (h:isQ l Ql S=true) (h2:((atM l (S.i+1)).2.2.1 != 0)=true):L4 l (q,S)=(q,⟨S.i+1,(atM l (S.i+1)).2.2.1,(atM l (S.i+1)).2.2.2⟩):=by
 unfold L4
 rw [if_pos (by exact h),if_pos (by exact h2)]
theorem AI9 {l:List Tok} {q:Qry} {S:QS} {k:Nat} (h:isQ l Ql S=true) (h2:((atM l (S.i+1)).2.2.1 != 0)=false) (hk:(atM l (S.i+1)).2.1=(k:Int)):L4 l (q,S)=(⟨q.all,q.cols,(atM l (S.i+1)).1,q.lim⟩,⟨k,S.code,S.at_⟩):=by
 unfold L4
 rw [if_pos (by exact h),if_neg (by show ¬_=true;rw [h2];simp),hk]
 rfl
theorem AIa {l:List Tok} {q:Qry} {S:QS} (h:isQ l Ox S=false):Jg l (q,S)=(q,S):=if_neg (by show ¬(isQ l Ox S=true);rw [h];simp)
theorem AIb {l:List Tok} {q:Qry} {S:QS} (h:isQ l Ox S=true) (h2:((Af l (S.i+1)).kind != 3)=true):Jg l (q,S)=(q,Jv l 8 (Ff S)):=by
 unfold Jg
 rw [if_pos (by exact h),if_pos (by exact h2)]
theorem AIc {l:List Tok} {q:Qry} {S:QS} (h:isQ l Ox S=true) (h2:((Af l (S.i+1)).kind != 3)=false) (h3:decide ((100000:Int)<Wn (Af l (S.i+1)).text)=true):Jg l (q,S)=(q,Jv l 3 (Ff S)):=by
 unfold Jg
 rw [if_pos (by exact h),if_neg (by show ¬_=true;rw [h2];simp),if_pos (by exact h3)]
theorem AId {l:List Tok} {q:Qry} {S:QS} (h:isQ l Ox S=true) (h2:((Af l (S.i+1)).kind != 3)=false) (h3:decide ((100000:Int)<Wn (Af l (S.i+1)).text)=false):Jg l (q,S)=(⟨q.all,q.cols,q.whr,Wn (Af l (S.i+1)).text⟩,Ff (Ff S)):=by
 unfold Jg
 rw [if_pos (by exact h),if_neg (by show ¬_=true;rw [h2];simp),if_neg (by show ¬_=true;rw [h3];simp)]
theorem Lo {Hp:List AObj} {o:Nat} {A:AObj} (hl:o<Hp.length):(Hp.set o A)[o]? = some A:=by simp [hl]
theorem zu {Hp:List AObj} {o oq:Nat} {A B:AObj} (hne:oq≠o) (hoq:Hp[oq]? = some B):(Hp.set o A)[oq]? = some B:=by rw [Bk (Ne.symm hne)];exact hoq
theorem c70 (l:List Tok) (S:QS) (q:Qry) (o oq:Nat) (Hp:List AObj) (hne:oq≠o) (ho:Hp[o]? = some (prq l S)) (hoq:Hp[oq]? = some (qo true q)) (hi:S.i<l.length) (hl:TokEnd l) (hll:l.length≤500000) (hc12:q.cols.length≤12):ACall Tryz.prog 70 [.ptr o 0,.ptr oq 0] Hp (fun r H'=>r=Wp∧H'=(Hp.set o (prq l (L4 l (q,S)).2)).set oq (qo true (L4 l (q,S)).1)):=by
 have hlo:=(Ad.1 ho).1
 have hlq:=(Ad.1 hoq).1
 refine Ae [] [0,1] Tryz.func70 Tryz.ntmps70 (fun d=>?_)
 refine Z33 ?_;refine Cr Tryz.call118 ho (by simp) Jj (AEu l S Ql o _ (Aj ho) hi (by omega)) ?_;refine A5 ?_;refine A2 [0,1,9] ?_
 refine A4 (fun ht9=>?_) (fun ht9=>?_)
 ·have hq:isQ l Ql S=false:=by simpa using ht9
  have e:=AI7 (q:=q) hq
  rw [ac hq,Cm ho]
  exact Z37
 have hq:isQ l Ql S=true:=by simpa using ht9
 have hi1:S.i+1<l.length:=Ln hl hi hq
 rw [aa hq]
 refine Z3 ?_;refine Fd [0,1,3,7,0,16,48,112,255,511,1023,1023,1023,0,0,26623,61439,131071] [] [.q 13 [] [],.s [4] none [] [],.s [6] none [] [],.s [4] none [] [],.q 1 [] [],.s [6] none [] []] (fun _=>Hp.set o (prq l (Ff S))) (fun _=>[]) An (by kernel_rfl) rfl rfl (fun _=>rfl) ?_
 apply Y.q
 ·intro B hT hF
  refine Z35 ?_
  refine Aq (h:=Bd (Lo hlo)) (hr:=?_)
  refine Z35 ?_
  refine Aq (h:=Bd (Lo hlo)) (hr:=?_)
  refine Du Tryz.call120 (APt l (S.i+1) hi1 hl hll (fun n Dv h1 h2=>dz hl (by omega) n Dv h1 h2) _) ?_;exact l4
 case hTF=>decide
 refine Y.allocP Tryz.zeroValue27 ?_;refine Y.allocP Tryz.zeroValue73 ?_;refine Y.storeP Tryz.sizeOf27 ?_
 apply Y.q
 ·intro B hT hF
  exact Z56
 case hTF=>decide
 refine Y.storeP Tryz.sizeOf73 ?_;refine Ej (tn:=[])  ?_;refine A2 [0,1,4,5,6] ?_;refine Z29 ?_;refine A2 [0,1,4,5,6,25] ?_
 refine A4 (fun ht25=>?_) (fun ht25=>?_)
 ·have e:=AI8 (q:=q) hq ht25
  refine Z23 ?_
  refine Cx jS (Lo hlo) ?_ ?_
  ·simp
  refine Mk ?_;exact Z37
 obtain ⟨k,hk,hkl⟩:=jh hl (by omega) hi1 (by simpa using ht25)
 have e:=AI9 (q:=q) hq ht25 hk
 rw [hk]
 refine Z3 ?_;refine Z21 ?_;refine Z68 ?_
 refine Cx jS (zu hne hoq) ?_ ?_
 ·intro z hz
  simp only [B3,Em,or_false] at hz
  rcases hz with rfl|rfl|rfl|rfl|rfl|rfl
  all_goals first|exact Dj|simp
 refine Z0 ?_
 refine Cx jS (qA hlo hne) ?_ ?_
 ·simp
 exact Z76

theorem c71 (l:List Tok) (S:QS) (q:Qry) (o oq:Nat) (Hp:List AObj) (hne:oq≠o) (ho:Hp[o]? = some (prq l S)) (hoq:Hp[oq]? = some (qo true q)) (hi:S.i<l.length) (hl:TokEnd l) (hll:l.length≤500000) (hc12:q.cols.length≤12):ACall Tryz.prog 71 [.ptr o 0,.ptr oq 0] Hp (fun r H'=>r=Wp∧H'=(Hp.set o (prq l (Jg l (q,S)).2)).set oq (qo true (Jg l (q,S)).1)):=by
 have hlo:=(Ad.1 ho).1
 have hlq:=(Ad.1 hoq).1
 refine Ae [] [0,1] Tryz.func71 Tryz.ntmps71 (fun d=>?_)
 refine Z33 ?_;refine Cr Tryz.call118 ho (by simp) Jj (AEu l S Ox o _ (Aj ho) hi (by omega)) ?_;refine A5 ?_;refine A2 [0,1,9] ?_
 refine A4 (fun ht9=>?_) (fun ht9=>?_)
 ·have hq:isQ l Ox S=false:=by simpa using ht9
  have e:=AIa (q:=q) hq
  rw [ac hq,Cm ho]
  exact Z37
 have hq:isQ l Ox S=true:=by simpa using ht9
 have hi1:S.i+1<l.length:=Ln hl hi hq
 rw [aa hq]
 refine Z3 ?_;refine Fd [0,1,3,7,0,16,48,112,255,511,0,2047] [] [.q 10 [] [],.s [4] none [] [],.s [4] none [] []] (fun _=>Hp.set o (prq l (Ff S))) (fun _=>[]) An (by kernel_rfl) rfl rfl (fun _=>rfl) ?_
 apply Y.q
 ·intro B hT hF
  refine Z35 ?_
  refine Aq (h:=Bd (Lo hlo)) (hr:=?_)
  refine Z35 ?_
  refine Aq (h:=Bd (Lo hlo)) (hr:=?_)
  refine Aq (h:=Ag ((S.i+1)) (Ix (Af l (S.i+1))) (fun _=>Ng hi1)) (hr:=?_)
  exact Z56
 case hTF=>decide
 refine AKu ?_;refine Ej (tn:=[])  ?_;refine A2 [0,1,4] ?_;refine Z1 ?_;refine A7 Tryz.call121 (ATe (Af l (S.i+1)).text (hl.text _) _) ?_;refine Z59 ?_;refine A2 [0,1,4,5] ?_;refine Z17 ?_;refine Z23 ?_;refine A2 [0,1,5,26] ?_
 refine A4 (fun ht26=>?_) (fun ht26=>?_)
 ·have e:=AIb (q:=q) hq ht26
  refine Z2 ?_;refine Cr Tryz.call72 (Lo hlo) (by simp) Jj (c72 l (Ff S) 8 o _ (Aj (Lo hlo)) hi1) ?_;refine Mk ?_;refine Fc ?_;exact Z78
 refine Z15 ?_;refine A2 [0,1,5,32] ?_
 refine A4 (fun ht32=>?_) (fun ht32=>?_)
 ·have e:=AIc (q:=q) hq ht26 ht32
  refine Z2 ?_;refine Cr Tryz.call72 (Lo hlo) (by simp) Jj (c72 l (Ff S) 3 o _ (Aj (Lo hlo)) hi1) ?_;refine Mk ?_;refine Fc ?_;exact Z78
 have e:=AId (q:=q) hq ht26 ht32
 refine Z20 ?_;refine Z23 ?_
 refine Cx jS (zu hne hoq) ?_ ?_
 ·simp
 refine A2 [0] ?_;refine Z49 ?_
 refine A5 (h:=Bd (qA hlo hne)) (hr:=?_)
 refine A5 (h:=Sa (h2:=fun _=>by rw [show (Ff S).i=S.i+1 from rfl];omega)) (hr:=?_)
 refine Z0 ?_
 refine Cx jS (qA hlo hne) ?_ ?_
 ·simp
 exact Z76

theorem Wq {l:List Tok} (hl:TokEnd l):∀(n:Nat) (r:Qry×QS),r.2.i<l.length→r.1.cols.length≤12→(Mb l n r).2.i<l.length∧(Mb l n r).1.cols.length≤12
 | 0,r,h1,h2=>⟨h1,h2⟩
 | n+1,r,h1,h2=>by
  rw [Mb]
  split
  ·rename_i hq
   obtain ⟨_,f2,f3⟩:=P1 hl (q:=r.1) (Ln hl h1 hq) h2
   exact Wq hl n _ f2 f3
  exact ⟨h1,h2⟩
theorem nj {l:List Tok} (hl:TokEnd l) {r:Qry×QS} (h1:r.2.i<l.length) (h2:r.1.cols.length≤12):(Ow l r).2.i<l.length∧(Ow l r).1.cols.length≤12:=by
 unfold Ow
 split
 ·rename_i hq;exact ⟨Ln hl h1 hq,h2⟩
 obtain ⟨_,f2,f3⟩:=P1 hl (q:=Nj false r.1) h1 h2
 exact Wq hl _ _ f2 f3
theorem nk {l:List Tok} (hl:TokEnd l) (hll:l.length≤500000) {r:Qry×QS} (h1:r.2.i<l.length) (h2:r.1.cols.length≤12):(L4 l r).2.i<l.length∧(L4 l r).1.cols.length≤12:=by
 unfold L4
 split
 ·rename_i hq
  have hi1:r.2.i+1<l.length:=Ln hl h1 hq
  split
  ·exact ⟨hi1,h2⟩
  rename_i h
  obtain ⟨k,hk,hkl⟩:=jh hl (by omega) hi1 (by simpa using h)
  refine ⟨?_,h2⟩
  show (atM l (r.2.i+1)).2.1.toNat<_
  rw [hk,Int.toNat_natCast]
  exact hkl
 exact ⟨h1,h2⟩
theorem nl {l:List Tok} (hl:TokEnd l) {r:Qry×QS} (h1:r.2.i<l.length) (h2:r.1.cols.length≤12):(Jg l r).2.i<l.length∧(Jg l r).1.cols.length≤12:=by
 unfold Jg
 split
 ·rename_i hq
  have hi1:(Ff r.2).i<l.length:=Ln hl h1 hq
  split
  ·exact ⟨by rw [U4];exact hi1,h2⟩
  split
  ·exact ⟨by rw [U4];exact hi1,h2⟩
  rename_i h _
  have hk:(Af l (Ff r.2).i).kind≠0:=by
   have:(Af l (r.2.i+1)).kind=3:=by simpa using h
   show (Af l (r.2.i+1)).kind≠0
   rw [this];decide
  exact ⟨hl.step hi1 hk,h2⟩
 exact ⟨h1,h2⟩
def q0Q:Qry:=⟨false,[],Av, -1⟩
def s1Q (l:List Tok):QS:=U0 l jm ⟨0,0,0⟩
def r1Q (l:List Tok):Qry×QS:=Ow l (q0Q,s1Q l)
def r2Q (l:List Tok):Qry×QS:=L4 l (r1Q l)
def r3Q (l:List Tok):Qry×QS:=Jg l (r2Q l)
def s4Q (l:List Tok):QS:=U0 l [59] (r3Q l).2
def s5Q (l:List Tok):QS:=APx l (s4Q l)
theorem AQc:Le (.agg [B4 false,.nil,A3 0,Ac [],A3 0,A3 0,Ac [],.nil,A3 (-1)]) (.agg [B4 false,.nil,A3 0,Ac [],A3 0,A3 0,Ac [],.slice false 6 [],A3 (-1)]):=by
 refine .agg _ _ rfl (by simp [AV.one,Value.oneCell',sv]) fun i y y' h1 h2=>?_
 match i with
 | 0=>simp at h1 h2;subst h1;subst h2;exact .inl rfl
 | 1=>simp at h1 h2;subst h1;subst h2;exact .inl rfl
 | 2=>simp at h1 h2;subst h1;subst h2;exact .inl rfl
 | 3=>simp at h1 h2;subst h1;subst h2;exact .inl rfl
 | 4=>simp at h1 h2;subst h1;subst h2;exact .inl rfl
 | 5=>simp at h1 h2;subst h1;subst h2;exact .inl rfl
 | 6=>simp at h1 h2;subst h1;subst h2;exact .inl rfl
 | 7=>simp at h1 h2;subst h1;subst h2;exact .inr ⟨rfl,6,rfl⟩
 | 8=>simp at h1 h2;subst h1;subst h2;exact .inl rfl
 | i+9=>simp at h1
abbrev Rl (q:Qry):AV:=.agg (qoC false q)
theorem AIe {n:Nat} {q:Qry}:Low n (Rl q):=by
 have h:∀z∈qoC false q,Low n z:=AEt (n:=n) (own:=false) (q:=q)
 simpa using h
theorem ae {n:Nat}:oid n 4≠oid n 3:=by unfold oid;omega
theorem c6 (s:Str) (hs:s.length≤1048576) (Hp:List AObj):AFun Tryz.prog 30 [Ac s] Hp (.tup [Rl (Nk s).1,.agg [A3 (Nk s).2.1,A3 (Nk s).2.2]]):=by
 refine Ae [.cell 2 29,.cell 3 73] [0] Tryz.func30 Tryz.ntmps30 (fun d=>?_)
 refine xk ?_;refine A2 [0,2,3] ?_;refine Z2 ?_;refine A7 Tryz.call66 (c66 s hs _) ?_;refine Z12 ?_;refine AGf ?_;refine A2 [2,3,4,5] ?_;refine Z29 ?_;refine A2 [2,3,4,5,15] ?_
 refine A4 (fun ht15=>?_) (fun ht15=>?_)
 ·have e:Nk s=(mw,(Bs s).2.1,((Bs s).2.2:Int)):=if_pos ht15
  refine Fd [0,0,1,7] [2] [.q 2 [] [],.s [] (some 0) [] []] (fun _=>Hp) (fun _=>[.cells 29 [B4 false,.nil,A3 0,Ac [],A3 0,A3 0,Ac [],.nil,A3 0],.cells 73 [A3 0,A3 0],.cells 73 [A3 (Bs s).2.1,A3 ((Bs s).2.2:Nat)]]) An (by kernel_rfl) rfl rfl (fun _=>rfl) ?_
  apply Y.q
  ·intro B hT hF
   refine D.build (places:=#[(0,1),(1,1),(2,6),(8,1)]) jU (fun w=>by simp) jZ ?_;exact Z56
  case hTF=>decide
  refine AP0 ?_;refine Ej (tn:=[2])  ?_;refine AKy ?_;refine ABx ?_;exact AKf
 have e0:¬((Bs s).2.1 != 0)=true:=by rw [ht15];simp
 have hz:(Bs s).2.1=0:=by simpa using ht15
 have hle:=un hz
 have hlen:=v0 hz
 have hpos:0<(Bs s).1.length:=hle.pos
 have hl5:(Bs s).1.length≤500000:=by omega
 have f1:(s1Q (Bs s).1).i<(Bs s).1.length:=ni hle hpos
 have f2:(r1Q (Bs s).1).2.i<(Bs s).1.length∧(r1Q (Bs s).1).1.cols.length≤12:=nj hle (r:=(q0Q,s1Q (Bs s).1)) f1 (show ([]:List Str).length≤12 by decide)
 have f3:(r2Q (Bs s).1).2.i<(Bs s).1.length∧(r2Q (Bs s).1).1.cols.length≤12:=nk hle hl5 f2.1 f2.2
 have f4:(r3Q (Bs s).1).2.i<(Bs s).1.length∧(r3Q (Bs s).1).1.cols.length≤12:=nl hle f3.1 f3.2
 have f5:(s4Q (Bs s).1).i<(Bs s).1.length:=ni hle f4.1
 have hp:Nk s=v9 (Bs s).1:=if_neg e0
 refine Oi ?_;refine Pv (places:=#[(0,1),(1,1),(2,2)]) jU (fun w=>by simp) jZ ?_;refine R.box ?_;refine A5 ?_;refine A2 [2,3,6] ?_;refine F0 ?_;refine Pv (places:=#[(0,1),(1,1),(2,6),(8,1)]) jU (fun w=>by simp) jZ ?_;refine R.wk 21 _ AQc ?_;refine Z9 ?_;refine A2 [2,3,6,7] ?_;refine F0 ?_;refine Hg 4 1 1 ?_;refine A5 ?_
 refine Ux (n:=3) (x:=prq (Bs s).1 (s1Q (Bs s).1)) Tryz.call68 (c68 (Bs s).1 ⟨0,0,0⟩ jm (oid Hp.length 3) _ (by rw [Ar];rfl) hpos (by omega)) ?_
 refine AGp ?_
 refine Hf (up':=Hp) (own':=[.cells 29 [B4 false,.nil,A3 0,Ac [],A3 0,A3 0,Ac [],.nil,A3 0],.cells 73 [A3 0,A3 0],.cells 73 [A3 (Bs s).2.1,A3 ((Bs s).2.2:Nat)],prq (Bs s).1 (r1Q (Bs s).1).2,qo true (r1Q (Bs s).1).1]) Tryz.call69 ((c69 (Bs s).1 (s1Q (Bs s).1) q0Q (oid Hp.length 3) (oid Hp.length 4) _ ae (by rw [Ar];rfl) (by rw [Ar];rfl) f1 hle hl5 (by decide)).mono fun r H' e=>⟨e.1,e.2.trans (by rw [Cp,Cp];rfl)⟩) rfl (fun h=>h) ?_
 refine AGp ?_
 refine Hf (up':=Hp) (own':=[.cells 29 [B4 false,.nil,A3 0,Ac [],A3 0,A3 0,Ac [],.nil,A3 0],.cells 73 [A3 0,A3 0],.cells 73 [A3 (Bs s).2.1,A3 ((Bs s).2.2:Nat)],prq (Bs s).1 (r2Q (Bs s).1).2,qo true (r2Q (Bs s).1).1]) Tryz.call70 ((c70 (Bs s).1 (r1Q (Bs s).1).2 (r1Q (Bs s).1).1 (oid Hp.length 3) (oid Hp.length 4) _ ae (by rw [Ar];rfl) (by rw [Ar];rfl) f2.1 hle hl5 f2.2).mono fun r H' e=>⟨e.1,e.2.trans (by rw [Cp,Cp];rfl)⟩) rfl (fun h=>h) ?_
 refine AGp ?_
 refine Hf (up':=Hp) (own':=[.cells 29 [B4 false,.nil,A3 0,Ac [],A3 0,A3 0,Ac [],.nil,A3 0],.cells 73 [A3 0,A3 0],.cells 73 [A3 (Bs s).2.1,A3 ((Bs s).2.2:Nat)],prq (Bs s).1 (r3Q (Bs s).1).2,qo true (r3Q (Bs s).1).1]) Tryz.call71 ((c71 (Bs s).1 (r2Q (Bs s).1).2 (r2Q (Bs s).1).1 (oid Hp.length 3) (oid Hp.length 4) _ ae (by rw [Ar];rfl) (by rw [Ar];rfl) f3.1 hle hl5 f3.2).mono fun r H' e=>⟨e.1,e.2.trans (by rw [Cp,Cp];rfl)⟩) rfl (fun h=>h) ?_
 refine AGp ?_
 refine Ux (n:=3) (x:=prq (Bs s).1 (s4Q (Bs s).1)) Tryz.call68 (c68 (Bs s).1 (r3Q (Bs s).1).2 [59] (oid Hp.length 3) _ (by rw [Ar];rfl) f4.1 (by omega)) ?_
 refine A2 [2,3,6,7] ?_;refine L0 ?_;refine W.draw [0,1,3,7,0,16,48,112,255,511,1023,2047] 8 An (by kernel_rfl) ?_;refine X1 ?_;refine Z8 ?_;refine Z89 ?_
 refine A5 (h:=Ag ((s4Q (Bs s).1).i) (Ix (Af (Bs s).1 (s4Q (Bs s).1).i)) (fun _=>Ng f5)) (hr:=?_)
 refine Z12 ?_;refine A2 [2,3,6,7,43] ?_
 refine A4 (fun ht43=>?_) (fun ht43=>?_)
 ·have e5:s5Q (Bs s).1=Jv (Bs s).1 8 (s4Q (Bs s).1):=if_pos ht43
  refine Z50 ?_
  refine Ux (n:=3) (x:=prq (Bs s).1 (Jv (Bs s).1 8 (s4Q (Bs s).1))) Tryz.call72 (c72 (Bs s).1 (s4Q (Bs s).1) 8 (oid Hp.length 3) _ (by rw [Ar];rfl) f5) ?_
  refine A2 [2,3,6,7] ?_;refine Il ?_;refine Z7 ?_;refine Z68 ?_;refine A2 [2,3,6,7,51] ?_
  refine A4 (fun ht51=>?_) (fun ht51=>?_)
  ·rw [←e5] at ht51 ⊢
   have e:Nk s=(mw,(s5Q (Bs s).1).code,(s5Q (Bs s).1).at_):=by rw [hp];exact if_pos ht51
   refine AP1 ?_
   apply Y.q
   ·intro B hT hF
    exact ANj
   case hTF=>decide
   refine Z93 ?_;refine AKy ?_;refine ABx ?_;exact AKf
  rw [←e5] at ht51
  have e:Nk s=((r3Q (Bs s).1).1,0,0):=by rw [hp];exact if_neg (by show ¬(((s5Q (Bs s).1).code != 0)=true);rw [ht51];simp)
  refine Oi ?_;refine Z22 ?_;refine Hh ?_;exact AN6
 have e5:s5Q (Bs s).1=s4Q (Bs s).1:=if_neg (by rw [ht43];simp)
 refine iu ?_;refine Z68 ?_;refine A2 [2,3,6,7,51] ?_
 refine A4 (fun ht51=>?_) (fun ht51=>?_)
 ·rw [←e5] at ht51 ⊢
  have e:Nk s=(mw,(s5Q (Bs s).1).code,(s5Q (Bs s).1).at_):=by rw [hp];exact if_pos ht51
  refine AP1 ?_
  apply Y.q
  ·intro B hT hF
   exact ANj
  case hTF=>decide
  refine Z93 ?_;refine AKy ?_;refine ABx ?_;exact AKf
 rw [←e5] at ht51
 have e:Nk s=((r3Q (Bs s).1).1,0,0):=by rw [hp];exact if_neg (by show ¬(((s5Q (Bs s).1).code != 0)=true);rw [ht51];simp)
 refine Oi ?_;refine Z22 ?_;refine Hh ?_;exact AN6

structure QW (q:Qry):Prop where
 ok:okE 61 q.whr
 size:sizeE q.whr≤1048576
 rng:Dy Ge q.whr=true
 len:q.cols.length≤1048576
 names:∀s∈q.cols,s.length≤1048576
def noN (s:Str):Bool := !(Eb s)
def af (ks:List Str):Int:=if ks.any noN then (ks.findIdx noN:Int) else -1
theorem AEw {ks:List Str} {i:Nat} (h:i<ks.length) (hn:noN ks[i]=true) (hp:∀(j:Nat) (y:Str),j<i→ks[j]? = some y→¬noN y=true):(i:Int)=af ks:=by
 unfold af
 rw [if_pos (Fy.2 ⟨_,Bl h,hn⟩)]
 congr 1
 refine (oy h |>.2 ⟨hn,fun j hj=>?_⟩).symm
 have:=hp j (ks[j]'(by omega)) hj (Ab (by omega))
 simpa using this
theorem sd {ks:List Str} (hp:∀(j:Nat) (y:Str),ks[j]? = some y→¬noN y=true):(-1:Int)=af ks:=by
 unfold af
 rw [if_neg]
 intro h
 obtain ⟨y,hy,hn⟩:=Fy.1 h
 obtain ⟨j,hj⟩:=Cb hy
 exact hp j y hj hn
theorem zv (ks:List Str):decide (0≤af ks)=ks.any noN:=by
 unfold af
 cases ks.any noN<;>simp
theorem AEx {α:Type} {p:α→Bool} (l:List α):(!(l.any fun s => !(p s)))=l.all p:=by
 induction l with
 | nil=>rfl
 | cons a r ih=>rw [List.any_cons,List.all_cons,←ih];cases p a<;>simp
theorem AIf {q:Qry} (h:((((q.all != ((q.cols.length:Int)==0)) || decide ((12:Int)<(q.cols.length:Int))) || decide (q.lim < -1)) || decide ((100000:Int)<q.lim))=true):Md q=false:=if_pos h
theorem AIg {q:Qry} (h:((((q.all != ((q.cols.length:Int)==0)) || decide ((12:Int)<(q.cols.length:Int))) || decide (q.lim < -1)) || decide ((100000:Int)<q.lim))=false):Md q=((q.cols.all Eb)&&(!(Mc q) || Ga q.whr)):=if_neg (by rw [h];simp)
theorem AIh {q:Qry} (h:((((q.all != ((q.cols.length:Int)==0)) || decide ((12:Int)<(q.cols.length:Int))) || decide (q.lim < -1)) || decide ((100000:Int)<q.lim))=false):Md q=(!(q.cols.any noN)&&(!(Mc q) || Az q.whr)):=by rw [AIg h,←AEx,Fv];rfl
def U5 (q:Qry):Bool:=if decide ((20:Int)<(q.cols.length:Int)) || Qf q.whr then true else q.cols.any fun s=>decide ((100:Int)<(s.length:Int))
theorem AIi {q:Qry} (h:(decide ((20:Int)<(q.cols.length:Int)) || Qf q.whr)=true):U5 q=true:=if_pos h
theorem AIj {q:Qry} (h:(decide ((20:Int)<(q.cols.length:Int)) || Qf q.whr)=false) {s:Str} (hs:s∈q.cols) (hn:decide ((100:Int)<(s.length:Int))=true):U5 q=true:=by
 unfold U5
 rw [if_neg (by rw [h];simp)]
 exact Fy.2 ⟨s,hs,hn⟩
theorem AIk {q:Qry} (h:(decide ((20:Int)<(q.cols.length:Int)) || Qf q.whr)=false) (hn:∀s∈q.cols,decide ((100:Int)<(s.length:Int))=false):U5 q=false:=by
 unfold U5
 rw [if_neg (by rw [h];simp),Ky]
 intro e
 obtain ⟨s,hs,h2⟩:=Fy.1 e
 rw [hn s hs] at h2;cases h2
theorem se {α:Type} {l:List α} {P:α→Prop} {i:Nat} (h:i<l.length) (hx:∀y∈l.take i,P y) (hr:P l[i]):∀y∈l.take (i+1),P y:=by
 intro y hy
 rw [J4 h,El] at hy
 rcases hy with hy|hy
 ·exact hx y hy
 rw [B9] at hy;subst hy;exact hr
theorem zw {α:Type} {l:List α} {P:α→Prop} {i:Nat} (h:l.length≤i) (hx:∀y∈l.take i,P y):∀y∈l,P y:=by rwa [E9 h] at hx
theorem ATg (s:Str) (hs:s.length≤1048576) (Hp:List AObj):AFun Tryz.prog 104 [Ac s] Hp (B4 (noN s)):=by
 refine Ae [.tmp 2] [0] Tryz.func104 Tryz.ntmps104 (fun d=>?_)
 refine qb ?_;exact AOj

theorem AQd (ks:List Str) (hkl:ks.length≤1048576) (hks:∀s∈ks,s.length≤1048576) (Hp:List AObj):AFun Tryz.prog 106 [G9 ks,.fn (.func 104) [] []] Hp (A3 (af ks)):=by
 refine Ae [.tmp 4] [0,1] Tryz.func106 Tryz.ntmps106 (fun d=>?_)
 refine io ?_
 refine Bi (α:=Nat) (fun x=>⟨19,A6 0 (G9 ks) (A6 1 (.fn (.func 104) [] []) (A6 7 (A3 ks.length) (A6 8 (A3 (x:Nat)) (fun _=>.any)))),Hp,[],[],none⟩) (fun x=>x≤ks.length∧∀(j:Nat) (y:Str),j<x→ks[j]? = some y→¬noN y=true) (fun x=>ks.length-x) (0) (by simp) (Bo (by simp)) rfl (fun x hx=>?_)
 refine ig ?_
 refine Ck (fun ht9=>?_) (fun ht9=>?_)
 ·have hlt:x<ks.length:=by simpa using ht9
  refine ik ?_
  refine A5 (h:=Ag (x) (Ac ks[x]) (fun _=>B7 hlt)) (hr:=?_)
  refine A5 ?_;refine Od Tryz.call104 (ATg ks[x] (hks _ (Bl hlt)) _) ?_;refine iv ?_
  refine A4 (fun ht16=>?_) (fun ht16=>?_)
  ·refine l3 ?_;refine Z48 ?_;exact A9 (Ao A8) ⟨by rw [AEw hlt ht16 hx.2],rfl⟩
  refine Z70 ?_;exact ANd
 refine Z27 ?_;refine Z44 ?_;exact A9 (Ao A8) ⟨by rw [sd (Q9 (by simp at ht9;omega) hx.2)],rfl⟩

theorem ATh (ks:List Str) (hkl:ks.length≤1048576) (hks:∀s∈ks,s.length≤1048576) (Hp:List AObj):AFun Tryz.prog 58 [G9 ks,.fn (.func 104) [] []] Hp (B4 (ks.any noN)):=by
 refine Ae [.tmp 4] [0,1] Tryz.func58 Tryz.ntmps58 (fun d=>?_)
 refine iq ?_;refine A7 Tryz.call106 (AQd ks hkl hks _) ?_;refine Z0 ?_;refine Z14 ?_;exact A9 (Ao A8) ⟨by rw [←zv];try rfl,rfl⟩

theorem c61 (q:Qry) (h:QW q) (Hp:List AObj):AFun Tryz.prog 61 [Rl q] Hp (B4 (Mc q)):=by
 refine Ae [.tmp 2] [0] Tryz.func61 Tryz.ntmps61 (fun d=>?_)
 refine Z92 ?_;refine AKj ?_;refine R.wk 5 _ Tw ?_;refine A7 Tryz.call109 (ALs 61 q.whr h.ok Av _) ?_;exact Z98

theorem c57 (q:Qry) (h:QW q) (Hp:List AObj):AFun Tryz.prog 57 [Rl q] Hp (B4 (Md q)):=by
 refine Ae [.tmp 2] [0] Tryz.func57 Tryz.ntmps57 (fun d=>?_)
 refine Z92 ?_;refine Z7 ?_;refine Z68 ?_;refine Z86 ?_;refine il ?_;refine Z38 ?_;refine Z55 ?_;refine A2 [1,25] ?_
 refine A4 (fun ht25=>?_) (fun ht25=>?_)
 ·rw [Ah] at ht25
  have e:=AIf ht25
  refine Z46 ?_;refine Cz ?_;exact A9 (Ao A8) ⟨by rw [e]<;>rfl,rfl⟩
 rw [Ah] at ht25
 have e:=AIh ht25
 refine Nc ?_;refine A7 Tryz.call58 (ATh q.cols h.len h.names _) ?_;refine Rg ?_;refine Ca Tryz.call61 (fun hB=>c61 q h _) ?_;refine Q5 ?_;refine Ca Tryz.call96 (fun hB=>c96 61 q.whr h.ok (by decide) _) ?_;refine Cw ?_;refine Z66 ?_;exact A9 (Ao A8) ⟨by rw [e]<;>rfl,rfl⟩

theorem c8 (q:Qry) (Hp:List AObj):AFun Tryz.prog 8 [Rl q] Hp (B4 (U5 q)):=by
 refine Ae [.tmp 2] [0] Tryz.func8 Tryz.ntmps8 (fun d=>?_)
 refine Z92 ?_;refine br ?_;refine Z6 ?_;refine Ca Tryz.call31 (fun hB=>c31 q.whr _) ?_;refine A5 ?_;refine A2 [1,12] ?_
 refine A4 (fun ht12=>?_) (fun ht12=>?_)
 ·rw [Ah] at ht12
  have e:=AIi ht12
  refine Z46 ?_;refine Cz ?_;exact AL1
 rw [Ah] at ht12
 have hl20:q.cols.length≤20:=by
  simp only [Ei,decide_eq_false_iff_not] at ht12
  omega
 refine Ri ?_;refine A2 [1,3] ?_
 refine Bi (α:=Nat) (fun x=>⟨27,A6 1 (.ro (qoC false q)) (A6 3 (A3 (x:Nat)) (fun _=>.any)),Hp,[],[],none⟩) (fun x=>x≤q.cols.length∧∀s∈q.cols.take x,decide ((100:Int)<(s.length:Int))=false) (fun x=>q.cols.length-x) (0) ⟨Au _,fun s hs=>by simp at hs⟩ (Bo (by simp)) rfl (fun x hx=>?_)
 refine br ?_;refine A2 [1,3,17] ?_
 refine A4 (fun ht17=>?_) (fun ht17=>?_)
 ·have hlt:x<q.cols.length:=by simpa using ht17
  refine xq ?_
  refine A5 (h:=Ag (x) (Ac q.cols[x]) (fun _=>B7 hlt)) (hr:=?_)
  refine Z12 ?_;refine A2 [1,3,26] ?_
  refine A4 (fun ht26=>?_) (fun ht26=>?_)
  ·have e:=AIj ht12 (Bl hlt) ht26
   refine xp ?_;exact AL1
  refine im ?_;refine A2 [1,3] ?_;exact Bt (x+1) ⟨hlt,se hlt hx.2 ht26⟩ (by omega) (Dx rfl)
 have hxe:q.cols.length≤x:=by simpa using ht17
 have e:=AIk ht12 (zw hxe hx.2)
 refine Th ?_;refine Z46 ?_;exact AL1

theorem AQe {q:Qry} (h:U5 q=false) (hg:Dy Ge q.whr=true):QW q:=by
 unfold U5 at h
 split at h
 ·cases h
 rename_i h1
 simp only [D7,decide_eq_true_eq,not_or,S3] at h1
 have hs:=ui h1.2
 refine ⟨hs.ok,by have:=hs.size;omega,hg,by omega,fun s hs=>?_⟩
 rw [Ky] at h
 have:¬((100:Int)<(s.length:Int)):=fun e=>h (Fy.2 ⟨s,hs,by simpa using e⟩)
 omega
abbrev Vr (r:Rs):AV:=.tup [Bq r.1,A3 r.2]
abbrev vr (l:List Int):AV:=.slice false 1 (l.map A3)
abbrev ag (c:List Col) (l:List Val):AV:=.agg [Am c,Ce l]
theorem ATi (e:Int) (Hp:List AObj):AFun Tryz.prog 171 [A3 e] Hp (Vr (Dr e)):=by
 refine Ae [.cell 2 24,.tmp 3] [0] Tryz.func171 Tryz.ntmps171 (fun d=>?_)
 refine l8 ?_;refine A2 [0,2] ?_;refine AKw ?_;refine A5 ?_;refine Y5 ?_;exact A9 (B1 (B6 jA jS) A8)

theorem ATj (n e:Int) (Hp:List AObj):AFun Tryz.prog 263 [A3 n,A3 e] Hp (Vr (Ip (n,e))):=by
 refine Ae [.cell 4 24,.tmp 5] [0,1] Tryz.func263 Tryz.ntmps263 (fun d=>?_)
 refine l8 ?_;refine A2 [0,1,4] ?_;refine Z7 ?_;refine A2 [0,1,4,7] ?_
 refine A4 (fun ht7=>?_) (fun ht7=>?_)
 ·have hw:Ip (n,e)=Dr e:=if_pos ht7
  refine Z2 ?_;refine Z51 ?_;refine Z45 ?_;refine Cz ?_;exact AP2
 have hw:Ip (n,e)=(⟨1,n,[]⟩,0):=if_neg (by rw [ht7];simp)
 refine Oi ?_;refine A7 Tryz.call252 (ALc _ _) ?_;refine Z45 ?_;exact AP2

theorem nn {vs:List Val} {ks:List Int} (hl:ks.length≤vs.length) {x:Nat} (hk:x<ks.length) (hx:E0 vs ks=E0 (vs.drop x) (ks.drop x)):E0 vs ks=((vs[x].kind==ks[x])&&E0 (vs.drop (x+1)) (ks.drop (x+1))):=by
 rw [hx,J1 hk,J1 (show x<vs.length by omega),E0]
theorem AEy (vs:List Val) (ks:List Int) (hks:ks.length≤vs.length) (hk2:ks.length≤1048576) (Hp:List AObj):AFun Tryz.prog 262 [Ce vs,vr ks] Hp (B4 (E0 vs ks)):=by
 refine Ae [.tmp 4] [0,1] Tryz.func262 Tryz.ntmps262 (fun d=>?_)
 refine Z36 ?_;refine Z29 ?_;refine A2 [0,7,8,9] ?_
 refine Bi (α:=Nat) (fun x=>⟨22,A6 0 (Ce vs) (A6 7 (vr ks) (A6 8 (A3 (ks.length:Nat)) (A6 9 (A3 (x:Nat)) (fun _=>.any)))),Hp,[],[],none⟩) (fun x=>x≤ks.length∧E0 vs ks=E0 (vs.drop x) (ks.drop x)) (fun x=>ks.length-x) (0) ⟨Au _,rfl⟩ (Bo (by simp)) rfl (fun x hx=>?_)
 refine Z2 ?_;refine A2 [0,7,8,9,10] ?_
 refine Ck (fun ht10=>?_) (fun ht10=>?_)
 ·have hlt:x<ks.length:=by simpa using ht10
  have hls:x<vs.length:=by omega
  have hst:=nn hks hlt hx.2
  refine Rh ?_
  refine A5 (h:=Ag (x) (A3 ks[x]) (fun _=>B7 hlt)) (hr:=?_)
  refine Z12 ?_;refine A2 [0,5,6,7,8,9] ?_;refine Z1 ?_
  refine A5 (h:=Ag (x) (Bq vs[x]) (fun _=>B7 hls)) (hr:=?_)
  refine Z68 ?_;refine A2 [0,7,8,9,20] ?_
  refine A4 (fun ht20=>?_) (fun ht20=>?_)
  ·have hm:E0 vs ks=false:=by rw [hst];simp only [bne_iff_ne,ne_eq] at ht20;simp [ht20]
   exact AGo
  have hn:E0 vs ks=E0 (vs.drop (x+1)) (ks.drop (x+1)):=by rw [hst];simp only [bne_eq_false_iff_eq] at ht20;simp [ht20]
  refine Z70 ?_;refine A2 [0,7,8,9] ?_;exact ANr
 have hxe:ks.length≤x:=by simpa using ht10
 have hm:E0 vs ks=true:=by rw [hx.2,ot hxe];cases vs.drop x<;>rfl
 refine Z27 ?_;exact Z94

theorem ATk (t:Str) (c:Int) (Hp:List AObj):AFun Tryz.prog 284 [Ac t,A3 c] Hp (.tup [B4 (Is t c).1,B4 (Is t c).2]):=by
 refine Ae [.tmp 4,.tmp 5] [0,1] Tryz.func284 Tryz.ntmps284 (fun d=>?_)
 refine ij ?_;refine Z33 ?_;refine A2 [1,6] ?_;refine X0 ?_;refine A2 [1,6,7] ?_
 refine A4 (fun ht7=>?_) (fun ht7=>?_)
 ·exact xi
 refine Z1 ?_;refine A2 [1,6,11] ?_
 refine A4 (fun ht11=>?_) (fun ht11=>?_)
 ·exact xi
 refine Z1 ?_;refine A2 [1,6,15] ?_
 refine A4 (fun ht15=>?_) (fun ht15=>?_)
 ·exact xi
 refine Z1 ?_;refine A2 [1,6,19] ?_
 refine A4 (fun ht19=>?_) (fun ht19=>?_)
 ·exact xi
 refine Z1 ?_;refine A2 [1,6,23] ?_
 refine A4 (fun ht23=>?_) (fun ht23=>?_)
 ·exact xi
 refine Z1 ?_;refine A2 [1,27] ?_
 refine A4 (fun ht27=>?_) (fun ht27=>?_)
 ·exact xi
 refine Z20 ?_;refine ii ?_;exact AP3

theorem AQf (a b:Int) (Hp:List AObj):AFun Tryz.prog 288 [A3 a,A3 b] Hp (.tup [A3 (Oq a b).1,A3 (Oq a b).2]):=by
 refine Ae [.tmp 4,.tmp 5] [0,1] Tryz.func288 Tryz.ntmps288 (fun d=>?_)
 refine ij ?_;refine Z1 ?_
 refine A5 (h:=Q.sub) (hr:=?_)
 refine A5 ?_;refine A2 [0,1,6] ?_;refine Z7 ?_;refine R.xor ?_;refine Z0 ?_;refine R.xor ?_;refine R.and ?_;refine A5 ?_;refine A2 [6,17] ?_
 refine A4 (fun ht17=>?_) (fun ht17=>?_)
 ·have hm:Oq a b=(0,4):=if_pos ht17
  exact AO5
 have hm:Oq a b=(IntKind.i64.wrap (a-b),0):=if_neg (by rw [ht17];simp)
 refine Q4 ?_;exact AKo

theorem ATl (a b:Int) (Hp:List AObj):AFun Tryz.prog 308 [A3 a,A3 b] Hp (.tup [A3 (rq a b).1,A3 (rq a b).2]):=by
 refine Ae [.tmp 4,.tmp 5] [0,1] Tryz.func308 Tryz.ntmps308 (fun d=>?_)
 refine ij ?_;refine Z1 ?_
 refine A5 (h:=Q.add) (hr:=?_)
 refine A5 ?_;refine A2 [0,1,6] ?_;refine Z7 ?_;refine R.xor ?_;refine Z0 ?_;refine R.xor ?_;refine R.and ?_;refine A5 ?_;refine A2 [6,17] ?_
 refine A4 (fun ht17=>?_) (fun ht17=>?_)
 ·have hm:rq a b=(0,4):=if_pos ht17
  exact AO5
 have hm:rq a b=(IntKind.i64.wrap (a+b),0):=if_neg (by rw [ht17];simp)
 refine Q4 ?_;exact AKo

theorem ATm (a:Int) (Hp:List AObj):AFun Tryz.prog 264 [A3 a] Hp (.tup [A3 (Oq 0 a).1,A3 (Oq 0 a).2]):=by
 refine Ae [.tmp 2,.tmp 3] [0] Tryz.func264 Tryz.ntmps264 (fun d=>?_)
 refine Z1 ?_;refine A2 [0] ?_;refine Z2 ?_;refine A7 Tryz.call288 (AQf _ _ _) ?_;refine Z68 ?_;refine Z62 ?_;exact A9 (B1 A8 A8)

theorem AQg (a:Int) (Hp:List AObj):AFun Tryz.prog 327 [A3 a] Hp (ACp (Wl a)):=by
 refine Ae [.tmp 2] [0] Tryz.func327 Tryz.ntmps327 (fun d=>?_)
 refine Z42 ?_;refine Z7 ?_;refine A2 [0,4] ?_
 refine A4 (fun ht4=>?_) (fun ht4=>?_)
 ·have hm:Wl a=IntKind.u64.wrap (0-IntKind.u64.wrap a):=if_pos ht4
  refine Z23 ?_;refine Z4 ?_;exact Z18
 have hm:Wl a=IntKind.u64.wrap a:=if_neg (by rw [ht4];simp)
 refine Q4 ?_;exact AOa

theorem AMd (n:Int):0≤IntKind.u64.wrap n∧IntKind.u64.wrap n<18446744073709551616:=by rw [IntKind.wrap_u64];omega
theorem AEz (a:Int):0≤Wl a∧Wl a<18446744073709551616:=by
 unfold Wl
 split<;>exact AMd _
theorem ATn (x y:Int) (hx:0≤x∧x<18446744073709551616) (hy:0≤y∧y<18446744073709551616) (Hp:List AObj):AFun Tryz.prog 326 [ACp x,ACp y] Hp (.tup [ACp (x*y / 18446744073709551616),ACp (x*y % 18446744073709551616)]):=by
 obtain ⟨m,rfl⟩:=oi hx.1
 obtain ⟨n,rfl⟩:=oi hy.1
 refine Mt (xs:=[.int .u64 m,.int .u64 n]) (v:=.tuple #[.int .u64 ((m*n / 18446744073709551616:Nat):Int),.int .u64 ((m*n % 18446744073709551616:Nat):Int)]) (fun G w=>Oc rfl (fun i y u hy hu=>?_)) (fun w hg=>?_)
 ·match i with
  | 0=>simp at hy hu;subst hy;subst hu;exact .v _ _
  | 1=>simp at hy hu;subst hy;subst hu;exact .v _ _
  | i+2=>simp at hy
 refine (Any.bits_Mul64 Tryz.lays264 m n (by omega) (by omega) w).mono ?_
 rintro e w' ⟨rfl,rfl⟩
 exact ⟨rfl,Go.RowKit.Below.refl _ _⟩
theorem ATo (s t:Str) (Hp:List AObj):AFun Tryz.prog 307 [Ac s,Ac t] Hp (A3 (Lib.compareBytes s t)):=by
 refine Mt (xs:=[sv s,sv t]) (v:=.int .i64 (Lib.compareBytes s t)) (fun G w=>.v _ _) (fun w hg=>?_)
 refine (Any.strings_Compare Tryz.lays106 ⟨s.toArray⟩ ⟨t.toArray⟩ w).mono ?_
 rintro e w' ⟨rfl,rfl⟩
 exact ⟨rfl,Go.RowKit.Below.refl _ _⟩
theorem ATp (a b:Int) (Hp:List AObj):AFun Tryz.prog 309 [A3 a,A3 b] Hp (.tup [A3 (Zm a b).1,A3 (Zm a b).2]):=by
 refine Ae [.tmp 4,.tmp 5] [0,1] Tryz.func309 Tryz.ntmps309 (fun d=>?_)
 refine ij ?_;refine Z2 ?_;refine A7 Tryz.call327 (AQg _ _) ?_;refine A5 ?_;refine A7 Tryz.call327 (AQg _ _) ?_;refine A7 Tryz.call326 (ATn _ _ (AEz a) (AEz b) _) ?_;refine Z59 ?_;refine A2 [0,1,6,7] ?_;refine Z23 ?_;refine Z0 ?_;refine A2 [6,7,8] ?_;refine Z2 ?_;refine A2 [6,7,8,9] ?_;refine Z33 ?_;refine A2 [6,7,8,9,23] ?_
 refine A4 (fun ht23=>?_) (fun ht23=>?_)
 ·refine Z50 ?_
  refine A5 (h:=Q.add) (hr:=?_)
  refine A5 ?_;refine A2 [6,7,8,9] ?_;refine Il ?_;refine l9 ?_;refine Y7 ?_;refine A2 [7,8,26] ?_
  refine A4 (fun ht26=>?_) (fun ht26=>?_)
  ·refine ii ?_;refine Z5 ?_
   exact A9 (B1 A8 A8) ⟨by
    have w1:IntKind.u64.wrap 9223372036854775808=9223372036854775808:=rfl
    simp_all [Zm]
    try first|(rw [if_pos ht26];simp;done)|(rw [if_neg (by omega)];simp;done),rfl⟩
  refine Z1 ?_;refine A2 [7,34] ?_
  refine A4 (fun ht34=>?_) (fun ht34=>?_)
  ·refine Z1 ?_;refine Z12 ?_;refine Z10 ?_;refine Z5 ?_
   exact A9 (B1 A8 A8) ⟨by
    have w1:IntKind.u64.wrap 9223372036854775808=9223372036854775808:=rfl
    simp_all [Zm]
    try first|(rw [if_pos ht26];simp;done)|(rw [if_neg (by omega)];simp;done),rfl⟩
  refine Z20 ?_;refine Z23 ?_;refine Z10 ?_
  exact A9 (B1 A8 A8) ⟨by
   have w1:IntKind.u64.wrap 9223372036854775808=9223372036854775808:=rfl
   simp_all [Zm]
   try first|(rw [if_pos ht26];simp;done)|(rw [if_neg (by omega)];simp;done),rfl⟩
 refine xq ?_;refine Y7 ?_;refine A2 [7,8,26] ?_
 refine A4 (fun ht26=>?_) (fun ht26=>?_)
 ·refine ii ?_;refine Z5 ?_
  exact A9 (B1 A8 A8) ⟨by
   have w1:IntKind.u64.wrap 9223372036854775808=9223372036854775808:=rfl
   simp_all [Zm]
   try first|(rw [if_pos ht26];simp;done)|(rw [if_neg (by omega)];simp;done),rfl⟩
 refine Z1 ?_;refine A2 [7,34] ?_
 refine A4 (fun ht34=>?_) (fun ht34=>?_)
 ·refine Z1 ?_;refine Z12 ?_;refine Z10 ?_;refine Z5 ?_
  exact A9 (B1 A8 A8) ⟨by
   have w1:IntKind.u64.wrap 9223372036854775808=9223372036854775808:=rfl
   simp_all [Zm]
   try first|(rw [if_pos ht26];simp;done)|(rw [if_neg (by omega)];simp;done),rfl⟩
 refine Z20 ?_;refine Z23 ?_;refine Z10 ?_
 exact A9 (B1 A8 A8) ⟨by
  have w1:IntKind.u64.wrap 9223372036854775808=9223372036854775808:=rfl
  simp_all [Zm]
  try first|(rw [if_pos ht26];simp;done)|(rw [if_neg (by omega)];simp;done),rfl⟩

theorem ATq (a b:Int) (Hp:List AObj):AFun Tryz.prog 310 [A3 a,A3 b] Hp (.tup [A3 (rr a b).1,A3 (rr a b).2]):=by
 refine Ae [.tmp 4,.tmp 5] [0,1] Tryz.func310 Tryz.ntmps310 (fun d=>?_)
 refine ij ?_;refine l9 ?_;refine A2 [0,1,6] ?_
 refine A4 (fun ht6=>?_) (fun ht6=>?_)
 ·refine ii ?_;exact ANu
 refine bq ?_;refine Z0 ?_;refine A2 [0,1,9] ?_
 refine A4 (fun ht9=>?_) (fun ht9=>?_)
 ·refine ii ?_;exact ANu
 refine Z20 ?_;refine Z1 ?_
 refine A5 (h:=Q.quo (h0:=fun _=>by simpa using ht6)) (hr:=?_)
 refine Z0 ?_;refine Z10 ?_;exact A9 (B1 A8 A8) ⟨by simp_all [rr]<;>(rw [if_neg (by rintro ⟨rfl,rfl⟩;simp_all)];exact ⟨rfl,rfl⟩),rfl⟩

theorem zx {a b:Int} (ha : -9223372036854775808≤a∧a≤9223372036854775807):IntKind.i64.wrap (a.tmod b)=a.tmod b:=by
 have h1:(a.tmod b).natAbs≤a.natAbs:=by rw [Int.natAbs_tmod];exact Nat.mod_le _ _
 rw [IntKind.wrap_i64]
 rcases Int.le_total 0 a with h|h
 ·have:=Int.tmod_nonneg b h
  omega
 have h2:=Int.tmod_nonneg b (show 0 ≤ -a by omega)
 rw [Int.neg_tmod] at h2
 omega
theorem ATr (a b:Int) (ha : -9223372036854775808≤a∧a≤9223372036854775807) (Hp:List AObj):AFun Tryz.prog 311 [A3 a,A3 b] Hp (.tup [A3 (cj a b).1,A3 (cj a b).2]):=by
 refine Ae [.tmp 4,.tmp 5] [0,1] Tryz.func311 Tryz.ntmps311 (fun d=>?_)
 refine ij ?_;refine Z33 ?_;refine A2 [0,1,6] ?_;refine X0 ?_;refine A2 [0,1,6,7] ?_
 refine A4 (fun ht7=>?_) (fun ht7=>?_)
 ·have hm:cj a b=(0,5):=if_pos ht7
  refine ii ?_;exact AO6
 refine Z1 ?_;refine A2 [0,1,9] ?_
 refine A4 (fun ht9=>?_) (fun ht9=>?_)
 ·have hm:cj a b=(0,0):=by unfold cj;rw [if_neg (by rw [ht7];simp),if_pos ht9]
  refine ii ?_;exact AO6
 have hm:cj a b=(a.tmod b,0):=by unfold cj;rw [if_neg (by rw [ht7];simp),if_neg (by rw [ht9];simp),zx ha]
 refine Z20 ?_;refine Z1 ?_
 refine A5 (h:=Q.rem (h0:=fun _=>by simpa using ht7)) (hr:=?_)
 refine Z0 ?_;exact AKo

theorem AQh (a:Int) (Hp:List AObj):AFun Tryz.prog 323 [A3 a] Hp (B4 false):=by
 refine Ae [.tmp 2] [0] Tryz.func323 Tryz.ntmps323 (fun d=>?_)
 refine Z42 ?_;refine Z23 ?_;exact AOe

theorem AQi (a:Int) (Hp:List AObj):AFun Tryz.prog 324 [A3 a] Hp (B4 false):=by
 refine Ae [.tmp 2] [0] Tryz.func324 Tryz.ntmps324 (fun d=>?_)
 refine Z42 ?_;refine Z23 ?_;exact AOe

theorem ATs (a b:Int) (Hp:List AObj):AFun Tryz.prog 305 [A3 a,A3 b] Hp (A3 (Pe a b)):=by
 refine Ae [.tmp 4] [0,1] Tryz.func305 Tryz.ntmps305 (fun d=>?_)
 refine Z36 ?_;refine Z2 ?_;refine A7 Tryz.call323 (AQh _ _) ?_;refine A5 ?_;refine bt ?_;refine Z2 ?_;refine A7 Tryz.call323 (AQh _ _) ?_;refine A5 ?_;refine A2 [0,1,5,6] ?_;refine Z33 ?_;refine A2 [0,1,6,11] ?_
 refine A4 (fun ht11=>?_) (fun ht11=>?_)
 ·cases ht11
 refine Ri ?_;refine A2 [0,1,13] ?_
 refine A4 (fun ht13=>?_) (fun ht13=>?_)
 ·cases ht13
 refine ir ?_;refine A2 [0,1,16] ?_
 refine A4 (fun ht16=>?_) (fun ht16=>?_)
 ·have hm:Pe a b = -1:=if_pos ht16
  exact l5
 refine ir ?_;refine A2 [19] ?_
 refine A4 (fun ht19=>?_) (fun ht19=>?_)
 ·have hm:Pe a b=1:=by unfold Pe;rw [if_neg (by rw [ht16];simp),if_pos ht19]
  exact l5
 have hm:Pe a b=0:=by unfold Pe;rw [if_neg (by rw [ht16];simp),if_neg (by rw [ht19];simp)]
 refine Z3 ?_;exact Z94

theorem ATt (a b:Int) (Hp:List AObj):AFun Tryz.prog 306 [A3 a,A3 b] Hp (A3 (Pe a b)):=by
 refine Ae [.tmp 4] [0,1] Tryz.func306 Tryz.ntmps306 (fun d=>?_)
 refine Z36 ?_;refine Z2 ?_;refine A7 Tryz.call324 (AQi _ _) ?_;refine A5 ?_;refine bt ?_;refine Z2 ?_;refine A7 Tryz.call324 (AQi _ _) ?_;refine A5 ?_;refine A2 [0,1,5,6] ?_;refine Z33 ?_;refine A2 [0,1,6,11] ?_
 refine A4 (fun ht11=>?_) (fun ht11=>?_)
 ·cases ht11
 refine Ri ?_;refine A2 [0,1,13] ?_
 refine A4 (fun ht13=>?_) (fun ht13=>?_)
 ·cases ht13
 refine ir ?_;refine A2 [0,1,16] ?_
 refine A4 (fun ht16=>?_) (fun ht16=>?_)
 ·have hm:Pe a b = -1:=if_pos ht16
  exact l5
 refine ir ?_;refine A2 [19] ?_
 refine A4 (fun ht19=>?_) (fun ht19=>?_)
 ·have hm:Pe a b=1:=by unfold Pe;rw [if_neg (by rw [ht16];simp),if_pos ht19]
  exact l5
 have hm:Pe a b=0:=by unfold Pe;rw [if_neg (by rw [ht16];simp),if_neg (by rw [ht19];simp)]
 refine Z3 ?_;exact Z94

theorem AF0 {l:List Int} {x:Nat} (h:x<l.length) (hx:orI l=orI (l.drop x)):orI l=if l[x] != 0 then l[x] else orI (l.drop (x+1)):=by rw [hx,J1 h,orI]
theorem ATu (l:List Int) (hl:l.length≤1048576) (Hp:List AObj):AFun Tryz.prog 304 [vr l] Hp (A3 (orI l)):=by
 refine Ae [.tmp 2] [0] Tryz.func304 Tryz.ntmps304 (fun d=>?_)
 refine qb ?_;refine No ?_;refine Z29 ?_;refine A2 [3,6,7,8] ?_
 refine Bi (α:=Nat) (fun x=>⟨18,A6 3 (A3 0) (A6 6 (vr l) (A6 7 (A3 (l.length:Nat)) (A6 8 (A3 (x:Nat)) (fun _=>.any)))),Hp,[],[],none⟩) (fun x=>x≤l.length∧orI l=orI (l.drop x)) (fun x=>l.length-x) (0) ⟨Au _,rfl⟩ (Bo (by simp)) rfl (fun x hx=>?_)
 refine Z2 ?_;refine A2 [3,6,7,8,9] ?_
 refine Ck (fun ht9=>?_) (fun ht9=>?_)
 ·have hlt:x<l.length:=by simpa using ht9
  have hst:=AF0 hlt hx.2
  refine Z73 ?_
  refine A5 (h:=Ag (x) (A3 l[x]) (fun _=>B7 hlt)) (hr:=?_)
  refine Z0 ?_;refine A2 [3,5,6,7,8] ?_;refine Z15 ?_;refine A2 [3,5,6,7,8,14] ?_
  refine A4 (fun ht14=>?_) (fun ht14=>?_)
  ·have hm:orI l=l[x]:=by rw [hst,if_pos ht14]
   refine Z1 ?_;refine Z4 ?_;exact Y4
  have hn:orI l=orI (l.drop (x+1)):=by rw [hst,if_neg (by rw [ht14];simp)]
  refine Z70 ?_;refine A2 [3,6,7,8] ?_;exact ANr
 have hxe:l.length≤x:=by simpa using ht9
 have hm:orI l=0:=by rw [hx.2,ot hxe];rfl
 refine Z27 ?_;refine Z1 ?_;exact AOa

theorem ATv (a b:Val) (Hp:List AObj):AFun Tryz.prog 285 [Bq a,Bq b] Hp (A3 (mp a b)):=by
 refine Ae [.tmp 4] [0,1] Tryz.func285 Tryz.ntmps285 (fun d=>?_)
 refine Z15 ?_;refine Jz ?_;refine Z33 ?_;refine A7 Tryz.call93 (c93 a _) ?_;refine Rg ?_;refine Ca Tryz.call93 (fun hB=>c93 b _) ?_;refine Z55 ?_;refine A2 [2,3,12] ?_
 refine A4 (fun ht12=>?_) (fun ht12=>?_)
 ·have hm:mp a b=0:=if_pos ht12
  exact l5
 have hm:mp a b=orI [Pe a.kind b.kind,Pe a.n b.n,Lib.compareBytes a.s b.s]:=if_neg (by rw [ht12];simp)
 refine Z3 ?_;refine Ea [0,1,0,4,15,0,32,0,128,511,0,1024,0,4096,16383,32767,65535,131071] 14 An (by kernel_rfl) ?_;refine X1 ?_;refine Du Tryz.call305 (ATs _ _ _) ?_;refine X1 ?_;refine Du Tryz.call306 (ATt _ _ _) ?_;refine Z8 ?_;refine Z89 ?_;refine A7 Tryz.call307 (ATo _ _ _) ?_;refine Ti ?_;refine A7 Tryz.call304 (ATu [Pe a.kind b.kind,Pe a.n b.n,Lib.compareBytes a.s b.s] (by simp) _) ?_;refine A5 ?_;refine Z14 ?_;exact y9

theorem ATw (t:Str) (a b:Int) (ha : -9223372036854775808≤a∧a≤9223372036854775807) (Hp:List AObj):AFun Tryz.prog 287 [Ac t,A3 a,A3 b] Hp (Vr (Ip (K7 t a b))):=by
 refine Ae [.cell 6 24,.tmp 7] [0,1,2] Tryz.func287 Tryz.ntmps287 (fun d=>?_)
 refine l8 ?_;refine A2 [0,1,2,6] ?_;refine Z33 ?_;refine A2 [1,2,6,8] ?_;refine X0 ?_;refine A2 [1,2,6,8,9] ?_
 refine A4 (fun ht9=>?_) (fun ht9=>?_)
 ·refine Z1 ?_;refine A7 Tryz.call308 (ATl _ _ _) ?_;exact AGv
 refine Z1 ?_;refine A2 [1,2,6,8,19] ?_
 refine A4 (fun ht19=>?_) (fun ht19=>?_)
 ·refine Z1 ?_;refine A7 Tryz.call288 (AQf _ _ _) ?_;exact AGv
 refine Z1 ?_;refine A2 [1,2,6,8,29] ?_
 refine A4 (fun ht29=>?_) (fun ht29=>?_)
 ·refine Z1 ?_;refine A7 Tryz.call309 (ATp _ _ _) ?_;exact AGv
 refine Z1 ?_;refine A2 [1,2,6,39] ?_
 refine A4 (fun ht39=>?_) (fun ht39=>?_)
 ·refine Z1 ?_;refine A7 Tryz.call310 (ATq _ _ _) ?_;exact AGv
 refine Z20 ?_;refine Z1 ?_;refine A7 Tryz.call311 (ATr _ _ ha _) ?_;refine AGl ?_;refine Z69 ?_;exact AP4

theorem ATx (a b:Val) (fa:Fine a) (fb:Fine b) (Hp:List AObj):AFun Tryz.prog 286 [.slice false 3 [Bq a,Bq b]] Hp (Vr (Qi a b)):=by
 refine Ae [.cell 2 24,.tmp 3] [0] Tryz.func286 Tryz.ntmps286 (fun d=>?_)
 refine l8 ?_;refine A2 [0,2] ?_;refine Rh ?_;refine ia jU jS jZ ?_;refine A7 Tryz.call262 (AEy [a,b] [2,2] (by simp) (by simp) _) ?_;refine Z0 ?_;refine A2 [0,2,4] ?_
 refine A4 (fun ht4=>?_) (fun ht4=>?_)
 ·have hm:Qi a b=Dr 10:=if_pos ht4
  refine bj ?_;refine Y5 ?_;exact Z19
 have hla:=fa.len
 have hlb:=fb.len
 refine Ea [0,1,3,7,15,0,32,96,224,480,1023,2047,4095] 10 An (by kernel_rfl) ?_;refine Aq ?_
 refine Aq (h:=Ag (0) (Bq a) (fun _=>show ([Bq a,Bq b]:List AV)[0]? = some (Bq a) from rfl)) (hr:=?_)
 refine X1 ?_
 refine Aq (h:=Ag (1) (Bq b) (fun _=>show ([Bq a,Bq b]:List AV)[1]? = some (Bq b) from rfl)) (hr:=?_)
 refine Z35 ?_;refine Ik ?_
 refine A5 (h:=Sa (h1:=fun _=>by omega) (h2:=fun _=>by omega)) (hr:=?_)
 refine Z0 ?_;refine A2 [0,2,12] ?_
 refine A4 (fun ht12=>?_) (fun ht12=>?_)
 ·have hm:Qi a b=Dr 3:=by unfold Qi;rw [if_neg (by rw [ht4];simp),if_pos ht12]
  refine bj ?_;refine Y5 ?_;exact Z19
 have hm:Qi a b=(cg (a.s++b.s),0):=by unfold Qi;rw [if_neg (by rw [ht4];simp),if_neg (by rw [ht12];simp)]
 refine Z20 ?_;refine Ea [0,1,3,7,0,16,48,112,255,511,1023,2047] 8 An (by kernel_rfl) ?_;refine Aq ?_
 refine Aq (h:=Ag (0) (Bq a) (fun _=>show ([Bq a,Bq b]:List AV)[0]? = some (Bq a) from rfl)) (hr:=?_)
 refine Z35 ?_
 refine Aq (h:=Ag (1) (Bq b) (fun _=>show ([Bq a,Bq b]:List AV)[1]? = some (Bq b) from rfl)) (hr:=?_)
 refine Z89 ?_
 refine A5 (h:=Q.sadd (hl:=fun _=>by omega)) (hr:=?_)
 refine A7 Tryz.call275 (yh _ _) ?_;refine Y5 ?_;exact ACl

theorem ATy (t:Str) (a b:Val) (fa:Fine a) (fb:Fine b) (Hp:List AObj):AFun Tryz.prog 261 [Ac t,.slice false 3 [Bq a,Bq b]] Hp (Vr (Nv t a b)):=by
 refine Ae [.cell 4 24,.tmp 5] [0,1] Tryz.func261 Tryz.ntmps261 (fun d=>?_)
 refine l8 ?_;refine A2 [0,1,4] ?_;refine L0 ?_;refine Ea [0,0,2,6,0,16,48,126,255,511,1023,1023,2047,8191] 13 An (by kernel_rfl) ?_;refine Z8 ?_
 refine Aq (h:=Ag (0) (Bq a) (fun _=>show ([Bq a,Bq b]:List AV)[0]? = some (Bq a) from rfl)) (hr:=?_)
 refine Z8 ?_
 refine Aq (h:=Ag (1) (Bq b) (fun _=>show ([Bq a,Bq b]:List AV)[1]? = some (Bq b) from rfl)) (hr:=?_)
 refine Aq ?_;refine Du Tryz.call285 (ATv _ _ _) ?_;refine Du Tryz.call284 (ATk _ _ _) ?_;refine Z8 ?_;refine Z89 ?_;refine A5 ?_;refine A2 [0,1,4,6,7] ?_;refine Z2 ?_;refine A2 [0,1,4,6,20] ?_
 refine A4 (fun ht20=>?_) (fun ht20=>?_)
 ·refine L0 ?_;refine Ea [0,1,3,7,0,16,48,112,255] 8 An (by kernel_rfl) ?_;refine Aq ?_
  refine Aq (h:=Ag (0) (Bq a) (fun _=>show ([Bq a,Bq b]:List AV)[0]? = some (Bq a) from rfl)) (hr:=?_)
  refine Z35 ?_
  refine Aq (h:=Ag (1) (Bq b) (fun _=>show ([Bq a,Bq b]:List AV)[1]? = some (Bq b) from rfl)) (hr:=?_)
  refine Z89 ?_;refine A5 ?_;refine A2 [4,6,29] ?_
  refine A4 (fun ht29=>?_) (fun ht29=>?_)
  ·have hm:Nv t a b=Dr 10:=by unfold Nv;rw [if_pos ht20,if_pos ht29]
   refine bj ?_;refine Z45 ?_;refine Cz ?_;exact Z25
  have hm:Nv t a b=(Jr (Is t (mp a b)).1,0):=by unfold Nv;rw [if_pos ht20,if_neg (by rw [ht29];simp)]
  refine Oi ?_;refine A7 Tryz.call178 (j4 _ _) ?_;exact xj
 refine iu ?_;refine A2 [0,1,4,36] ?_
 refine A4 (fun ht36=>?_) (fun ht36=>?_)
 ·have hm:Nv t a b=Qi a b:=by unfold Nv;rw [if_neg (by rw [ht20];simp),if_pos ht36]
  refine Z2 ?_;refine A7 Tryz.call286 (ATx a b fa fb _) ?_;refine Z0 ?_;exact xj
 refine Ri ?_;refine ia jU jS jZ ?_;refine A7 Tryz.call262 (AEy [a,b] [1,1] (by simp) (by simp) _) ?_;refine A5 ?_;refine A2 [0,1,4,44] ?_
 refine A4 (fun ht44=>?_) (fun ht44=>?_)
 ·have hm:Nv t a b=Dr 10:=by unfold Nv;rw [if_neg (by rw [ht20];simp),if_neg (by rw [ht36];simp),if_pos ht44]
  refine bj ?_;exact xj
 have hm:Nv t a b=Ip (K7 t a.n b.n):=by unfold Nv;rw [if_neg (by rw [ht20];simp),if_neg (by rw [ht36];simp),if_neg (by rw [ht44];simp)]
 refine Z3 ?_;refine Ea [0,0,2,6,14,0,32,96,224,511,1023,1023,4095,8191] 12 An (by kernel_rfl) ?_;refine Z8 ?_
 refine Aq (h:=Ag (0) (Bq a) (fun _=>show ([Bq a,Bq b]:List AV)[0]? = some (Bq a) from rfl)) (hr:=?_)
 refine Z35 ?_
 refine Aq (h:=Ag (1) (Bq b) (fun _=>show ([Bq a,Bq b]:List AV)[1]? = some (Bq b) from rfl)) (hr:=?_)
 refine Z8 ?_;refine Du Tryz.call287 (ATw _ _ _ ⟨fa.lo,fa.hi⟩ _) ?_;refine Z89 ?_;exact Z57

theorem AMe (s:Str) (n:Int):∃k:Nat,(if (0:Int)<(if (s.length:Int)<n then (s.length:Int) else n) then (if (s.length:Int)<n then (s.length:Int) else n) else 0)=(k:Int)∧k≤s.length∧k=(max 0 (min n s.length)).toNat:=by
 refine ⟨(max 0 (min n s.length)).toNat,?_,?_,rfl⟩<;>repeat' split
 all_goals omega
theorem ATz (t s:Str) (n:Int) (hs:s.length≤1048576) (Hp:List AObj):AFun Tryz.prog 266 [Ac t,Ac s,A3 n] Hp (Bq (Qk t s n)):=by
 refine Ae [.cell 6 24] [0,1,2] Tryz.func266 Tryz.ntmps266 (fun d=>?_)
 refine AGn ?_;refine Z15 ?_;refine R.minI ?_;refine R.maxI ?_
 obtain ⟨k,hk,hks,hke⟩:=AMe s n
 simp only [hk]
 refine A5 ?_;refine A2 [0,1,6,7] ?_;refine Z7 ?_;refine A2 [1,6,7,14] ?_
 refine A4 (fun ht14=>?_) (fun ht14=>?_)
 ·have hm:Qk t s n=cg (s.take k):=by unfold Qk;rw [if_pos ht14,←hke]
  refine Z1 ?_
  refine A5 (h:=M4 k (fun _=>Au _) (fun _=>hks)) (hr:=?_)
  refine A7 Tryz.call275 (yh _ _) ?_;refine Hh ?_;refine pw ?_;exact AP5
 have hm:Qk t s n=cg (s.drop (s.length-k)):=by unfold Qk;rw [if_neg (by rw [ht14];simp),←hke]
 refine Y6 ?_
 refine A5 (h:=Q.sub64 (h1:=fun _=>by omega) (h2:=fun _=>by omega)) (hr:=?_)
 refine A5 (h:=Q.scutL (s.length-k) (fun _=>show s.length-k≤s.length by omega) (fun _=>Al _)) (hr:=?_)
 refine A7 Tryz.call275 (yh _ _) ?_;refine Hh ?_;refine Z75 ?_;exact AP5

theorem AU0 (t:Str) (v:Val) (h:Fine v) (Hp:List AObj):AFun Tryz.prog 265 [Ac t,Bq v] Hp (Vr (Ju t v)):=by
 have hlen:=h.len
 refine Ae [.cell 4 24,.tmp 5] [0,1] Tryz.func265 Tryz.ntmps265 (fun d=>?_)
 refine Z2 ?_;refine Z47 ?_;refine A2 [0,3,4] ?_;refine l9 ?_;refine Y7 ?_;refine A2 [0,3,4,6] ?_
 refine A4 (fun ht6=>?_) (fun ht6=>?_)
 ·have hm:Ju t v=(cg (Lib.itoa v.n),0):=if_pos ht6
  refine Z1 ?_;refine A7 Tryz.call289 (APn _ h.lo h.hi _) ?_;refine A7 Tryz.call275 (yh _ _) ?_;exact Z97
 refine Z15 ?_;refine Y7 ?_;refine A2 [0,3,4,18] ?_
 refine A4 (fun ht18=>?_) (fun ht18=>?_)
 ·have hm:Ju t v=(⟨1,v.s.length,[]⟩,0):=by unfold Ju;rw [if_neg (by rw [ht6];simp),if_pos ht18]
  refine Z15 ?_;refine A7 Tryz.call252 (ALc _ _) ?_;exact Z97
 refine Z15 ?_;refine Y7 ?_;refine A2 [3,4,30] ?_
 refine A4 (fun ht30=>?_) (fun ht30=>?_)
 ·have hm:Ju t v=Ip (D3 v.s):=by unfold Ju;rw [if_neg (by rw [ht6];simp),if_neg (by rw [ht18];simp),if_pos ht30]
  refine Z1 ?_;refine A7 Tryz.call251 (APm v.s (by omega) _) ?_;refine AGl ?_;exact Z97
 have hm:Ju t v=Dr 10:=by unfold Ju;rw [if_neg (by rw [ht6];simp),if_neg (by rw [ht18];simp),if_neg (by rw [ht30];simp)]
 refine Z20 ?_;refine bj ?_;exact Z57

theorem AIl {vs:List Val} (h:0<vs.length):vs.getD 0 noV=vs[0]:=by rw [Bv,Ab h];rfl
/-- As many values as a node asks for. -/
structure ArgsOk (o:Int) (vs:List Val):Prop where
 two:o=5→∃a b,vs=[a,b]
 one:o=3∨o=4→vs.length=1
 call:o=6→vs.length=1∨∃a b,vs=[a,b]
 fine:∀v∈vs,Fine v
theorem AU1 (e:Expr) (vs:List Val) (h:ArgsOk e.op vs) (Hp:List AObj):AFun Tryz.prog 241 [Aa e,Ce vs] Hp (Vr (B8 e.op e.text vs)):=by
 refine Ae [.cell 4 24,.tmp 5] [0,1] Tryz.func241 Tryz.ntmps241 (fun d=>?_)
 refine Z2 ?_;refine Z47 ?_;refine A2 [1,2,4] ?_;refine Z17 ?_;refine Z23 ?_;refine A2 [1,2,4,6] ?_
 refine A4 (fun ht6=>?_) (fun ht6=>?_)
 ·obtain ⟨a,b,rfl⟩:=h.two (by simpa using ht6)
  have hm:B8 e.op e.text [a,b]=Nv e.text a b:=if_pos ht6
  refine Z15 ?_;refine A7 Tryz.call261 (ATy e.text a b (h.fine a (by simp)) (h.fine b (by simp)) _) ?_;refine Z0 ?_;exact Z97
 refine xu ?_;refine G.buildSl jU jS jZ ?_
 refine Ca Tryz.call262 (C:=((e.op==3)==true)) (fun hB=>AEy vs [1] (by have:=h.one (.inl (by simpa using hB));simp [this]) (by simp) _) ?_
 refine Z0 ?_;refine A2 [1,2,4,16] ?_
 refine A4 (fun ht16=>?_) (fun ht16=>?_)
 ·have hm0:((e.op==3)&&E0 vs [1])=true:=ht16
  have hop:e.op=3:=by simp only [As,beq_iff_eq] at hm0;exact hm0.1
  have hln:=h.one (.inl hop)
  have hg0:(vs.map Bq)[0]? = some (Bq (vs.getD 0 noV)):=by rw [AIl (by omega)];exact B7 (by omega)
  have hm:B8 e.op e.text vs=Ip (Oq 0 (vs.getD 0 noV).n):=by unfold B8;rw [if_neg (by rw [ht6];simp),if_pos ht16]
  refine Z2 ?_
  refine A5 (h:=Ag (0) (Bq (vs.getD 0 noV)) (fun _=>hg0)) (hr:=?_)
  refine Z0 ?_;refine A7 Tryz.call264 (ATm _ _) ?_;refine AGl ?_;exact Z97
 refine xu ?_;refine G.buildSl jU jS jZ ?_
 refine Ca Tryz.call262 (C:=((e.op==4)==true)) (fun hB=>AEy vs [3] (by have:=h.one (.inr (by simpa using hB));simp [this]) (by simp) _) ?_
 refine Z0 ?_;refine A2 [1,2,4,35] ?_
 refine A4 (fun ht35=>?_) (fun ht35=>?_)
 ·have hm0:((e.op==4)&&E0 vs [3])=true:=ht35
  have hop:e.op=4:=by simp only [As,beq_iff_eq] at hm0;exact hm0.1
  have hln:=h.one (.inr hop)
  have hg0:(vs.map Bq)[0]? = some (Bq (vs.getD 0 noV)):=by rw [AIl (by omega)];exact B7 (by omega)
  have hm:B8 e.op e.text vs=(Jr ((vs.getD 0 noV).n==0),0):=by unfold B8;rw [if_neg (by rw [ht6];simp),if_neg (by rw [ht16];simp),if_pos ht35]
  refine Z2 ?_
  refine A5 (h:=Ag (0) (Bq (vs.getD 0 noV)) (fun _=>hg0)) (hr:=?_)
  refine Z12 ?_;refine A7 Tryz.call178 (j4 _ _) ?_;exact Z97
 refine Z23 ?_;refine A2 [1,2,4,50] ?_
 refine A4 (fun ht50=>?_) (fun ht50=>?_)
 ·have hm:B8 e.op e.text vs=Dr 10:=by unfold B8;rw [if_neg (by rw [ht6];simp),if_neg (by rw [ht16];simp),if_neg (by rw [ht35];simp),if_pos ht50]
  refine bj ?_;exact Z97
 have hop:e.op=6:=by simpa using ht50
 have hcl:=h.call hop
 refine Z23 ?_;refine A2 [1,2,4,57] ?_
 refine A4 (fun ht57=>?_) (fun ht57=>?_)
 ·rw [Ah] at ht57
  have hln:vs.length=1:=by have:=ht57;simp only [beq_iff_eq] at this;omega
  have hg0:(vs.map Bq)[0]? = some (Bq (vs.getD 0 noV)):=by rw [AIl (by omega)];exact B7 (by omega)
  have hf0:Fine (vs.getD 0 noV):=by rw [AIl (by omega)];exact h.fine _ (Bl _)
  have hm:B8 e.op e.text vs=Ju e.text (vs.getD 0 noV):=by unfold B8;rw [if_neg (by rw [ht6];simp),if_neg (by rw [ht16];simp),if_neg (by rw [ht35];simp),if_neg (by rw [ht50];simp),if_pos ht57]
  refine Ea [0,1,0,4,12,31,63,63,255,511] 8 An (by kernel_rfl) ?_;refine Z35 ?_
  refine Aq (h:=Ag (0) (Bq (vs.getD 0 noV)) (fun _=>hg0)) (hr:=?_)
  refine Aq ?_;refine Du Tryz.call265 (AU0 _ _ hf0 _) ?_;refine Z89 ?_;exact Z97
 rw [Ah] at ht57
 obtain ⟨a,b,rfl⟩:∃a b,vs=[a,b]:=by
  rcases hcl with h1|h1
  ·exfalso
   have:=ht57
   rw [h1] at this
   simp at this
  exact h1
 refine Z2 ?_;refine ia jU jS jZ ?_;refine A7 Tryz.call262 (AEy [a,b] [2,1] (by simp) (by simp) _) ?_;refine Z0 ?_;refine A2 [1,2,4,69] ?_
 refine A4 (fun ht69=>?_) (fun ht69=>?_)
 ·have hm:B8 e.op e.text [a,b]=Dr 10:=by unfold B8;rw [if_neg (by rw [ht6];simp),if_neg (by rw [ht16];simp),if_neg (by rw [ht35];simp),if_neg (by rw [ht50];simp),if_neg (by rw [ht57];simp),if_pos ht69]
  refine bj ?_;exact Z97
 have hm:B8 e.op e.text [a,b]=(Qk e.text a.s b.n,0):=by unfold B8;rw [if_neg (by rw [ht6];simp),if_neg (by rw [ht16];simp),if_neg (by rw [ht35];simp),if_neg (by rw [ht50];simp),if_neg (by rw [ht57];simp),if_neg (by rw [ht69];simp)];rfl
 refine Z20 ?_;refine Ea [0,1,0,4,12,28,0,64,192,448,1023,2047,4095] 10 An (by kernel_rfl) ?_;refine Z35 ?_
 refine Aq (h:=Ag (0) (Bq a) (fun _=>show ([Bq a,Bq b]:List AV)[0]? = some (Bq a) from rfl)) (hr:=?_)
 refine Z35 ?_
 refine Aq (h:=Ag (1) (Bq b) (fun _=>show ([Bq a,Bq b]:List AV)[1]? = some (Bq b) from rfl)) (hr:=?_)
 refine Z89 ?_
 refine A7 Tryz.call266 (ATz e.text a.s b.n (by have:=(h.fine a (by simp)).len;omega) _) ?_
 exact Z57

theorem Re (a b:Val):((a.kind==b.kind&&a.n==b.n)&&a.s==b.s)=(a==b):=by
 obtain ⟨k,n,s⟩:=a
 obtain ⟨k',n',s'⟩:=b
 by_cases h:(⟨k,n,s⟩:Val)=⟨k',n',s'⟩
 ·injection h with h1 h2 h3
  subst h1;subst h2;subst h3
  simp
 have:((⟨k,n,s⟩:Val)==⟨k',n',s'⟩)=false:=by simpa using h
 rw [this]
 simp only [AB1,beq_eq_false_iff_ne]
 by_cases h1:k=k'
 ·by_cases h2:n=n'
  ·right
   rintro rfl
   exact h (by rw [h1,h2])
  exact .inl (.inr h2)
 exact .inl (.inl h1)
/-- What eval answers for a tree, over any heap. -/
abbrev Lp (c:List Col) (l:List Val) (e:Expr) (r:Rs):Prop:=∀Hp,AFun Tryz.prog 172 [ag c l,Aa e] Hp (Vr r)
theorem AQj (c:List Col) (l:List Val) (x:Expr) (r:Rs) (h:Lp c l x r) (Hp:List AObj):AFun Tryz.prog 240 [ag c l,Aa x] Hp (Vr (Be r)):=by
 refine Ae [.cell 4 24,.tmp 5] [0,1] Tryz.func240 Tryz.ntmps240 (fun d=>?_)
 refine Z1 ?_;refine AGx ?_;refine Z1 ?_;refine A7 Tryz.call172 (h _) ?_;refine Rf ?_;refine A2 [4,6,7] ?_;refine Z29 ?_;refine Z77 ?_;refine Z38 ?_;refine Z55 ?_;refine A2 [4,6,7,25] ?_
 refine A4 (fun ht25=>?_) (fun ht25=>?_)
 ·have hm:Be r=Dr 10:=if_pos ht25
  refine bj ?_;exact xj
 have hm:Be r=r:=if_neg (by rw [ht25];simp)
 refine Nc ?_;exact Z57

theorem AQk (c:List Col) (l:List Val) (x k0 k1:Expr) (s:Val) (ra rb:Rs) (h0:(x.kids.map Aa)[0]? = some (Aa k0)) (h1:(x.kids.map Aa)[1]? = some (Aa k1)) (ha:Lp c l k0 ra) (hb:Lp c l k1 rb) (Hp:List AObj):AFun Tryz.prog 216 [ag c l,Aa x,Bq s] Hp (Vr (Jf s ra rb)):=by
 refine Ae [.cell 6 24,.tmp 7] [0,1,2] Tryz.func216 Tryz.ntmps216 (fun d=>?_)
 refine Z15 ?_;refine Z47 ?_;refine A2 [3,4,5,6] ?_;refine Fd [0,0,2,6,14,31,63,127,127,0,767,2047] [9,10] [.q 9 [] [],.s [8] (some 0) [] [1],.s [] (some 1) [0] []] (fun _=>Hp) (fun B=>if B 0=true then [.cells 24 [A3 0,A3 0,Ac []],(if B 1=true then .cells 24 [A3 (Be ra).1.kind,A3 (Be ra).1.n,Ac (Be ra).1.s] else .cells 24 [A3 0,A3 0,Ac []]:AObj)] else [.cells 24 [A3 0,A3 0,Ac []]]) An (by kernel_rfl) rfl rfl (fun _=>rfl) ?_
 apply Y.q
 ·intro B hT hF
  refine Z35 ?_
  refine Aq (h:=Ag (0) (Aa k0) (fun _=>h0)) (hr:=?_)
  refine Aq ?_;exact AO9
 case hTF=>decide
 refine Z67 ?_;refine ANa ?_;refine A2 [3,4,5,6,8,9] ?_;refine Z29 ?_;refine Z6 ?_
 refine Cw (h:=Sb bv (fun w=>Kh (Be ra).1.kind (Be ra).1.n s.kind s.n (Be ra).1.s s.s w)) (hr:=?_)
 refine A5 ?_;refine A2 [3,4,5,6,8,9,26] ?_
 refine A4 (fun ht26=>?_) (fun ht26=>?_)
 ·rw [Re] at ht26
  have hm:Jf s ra rb=Be ra:=if_pos ht26
  refine Z1 ?_;refine Z69 ?_;exact Z25
 rw [Re] at ht26
 refine Z3 ?_;refine Fd [0,0,2,6,14,31,63,127,127,0,767,2047] [9,10] [.q 9 [] [],.s [10] (some 0) [] [1],.s [] (some 1) [0] []] (fun _=>Hp) (fun B=>if B 0=true then [.cells 24 [A3 0,A3 0,Ac []],.cells 24 [A3 (Be ra).1.kind,A3 (Be ra).1.n,Ac (Be ra).1.s],(if B 1=true then .cells 24 [A3 (Be rb).1.kind,A3 (Be rb).1.n,Ac (Be rb).1.s] else .cells 24 [A3 0,A3 0,Ac []]:AObj)] else [.cells 24 [A3 0,A3 0,Ac []],.cells 24 [A3 (Be ra).1.kind,A3 (Be ra).1.n,Ac (Be ra).1.s]]) An (by kernel_rfl) rfl rfl (fun _=>rfl) ?_
 apply Y.q
 ·intro B hT hF
  refine Z35 ?_
  refine Aq (h:=Ag (1) (Aa k1) (fun _=>h1)) (hr:=?_)
  refine Aq ?_;refine Du Tryz.call240 (AQj c l k1 rb hb _) ?_;exact AGj
 case hTF=>decide
 refine Y.alloc (zs:=[A3 0,A3 0,Ac []]) (n:=2) (u:=Hp.length) Tryz.zeroValue24 (fun B hT hF hB=>⟨rfl,by simp [hB],by simp [upd,hB,hF 1 (by simp)],rfl⟩) ?_;refine Y.storeOwnT (u:=Hp.length) (n:=2) (t':=24) (cs:=[A3 0,A3 0,Ac []]) (cs':=[A3 (Be rb).1.kind,A3 (Be rb).1.n,Ac (Be rb).1.s]) Tryz.sizeOf24 (fun B hT hF hB=>⟨rfl,by simp [hT 0 (by simp),hB],by simp [upd,hT 0 (by simp),hB],rfl⟩) ?_;refine Ej (tn:=[9,10]) (O:=[.cells 24 [A3 0,A3 0,Ac []],.cells 24 [A3 (Be ra).1.kind,A3 (Be ra).1.n,Ac (Be ra).1.s],.cells 24 [A3 (Be rb).1.kind,A3 (Be rb).1.n,Ac (Be rb).1.s]]) ?_;refine A5 ?_;refine A2 [5,6,8,9,10] ?_;refine Z29 ?_;refine Z6 ?_
 refine Cw (h:=Sb bv (fun w=>Kh (Be rb).1.kind (Be rb).1.n s.kind s.n (Be rb).1.s s.s w)) (hr:=?_)
 refine Z38 ?_;refine Z55 ?_;refine A2 [6,8,9,10,49] ?_
 refine A4 (fun ht49=>?_) (fun ht49=>?_)
 ·rw [Re] at ht49
  have hm:Jf s ra rb=Be rb:=by unfold Jf;rw [if_neg (by rw [ht26];simp),if_pos ht49]
  refine Z1 ?_;refine Z69 ?_;exact Z25
 rw [Re] at ht49
 have hm:Jf s ra rb=((Be ra).1,0):=by unfold Jf;rw [if_neg (by rw [ht26];simp),if_neg (by rw [ht49];simp)]
 refine Oi ?_;exact ANp

theorem AU2 (c:List Col) (l:List Val) (x k0 k1 k2:Expr) (ra rb d2:Rs) (h0:(x.kids.map Aa)[0]? = some (Aa k0)) (h1:(x.text==Ch)=false→(x.kids.map Aa)[1]? = some (Aa k1)) (h2:(x.text==ifW)=true→(x.kids.map Aa)[2]? = some (Aa k2)) (ha:Lp c l k0 ra) (hb:(x.text==Ch)=false→Lp c l k1 rb) (hd:(x.text==ifW)=true→Lp c l k2 d2) (Hp:List AObj):AFun Tryz.prog 217 [ag c l,Aa x] Hp (Vr (Fk x.text ra rb d2)):=by
 refine Ae [.cell 4 24,.tmp 5] [0,1] Tryz.func217 Tryz.ntmps217 (fun d=>?_)
 refine Z1 ?_;refine AGx ?_;refine Z29 ?_;refine A2 [2,3,4,12] ?_
 refine A4 (fun ht12=>?_) (fun ht12=>?_)
 ·have hni:(x.text==Ch)=false:=by
   have e:x.text=ifW:=by simpa [ifW] using ht12
   rw [e];rfl
  have hc:Fk x.text ra rb d2=(if (Be ra).2 != 0 then Dr (Be ra).2 else if (Be ra).1==Jr true then rb else d2):=if_pos ht12
  refine Fd [0,0,2,6,14,31,63,127,127,0,767,2047] [9,10] [.q 9 [] [],.s [6] (some 0) [] [1],.s [] (some 1) [0] []] (fun _=>Hp) (fun B=>if B 0=true then [.cells 24 [A3 0,A3 0,Ac []],(if B 1=true then .cells 24 [A3 (Be ra).1.kind,A3 (Be ra).1.n,Ac (Be ra).1.s] else .cells 24 [A3 0,A3 0,Ac []]:AObj)] else [.cells 24 [A3 0,A3 0,Ac []]]) An (by kernel_rfl) rfl rfl (fun _=>rfl) ?_
  apply Y.q
  ·intro B hT hF
   refine Z35 ?_
   refine Aq (h:=Ag (0) (Aa k0) (fun _=>h0)) (hr:=?_)
   refine Aq ?_;exact AO9
  case hTF=>decide
  refine Z67 ?_;refine ANa ?_;refine A2 [2,3,4,6,7] ?_;refine l9 ?_;refine A2 [2,3,4,6,7,22] ?_
  refine A4 (fun ht22=>?_) (fun ht22=>?_)
  ·have hm:Fk x.text ra rb d2=Dr (Be ra).2:=by rw [hc,if_pos ht22]
   refine Z2 ?_;refine Z51 ?_;refine Z45 ?_;refine Z5 ?_;exact Z25
  refine Ea [0,0,3,7] 2 An (by kernel_rfl) ?_;refine Aq ?_;refine Du Tryz.call178 (j4 true _) ?_;refine Ik ?_
  refine A5 (h:=Sb bv (fun w=>Kh (Be ra).1.kind (Be ra).1.n 3 1 (Be ra).1.s [] w)) (hr:=?_)
  refine A5 ?_;refine A2 [2,3,4,29] ?_
  refine A4 (fun ht29=>?_) (fun ht29=>?_)
  ·rw [Re (Be ra).1 ⟨3,1,[]⟩] at ht29
   have ht29b:((Be ra).1==Jr true)=true:=ht29
   have hm:Fk x.text ra rb d2=rb:=by rw [hc,if_neg (by rw [ht22];simp),if_pos ht29b]
   refine AKm ?_
   refine Aq (h:=Ag (1) (Aa k1) (fun _=>h1 hni)) (hr:=?_)
   refine Aq ?_;refine Du Tryz.call172 (hb hni _) ?_;refine Z89 ?_;refine Z45 ?_;refine Z5 ?_;exact Z25
  rw [Re (Be ra).1 ⟨3,1,[]⟩] at ht29
  have hm:Fk x.text ra rb d2=d2:=by rw [hc,if_neg (by rw [ht22];simp),if_neg (by show ¬((Be ra).1==⟨3,1,[]⟩)=true;rw [ht29];simp)]
  refine Z20 ?_;refine AKm ?_
  refine Aq (h:=Ag (2) (Aa k2) (fun _=>h2 ht12)) (hr:=?_)
  refine Aq ?_;refine Du Tryz.call172 (hd ht12 _) ?_;refine Z89 ?_;exact xj
 have hc:Fk x.text ra rb d2=(if ra.2 != 0 then Dr ra.2 else if x.text==Ch then (Jr (ra.1.kind==0),0) else if ra.1.kind != 0 then (ra.1,0) else rb):=if_neg (by show ¬(x.text==ifW)=true;rw [show (x.text==ifW)=false from ht12];simp)
 refine Z3 ?_;refine Fd [0,0,2,6,14,31,63,127,127,0,767,2047] [9,10] [.q 9 [] [],.s [8] (some 0) [] [1],.s [] (some 1) [0] []] (fun _=>Hp) (fun B=>if B 0=true then [.cells 24 [A3 0,A3 0,Ac []],(if B 1=true then .cells 24 [A3 ra.1.kind,A3 ra.1.n,Ac ra.1.s] else .cells 24 [A3 0,A3 0,Ac []]:AObj)] else [.cells 24 [A3 0,A3 0,Ac []]]) An (by kernel_rfl) rfl rfl (fun _=>rfl) ?_
 apply Y.q
 ·intro B hT hF
  refine Z35 ?_
  refine Aq (h:=Ag (0) (Aa k0) (fun _=>h0)) (hr:=?_)
  refine Aq ?_;refine Du Tryz.call172 (ha _) ?_;exact AGj
 case hTF=>decide
 refine AP6 ?_;refine Y.storeOwnT (u:=Hp.length) (n:=1) (t':=24) (cs:=[A3 0,A3 0,Ac []]) (cs':=[A3 ra.1.kind,A3 ra.1.n,Ac ra.1.s]) Tryz.sizeOf24 (fun B hT hF hB=>⟨rfl,by simp [hT 0 (by simp),hB],by simp [upd,hT 0 (by simp),hB],rfl⟩) ?_;refine Ej (tn:=[9,10]) (O:=[.cells 24 [A3 0,A3 0,Ac []],.cells 24 [A3 ra.1.kind,A3 ra.1.n,Ac ra.1.s]]) ?_;refine A5 ?_;refine A2 [2,3,4,8,9] ?_;refine l9 ?_;refine A2 [2,3,4,8,9,58] ?_
 refine A4 (fun ht58=>?_) (fun ht58=>?_)
 ·have hm:Fk x.text ra rb d2=Dr ra.2:=by rw [hc,if_pos ht58]
  refine Z2 ?_;refine Z51 ?_;exact Z97
 refine Z23 ?_;refine A2 [2,3,4,8,65] ?_
 refine A4 (fun ht65=>?_) (fun ht65=>?_)
 ·have hm:Fk x.text ra rb d2=(Jr (ra.1.kind==0),0):=by rw [hc,if_neg (by rw [ht58];simp),if_pos (show (x.text==Ch)=true from ht65)]
  refine Z15 ?_;refine A7 Tryz.call178 (j4 _ _) ?_;exact Z97
 refine Z23 ?_;refine A2 [2,3,4,8,73] ?_
 refine A4 (fun ht73=>?_) (fun ht73=>?_)
 ·have hm:Fk x.text ra rb d2=(ra.1,0):=by rw [hc,if_neg (by rw [ht58];simp),if_neg (by show ¬(x.text==Ch)=true;rw [show (x.text==Ch)=false from ht65];simp),if_pos ht73]
  refine Z2 ?_;exact Z97
 have hm:Fk x.text ra rb d2=rb:=by rw [hc,if_neg (by rw [ht58];simp),if_neg (by show ¬(x.text==Ch)=true;rw [show (x.text==Ch)=false from ht65];simp),if_neg (by rw [ht73];simp)]
 refine Z20 ?_;refine AKm ?_
 refine Aq (h:=Ag (1) (Aa k1) (fun _=>h1 ht65)) (hr:=?_)
 refine Aq ?_;refine Du Tryz.call172 (hb ht65 _) ?_;refine Z89 ?_;exact Z57

/-- The first fault of those that were asked. -/
structure AllAt (f:Expr→Rs) (k:List Expr) (x:Nat):Prop where
 le:x≤k.length
 ok:∀(j:Nat) (y:Expr),j<x→k[j]? = some y→((f y).2 != 0)=false
theorem AllAt.bad {f:Expr→Rs} {k:List Expr} {x:Nat} (h:AllAt f k x) (hx:x<k.length) (hb:((f k[x]).2 != 0)=true) (g:List Val→Rs):Ni g (k.map f)=Dr (f k[x]).2:=by
 unfold Ni
 have:(k.map f).find? (fun q=>q.2 != 0)=some ((k.map f)[x]'(by simpa using hx)):=iz (by simpa using hx) (by simpa using hb) (fun j y hj hy=>by
  rw [C5,En] at hy
  obtain ⟨z,hz,rfl⟩:=hy
  exact h.ok j z hj hz)
 rw [this]
 simp
theorem AllAt.all {f:Expr→Rs} {k:List Expr} {x:Nat} (h:AllAt f k x) (hx:k.length≤x) (g:List Val→Rs):Ni g (k.map f)=if (k.take x).any (fun y=>(f y).1.kind==0) then (noV,0) else g ((k.take x).map fun y=>(f y).1):=by
 unfold Ni
 have:(k.map f).find? (fun q=>q.2 != 0)=none:=V2 (fun j y hy=>by
  rw [C5,En] at hy
  obtain ⟨z,hz,rfl⟩:=hy
  exact h.ok j z (by have:=(Ad.1 hz).1;omega) hz)
 rw [this,E9 hx]
 simp only [List.any_map,Kd]
 rfl
theorem AllAt.next {f:Expr→Rs} {k:List Expr} {x:Nat} (h:AllAt f k x) (hx:x<k.length) (hb:((f k[x]).2 != 0)=false):AllAt f k (x+1):=⟨hx,Di hx h.ok hb⟩
theorem AF1 (f:Expr→Bool) (k:List Expr) {x:Nat} (h:x<k.length):(k.take (x+1)).any f=((k.take x).any f || f k[x]):=by rw [J4 h,List.any_append];simp
theorem zy (f:Expr→Val) (l:List Expr) {x:Nat} (h:x<l.length):((l.take x).map f).map Bq++[Bq (f l[x])]=((l.take (x+1)).map f).map Bq:=by rw [J4 h,Bj,Bj];rfl
theorem np {n k:Nat} {own:Bool} {l:List Val}:Low n (.slice own k (l.map Bq)):=low_slice.2 fun y hy=>by
 obtain ⟨z,_,rfl⟩:=C2.1 hy
 simp [or_imp,forall_and]
theorem AU3 (c:List Col) (l:List Val) (e:Expr) (hk:e.kids.length≤1048576) (hev:∀y∈e.kids,Lp c l y (C9 c l y)) (hargs:((∀y∈e.kids,(C9 c l y).2=0)→ArgsOk e.op (e.kids.map fun y=>(C9 c l y).1))) (Hp:List AObj):AFun Tryz.prog 218 [ag c l,Aa e] Hp (Vr (Ni (B8 e.op e.text) (e.kids.map (C9 c l)))):=by
 refine Ae [.cell 4 24,.tmp 5] [0,1] Tryz.func218 Tryz.ntmps218 (fun d=>?_)
 refine Z1 ?_;refine AGx ?_;refine Z2 ?_;refine A2 [2,3,4,6] ?_;refine F0 ?_;refine Na 6 3 ?_;refine A5 ?_;refine A2 [2,3,4,6,7] ?_;refine Z79 ?_;refine A2 [2,3,4,6,7,13,14,15] ?_
 refine Bi (α:=Nat) (fun x=>⟨49,A6 2 (.ro [Am c,Ce l]) (A6 3 (.ro (Ex e)) (A6 4 (.ptr (oid Hp.length 0) 0) (A6 6 (.slice true 3 (((e.kids.take x).map fun y=>(C9 c l y).1).map Bq)) (A6 7 (B4 ((e.kids.take x).any fun y=>(C9 c l y).1.kind==0)) (A6 13 (.slice false 6 (e.kids.map Aa)) (A6 14 (A3 (e.kids.length:Nat)) (A6 15 (A3 (x:Nat)) (fun _=>.any)))))))),Hp,[.cells 24 [A3 0,A3 0,Ac []]],[],none⟩) (fun x=>AllAt (C9 c l) e.kids x) (fun x=>e.kids.length-x) (0) ⟨Au _,fun j y h=>by omega⟩ (Bo (by simp)) rfl (fun x hx=>?_)
 refine Z2 ?_;refine A2 [2,3,4,6,7,13,14,15,16] ?_
 refine Ck (fun ht16=>?_) (fun ht16=>?_)
 ·have hlt:x<e.kids.length:=by simpa using ht16
  refine Z73 ?_
  refine A5 (h:=Ag (x) (Aa e.kids[x]) (fun _=>B7 hlt)) (hr:=?_)
  refine Z99 ?_;refine A2 [2,3,4,6,7,9,13,14,15] ?_;refine Z1 ?_;refine A7 Tryz.call172 (hev _ (Bl hlt) _) ?_;refine Rf ?_;refine A2 [2,3,4,6,7,10,11,13,14,15] ?_;refine Z7 ?_;refine A2 [2,3,4,6,7,10,11,13,14,15,26] ?_
  refine A4 (fun ht26=>?_) (fun ht26=>?_)
  ·have hm:=hx.bad hlt ht26 (B8 e.op e.text)
   refine Z2 ?_;refine Z51 ?_;refine Z45 ?_;refine Cz ?_;refine Z26 ?_;exact Z25
  refine Nc ?_;refine Y7 ?_;refine A2 [2,3,4,6,7,10,13,14,15] ?_;refine bi ?_;refine Z58 ?_
  refine E6 jU Tryz.type24 ?_ ?_ ?_
  ·simp only [Ah,C1,B0,Bu,Tryz.t24];omega
  ·simp only [Ah,C1,B0,Bu,Tryz.t24];omega
  refine Oj ?_;refine A2 [2,3,4,6,7,13,14,15] ?_;refine Q3 ?_;refine A2 [2,3,4,6,7,13,14,15] ?_;refine Bt (x+1) (hx.next hlt ht26) (by omega) ?_
  simp only [show Tryz.t24.size=3 from rfl,AF1 _ _ hlt]
  have hvs:((e.kids.take x).map fun y=>(C9 c l y).1).map Bq++[.agg [.v (.int .i64 (C9 c l e.kids[x]).1.kind),.v (.int .i64 (C9 c l e.kids[x]).1.n),.v (sv (C9 c l e.kids[x]).1.s)]]=((e.kids.take (x+1)).map fun y=>(C9 c l y).1).map Bq:=zy _ _ hlt
  simp only [hvs]
  exact D0 (own:=[.cells 24 [A3 0,A3 0,Ac []]]) (fun _=>.refl _) (by repeat (first|exact Bb|refine Ba (by first|exact Dj|exact np|exact vd|(simp [or_imp,forall_and,oid]<;>omega)) ?_)) (by intro y hy;rw [B9.1 hy];intro z hz;simp only [B3,Em,or_false] at hz;rcases hz with rfl|rfl|rfl<;>simp) (by simp)
 have hxe:e.kids.length≤x:=by simpa using ht16
 have ha:=hx.all hxe (B8 e.op e.text)
 have htk:e.kids.take x=e.kids:=E9 hxe
 have h00:∀y∈e.kids,(C9 c l y).2=0:=fun y hy=>by
  obtain ⟨j,hj⟩:=Cb hy
  have:=hx.ok j y (by have:=(Ad.1 hj).1;omega) hj
  simpa using this
 have hao:=hargs h00
 rw [←htk] at hao
 refine Z27 ?_;refine Z33 ?_;refine A2 [3,4,6,42] ?_
 refine A4 (fun ht42=>?_) (fun ht42=>?_)
 ·have hm:Ni (B8 e.op e.text) (e.kids.map (C9 c l))=(noV,0):=by rw [ha,if_pos ht42]
  refine AKw ?_;exact xj
 have hm:Ni (B8 e.op e.text) (e.kids.map (C9 c l))=B8 e.op e.text ((e.kids.take x).map fun y=>(C9 c l y).1):=by rw [ha,if_neg (by rw [ht42];simp)]
 refine Nc ?_;refine A7 Tryz.call241 (AU1 e _ hao _) ?_;refine Z0 ?_;exact Z57

theorem eo {e:Expr} (h:F1 e=true):(e.op=5→e.kids.length=2)∧(e.op=3∨e.op=4→e.kids.length=1)∧(e.op=6→Cn e.text=(e.kids.length:Int))∧(e.op=1∨e.op=2∨e.op=3∨e.op=4∨e.op=5∨e.op=6):=by
 cases M9 h with
 | val v hp h0=>simp [On,Expr.op]
 | name t ht=>simp [D6,Expr.op]
 | neg a=>simp [Lk,Expr.op,Expr.kids]
 | no a=>simp [Lk,Expr.op,Expr.kids]
 | bin t a b ht=>simp [Ml,Expr.op,Expr.kids]
 | call t k ht=>simpa [Expr.op,Expr.kids,Expr.text] using ht
theorem I8 {k:List Expr} {i:Nat} (h:i<k.length):(k.map Aa)[i]? = some (Aa (k.getD i Av))∧k.getD i Av∈k∧∀(f:Expr→Rs) (d:Rs),(k.map f).getD i d=f (k.getD i Av):=by
 have e:k.getD i Av=k[i]:=by rw [Bv,Ab h];rfl
 rw [e]
 refine ⟨by simp [h],Bl h,fun f d=>?_⟩
 rw [Bv,C5,Ab h]
 rfl
theorem jr {c:List Col} {l:List Val} {e:Expr} (h1:(e.op==1)=false) (h2:(e.op==2)=false) (h3:((e.op==5)&&(e.text==orW))=false) (h4:((e.op==5)&&(e.text==ji))=false) (h5:((e.op==6)&&(((e.text==ifW) || (e.text==Vk)) || (e.text==Ch)))=false):C9 c l e=Ni (B8 e.op e.text) (e.kids.map (C9 c l)):=by
 rw [C9,Nu]
 unfold Ks
 rw [h1,h2,h3,h4,h5]
 rfl
theorem AIm {c:List Col} {l:List Val} (hf:∀v∈l,Fine v) {e:Expr} (hnd:Dy F1 e=true) (hrg:Dy Ge e=true) (hv:Dy Nw e=true) (h5:((e.op==6)&&(((e.text==ifW) || (e.text==Vk)) || (e.text==Ch)))=false):ArgsOk e.op (e.kids.map fun y=>(C9 c l y).1):=by
 rw [Jc,As] at hnd hrg hv
 obtain ⟨k5,k34,k6,_⟩:=eo hnd.1
 refine ⟨fun h=>?_,fun h=>by rw [Ah];exact k34 h,fun h=>?_,fun v hv'=>?_⟩
 ·obtain ⟨a,b,e⟩:=Rb (k5 h)
  rw [e]
  exact ⟨_,_,rfl⟩
 ·rw [Ah]
  rw [h] at h5
  simp only [beq_self_eq_true,S4,Ei,beq_eq_false_iff_ne] at h5
  rcases Ou (k6 h) with ⟨_,h⟩|⟨_,h⟩|⟨_,h⟩|⟨e,_⟩|⟨e,_⟩|⟨_,h⟩|⟨_,h⟩|⟨e,_⟩
  ·exact .inl h
  ·exact .inl h
  ·exact .inl h
  ·exact absurd e h5.2
  ·exact absurd e h5.1.2
  ·obtain ⟨a,b,e⟩:=Rb h
   rw [e]
   exact .inr ⟨_,_,rfl⟩
  ·obtain ⟨a,b,e⟩:=Rb h
   rw [e]
   exact .inr ⟨_,_,rfl⟩
  exact absurd e h5.1.1
 obtain ⟨y,hy,rfl⟩:=C2.1 hv'
 exact Vm hf y ((Fu _ _).1 hv.2 y hy) ((Fu _ _).1 hrg.2 y hy)
theorem Wr (a b d:Rs):Fk Ch a b d=Fk Ch a (noV,0) (noV,0):=by
 unfold Fk
 rw [show (Ch==ifW)=false from rfl,show (Ch==Ch)=true from rfl]
 rfl
theorem sg {t:Str} (h:(t==ifW)=false) (a b d d':Rs):Fk t a b d=Fk t a b d':=by
 unfold Fk
 rw [h]
 rfl
theorem nq {t:Str} (h:(t==Ch)=true) (a b b' d d':Rs):Fk t a b d=Fk t a b' d':=by
 have e:t=Ch:=by simpa using h
 subst e
 rw [Wr,Wr a b' d']
theorem zz {t:Str} {k:List Expr} {f:Expr→Rs} {a:Rs} (h1:(t==Ch)=false→1<k.length) (h2:(t==ifW)=true→2<k.length):Fk t a ((k.map f).getD 1 (noV,0)) ((k.map f).getD 2 (noV,0))=Fk t a (f (k.getD 1 Av)) (f (k.getD 2 Av)):=by
 cases hn:t==Ch with
 | true=>exact nq hn _ _ _ _ _
 | false =>
  rw [(I8 (h1 hn)).2.2]
  cases hi:t==ifW with
  | true=>rw [(I8 (h2 hi)).2.2]
  | false=>exact sg hi _ _ _ _
theorem AU4 (c:List Col) (l:List Val) (hc:OkCols c) (hl:l.length=c.length) (hf:∀v∈l,Fine v):∀(n:Nat) (e:Expr),okE n e→Dy F1 e=true→Dy Ge e=true→Dy Nw e=true→Lp c l e (C9 c l e):=by
 intro n
 induction n with
 | zero=>exact fun e h=>h.elim
 | succ n ih =>
 intro e hok hnd hrg hvo Hp
 have hnd0:=hnd
 have hrg0:=hrg
 have hvo0:=hvo
 rw [Jc,As] at hnd0 hrg0 hvo0
 have hev:∀y∈e.kids,Lp c l y (C9 c l y):=fun y hy=>ih y (hok.2.2 y hy) ((Fu _ _).1 hnd0.2 y hy) ((Fu _ _).1 hrg0.2 y hy) ((Fu _ _).1 hvo0.2 y hy)
 obtain ⟨k5,k34,k6,_⟩:=eo hnd0.1
 have hev0:C9 c l e=Ks B8 c l e.op e.text e.val (e.kids.map (C9 c l)):=Nu _ _ _ _
 refine Ae [.cell 4 24,.tmp 5] [0,1] Tryz.func172 Tryz.ntmps172 (fun d=>?_)
 refine Z1 ?_;refine AGx ?_;refine Z17 ?_;refine Z23 ?_;refine A2 [2,3,4,7] ?_
 refine A4 (fun ht7=>?_) (fun ht7=>?_)
 ·have hm:C9 c l e=(e.val,0):=by rw [hev0];unfold Ks;rw [if_pos ht7]
  refine Z1 ?_;exact Z97
 refine Z23 ?_;refine A2 [2,3,4,13] ?_
 refine A4 (fun ht13=>?_) (fun ht13=>?_)
 ·have hm0:C9 c l e=Qj c l e.text:=by rw [hev0];unfold Ks;rw [if_neg (by rw [ht7];simp),if_pos ht13]
  refine Z23 ?_;refine A7 Tryz.call60 (c60 c hc e.text _) ?_;refine A5 ?_;refine A2 [2,4,6] ?_;refine Z7 ?_;refine A2 [2,4,6,23] ?_
  refine A4 (fun ht23=>?_) (fun ht23=>?_)
  ·have hm:C9 c l e=Dr 9:=by rw [hm0];exact if_pos (by simpa using ht23)
   refine bj ?_;refine Z45 ?_;refine Cz ?_;exact Z19
  have hneg:¬(Ay e.text c<0):=by simpa using ht23
  obtain ⟨j,hj,hjc⟩:=Gu hneg
  have hjl:j<l.length:=by omega
  have hm:C9 c l e=(l[j],0):=by
   rw [hm0]
   unfold Qj
   rw [if_neg hneg,hj,Int.toNat_natCast,Bv,Ab hjl]
   rfl
  rw [hj]
  refine Q4 ?_
  refine A5 (h:=Ag (j) (Bq l[j]) (fun _=>B7 hjl)) (hr:=?_)
  refine A5 ?_;exact Z97
 refine Z23 ?_;refine Y7 ?_;refine A2 [2,3,4,32] ?_
 refine A4 (fun ht32=>?_) (fun ht32=>?_)
 ·have h32:((e.op==5)&&(e.text==orW))=true:=ht32
  have hop:e.op=5:=by simp only [As,beq_iff_eq] at h32;exact h32.1
  have hkl:=k5 hop
  have hm:C9 c l e=Jf (Jr true) (C9 c l (e.kids.getD 0 Av)) (C9 c l (e.kids.getD 1 Av)):=by rw [hev0];unfold Ks;rw [if_neg (by rw [ht7];simp),if_neg (by rw [ht13];simp),if_pos h32,(I8 (by omega)).2.2,(I8 (by omega)).2.2]
  refine Ea [0,0,0,7,15,15,63,127] 6 An (by kernel_rfl) ?_;refine Z8 ?_;refine Du Tryz.call178 (j4 _ _) ?_;refine Du Tryz.call216 (AQk c l e (e.kids.getD 0 Av) (e.kids.getD 1 Av) (Jr true) _ _ (I8 (by omega)).1 (I8 (by omega)).1 (hev _ (I8 (by omega)).2.1) (hev _ (I8 (by omega)).2.1) _) ?_;refine Z89 ?_;exact Z97
 have h32:((e.op==5)&&(e.text==orW))=false:=ht32
 refine Z23 ?_;refine Y7 ?_;refine A2 [2,3,4,47] ?_
 refine A4 (fun ht47=>?_) (fun ht47=>?_)
 ·have h47:((e.op==5)&&(e.text==ji))=true:=ht47
  have hop:e.op=5:=by simp only [As,beq_iff_eq] at h47;exact h47.1
  have hkl:=k5 hop
  have hm:C9 c l e=Jf (Jr false) (C9 c l (e.kids.getD 0 Av)) (C9 c l (e.kids.getD 1 Av)):=by rw [hev0];unfold Ks;rw [if_neg (by rw [ht7];simp),if_neg (by rw [ht13];simp),if_neg (by rw [h32];simp),if_pos h47,(I8 (by omega)).2.2,(I8 (by omega)).2.2]
  refine Ea [0,0,0,7,15,15,63,127] 6 An (by kernel_rfl) ?_;refine Z8 ?_;refine Du Tryz.call178 (j4 _ _) ?_;refine Du Tryz.call216 (AQk c l e (e.kids.getD 0 Av) (e.kids.getD 1 Av) (Jr false) _ _ (I8 (by omega)).1 (I8 (by omega)).1 (hev _ (I8 (by omega)).2.1) (hev _ (I8 (by omega)).2.1) _) ?_;refine Z89 ?_;exact Z97
 have h47:((e.op==5)&&(e.text==ji))=false:=ht47
 refine Z23 ?_;refine Q5 ?_;refine Q5 ?_;refine Z6 ?_;refine Y7 ?_;refine A2 [2,3,4,62] ?_
 refine A4 (fun ht62=>?_) (fun ht62=>?_)
 ·have h62:((e.op==6)&&(((e.text==ifW) || (e.text==Vk)) || (e.text==Ch)))=true:=ht62
  obtain ⟨hkl,hl1,hl2⟩:0<e.kids.length∧((e.text==Ch)=false→1<e.kids.length)∧((e.text==ifW)=true→2<e.kids.length):=by
   have h:=h62
   simp only [As,D7,beq_iff_eq] at h
   have ha:=k6 h.1
   rcases h.2 with (h1|h1)|h1
   ·rw [h1] at ha ⊢
    have:e.kids.length=3:=by
     have:Cn ifW=3:=by kernel_rfl
     omega
    exact ⟨by omega,fun _=>by omega,fun _=>by omega⟩
   ·rw [h1] at ha ⊢
    have:e.kids.length=2:=by
     have:Cn Vk=2:=by kernel_rfl
     omega
    exact ⟨by omega,fun _=>by omega,fun h=>absurd h (by decide)⟩
   rw [h1] at ha ⊢
   have:e.kids.length=1:=by
    have:Cn Ch=1:=by kernel_rfl
    omega
   exact ⟨by omega,fun h=>absurd h (by decide),fun h=>absurd h (by decide)⟩
  have hm:C9 c l e=Fk e.text (C9 c l (e.kids.getD 0 Av)) (C9 c l (e.kids.getD 1 Av)) (C9 c l (e.kids.getD 2 Av)):=by
   rw [hev0]
   unfold Ks
   rw [if_neg (by rw [ht7];simp),if_neg (by rw [ht13];simp),if_neg (by rw [h32];simp),if_neg (by rw [h47];simp),if_pos h62,(I8 hkl).2.2]
   exact zz hl1 hl2
  refine Z1 ?_;refine A7 Tryz.call217 (AU2 c l e (e.kids.getD 0 Av) (e.kids.getD 1 Av) (e.kids.getD 2 Av) _ _ _ (I8 (by omega)).1 (fun h=>(I8 (hl1 h)).1) (fun h=>(I8 (hl2 h)).1) (hev _ (I8 (by omega)).2.1) (fun h=>hev _ (I8 (hl1 h)).2.1) (fun h=>hev _ (I8 (hl2 h)).2.1) _) ?_;refine Z0 ?_;exact Z97
 have h62:((e.op==6)&&(((e.text==ifW) || (e.text==Vk)) || (e.text==Ch)))=false:=ht62
 have hm:=jr (c:=c) (l:=l) ht7 ht13 h32 h47 h62
 refine Z20 ?_;refine Z1 ?_;refine A7 Tryz.call218 (AU3 c l e hok.2.1 hev (fun _=>AIm hf hnd hrg hvo h62) _) ?_;refine Z0 ?_;exact Z57

def Qq (l:List Val):Bool:=decide ((50:Int)<(l.length:Int)) || l.any fun v=>decide ((400:Int)<(v.s.length:Int))
theorem c45 (l:List Val) (Hp:List AObj):AFun Tryz.prog 45 [Ce l] Hp (B4 (Qq l)):=by
 refine Ae [.tmp 2] [0] Tryz.func45 Tryz.ntmps45 (fun d=>?_)
 refine la ?_;refine A2 [0,6] ?_
 refine A4 (fun ht6=>?_) (fun ht6=>?_)
 ·rw [Ah] at ht6
  have hm:Qq l=true:=by unfold Qq;rw [ht6];rfl
  exact AC2
 rw [Ah] at ht6
 have hl50:l.length≤50:=by simp at ht6;omega
 refine Ri ?_;refine No ?_
 refine Bi (α:=Nat) (fun x=>⟨20,A6 0 (Ce l) (A6 3 (A3 (x:Nat)) (fun _=>.any)),Hp,[],[],none⟩) (fun x=>x≤l.length∧∀(j:Nat) (v:Val),j<x→l[j]? = some v→decide ((400:Int)<(v.s.length:Int))=false) (fun x=>l.length-x) (0) ⟨Au _,fun j v h=>by omega⟩ (Bo (by simp)) rfl (fun x hx=>?_)
 refine Z79 ?_;refine A2 [0,3,10] ?_
 refine A4 (fun ht10=>?_) (fun ht10=>?_)
 ·have hlt:x<l.length:=by simpa using ht10
  refine Tg ?_;refine Z1 ?_
  refine A5 (h:=Ag (x) (Bq l[x]) (fun _=>B7 hlt)) (hr:=?_)
  refine Z68 ?_;refine A2 [0,3,19] ?_
  refine A4 (fun ht19=>?_) (fun ht19=>?_)
  ·have hm:Qq l=true:=by unfold Qq;rw [D7];exact .inr (Fy.2 ⟨l[x],Bl hlt,ht19⟩)
   refine Z46 ?_;exact Y4
  refine Z20 ?_;refine Z50 ?_
  refine A5 (h:=Sa (h1:=fun _=>by omega) (h2:=fun _=>by omega)) (hr:=?_)
  refine A5 ?_;refine No ?_;exact ANk
 have hxe:l.length≤x:=by simpa using ht10
 have hm:Qq l=false:=by
  unfold Qq
  rw [ht6,Fb,Iz]
  intro v hv
  obtain ⟨j,hj⟩:=Cb hv
  have:=hx.2 j v (by have:=(Ad.1 hj).1;omega) hj
  rw [this]
  simp
 exact AGr

structure RowAt (c:List Col) (l:List Val) (x:Nat):Prop where
 le:x≤l.length
 ok:∀(i:Nat) (v:Val) (y:Col),i<x→l[i]? = some v→c[i]? = some y→Er v=true∧(v.kind=0∨v.kind=y.kind)
theorem RowAt.next {c:List Col} {l:List Val} {x:Nat} (h:RowAt c l x) (hl:x<l.length) (hc:x<c.length) (hb:((!(Er l[x])) || ((l[x].kind != 0)&&(l[x].kind != c[x].kind)))=false):RowAt c l (x+1):=⟨hl,fun i v y hi hv hy=>by
 rcases Bw i x with h'|h'
 ·exact h.ok i v y h' hv hy
 have e:i=x:=by omega
 subst e
 rw [Ab hl] at hv
 rw [Ab hc] at hy
 injection hv with hv
 injection hy with hy
 subst hv
 subst hy
 simp only [Ei,Ph,AB1,bne_eq_false_iff_eq] at hb
 exact ⟨hb.1,hb.2⟩⟩
theorem RowAt.bad {c:List Col} {l:List Val} {x:Nat} (hl:x<l.length) (hc:x<c.length) (hb:((!(Er l[x])) || ((l[x].kind != 0)&&(l[x].kind != c[x].kind)))=true):Ew c l=false:=by
 cases h:Ew c l with
 | false=>rfl
 | true =>
  obtain ⟨h1,h2⟩:=(row_iff.1 h).2.2 x l[x] c[x] (Ab hl) (Ab hc)
  rw [h1] at hb
  simp only [Ig,Fb,As,bne_iff_ne] at hb
  omega
theorem c47 (c:List Col) (hc:OkCols c) (l:List Val) (hll:l.length≤1048576) (Hp:List AObj):AFun Tryz.prog 47 [Am c,Ce l] Hp (B4 (Ew c l)):=by
 refine Ae [.tmp 4] [0,1] Tryz.func47 Tryz.ntmps47 (fun d=>?_)
 refine Z36 ?_;refine Z33 ?_;refine A7 Tryz.call50 (c50 c hc _) ?_;refine Z86 ?_;refine Z55 ?_;refine A2 [0,1,16] ?_
 refine A4 (fun ht16=>?_) (fun ht16=>?_)
 ·have hm:Ew c l=false:=by
   simp only [Ah,D7,Iy,bne_iff_ne,ne_eq] at ht16
   unfold Ew
   rcases ht16 with h|h
   ·rw [h];rfl
   rw [show (l.length==c.length)=false by simpa using (show l.length≠c.length by omega)];simp
  exact l5
 have hcl:Jb c=true∧l.length=c.length:=by
  simp only [Ah,Ei,Ph,bne_eq_false_iff_eq] at ht16
  exact ⟨ht16.1,by omega⟩
 refine ir ?_;refine A2 [0,17,18,19] ?_
 refine Bi (α:=Nat) (fun x=>⟨43,A6 0 (Am c) (A6 17 (Ce l) (A6 18 (A3 (l.length:Nat)) (A6 19 (A3 (x:Nat)) (fun _=>.any)))),Hp,[],[],none⟩) (fun x=>RowAt c l x) (fun x=>l.length-x) (0) ⟨Au _,fun i v y h=>by omega⟩ (Bo (by simp)) rfl (fun x hx=>?_)
 refine Z2 ?_;refine A2 [0,17,18,19,20] ?_
 refine Ck (fun ht20=>?_) (fun ht20=>?_)
 ·have hlt:x<l.length:=by simpa using ht20
  have hlc:x<c.length:=by omega
  refine Rh ?_
  refine A5 (h:=Ag (x) (Bq l[x]) (fun _=>B7 hlt)) (hr:=?_)
  refine l7 ?_;refine A2 [0,5,6,17,18,19] ?_;refine Ea [0,1,3,7,15,31,63,127,255,511,255,255,3327,7423,15615,32767,65535,131071] 15 An (by kernel_rfl) ?_;refine Aq ?_;refine Du Tryz.call93 (c93 _ _) ?_;refine Z8 ?_;refine Z87 ?_;refine Z87 ?_;refine Z87 ?_;refine Z87 ?_
  refine H.go (h:=Ag (x) (Cc c[x]) (fun _=>B7 hlc)) (hr:=?_)
  refine Z87 ?_;refine Ik ?_;refine ip ?_;refine A2 [0,17,18,19,41] ?_
  refine A4 (fun ht41=>?_) (fun ht41=>?_)
  ·have hm:=RowAt.bad hlt hlc ht41
   exact AGo
  refine Z70 ?_;refine A2 [0,17,18,19] ?_;refine Bt (x+1) (hx.next hlt hlc ht41) (by omega) ?_
  exact D0 (own:=[]) (fun _=>.refl _) (by repeat (first|exact Bb|refine Ba (by first|exact np|exact low_cols|(simp [or_imp,forall_and];done)) ?_)) (by simp) (by simp)
 have hxe:l.length≤x:=by simpa using ht20
 have hm:Ew c l=true:=row_iff.2 ⟨by rw [←Mw];exact hcl.1,hcl.2,fun i v y hv hy=>hx.ok i v y (by have:=(Ad.1 hv).1;omega) hv hy⟩
 refine Z27 ?_;exact Z94

theorem AF2 {e:Expr} (h:F1 e=true):Nw e=true:=by
 unfold Nw
 cases M9 h with
 | val v hp h0=>simpa [On,Expr.op,Expr.val] using hp
 | name t ht=>rfl
 | neg a=>rfl
 | no a=>rfl
 | bin t a b ht=>rfl
 | call t k ht=>rfl
mutual
theorem vt:∀e:Expr,Dy F1 e=true→Dy Nw e=true
 | .mk o t v k,h=>by
  rw [Dy,As] at h ⊢
  exact ⟨AF2 h.1,nr k h.2⟩
theorem nr:∀k:List Expr,Nr F1 k=true→Nr Nw k=true
  | [],_=>rfl
  | e::r,h=>by
    rw [Nr,As] at h ⊢
    exact ⟨vt e h.1,nr r h.2⟩
 end
theorem AF3 {c:List Col} {l:List Val} (h:Ew c l=true) (hr:∀v∈l, -9223372036854775808≤v.n∧v.n≤9223372036854775807):∀v∈l,Fine v:=fun v hv=>by
 obtain ⟨i,hi⟩:=Cb hv
 obtain ⟨_,h2,h3⟩:=row_iff.1 h
 have hil:=(Ad.1 hi).1
 exact ⟨(h3 i v _ hi (Ab (show i<c.length by omega))).1,(hr v hv).1,(hr v hv).2⟩
theorem AMf (n:Nat) (x:Expr) (hok:okE n x) (hn:n≤1048576) (hrg:Dy Ge x=true) (c:List Col) (hc:OkCols c) (l:List Val) (hll:l.length≤1048576) (hlr:∀v∈l, -9223372036854775808≤v.n∧v.n≤9223372036854775807) (Hp:List AObj):AFun Tryz.prog 138 [Aa x,Am c,Ce l] Hp (Vr (Bx x c l)):=by
 refine Ae [.cell 6 24,.tmp 7] [0,1,2] Tryz.func138 Tryz.ntmps138 (fun d=>?_)
 refine Z2 ?_;refine xf ?_;refine Z33 ?_;refine A7 Tryz.call96 (c96 n x hok hn _) ?_;refine Z38 ?_;refine Ca Tryz.call47 (fun hB=>c47 c hc l hll _) ?_;refine Z55 ?_;refine A2 [1,2,3,6,16] ?_
 refine A4 (fun ht16=>?_) (fun ht16=>?_)
 ·have hm:Bx x c l=Dr 1:=if_pos ht16
  refine bj ?_;refine Z69 ?_;exact Z25
 have hm:Bx x c l=C9 c l x:=if_neg (by rw [ht16];simp)
 have hrr:Az x=true∧Ew c l=true:=by simpa using ht16
 obtain ⟨hr,hrow⟩:=hrr
 refine Nc ?_;refine lb ?_;refine A5 ?_;refine A7 Tryz.call172 (AU4 c l hc (row_iff.1 hrow).2.1 (AF3 hrow hlr) n x hok (My hr) hrg (vt x (My hr)) _) ?_;refine Z0 ?_;exact ANp

theorem AA0 {x:Expr} {c:List Col} {l:List Val} (hk:(Gb x c).2=0) (hrow:Ew c l=true):KOk (Gb x c).1 (Bx x c l):=by
 obtain ⟨h1,h2,h3⟩:=mu hk
 rw [h3] at hk ⊢
 rw [AHu h1 hrow]
 exact v7 hrow (sizeE x) x (Al _) (My h1) hk
theorem AF4 {l:List Val} (h:Qq l=false):l.length≤1048576:=by
 unfold Qq at h
 simp only [Ei,decide_eq_false_iff_not] at h
 omega
/-! SoundJoins: one behind the other, in one. -/
/-! image: rows forth and back. -/
/-- image.reckon. -/
def B2 (c:List Col) (row:List Val):List Expr→List Val×Int
 | []=>([],0)
 | x::r=>if (Bx x c row).2 != 0 then ([],(Bx x c row).2) else if (B2 c row r).2 != 0 then ([],(B2 c row r).2) else ((Bx x c row).1::(B2 c row r).1,0)
theorem Sv {c:List Col} {row:List Val}:∀{l:List Expr},(∀(j:Nat) (y:Expr),l[j]? = some y→((Bx y c row).2 != 0)=false)→B2 c row l=(l.map (fun e=>(Bx e c row).1),0)
 | [],_=>rfl
 | x::r,h=>by
  rw [B2,Sv (l:=r) (fun j y hy=>h (j+1) y hy),if_neg (by rw [h 0 x rfl];simp),if_neg (by simp)]
  rfl
theorem Sw {c:List Col} {row:List Val}:∀{l:List Expr} {x:Nat} {y:Expr},(∀(j:Nat) (z:Expr),j<x→l[j]? = some z→((Bx z c row).2 != 0)=false)→l[x]? = some y→((Bx y c row).2 != 0)=true→B2 c row l=([],(Bx y c row).2)
 | [],_,_,_,h,_=>by simp at h
 | a::r,0,y,_,h,h1=>by
  have:a=y:=by simpa using h
  subst this
  rw [B2,if_pos h1]
 | a::r,x+1,y,h0,h,h1=>by
  rw [B2,if_neg (by rw [h0 0 a (by omega) rfl];simp),Sw (l:=r) (x:=x) (fun j z hj hz=>h0 (j+1) z (by omega) hz) (by simpa using h) h1,if_pos h1]
theorem AA1 {e:Expr} (h:F1 e=true):Nw e=true:=by
 unfold Nw
 rw [m9] at h
 cases hk:(e.op==1) with
 | false=>rfl
 | true =>
  show Er e.val=true
  have e1:e.op=1:=by simpa using hk
  cases e with
  | mk o t v k =>
   have e1:o=1:=e1
   subst e1
   rw [Zj] at h
   simp at h
   exact h.1.1.1
mutual
theorem ns:∀e:Expr,Dy F1 e=true→Dy Nw e=true
 | .mk o t v k,h=>by
  rw [Jc,As] at h ⊢
  exact ⟨AA1 h.1,ep k h.2⟩
theorem ep:∀k:List Expr,Nr F1 k=true→Nr Nw k=true
 | [],_=>rfl
 | e::r,h=>by
  rw [Nr,As] at h ⊢
  exact ⟨ns e h.1,ep r h.2⟩
end
theorem AF5 {x:Expr} {c:List Col} {row:List Val} (hf:∀v∈row,Fine v) (hr:Dy Ge x=true):Fine (Bx x c row).1:=by
 show Fine (Tx B8 x c row).1
 unfold Tx
 split
 ·exact Mx
 rename_i h
 simp only [D7,Iy,not_or,Uo] at h
 exact Vm hf x (ns x (Ov (by rw [←Fv];exact h.1))) hr
theorem Qr {c:List Col} {row:List Val} (hf:∀v∈row,Fine v):∀{l:List Expr},(∀e∈l,Dy Ge e=true)→∀v∈(B2 c row l).1,Fine v
 | [],_,v,h=>by cases h
 | x::r,hr,v,h=>by
  rw [B2] at h
  split at h
  ·cases h
  split at h
  ·cases h
  rcases B3.1 h with rfl|h
  ·exact AF5 hf (hr x G5)
  exact Qr hf (fun e he=>hr e (.tail _ he)) v h
theorem Mi {c:List Col} {row:List Val}:∀{l:List Expr},(B2 c row l).2=0→(B2 c row l).1.length=l.length
 | [],_=>rfl
 | x::r,h=>by
  rw [B2] at h ⊢
  split at h
  ·rename_i h1
   rw [show (Bx x c row).2=0 from h] at h1
   cases h1
  rename_i h1
  rw [if_neg h1]
  split at h
  ·rename_i h2
   rw [show (B2 c row r).2=0 from h] at h2
   cases h2
  rename_i h2
  rw [if_neg h2]
  simp only [B0]
  rw [Mi (l:=r) (by simpa using h2)]
/-- What is not taken. -/
def Fm (take:List Str) (c:List Col) (row:List Val):List Val:=((c.zip row).filter fun p => !take.contains p.1.name).map (·.2)
theorem ai:∀{c:List Col} {row:List Val} {x:Nat} (hc:x<c.length) (hr:x<row.length),(c.take (x+1)).zip row=(c.take x).zip row++[(c[x],row[x])]
 | y::c,v::row,0,_,_=>by simp
 | y::c,v::row,x+1,hc,hr=>by
  simp only [List.take_succ_cons,List.zip_cons_cons,Dh,List.getElem_cons_succ]
  rw [ai (by simpa using hc) (by simpa using hr)]
 | [],_,_,hc,_=>by simp at hc
 | _::_,[],_,_,hr=>by simp at hr
theorem AIn {take:List Str} {c:List Col} {row:List Val} {x:Nat} (hc:x<c.length) (hr:x<row.length) (h:take.contains c[x].name=false):Fm take (c.take (x+1)) row=Fm take (c.take x) row++[row[x]]:=by
 unfold Fm
 have hb:(fun p:Col×Val => !take.contains p.1.name) (c[x],row[x])=true:=by show (!take.contains c[x].name)=true;rw [h];rfl
 rw [ai hc hr,Pk,Bj,List.filter_cons_of_pos (p:=fun p:Col×Val => !take.contains p.1.name) hb]
 rfl
theorem AF6 {take:List Str} {c:List Col} {row:List Val} {x:Nat} (hc:x<c.length) (hr:x<row.length) (h:take.contains c[x].name=true):Fm take (c.take (x+1)) row=Fm take (c.take x) row:=by
 unfold Fm
 have hb:¬(fun p:Col×Val => !take.contains p.1.name) (c[x],row[x])=true:=by show ¬(!take.contains c[x].name)=true;rw [h];simp
 rw [ai hc hr,Pk,Bj,List.filter_cons_of_neg (p:=fun p:Col×Val => !take.contains p.1.name) hb]
 simp
theorem U6 {take:List Str}:∀{c:List Col} {row:List Val},row.length=c.length→(Fm take c row).length=(Dg c take).length
 | [],[],_=>rfl
 | y::c,v::row,h=>by
  have ih:=U6 (take:=take) (c:=c) (row:=row) (by simpa using h)
  unfold Fm Dg at ih ⊢
  rw [List.zip_cons_cons,Hz,Hz]
  cases hc:take.contains y.name<;>simp [hc] at ih ⊢<;>exact ih
 | [],_::_,h=>by simp at h
 | _::_,[],h=>by simp at h
theorem AF7 {take:List Str} {c:List Col} {row:List Val} {v:Val} (h:v∈Fm take c row):v∈row:=by
 unfold Fm at h
 obtain ⟨p,hp,rfl⟩:=C2.1 h
 exact (List.of_mem_zip (O3.1 hp).1).2
/-- image.forth. -/
def Ef (c:List Col) (m:Mov) (row:List Val):List Val×Int:=if (B2 c row m.ahead).2 != 0 then ([],(B2 c row m.ahead).2) else (Fm m.take c row++(B2 c row m.ahead).1,0)
/-- What a column ahead was. -/
def U7 (take:List Str) (was row:List Val) (d:List Col) (x:Col):Val:=if 0≤Jp x.name take then was.getD (Jp x.name take).toNat noV else row.getD (Ay x.name d).toNat noV
/-- image.back. -/
def D4 (a d:List Col) (m:Mov) (row:List Val):List Val×Int:=if (B2 d row m.back).2 != 0 then ([],(B2 d row m.back).2) else (a.map (U7 m.take (B2 d row m.back).1 row d),0)
/-- The row behind k moves. -/
def fwM (c:List Col) (l:List Mov) (row:List Val):Nat→List Val×Int
 | 0=>(row,0)
 | k+1=>if (fwM c l row k).2 != 0 then ([],(fwM c l row k).2) else match l[k]? with
  | none=>fwM c l row k
  | some m=>Ef (colsAt c l k) m (fwM c l row k).1
/-- The row ahead of the last k moves. -/
def bkM (c:List Col) (l:List Mov) (row:List Val):Nat→List Val×Int
 | 0=>(row,0)
 | k+1=>if (bkM c l row k).2 != 0 then ([],(bkM c l row k).2) else match l[l.length-1-k]? with
  | none=>bkM c l row k
  | some m=>D4 (colsAt c l (l.length-1-k)) (colsAt c l (l.length-1-k+1)) m (bkM c l row k).1
/-- image.Forth. -/
def Ek (c:List Col) (l:List Mov) (row:List Val):List Val×Int:=if ((Bn c l).2 != 0) || !Ew c row then ([],1) else fwM c l row l.length
/-- image.Back. -/
def Iv (c:List Col) (l:List Mov) (row:List Val):List Val×Int:=if ((Bn c l).2 != 0) || !Ew (colsAt c l l.length) row then ([],1) else bkM c l row l.length
/-- image.Faithful. -/
def P2 (c:List Col) (l:List Mov) (row:List Val):Bool:=if (Ek c l row).2 != 0 then false else ((Iv c l (Ek c l row).1).2==0)&&decide ((Iv c l (Ek c l row).1).1=row)
/-- A row that may be walked: as long as its columns are many, its values fine. -/
structure RowI (c:List Col) (row:List Val):Prop where
 len:row.length=c.length
 fine:∀v∈row,Fine v
theorem O2 {c:List Col} {row:List Val} (h:Ew c row=true) (hr:∀v∈row, -9223372036854775808≤v.n∧v.n≤9223372036854775807):RowI c row:=by
 unfold Ew at h
 simp only [As,beq_iff_eq,B5] at h
 refine ⟨h.1.2,fun v hv=>⟨?_,(hr v hv).1,(hr v hv).2⟩⟩
 obtain ⟨j,hj,rfl⟩:=Us hv
 have hj2:j<c.length:=by omega
 have:=h.2 (row[j],c[j]) (Aw (i:=j) (by rw [N6];exact ⟨Ab hj,Ab hj2⟩))
 exact this.1
theorem Vs {c:List Col} {m:Mov} {row:List Val} (ht:(Bp c m).2=0) (hm:I5 m=true) (hg:∀e∈m.ahead,Dy Ge e=true) (h:RowI c row) (hf:(Ef c m row).2=0):RowI (Bp c m).1 (Ef c m row).1:=by
 unfold Ef at hf ⊢
 split at hf
 ·rename_i h1
  rw [show (B2 c row m.ahead).2=0 from hf] at h1
  cases h1
 rename_i h1
 rw [if_neg h1]
 have hl:=Mi (c:=c) (row:=row) (l:=m.ahead) (by simpa using h1)
 refine ⟨?_,fun v hv=>?_⟩
 ·rw [(Kv ht).1,Ai,Ai,U6 h.len,hl,Ka,(Fg (It hm)).1]
 rcases El.1 hv with h2|h2
 ·exact h.fine v (AF7 h2)
 exact Qr h.fine hg v h2
theorem er {row:List Val} (h:∀v∈row,Fine v) (n:Nat):Fine (row.getD n noV):=by
 rw [Bv]
 cases hn:row[n]? with
 | none=>exact Mx
 | some v=>exact h v (Aw hn)
theorem AF8 {a d:List Col} {m:Mov} {row:List Val} (hg:∀e∈m.back,Dy Ge e=true) (h:RowI d row) (hf:(D4 a d m row).2=0):RowI a (D4 a d m row).1:=by
 unfold D4 at hf ⊢
 split at hf
 ·rename_i h1
  rw [show (B2 d row m.back).2=0 from hf] at h1
  cases h1
 rename_i h1
 rw [if_neg h1]
 refine ⟨Ah _,fun v hv=>?_⟩
 obtain ⟨x,_,rfl⟩:=C2.1 hv
 unfold U7
 split
 ·exact er (Qr h.fine hg) _
 exact er h.fine _
theorem U8 {c:List Col} {l:List Mov} {row:List Val} {k:Nat} {m:Mov} (hk:l[k]? = some m) (h:(fwM c l row k).2=0):fwM c l row (k+1)=Ef (colsAt c l k) m (fwM c l row k).1:=by
 rw [fwM,if_neg (by rw [h];simp),hk]
theorem U9 {c:List Col} {l:List Mov} {row:List Val} {k:Nat} {m:Mov} (hk:l[l.length-1-k]? = some m) (h:(bkM c l row k).2=0):bkM c l row (k+1)=D4 (colsAt c l (l.length-1-k)) (colsAt c l (l.length-1-k+1)) m (bkM c l row k).1:=by
 rw [bkM,if_neg (by rw [h];simp),hk]
theorem aj {c:List Col} {l:List Mov} {row:List Val} {k:Nat} (h:(fwM c l row k).2≠0):∀n,k<n→fwM c l row n=([],(fwM c l row k).2)
 | 0,hn=>by omega
 | n+1,hn=>by
  by_cases hk:k=n
  ·subst hk
   rw [fwM,if_pos (by simpa using h)]
  rw [fwM,aj h n (by omega),if_pos (by simpa using h)]
theorem js {c:List Col} {l:List Mov} {row:List Val} {k:Nat} (h:(bkM c l row k).2≠0):∀n,k<n→bkM c l row n=([],(bkM c l row k).2)
 | 0,hn=>by omega
 | n+1,hn=>by
  by_cases hk:k=n
  ·subst hk
   rw [bkM,if_pos (by simpa using h)]
  rw [bkM,js h n (by omega),if_pos (by simpa using h)]
theorem sh {c:List Col} {m:Mov} {row:List Val} (h:(Ef c m row).2≠0):(Ef c m row).1=[]:=by
 unfold Ef at h ⊢
 split
 ·rfl
 rename_i h1
 rw [if_neg h1] at h
 exact absurd rfl h
theorem et {a d:List Col} {m:Mov} {row:List Val} (h:(D4 a d m row).2≠0):(D4 a d m row).1=[]:=by
 unfold D4 at h ⊢
 split
 ·rfl
 rename_i h1
 rw [if_neg h1] at h
 exact absurd rfl h
/-- A failing move ends it. -/
theorem AIo {c:List Col} {l:List Mov} {row:List Val} {k:Nat} {m:Mov} (hk:l[k]? = some m) (h:(fwM c l row k).2=0) (hb:(Ef (colsAt c l k) m (fwM c l row k).1).2≠0):fwM c l row l.length=([],(Ef (colsAt c l k) m (fwM c l row k).1).2):=by
 have e:=U8 hk h
 have hl:=(Ad.1 hk).1
 by_cases h1:k+1=l.length
 ·rw [←h1,e]
  exact Mq (sh hb) rfl
 have:=aj (c:=c) (l:=l) (row:=row) (k:=k+1) (by rw [e];exact hb) l.length (by omega)
 rw [this,e]
theorem AIp {c:List Col} {l:List Mov} {row:List Val} {k:Nat} {m:Mov} (hl:k<l.length) (hk:l[l.length-1-k]? = some m) (h:(bkM c l row k).2=0) (hb:(D4 (colsAt c l (l.length-1-k)) (colsAt c l (l.length-1-k+1)) m (bkM c l row k).1).2≠0):bkM c l row l.length=([],(D4 (colsAt c l (l.length-1-k)) (colsAt c l (l.length-1-k+1)) m (bkM c l row k).1).2):=by
 have e:=U9 hk h
 by_cases h1:k+1=l.length
 ·rw [h1] at e
  rw [e]
  exact Mq (et hb) rfl
 have:=js (c:=c) (l:=l) (row:=row) (k:=k+1) (by rw [e];exact hb) l.length (by omega)
 rw [this,e]
theorem F9 {n k:Nat} {o:Bool} {l:List Val}:Low n (.slice o k (l.map Bq)):=by simp [or_imp,forall_and]
theorem Lv {n k:Nat} {o:Bool} {l:List Val} {v:Val}:Low n (.slice o k (l.map Bq++[Bq v])):=by simp [or_imp,forall_and]
theorem AK4 {l:List Val} {j:Nat} (h:j<l.length):(l.map Bq)[j]? = some (Bq (l.getD j noV)):=by
 rw [C5,Ab h,Bv,Ab h];rfl
theorem Ua {l:List Val} (h:∀v∈l,Fine v):∀v∈l, -9223372036854775808≤v.n∧v.n≤9223372036854775807:=fun v hv=>⟨(h v hv).lo,(h v hv).hi⟩
theorem eu {c:List Col} {row:List Val}:∀{l:List Expr},(B2 c row l).1.length≤l.length
 | []=>Al _
 | x::r=>by
  rw [B2]
  repeat' split
  ·exact qd
  ·exact qd
  have:=eu (c:=c) (row:=row) (l:=r)
  simp only [B0]
  omega
theorem vu {take:List Str} {c:List Col} {row:List Val}:(Fm take c row).length≤c.length:=by
 unfold Fm
 rw [Ah]
 refine Ic (gg _ _) ?_
 rw [List.length_zip]
 omega
theorem vw {v:Str} {l:List Str} (h:0≤Jp v l):∃j:Nat,Jp v l=j∧j<l.length:=by
 unfold Jp at h ⊢
 cases hf:l.findIdx? (·==v) with
 | none=>rw [hf] at h;exact absurd h (by decide)
 | some i=>exact ⟨i,rfl,(N4.1 hf).1⟩
theorem AF9 {nm:Str} {c:List Col} {y:Col} (h:y∈c) (hn:y.name=nm):∃j:Nat,Ay nm c=j∧j<c.length:=by
 unfold Ay
 cases hf:c.findIdx? (fun y=>y.name==nm) with
 | none =>
  rw [S5] at hf
  have:=hf y h
  rw [hn] at this
  simp at this
 | some i=>exact ⟨i,rfl,(N4.1 hf).1⟩
/-- A column that is not taken is there behind the move. -/
theorem AFa {c:List Col} {m:Mov} {y:Col} (ht:(Bp c m).2=0) (hy:y∈c) (hn:¬0≤Jp y.name m.take):∃j:Nat,Ay y.name (Bp c m).1=j∧j<(Bp c m).1.length:=by
 refine AF9 (y:=y) ?_ rfl
 rw [(Kv ht).1]
 refine T3 _ ?_
 unfold Dg
 rw [O3]
 refine ⟨hy,?_⟩
 rw [←Xe,decide_eq_false hn]
 rfl
theorem c65 (a b:List Val) (ha:a.length≤1048576) (Hp:List AObj):AFun Tryz.prog 65 [Ce a,Ce b] Hp (B4 (decide (a=b))):=by
 refine Ae [.tmp 4] [0,1] Tryz.func65 Tryz.ntmps65 (fun d=>?_)
 refine Z36 ?_;refine br ?_;refine A2 [0,1,10] ?_
 refine A4 (fun ht10=>?_) (fun ht10=>?_)
 ·refine Z44 ?_;refine Cz ?_;exact A9 (Ao A8) ⟨by rw [APh (by simpa using ht10)],rfl⟩
 refine ir ?_;refine A2 [0,1,12,13] ?_
 refine Bi (α:=Nat) (fun x=>⟨26,A6 0 (Ce a) (A6 1 (Ce b) (A6 12 (A3 (a.length:Nat)) (A6 13 (A3 (x:Nat)) (fun _=>.any)))),Hp,[],[],none⟩) (fun x=>x≤a.length∧∀(j:Nat) (y:Val),j<x→a[j]? = some y→b[j]? = some y) (fun x=>a.length-x) (0) (by simp) (Bo (by simp)) rfl (fun x hx=>?_)
 refine Z2 ?_;refine A2 [0,1,12,13,14] ?_
 refine Ck (fun ht14=>?_) (fun ht14=>?_)
 ·have hlt:x<a.length:=by simpa using ht14
  have hlb:x<b.length:=by have:=AL7 ht10;omega
  refine ANh ?_;refine A2 [0,1,5,12,13] ?_;refine Ea [0,0,3,7,0,0,48,112,255] 8 An (by kernel_rfl) ?_;refine Z8 ?_
  refine Aq (h:=Ag (x) (Bq a[x]) (fun _=>B7 hlt)) (hr:=?_)
  refine Z35 ?_
  refine Aq (h:=Ag (x) (Bq b[x]) (fun _=>B7 hlb)) (hr:=?_)
  refine ACe ?_
  refine A5 (h:=Q.neqAgg bv (Kh a[x].kind a[x].n b[x].kind b[x].n a[x].s b[x].s)) (hr:=?_)
  refine A2 [0,1,12,13,24] ?_
  refine A4 (fun ht24=>?_) (fun ht24=>?_)
  ·rw [Xb] at ht24
   refine Z44 ?_;refine Z48 ?_;exact A9 (Ao A8) ⟨by rw [ARl hlt hlb (by simpa using ht24)],rfl⟩
  rw [Xb] at ht24
  refine Z70 ?_;refine A2 [0,1,12,13] ?_
  exact Bt (x+1) ⟨hlt,K3 (p:=fun j y=>b[j]? = some y) hlt hx.2 (by rw [Ab hlb];simpa using (Eq.symm (by simpa using ht24):b[x]=a[x]))⟩ (by omega) (Dx rfl)
 have hxe:a.length≤x:=by simpa using ht14
 refine Z27 ?_;refine Z44 ?_;exact A9 (Ao A8) ⟨by rw [APj (by simpa using ht10) (R6 hxe hx.2)],rfl⟩

theorem c48 (l:List Val) (hl:l.length≤1048576) (Hp:List AObj):AFun Tryz.prog 48 [Ce l] Hp (Ce l):=by
 refine Ae [.tmp 2] [0] Tryz.func48 Tryz.ntmps48 (fun d=>?_)
 refine Z42 ?_;refine Z33 ?_
 refine R.eqlNil jU (by kernel_rfl) (fun b hb=>?_)
 refine A2 [0,4] ?_
 refine A4 (fun ht4=>?_) (fun ht4=>?_)
 ·have hl0:l=[]:=by simpa using hb ht4
  subst hl0
  refine Z2 ?_;refine M7 2 3 false ?_;refine Z4 ?_;exact AOc
 refine Z3 ?_;refine Z41 ?_;refine A5 ?_
 refine E6 jU Tryz.type24 ?_ ?_ ?_
 ·simp [Tryz.t24];omega
 ·simp [Tryz.t24];omega
 refine Oj ?_;exact AOi

theorem c94 (c:List Col) (hc:OkCols c) (row:List Val) (hf:∀v∈row,Fine v) (hrl:row.length≤1048576) (l:List Expr) (h:OkEs l) (Hp:List AObj):AFun Tryz.prog 94 [C4 l,Am c,Ce row] Hp (.tup [Ce (B2 c row l).1,A3 (B2 c row l).2]):=by
 refine Ae [.tmp 6,.tmp 7] [0,1,2] Tryz.func94 Tryz.ntmps94 (fun d=>?_)
 refine Z1 ?_;refine Y8 ?_;refine Z2 ?_;refine A2 [0,1,2,8] ?_;refine Z43 ?_
 have hlen:=h.len
 refine Na 8 3 ?_;refine Z12 ?_;refine ACk ?_
 refine Bi (α:=Nat) (fun x=>⟨35,A6 1 (Am c) (A6 2 (Ce row) (A6 8 (.slice true 3 (((l.take x).map fun e=>(Bx e c row).1).map Bq)) (A6 13 (C4 l) (A6 14 (A3 (l.length:Nat)) (A6 15 (A3 (x:Nat)) (fun _=>.any)))))),Hp,[],[],none⟩) (fun x=>x≤l.length∧∀(j:Nat) (y:Expr),j<x→l[j]? = some y→((Bx y c row).2 != 0)=false) (fun x=>l.length-x) (0) ⟨Au _,fun j y h=>by omega⟩ (Bo (by simp)) rfl (fun x hx=>?_)
 refine Z2 ?_;refine A2 [1,2,8,13,14,15,16] ?_
 refine Ck (fun ht16=>?_) (fun ht16=>?_)
 ·have hlt:x<l.length:=by simpa using ht16
  refine Z73 ?_
  refine A5 (h:=Ag (x) (Aa l[x]) (fun _=>B7 hlt)) (hr:=?_)
  refine Z99 ?_;refine A2 [1,2,8,10,13,14,15] ?_;refine Z15 ?_;refine A7 Tryz.call138 (AMf 61 l[x] (h.ok _ (Bl hlt)) (by decide) (h.rng _ (Bl hlt)) c hc row hrl (Ua hf) _) ?_;refine Rf ?_;refine A2 [1,2,8,11,12,13,14,15] ?_;refine Z7 ?_;refine A2 [1,2,8,11,12,13,14,15,27] ?_
  refine A4 (fun ht27=>?_) (fun ht27=>?_)
  ·have hm:=Sw hx.2 (Ab hlt) ht27
   refine Z1 ?_;refine M7 6 3 false ?_;refine q8 ?_;refine Z26 ?_;exact Z31
  refine Z3 ?_;refine bi ?_;refine Z58 ?_
  refine E6 jU Tryz.type24 ?_ ?_ ?_
  ·simp only [Ah,C1,Ai,B0,Bu,Tryz.t24];omega
  ·simp only [Ah,C1,Ai,B0,Bu,Tryz.t24];omega
  refine Oj ?_;refine ACk ?_;refine Q3 ?_;refine AO4 ?_
  rw [Nz hlt,Bj,Bm,Dc]
  exact D0 (own:=[]) (fun _=>.refl _) (by repeat (first|exact Bb|refine Ba (by first|exact Co|exact F9|exact Lv|exact Gv|exact D5|exact Ft|exact Low.ro _ Ji|(simp [or_imp,forall_and];done)) ?_)) (by simp) (by simp)
 have hxe:l.length≤x:=by simpa using ht16
 have hm:=Sv (c:=c) (row:=row) fun j y hy=>hx.2 j y (by have:=(Ad.1 hy).1;omega) hy
 rw [E9 hxe]
 refine Z27 ?_;refine Z15 ?_;refine Z16 ?_;exact A9 (B1 A8 A8) ⟨by rw [hm],rfl⟩ (hlow:=by simpa using (F9 (n:=Hp.length) (k:=3) (o:=false) (l:=l.map fun e=>(Bx e c row).1)))

theorem c49 (c:List Col) (hc:OkCols c) (m:Mov) (h:OkMov m) (row:List Val) (hf:∀v∈row,Fine v) (hl:row.length=c.length) (Hp:List AObj):AFun Tryz.prog 49 [Am c,Hs m,Ce row] Hp (.tup [Ce (Ef c m row).1,A3 (Ef c m row).2]):=by
 have hcl:=hc.len
 have hrk:=eu (c:=c) (row:=row) (l:=m.ahead)
 have hal:=h.ahead.len
 refine Ae [.tmp 6,.tmp 7] [0,1,2] Tryz.func49 Tryz.ntmps49 (fun d=>?_)
 refine Z15 ?_;refine A2 [0,2,4] ?_;refine Z23 ?_;refine A7 Tryz.call94 (c94 c hc row hf (by omega) m.ahead h.ahead _) ?_;refine Z59 ?_;refine A2 [0,2,4,8,9] ?_;refine Z7 ?_;refine A2 [0,2,4,8,9,22] ?_
 refine A4 (fun ht22=>?_) (fun ht22=>?_)
 ·have hm:Ef c m row=([],(B2 c row m.ahead).2):=if_pos ht22
  refine Z1 ?_;refine M7 6 3 false ?_;refine Z96 ?_;exact Z31
 have hm:Ef c m row=(Fm m.take c row++(B2 c row m.ahead).1,0):=if_neg (by rw [ht22];simp)
 refine Oi ?_;refine A2 [0,2,4,8,10] ?_;refine Z43 ?_;refine Na 10 3 ?_;refine Z12 ?_;refine A2 [2,4,8,10,24,25,26] ?_
 refine Bi (α:=Nat) (fun x=>⟨48,A6 2 (Ce row) (A6 4 (.ro (Kt m)) (A6 8 (Ce (B2 c row m.ahead).1) (A6 10 (.slice true 3 ((Fm m.take (c.take x) row).map Bq)) (A6 24 (Am c) (A6 25 (A3 (c.length:Nat)) (A6 26 (A3 (x:Nat)) (fun _=>.any))))))),Hp,[],[],none⟩) (fun x=>x≤c.length) (fun x=>c.length-x) (0) (Au _) (Bo (by simp [Fm])) rfl (fun x hx=>?_)
 refine Z2 ?_;refine A2 [2,4,8,10,24,25,26,27] ?_
 refine Ck (fun ht27=>?_) (fun ht27=>?_)
 ·have hlt:x<c.length:=by simpa using ht27
  have hxr:x<row.length:=by omega
  have hkl:=vu (take:=m.take) (c:=c.take x) (row:=row)
  rw [C1] at hkl
  refine Rh ?_
  refine A5 (h:=Ag (x) (Cc c[x]) (fun _=>B7 hlt)) (hr:=?_)
  refine l7 ?_;refine A2 [2,4,8,10,11,12,24,25,26] ?_;refine Z23 ?_;refine A7 Tryz.call95 (c95 m.take c[x].name h.takes _) ?_;refine A5 ?_;refine A2 [2,4,8,10,11,24,25,26,36] ?_
  refine A4 (fun ht36=>?_) (fun ht36=>?_)
  ·have hk:=AIn hlt hxr (by simpa using ht36)
   refine bi ?_;refine Z0 ?_
   refine A5 (h:=Ag (x) (Bq row[x]) (fun _=>B7 hxr)) (hr:=?_)
   refine Z58 ?_
   refine E6 jU Tryz.type24 ?_ ?_ ?_
   ·simp only [Ah,C1,Ai,B0,Bu,Tryz.t24];omega
   ·simp only [Ah,C1,Ai,B0,Bu,Tryz.t24];omega
   refine Oj ?_;refine A2 [2,4,8,10,24,25,26] ?_;refine Q3 ?_;refine A2 [2,4,8,10,24,25,26] ?_;refine qe ?_
   simp only [hk,Bj,Bm,Dc]
   exact D0 (own:=[]) (fun _=>.refl _) (by repeat (first|exact Bb|refine Ba (by first|exact Co|exact F9|exact Lv|exact Gv|exact D5|exact Ft|exact Low.ro _ Ji|(simp [or_imp,forall_and];done)) ?_)) (by simp) (by simp)
  have hk:=AF6 hlt hxr (by simpa using ht36)
  refine Z70 ?_;refine A2 [2,4,8,10,24,25,26] ?_;refine qe ?_
  simp only [hk,Bj,Bm,Dc]
  exact D0 (own:=[]) (fun _=>.refl _) (by repeat (first|exact Bb|refine Ba (by first|exact Co|exact F9|exact Lv|exact Gv|exact D5|exact Ft|exact Low.ro _ Ji|(simp [or_imp,forall_and];done)) ?_)) (by simp) (by simp)
 have hxe:c.length≤x:=by simpa using ht27
 rw [E9 hxe]
 have hkl:=vu (take:=m.take) (c:=c) (row:=row)
 refine Z27 ?_;refine F0 ?_;refine R.moveT ?_;refine A5 ?_
 refine E6 jU Tryz.type24 ?_ ?_ ?_
 ·simp only [Ah,C1,Ai,B0,Bu,Tryz.t24];omega
 ·simp only [Ah,C1,Ai,B0,Bu,Tryz.t24];omega
 refine Oj ?_;refine Z96 ?_;exact A9 (B1 A8 A8) ⟨by rw [hm,←Bj]<;>rfl,rfl⟩ (hlow:=by rw [←Bj];simpa using (F9 (n:=Hp.length) (k:=3) (o:=false) (l:=Fm m.take c row++(B2 c row m.ahead).1)))

theorem AU5 (a dd:List Col) (ha:a.length≤1048576) (hd:OkCols dd) (m:Mov) (h:OkMov m) (hb:m.back.length=m.take.length) (hs:∀y∈a,¬0≤Jp y.name m.take→∃j:Nat,Ay y.name dd=j∧j<dd.length) (row:List Val) (hf:∀v∈row,Fine v) (hl:row.length=dd.length) (Hp:List AObj):AFun Tryz.prog 112 [Am a,Am dd,Hs m,Ce row] Hp (.tup [Ce (D4 a dd m row).1,A3 (D4 a dd m row).2]):=by
 have hdl:=hd.len
 refine Ae [.tmp 8,.tmp 9] [0,1,2,3] Tryz.func112 Tryz.ntmps112 (fun d=>?_)
 refine Z15 ?_;refine A2 [0,1,3,6] ?_;refine Z23 ?_;refine A7 Tryz.call94 (c94 dd hd row hf (by omega) m.back h.back _) ?_;refine Z59 ?_;refine A2 [0,1,3,6,10,11] ?_;refine Z7 ?_;refine A2 [0,1,3,6,10,11,25] ?_
 refine A4 (fun ht25=>?_) (fun ht25=>?_)
 ·have hm:D4 a dd m row=([],(B2 dd row m.back).2):=if_pos ht25
  refine Z1 ?_;refine M7 8 3 false ?_;refine A5 ?_;refine A2 [8,9] ?_;refine Fc ?_;exact Z31
 have hm:D4 a dd m row=((a.map (U7 m.take (B2 dd row m.back).1 row dd)),0):=if_neg (by rw [ht25];simp)
 have hwl:=Mi (c:=dd) (row:=row) (l:=m.back) (by simpa using ht25)
 refine Oi ?_;refine A2 [0,1,3,6,10,12] ?_;refine Z43 ?_;refine Na 12 3 ?_;refine Z12 ?_;refine ACm ?_
 refine Bi (α:=Nat) (fun x=>⟨59,A6 1 (Am dd) (A6 3 (Ce row) (A6 6 (.ro (Kt m)) (A6 10 (Ce (B2 dd row m.back).1) (A6 12 (.slice true 3 (((a.map (U7 m.take (B2 dd row m.back).1 row dd)).take x).map Bq)) (A6 27 (Am a) (A6 28 (A3 (a.length:Nat)) (A6 29 (A3 (x:Nat)) (fun _=>.any)))))))),Hp,[],[],none⟩) (fun x=>x≤a.length) (fun x=>a.length-x) (0) (Au _) (Bo (by simp)) rfl (fun x hx=>?_)
 refine Z2 ?_;refine A2 [1,3,6,10,12,27,28,29,30] ?_
 refine Ck (fun ht30=>?_) (fun ht30=>?_)
 ·have hlt:x<a.length:=by simpa using ht30
  have hol:((a.map (U7 m.take (B2 dd row m.back).1 row dd)).take x).length≤x:=List.length_take_le _ _
  have hon:(a.map (U7 m.take (B2 dd row m.back).1 row dd)).take (x+1)=(a.map (U7 m.take (B2 dd row m.back).1 row dd)).take x++[U7 m.take (B2 dd row m.back).1 row dd a[x]]:=by
   rw [J4 (by rw [Ah];exact hlt),Pl]
  refine Z73 ?_
  refine A5 (h:=Ag (x) (Cc a[x]) (fun _=>B7 hlt)) (hr:=?_)
  refine Z99 ?_;refine A2 [1,3,6,10,12,14,27,28,29] ?_;refine Z79 ?_;refine A7 Tryz.call82 (c82 m.take a[x].name h.takes _) ?_;refine A5 ?_;refine A2 [1,3,6,10,12,14,15,27,28,29] ?_;refine Z1 ?_;refine A2 [1,3,6,10,12,14,15,27,28,29,39] ?_
  refine A4 (fun ht39=>?_) (fun ht39=>?_)
  ·have hj0:0≤Jp a[x].name m.take:=by simpa using ht39
   obtain ⟨j,hj,hjl⟩:=vw hj0
   have hw:U7 m.take (B2 dd row m.back).1 row dd a[x]=(B2 dd row m.back).1.getD j noV:=by unfold U7;rw [if_pos hj0,hj];rfl
   refine F0 ?_;refine R.moveT ?_;refine Z0 ?_
   refine A5 (h:=Ag (j) (Bq ((B2 dd row m.back).1.getD j noV)) (fun _=>AK4 (by omega))) (hr:=?_)
   refine Z58 ?_
   refine E6 jU Tryz.type24 ?_ ?_ ?_
   ·simp only [Ah,C1,Ai,B0,Bu,Tryz.t24];omega
   ·simp only [Ah,C1,Ai,B0,Bu,Tryz.t24];omega
   refine Oj ?_;refine ACm ?_;refine Z52 ?_;refine AC9 ?_;refine Z21 ?_;refine ACm ?_;refine qe ?_
   rw [hon,hw,Bj,Bm,Dc]
   exact D0 (own:=[]) (fun _=>.refl _) (by repeat (first|exact Bb|refine Ba (by first|exact Co|exact F9|exact Lv|exact Gv|exact D5|exact Ft|exact Low.ro _ Ji|(simp [or_imp,forall_and];done)) ?_)) (by simp) (by simp)
  have hjn:¬0≤Jp a[x].name m.take:=by simpa using ht39
  obtain ⟨j,hj,hjl⟩:=hs a[x] (Bl hlt) hjn
  have hw:U7 m.take (B2 dd row m.back).1 row dd a[x]=row.getD j noV:=by unfold U7;rw [if_neg hjn,hj];rfl
  refine Z3 ?_;refine bi ?_;refine Z68 ?_;refine A7 Tryz.call60 (c60 dd hd a[x].name _) ?_
  refine A5 (h:=Ag (j) (Bq (row.getD j noV)) (fun _=>AK4 (by omega))) (hr:=?_)
  refine Z58 ?_
  refine E6 jU Tryz.type24 ?_ ?_ ?_
  ·simp only [Ah,C1,Ai,B0,Bu,Tryz.t24];omega
  ·simp only [Ah,C1,Ai,B0,Bu,Tryz.t24];omega
  refine Oj ?_;refine ACm ?_;refine Q3 ?_;refine ACm ?_;refine qe ?_
  rw [hon,hw,Bj,Bm,Dc]
  exact D0 (own:=[]) (fun _=>.refl _) (by repeat (first|exact Bb|refine Ba (by first|exact Co|exact F9|exact Lv|exact Gv|exact D5|exact Ft|exact Low.ro _ Ji|(simp [or_imp,forall_and];done)) ?_)) (by simp) (by simp)
 have hxe:a.length≤x:=by simpa using ht30
 rw [E9 (by rw [Ah];exact hxe)]
 refine Z27 ?_;refine Z15 ?_;refine A2 [8,9] ?_;refine Fc ?_;exact A9 (B1 A8 A8) ⟨by rw [hm],rfl⟩ (hlow:=by simpa using (F9 (n:=Hp.length) (k:=3) (o:=false) (l:=(a.map (U7 m.take (B2 dd row m.back).1 row dd)))))

/-- What a card says of rows. -/
structure RW (l:List Row):Prop where
 len:l.length≤1048576
 each:∀x∈l,x.l.length≤1048576∧∀v∈x.l, -9223372036854775808≤v.n∧v.n≤9223372036854775807
def Rx (l:List Row):Bool:=decide ((60:Int)<(l.length:Int)) || l.any fun x=>Qq x.l
theorem ew {α:Type} {a b:List α} (h:a.length=b.length) (hp:∀(j:Nat) (y:α),j<a.length→a[j]? = some y→b[j]? = some y):a=b:=Rv h fun j y hj hy=>hp j y (by omega) hy
theorem c19 (l:List Row) (Hp:List AObj):AFun Tryz.prog 19 [Hu l] Hp (B4 (Rx l)):=by
 refine Ae [.tmp 2] [0] Tryz.func19 Tryz.ntmps19 (fun d=>?_)
 refine la ?_;refine A2 [0,6] ?_
 refine A4 (fun ht6=>?_) (fun ht6=>?_)
 ·rw [Ah] at ht6
  have hm:Rx l=true:=by unfold Rx;rw [ht6];rfl
  exact AC2
 rw [Ah] at ht6
 have hl50:l.length≤60:=by simp at ht6;omega
 refine Ri ?_;refine No ?_
 refine Bi (α:=Nat) (fun x=>⟨19,A6 0 (Hu l) (A6 3 (A3 (x:Nat)) (fun _=>.any)),Hp,[],[],none⟩) (fun x=>x≤l.length∧∀(j:Nat) (v:Row),j<x→l[j]? = some v→Qq v.l=false) (fun x=>l.length-x) (0) ⟨Au _,fun j v h=>by omega⟩ (Bo (by simp)) rfl (fun x hx=>?_)
 refine Z79 ?_;refine A2 [0,3,10] ?_
 refine A4 (fun ht10=>?_) (fun ht10=>?_)
 ·have hlt:x<l.length:=by simpa using ht10
  refine Tg ?_;refine Z1 ?_
  refine A5 (h:=Ag (x) (Eo l[x]) (fun _=>B7 hlt)) (hr:=?_)
  refine Z0 ?_;refine A7 Tryz.call45 (c45 l[x].l _) ?_;refine A2 [0,3,18] ?_
  refine A4 (fun ht18=>?_) (fun ht18=>?_)
  ·have hm:Rx l=true:=by unfold Rx;rw [D7];exact .inr (Fy.2 ⟨l[x],Bl hlt,ht18⟩)
   refine Z46 ?_;exact Y4
  refine Z20 ?_;refine Z50 ?_
  refine A5 (h:=Sa (h1:=fun _=>by omega) (h2:=fun _=>by omega)) (hr:=?_)
  refine A5 ?_;refine No ?_;refine Bt (x+1) ⟨hlt,Di hlt hx.2 ht18⟩ (by omega) ?_;exact Dx (by simp)
 have hxe:l.length≤x:=by simpa using ht10
 have hm:Rx l=false:=by
  unfold Rx
  rw [ht6,Fb,Iz]
  intro v hv
  obtain ⟨j,hj⟩:=Cb hv
  have:=hx.2 j v (by have:=(Ad.1 hj).1;omega) hj
  rw [this]
  simp
 exact AGr

theorem c56 (a b:List Val) (ha:a.length≤1048576) (Hp:List AObj):AFun Tryz.prog 56 [Ce a,Ce b] Hp (B4 (decide (a=b))):=by
 refine Ae [.tmp 4] [0,1] Tryz.func56 Tryz.ntmps56 (fun d=>?_)
 refine Z36 ?_;refine br ?_;refine A2 [0,1,10] ?_
 refine A4 (fun ht10=>?_) (fun ht10=>?_)
 ·have hm:decide (a=b)=false:=by rw [decide_eq_false];rintro rfl;simp at ht10
  exact l5
 have hlen:a.length=b.length:=by have:=ht10;simp at this;omega
 refine Ri ?_;refine bt ?_
 refine Bi (α:=Nat) (fun x=>⟨26,A6 0 (Ce a) (A6 1 (Ce b) (A6 5 (A3 (x:Nat)) (fun _=>.any))),Hp,[],[],none⟩) (fun x=>x≤a.length∧∀(j:Nat) (y:Val),j<x→a[j]? = some y→b[j]? = some y) (fun x=>a.length-x) (0) ⟨Au _,fun j y h=>by omega⟩ (Bo (by simp)) rfl (fun x hx=>?_)
 refine Z79 ?_;refine A2 [0,1,5,14] ?_
 refine A4 (fun ht14=>?_) (fun ht14=>?_)
 ·have hlt:x<a.length:=by simpa using ht14
  have hlb:x<b.length:=by omega
  refine Tg ?_;refine W.draw [0,0,3,7,0,0,48,112,255] 8 An (by kernel_rfl) ?_;refine Z8 ?_
  refine Aq (h:=Ag (x) (Bq a[x]) (fun _=>B7 hlt)) (hr:=?_)
  refine Z35 ?_
  refine Aq (h:=Ag (x) (Bq b[x]) (fun _=>B7 hlb)) (hr:=?_)
  refine ACe ?_
  refine A5 (h:=Q.neqAgg bv (Kh a[x].kind a[x].n b[x].kind b[x].n a[x].s b[x].s)) (hr:=?_)
  refine A2 [0,1,5,25] ?_
  refine A4 (fun ht25=>?_) (fun ht25=>?_)
  ·rw [Xb] at ht25
   have hm:decide (a=b)=false:=by
    rw [decide_eq_false]
    rintro rfl
    simp at ht25
   exact AGo
  rw [Xb] at ht25
  have heq:a[x]=b[x]:=by simpa using ht25
  refine im ?_;refine bt ?_
  exact Bt (x+1) ⟨hlt,K3 (p:=fun j y=>b[j]? = some y) hlt hx.2 (by rw [Ab hlb,heq])⟩ (by omega) (Dx rfl)
 have hxe:a.length≤x:=by simpa using ht14
 have hm:decide (a=b)=true:=decide_eq_true (ew hlen fun j y hj hy=>hx.2 j y (by omega) hy)
 refine Th ?_;exact Z94

theorem c24 (a b:List Row) (ha:a.length≤1048576) (he:∀x∈a,x.l.length≤1048576) (Hp:List AObj):AFun Tryz.prog 24 [Hu a,Hu b] Hp (B4 (decide (a=b))):=by
 refine Ae [.tmp 4] [0,1] Tryz.func24 Tryz.ntmps24 (fun d=>?_)
 refine Z36 ?_;refine br ?_;refine A2 [0,1,10] ?_
 refine A4 (fun ht10=>?_) (fun ht10=>?_)
 ·have hm:decide (a=b)=false:=by rw [decide_eq_false];rintro rfl;simp at ht10
  exact l5
 have hlen:a.length=b.length:=by have:=ht10;simp at this;omega
 refine Ri ?_;refine bt ?_
 refine Bi (α:=Nat) (fun x=>⟨42,A6 0 (Hu a) (A6 1 (Hu b) (A6 5 (A3 (x:Nat)) (fun _=>.any))),Hp,[],[],none⟩) (fun x=>x≤a.length∧∀(j:Nat) (y:Row),j<x→a[j]? = some y→b[j]? = some y) (fun x=>a.length-x) (0) ⟨Au _,fun j y h=>by omega⟩ (Bo (by simp)) rfl (fun x hx=>?_)
 refine Z79 ?_;refine A2 [0,1,5,14] ?_
 refine A4 (fun ht14=>?_) (fun ht14=>?_)
 ·have hlt:x<a.length:=by simpa using ht14
  have hlb:x<b.length:=by omega
  refine Tg ?_;refine W.draw [0,0,3,7,15,0,0,96,224,480,1023,2047,4095,4095,16383,32767,65535,4095,4095,397311,921599,1970175,4194303,8388607,16777215] 22 An (by kernel_rfl) ?_;refine Z8 ?_
  refine Aq (h:=Ag (x) (Eo a[x]) (fun _=>B7 hlt)) (hr:=?_)
  refine X1 ?_
  refine Aq (h:=Ag (x) (Eo b[x]) (fun _=>B7 hlb)) (hr:=?_)
  refine X1 ?_;refine Z87 ?_
  refine H.go (h:=Ag (x) (Eo a[x]) (fun _=>B7 hlt)) (hr:=?_)
  refine Z87 ?_;refine Z87 ?_
  refine H.go (h:=Ag (x) (Eo b[x]) (fun _=>B7 hlb)) (hr:=?_)
  refine Z87 ?_;refine Ik ?_;refine Ca Tryz.call56 (fun hB=>c56 a[x].l b[x].l (he _ (Bl hlt)) _) ?_;refine Z55 ?_;refine A2 [0,1,5,41] ?_
  refine A4 (fun ht41=>?_) (fun ht41=>?_)
  ·rw [u7] at ht41
   have hm:decide (a=b)=false:=by
    rw [decide_eq_false]
    rintro rfl
    simp at ht41
   exact AGo
  rw [u7] at ht41
  have heq:a[x]=b[x]:=by simpa using ht41
  refine im ?_;refine bt ?_
  exact Bt (x+1) ⟨hlt,K3 (p:=fun j y=>b[j]? = some y) hlt hx.2 (by rw [Ab hlb,heq])⟩ (by omega) (Dx rfl)
 have hxe:a.length≤x:=by simpa using ht14
 have hm:decide (a=b)=true:=decide_eq_true (ew hlen fun j y hj hy=>hx.2 j y (by omega) hy)
 refine Th ?_;exact Z94

theorem AQl (n:Nat) (x:Expr) (hok:okE n x) (hn:n≤1048576) (hrg:Dy Ge x=true) (c:List Col) (hc:OkCols c) (l:List Val) (hll:l.length≤1048576) (hlr:∀v∈l, -9223372036854775808≤v.n∧v.n≤9223372036854775807) (Hp:List AObj):AFun Tryz.prog 142 [Aa x,Am c,Ce l] Hp (.tup [B4 (Zt (Bx x c l)),A3 (U1 (Bx x c l))]):=by
 refine Ae [.tmp 6,.tmp 7] [0,1,2] Tryz.func142 Tryz.ntmps142 (fun d=>?_)
 refine Z15 ?_;refine A2 [1,2,3] ?_;refine Z15 ?_;refine A7 Tryz.call138 (AMf n x hok hn hrg c hc l hll hlr _) ?_;refine Rf ?_;refine A2 [8,9] ?_;refine Z29 ?_;refine Z77 ?_;refine Z38 ?_;refine Z55 ?_;refine A2 [8,9,28] ?_
 refine A4 (fun ht28=>?_) (fun ht28=>?_)
 ·have hm:U1 (Bx x c l)=10:=if_pos ht28
  refine Z50 ?_;refine A2 [8,9] ?_;refine Il ?_;refine AOd ?_;refine H.go ?_;refine H.call Tryz.call178 (fun hB=>j4 true _) ?_
  refine H.go (h:=Sb bv (fun w=>Kh (Bx x c l).1.kind (Bx x c l).1.n 3 1 (Bx x c l).1.s [] w)) (hr:=?_)
  refine Z35 ?_;refine Ik ?_;exact ANn
 have hm:U1 (Bx x c l)=(Bx x c l).2:=if_neg (by rw [ht28];simp)
 refine Z3 ?_;refine AOd ?_;refine H.go ?_;refine H.call Tryz.call178 (fun hB=>j4 true _) ?_
 refine H.go (h:=Sb bv (fun w=>Kh (Bx x c l).1.kind (Bx x c l).1.n 3 1 (Bx x c l).1.s [] w)) (hr:=?_)
 refine Z35 ?_;refine Ik ?_;exact ANn

theorem AU6 (q:Qry) (h:QW q) (c:List Col) (hc:OkCols c) (l:List Val) (hll:l.length≤1048576) (hlr:∀v∈l, -9223372036854775808≤v.n∧v.n≤9223372036854775807) (Hp:List AObj):AFun Tryz.prog 103 [Rl q,Am c,Ce l] Hp (.tup [B4 (Cj q c l).1,A3 (Cj q c l).2]):=by
 refine Ae [.tmp 6,.tmp 7] [0,1,2] Tryz.func103 Tryz.ntmps103 (fun d=>?_)
 refine Z15 ?_;refine A2 [1,2,3] ?_;refine Z7 ?_;refine A7 Tryz.call47 (c47 c hc l hll _) ?_;refine A5 ?_;refine A2 [1,2,3,11] ?_
 refine A4 (fun ht11=>?_) (fun ht11=>?_)
 ·have hm:Cj q c l=(false,1):=by unfold Cj;rw [if_pos ht11]
  refine Z1 ?_;refine Z16 ?_;exact Z31
 refine Ri ?_;refine A7 Tryz.call61 (c61 q h _) ?_;refine A5 ?_;refine A2 [1,2,3,14] ?_
 refine A4 (fun ht14=>?_) (fun ht14=>?_)
 ·have hm:Cj q c l=(true,0):=by unfold Cj;rw [if_neg (by rw [ht11];simp),if_pos ht14]
  refine Z1 ?_;refine Z16 ?_;exact Z31
 have hm:Cj q c l=(Zt (Bx q.whr c l),U1 (Bx q.whr c l)):=by unfold Cj;rw [if_neg (by rw [ht11];simp),if_neg (by rw [ht14];simp)]
 refine Y6 ?_;refine A7 Tryz.call142 (AQl 61 q.whr h.ok (by decide) h.rng c hc l hll hlr _) ?_;refine Z68 ?_;exact ANz

def AIq (c:List Col) (s:Str):Bool:=decide (Ay s c<0)
def ak (p:Str→Bool) (ks:List Str):Int:=if ks.any p then (ks.findIdx p:Int) else -1
theorem AFb {p:Str→Bool} {ks:List Str} {i:Nat} (h:i<ks.length) (hn:p ks[i]=true) (hp:∀(j:Nat) (y:Str),j<i→ks[j]? = some y→¬p y=true):(i:Int)=ak p ks:=by
 unfold ak
 rw [if_pos (Fy.2 ⟨_,Bl h,hn⟩)]
 congr 1
 refine (oy h |>.2 ⟨hn,fun j hj=>?_⟩).symm
 have:=hp j (ks[j]'(by omega)) hj (Ab (by omega))
 simpa using this
theorem si {p:Str→Bool} {ks:List Str} (hp:∀(j:Nat) (y:Str),ks[j]? = some y→¬p y=true):(-1:Int)=ak p ks:=by
 unfold ak
 rw [if_neg]
 intro h
 obtain ⟨y,hy,hn⟩:=Fy.1 h
 obtain ⟨j,hj⟩:=Cb hy
 exact hp j y hj hn
theorem AA2 (p:Str→Bool) (ks:List Str):decide (0≤ak p ks)=ks.any p:=by
 unfold ak
 cases ks.any p<;>simp
theorem c59 (c:List Col) (hc:OkCols c) (s:Str) (Hp:List AObj):AFun Tryz.prog 59 [Ac s,.ro [Am c]] Hp (B4 (AIq c s)):=by
 refine Ae [.tmp 3] [0,1] Tryz.func59 Tryz.ntmps59 (fun d=>?_)
 refine iq ?_;refine A7 Tryz.call60 (c60 c hc s _) ?_;refine Z0 ?_;refine A2 [3] ?_;refine Fc ?_;exact ACf

theorem AU7 (c:List Col) (hc:OkCols c) (ks:List Str) (hkl:ks.length≤1048576) (Hp:List AObj):AFun Tryz.prog 106 [G9 ks,.fn (.func 59) [] [.ro [Am c]]] Hp (A3 (ak (AIq c) ks)):=by
 refine Ae [.tmp 4] [0,1] Tryz.func106 Tryz.ntmps106 (fun d=>?_)
 refine io ?_
 refine Bi (α:=Nat) (fun x=>⟨19,A6 0 (G9 ks) (A6 1 (.fn (.func 59) [] [.ro [Am c]]) (A6 7 (A3 ks.length) (A6 8 (A3 (x:Nat)) (fun _=>.any)))),Hp,[],[],none⟩) (fun x=>x≤ks.length∧∀(j:Nat) (y:Str),j<x→ks[j]? = some y→¬AIq c y=true) (fun x=>ks.length-x) (0) (by simp) (Bo (by simp)) rfl (fun x hx=>?_)
 refine ig ?_
 refine Ck (fun ht9=>?_) (fun ht9=>?_)
 ·have hlt:x<ks.length:=by simpa using ht9
  refine ik ?_
  refine A5 (h:=Ag (x) (Ac ks[x]) (fun _=>B7 hlt)) (hr:=?_)
  refine A5 ?_;refine Od Tryz.call59 (c59 c hc ks[x] _) ?_;refine iv ?_
  refine A4 (fun ht16=>?_) (fun ht16=>?_)
  ·refine l3 ?_;refine Z48 ?_;exact A9 (Ao A8) ⟨by rw [AFb hlt ht16 hx.2],rfl⟩
  refine Z70 ?_;exact ANd
 refine Z27 ?_;refine Z44 ?_;exact A9 (Ao A8) ⟨by rw [si (Q9 (by simp at ht9;omega) hx.2)],rfl⟩

theorem AU8 (c:List Col) (hc:OkCols c) (ks:List Str) (hkl:ks.length≤1048576) (Hp:List AObj):AFun Tryz.prog 58 [G9 ks,.fn (.func 59) [] [.ro [Am c]]] Hp (B4 (ks.any (AIq c))):=by
 refine Ae [.tmp 4] [0,1] Tryz.func58 Tryz.ntmps58 (fun d=>?_)
 refine iq ?_;refine A7 Tryz.call106 (AU7 c hc ks hkl _) ?_;refine Z0 ?_;refine Z14 ?_;exact A9 (Ao A8) ⟨by rw [←AA2];try rfl,rfl⟩

theorem c25 (q:Qry) (h:QW q) (c:List Col) (hc:OkCols c) (Hp:List AObj):AFun Tryz.prog 25 [Rl q,Am c] Hp (A3 (Cu q c)):=by
 refine Ae [.tmp 4] [0,1] Tryz.func25 Tryz.ntmps25 (fun d=>?_)
 refine Z15 ?_;refine Jz ?_;refine Z33 ?_;refine A7 Tryz.call57 (c57 q h _) ?_;refine Rg ?_;refine Ca Tryz.call50 (C:=(((!(Md q))==false))) (fun hB=>c50 c hc _) ?_;refine Z55 ?_;refine A2 [2,3,14] ?_
 refine A4 (fun ht14=>?_) (fun ht14=>?_)
 ·have hm:Cu q c=1:=if_pos ht14
  exact AGw
 refine iu ?_;refine J9 ?_;refine A7 Tryz.call58 (AU8 c hc q.cols h.len _) ?_;refine A2 [2,3,18] ?_
 refine A4 (fun ht18=>?_) (fun ht18=>?_)
 ·have hm:Cu q c=9:=by unfold Cu;rw [if_neg (by rw [ht14];simp)];exact if_pos ht18
  exact AGw
 have ht18b:¬(q.cols.any fun s=>decide (Ay s c<0))=true:=fun e=>Bool.false_ne_true (ht18.symm.trans e)
 refine Ri ?_;refine A7 Tryz.call61 (c61 q h _) ?_;refine A5 ?_;refine A2 [2,3,21] ?_
 refine A4 (fun ht21=>?_) (fun ht21=>?_)
 ·have hm:Cu q c=0:=by unfold Cu;rw [if_neg (by rw [ht14];simp),if_neg ht18b,if_pos ht21]
  exact AGw
 have hm0:Cu q c=if (Gb q.whr c).2 != 0 then (Gb q.whr c).2 else if !Rw q.whr c 3 then 10 else 0:=by unfold Cu;rw [if_neg (by rw [ht14];simp),if_neg ht18b,if_neg (by rw [ht21];simp)]
 refine ir ?_;refine A7 Tryz.call62 (c62 61 q.whr h.ok (by decide) c hc _) ?_;refine Z59 ?_;refine A2 [2,3,6] ?_;refine Z1 ?_;refine A2 [2,3,6,30] ?_
 refine A4 (fun ht30=>?_) (fun ht30=>?_)
 ·have hm:Cu q c=(Gb q.whr c).2:=by rw [hm0,if_pos ht30]
  refine l3 ?_;exact Z60
 refine ir ?_;refine A7 Tryz.call63 (c63 61 q.whr h.ok (by decide) c hc 3 _) ?_;refine A5 ?_;refine A2 [36] ?_
 refine A4 (fun ht36=>?_) (fun ht36=>?_)
 ·have hm:Cu q c=10:=by rw [hm0,if_neg (by rw [ht30];simp),if_pos ht36]
  exact AGw
 have hm:Cu q c=0:=by rw [hm0,if_neg (by rw [ht30];simp),if_neg (by rw [ht36];simp)]
 refine Z3 ?_;refine Z44 ?_;exact lc

abbrev sj (r:Row):List AV:=[A3 r.key,Ce r.l]
theorem RW.at {rows:List Row} (h:RW rows) {k:Nat} (hk:k<rows.length):rows[k].l.length≤1048576∧∀v∈rows[k].l, -9223372036854775808≤v.n∧v.n≤9223372036854775807:=h.each _ (Bl hk)
theorem c54 (q:Qry) (c:List Col) (rows:List Row) (Hp:List AObj):AFun Tryz.prog 54 [Rl q,Am c,Hu rows] Hp (.fn (.func 102) [] [.ro [Hu rows],.ro (qoC false q),.ro [Am c]]):=by
 refine Ae [.tmp 6] [0,1,2] Tryz.func54 Tryz.ntmps54 (fun d=>?_)
 refine Z23 ?_;refine A2 [3,4,5] ?_;refine pz ?_;refine Z75 ?_;exact A9 (Ao A8) ⟨rfl,rfl⟩ (hlow:=by simp [or_imp,forall_and];exact fun a _=>Ak _ a)

theorem AU9 (l:Nat) (q:Qry) (h:QW q) (c:List Col) (hc:OkCols c) (rows:List Row) (hw:RW rows) (U:Nat→List AObj) (N:Nat→Prop) (Z:List AObj→Prop) (hlen:∀k,(U k).length=(U 0).length) (hll:l<(U 0).length)
  (hlw:∀k,∀x∈U k,ObjLow (U 0).length x) (h0:N 0) (hn:∀k y,rows[k]? = some y→N k→(Cj q c y.l).2=0→(Cj q c y.l).1=false→N (k+1)∧U (k+1)=U k)
  (he:∀k y X,rows[k]? = some y→N k→(Cj q c y.l).2≠0→AYield Tryz.prog l [.agg [A3 0,.nil],A3 (Cj q c y.l).2] (U k++X) (fun b H'=>∃V,H'=V++X∧V.length=(U 0).length∧(∀x∈V,ObjLow (U 0).length x)∧Z V))
  (hy:∀k y X,rows[k]? = some y→N k→(Cj q c y.l).2=0→(Cj q c y.l).1=true→AYield Tryz.prog l [Eo y,A3 0] (U k++X) (fun b H'=>(b=true∧N (k+1)∧H'=U (k+1)++X)∨(b=false∧∃V,H'=V++X∧V.length=(U 0).length∧(∀x∈V,ObjLow (U 0).length x)∧Z V)))
  (hR:N rows.length→Z (U rows.length)):ACall Tryz.prog 102 [.yield l,.ro [Hu rows],.ro (qoC false q),.ro [Am c]] (U 0) (fun _ H'=>Z H'):=by
 refine Ae [] [0,1,2,3] Tryz.func102 Tryz.ntmps102 (fun d=>?_)
 refine Z15 ?_;refine A2 [0,2,3,9,10,11] ?_
 refine Bi (α:=Nat) (fun x=>⟨37,A6 0 (.yield l) (A6 2 (.ro (qoC false q)) (A6 3 (.ro [Am c]) (A6 9 (Hu rows) (A6 10 (A3 rows.length) (A6 11 (A3 (x:Nat)) (fun _=>.any)))))),U x,[],[],none⟩) (fun x=>x≤rows.length∧N x) (fun x=>rows.length-x) (0) ⟨Au _,h0⟩ (Bo (by simp)) rfl (fun x hx=>?_)
 refine Z2 ?_;refine A2 [0,2,3,9,10,11,12] ?_
 refine Ck (fun ht12=>?_) (fun ht12=>?_)
 ·have hlt:x<rows.length:=by simpa using ht12
  have hwl:=hw.len
  refine Z73 ?_
  refine A5 (h:=Ag (x) (Eo rows[x]) (fun _=>B7 hlt)) (hr:=?_)
  refine Z99 ?_;refine A2 [0,2,3,6,9,10,11] ?_;refine Z23 ?_;refine A7 Tryz.call103 (AU6 q h c hc rows[x].l (hw.at hlt).1 (hw.at hlt).2 _) ?_;refine Z59 ?_;refine A2 [0,2,3,6,7,8,9,10,11] ?_;refine Z7 ?_;refine A2 [0,2,3,6,7,8,9,10,11,24] ?_
  refine A4 (fun ht24=>?_) (fun ht24=>?_)
  ·refine Z95 ?_;refine A5 ?_
   refine R.yield (l:=l) (args:=[.agg [A3 0,.nil],A3 (Cj q c rows[x].l).2]) (he x rows[x] _ (Ab hlt) hx.2 (by simpa using ht24)) ?_
   rintro b V O hV ⟨W,h2,h3,h4,h5⟩
   obtain ⟨rfl,rfl⟩:=J0 h2 (by rw [hV,hlen x,h3])
   refine ⟨fun _=>by rw [h3];exact h4,fun o ho=>(by cases ho),?_⟩
   refine ABu ?_;exact AKv
  refine Nc ?_;refine Z6 ?_
  refine G.yield (l:=l) (C:=((Cj q c rows[x].l).1==true)) (args:=[Eo rows[x],A3 0]) (fun hC=>hy x rows[x] _ (Ab hlt) hx.2 (by simpa using ht24) (by simpa using hC)) ?_
  intro b V O hV hb hb0
  have hVO:O=[AObj.cells 58 (sj rows[x])]∧(((Cj q c rows[x].l).1=false∧N (x+1)∧V=U (x+1))∨((Cj q c rows[x].l).1=true∧b=true∧N (x+1)∧V=U (x+1))∨((Cj q c rows[x].l).1=true∧b=false∧V.length=(U 0).length∧(∀y∈V,ObjLow (U 0).length y)∧Z V)):=by
   cases hcn:(Cj q c rows[x].l).1 with
   | false =>
    obtain ⟨h1,h2⟩:=hb0 (by rw [hcn];rfl)
    obtain ⟨h3,h4⟩:=hn x _ (Ab hlt) hx.2 (by simpa using ht24) hcn
    exact ⟨h2,.inl ⟨rfl,h3,h1.trans h4.symm⟩⟩
   | true =>
    rcases hb (by rw [hcn];rfl) with ⟨h1,h3,h2⟩|⟨h1,W,h2,h3,h4,h5⟩
    ·have h6:=J0 h2 (by rw [hV,hlen x,hlen (x+1)])
     exact ⟨h6.2,.inr (.inl ⟨rfl,h1,h3,h6.1⟩)⟩
    obtain ⟨rfl,rfl⟩:=J0 h2 (by rw [hV,hlen x,h3])
    exact ⟨rfl,.inr (.inr ⟨rfl,h1,h3,h4,h5⟩)⟩
  obtain ⟨rfl,hVO⟩:=hVO
  have hVl:V.length=(U 0).length:=by rw [hV,hlen x]
  have hVw:∀y∈V,ObjLow (U 0).length y:=by
   rcases hVO with ⟨_,_,rfl⟩|⟨_,_,_,rfl⟩|⟨_,_,_,h,_⟩
   ·exact hlw _
   ·exact hlw _
   exact h
  refine ⟨fun _=>by rw [hVl];exact hVw,fun o ho=>(by cases ho),?_⟩
  refine Z55 ?_;refine A2 [0,2,3,9,10,11,35] ?_
  refine A4 (fun ht35=>?_) (fun ht35=>?_)
  ·have hRV:Z V:=by
    rcases hVO with ⟨h1,_⟩|⟨h1,h2,_⟩|⟨_,_,_,_,h5⟩
    ·rw [h1] at ht35;simp at ht35
    ·rw [h1,h2] at ht35;simp at ht35
    exact h5
   refine Fc ?_;refine Z26 ?_;exact A9 .nores (hp:=hRV)
  have hVn:N (x+1)∧V=U (x+1):=by
   rcases hVO with ⟨_,h2,h3⟩|⟨_,_,h2,h3⟩|⟨h1,h2,_⟩
   ·exact ⟨h2,h3⟩
   ·exact ⟨h2,h3⟩
   rw [h1,h2] at ht35;simp at ht35
  obtain ⟨hN,rfl⟩:=hVn
  refine Z70 ?_;refine A2 [0,2,3,9,10,11] ?_;refine AGz ?_
  exact D0 (own:=[]) (fun _=>.refl _) (by repeat (first|exact Bb|refine Ba (by first|(simp [or_imp,forall_and];done)|(simp [or_imp,forall_and];exact fun a _=>Ak _ a)|(have:=hlen (x+1);simp;omega)) ?_)) (by simp) (by simp)
 have hxe:x=rows.length:=by have:=hx.1;simp at ht12;omega
 exact AKl

/-! What rewrite.turn, Forth, Back answer. -/
structure Pln where
 trees:List Expr
 whr:Expr
 lim:Int
def Kw:Pln:=⟨[],Av,0⟩
abbrev AA3 (p:Pln):List AV:=[C4 p.trees,A3 p.whr.op,Ac p.whr.text,A3 p.whr.val.kind,A3 p.whr.val.n,Ac p.whr.val.s,C4 p.whr.kids,A3 p.lim]
abbrev jt (p:Pln):AV:=.agg (AA3 p)
def Lc (c:List Col) (l:List Expr) (s:Str):Expr:=l.getD (Ay s c).toNat Av
def Jk (q:Qry) (c:List Col) (l:List Expr):List Expr:=if q.all then l else q.cols.map (Lc c l)
def Kx (q:Qry) (c:List Col) (l:List Expr):Pln×Int:=
 if q.whr.op==0 then (⟨Jk q c l,Av,q.lim⟩,0) else if (Cy q.whr c l).2 != 0 then (Kw,(Cy q.whr c l).2) else (⟨Jk q c l,(Cy q.whr c l).1,q.lim⟩,0)
def Ie (q:Qry) (c:List Col) (l:List Mov):Pln×Int:=
 if (Fl c l).2 != 0 then (Kw,1) else if Cu q (Fl c l).1 != 0 then (Kw,Cu q (Fl c l).1) else if (Fh c l).2 != 0 then (Kw,(Fh c l).2) else Kx q (Fl c l).1 (Fh c l).1
def Hm (q:Qry) (c:List Col) (l:List Mov):Pln×Int:=
 if (H8 c l).2 != 0 then (Kw,1) else if Cu q c != 0 then (Kw,Cu q c) else if (Gx c l).2 != 0 then (Kw,(Gx c l).2) else Kx q c (Gx c l).1
theorem AQm {q:Qry} {c:List Col} {l:List Expr} (h:(q.whr.op==0)=true):Kx q c l=(⟨Jk q c l,Av,q.lim⟩,0):=if_pos h
theorem AQn {q:Qry} {c:List Col} {l:List Expr} (h:(q.whr.op==0)=false) (h2:((Cy q.whr c l).2 != 0)=true):Kx q c l=(Kw,(Cy q.whr c l).2):=by
 unfold Kx;rw [if_neg (by rw [h];simp),if_pos h2]
theorem AQo {q:Qry} {c:List Col} {l:List Expr} (h:(q.whr.op==0)=false) (h2:((Cy q.whr c l).2 != 0)=false):Kx q c l=(⟨Jk q c l,(Cy q.whr c l).1,q.lim⟩,0):=by
 unfold Kx;rw [if_neg (by rw [h];simp),if_neg (by rw [h2];simp)]
theorem AA4 {q:Qry} {c:List Col} {l:List Expr} (h:q.all=true):Jk q c l=l:=by unfold Jk;rw [h];rfl
theorem sk {q:Qry} {c:List Col} {l:List Expr} (h:q.all=false):Jk q c l=q.cols.map (Lc c l):=by unfold Jk;rw [h];rfl
theorem AIr:Le (.agg [.nil,A3 0,Ac [],A3 0,A3 0,Ac [],.nil,A3 0]) (jt Kw):=.agg _ _ rfl (by simp [Kw,Av];repeat' (first|rfl|apply And.intro)) fun i y y' h h'=>by
 rcases i with _|_|_|_|_|_|_|_|i<;>simp at h h'<;>subst h<;>subst h'
 ·exact .inr ⟨rfl,_,rfl⟩
 ·exact .inl rfl
 ·exact .inl rfl
 ·exact .inl rfl
 ·exact .inl rfl
 ·exact .inl rfl
 ·exact .inr ⟨rfl,_,rfl⟩
 exact .inl rfl
/-! What rewrite.Run answers. -/
def Ws (p:Pln) (c:List Col) (l:List Val):Bool×Int:=if p.whr.op==0 then (true,0) else (Zt (Bx p.whr c l),U1 (Bx p.whr c l))
def Ld (p:Pln) (c:List Col) (l:List Val):Bool×Int:=if Ew c l then Ws p c l else (false,1)
def N0 (p:Pln) (c:List Col) (x:Row):Row×Int:=if (B2 c x.l p.trees).2 != 0 then (⟨0,[]⟩,(B2 c x.l p.trees).2) else (⟨x.key,(B2 c x.l p.trees).1⟩,0)
def Ub (p:Pln) (c:List Col) (x:Row):Bool:=((Ld p c x.l).2==0)&&(Ld p c x.l).1
def stP (p:Pln) (c:List Col) (x:Row):Bool×Int:=if Ub p c x then (true,(N0 p c x).2) else Ld p c x.l
def Nm (p:Pln) (c:List Col) (x:Row):Row:=(N0 p c x).1
/-- Rows one behind the other, till one is wrong, or there are n. -/
def Lq (h:Row→Bool×Int) (g:Row→Row) (n:Int):List Row→List Row→List Row×Int
 | [],o=>(o,0)
 | x::r,o=>if (h x).2 != 0 then ([],(h x).2) else if (h x).1 then (if ((o.length+1:Nat):Int)==n then (o++[g x],0) else Lq h g n r (o++[g x])) else Lq h g n r o
def Qs (p:Pln) (c:List Col):Bool:=(!(Jb c) || p.trees.any Ed) || ((p.whr.op != 0)&&Ed p.whr)
def cm (p:Pln) (c:List Col) (rows:List Row):List Row×Int:=if Qs p c then ([],1) else if p.lim==0 then ([],0) else Lq (stP p c) (Nm p c) p.lim rows []
def Mj (h:Row→Bool×Int) (g:Row→Row) (rows:List Row) (k:Nat):List Row:=((rows.take k).filter fun x=>(h x).1).map g
section
variable {h:Row→Bool×Int} {g:Row→Row} {n:Int} {rows:List Row} {k:Nat} {y:Row}
theorem ey (hk:rows[k]? = some y) (hf:(h y).1=false):Mj h g rows (k+1)=Mj h g rows k:=by
 unfold Mj
 rw [O6,hk,Pk]
 simp [Hz,hf]
theorem Xh (hk:rows[k]? = some y) (hf:(h y).1=true):Mj h g rows (k+1)=Mj h g rows k++[g y]:=by
 unfold Mj
 rw [O6,hk,Pk]
 simp [Hz,hf]
theorem nt (k:Nat):(Mj h g rows k).length≤rows.length:=by
 unfold Mj
 rw [Ah]
 exact AP7
theorem Uc (hk:rows[k]? = some y):rows.drop k=y::rows.drop (k+1):=by
 obtain ⟨h1,h2⟩:=Ad.1 hk
 rw [J1 h1,h2]
variable (h g n rows)
def NSt (k:Nat):Prop:=Lq h g n rows []=Lq h g n (rows.drop k) (Mj h g rows k)
variable {h g n rows}
theorem AIs (hk:rows[k]? = some y) (hN:NSt h g n rows k) (he:(h y).2≠0):Lq h g n rows []=([],(h y).2):=by
 rw [hN,Uc hk,Lq,if_pos (by simpa using he)]
theorem AFc (hk:rows[k]? = some y) (hN:NSt h g n rows k) (he:(h y).2=0) (hf:(h y).1=false):NSt h g n rows (k+1):=by
 unfold NSt
 rw [hN,Uc hk,Lq,if_neg (by rw [he];simp),if_neg (by rw [hf];simp),ey hk hf]
theorem AMg (hk:rows[k]? = some y) (hN:NSt h g n rows k) (he:(h y).2=0) (hf:(h y).1=true) (hl:(((Mj h g rows k).length+1:Nat):Int)≠n):NSt h g n rows (k+1):=by
 unfold NSt
 rw [hN,Uc hk,Lq,if_neg (by rw [he];simp),if_pos hf,if_neg (by simpa using hl),Xh hk hf]
theorem AIt (hk:rows[k]? = some y) (hN:NSt h g n rows k) (he:(h y).2=0) (hf:(h y).1=true) (hl:(((Mj h g rows k).length+1:Nat):Int)=n):Lq h g n rows []=(Mj h g rows (k+1),0):=by
 rw [hN,Uc hk,Lq,if_neg (by rw [he];simp),if_pos hf,if_pos (by simpa using hl),Xh hk hf]
theorem AIu (hN:NSt h g n rows rows.length):Lq h g n rows []=(Mj h g rows rows.length,0):=by
 rw [hN,Xm,Lq]
theorem AQp:NSt h g n rows 0:=rfl
end
/-- query.Run's rows are such ones. -/
theorem al {q:Qry} {c:List Col}:∀r o:List Row,Nl q c r o=Lq (fun x=>Cj q c x.l) (Ku q c) q.lim r o
 | [],o=>rfl
 | x::r,o=>by
  rw [Nl,Lq,al r o,al r (o++[Ku q c x])]
/-- What a plan must be, to be run. -/
structure PW (p:Pln):Prop where
 ok:okE 61 p.whr
 rng:Dy Ge p.whr=true
 tok:∀e∈p.trees,okE 61 e
 trng:∀e∈p.trees,Dy Ge e=true
 len:p.trees.length≤1048576
theorem AK5 {p:Pln} {c:List Col} {x:Row} (h:Ub p c x=true):stP p c x=(true,(N0 p c x).2):=if_pos h
theorem AK6 {p:Pln} {c:List Col} {x:Row} (h:Ub p c x=false):stP p c x=Ld p c x.l:=if_neg (by rw [h];simp)
def Ry (c:List Col) (x:Row) (s:Str):Val:=x.l.getD (Ay s c).toNat noV
theorem AFd {q:Qry} {c:List Col} {x:Row} (h:q.all=true):Ku q c x=x:=by unfold Ku;rw [h];rfl
theorem AA5 {q:Qry} {c:List Col} {x:Row} (h:q.all=false):Ku q c x=⟨x.key,q.cols.map (Ry c x)⟩:=by unfold Ku;rw [h];rfl
theorem vz {c:List Col} {s:Str} (h:¬Ay s c<0):∃j:Nat,Ay s c=(j:Int)∧j<c.length:=Gu h
theorem c55 (q:Qry) (h:QW q) (c:List Col) (hc:OkCols c) (x:Row) (hx:x.l.length≤1048576) (hr:c.length=x.l.length) (hn:∀s∈q.cols,¬Ay s c<0) (Hp:List AObj):AFun Tryz.prog 55 [Rl q,Am c,Eo x] Hp (Eo (Ku q c x)):=by
 refine Ae [.cell 6 58] [0,1,2] Tryz.func55 Tryz.ntmps55 (fun d=>?_)
 refine Z1 ?_;refine Rj ?_;refine A2 [1,3,5,6] ?_;refine AKq ?_;refine Z9 ?_;refine A2 [1,3,5,6,7] ?_;refine Z7 ?_;refine A2 [1,3,5,6,7,14] ?_
 refine A4 (fun ht14=>?_) (fun ht14=>?_)
 ·refine Z1 ?_;refine A7 Tryz.call48 (c48 x.l hx _) ?_;refine A5 ?_;refine Hh ?_;refine A2 [6,7] ?_;refine Z82 ?_;refine pw ?_;exact A9 (Ao (B6 jA jS)) ⟨by rw [AFd ht14],rfl⟩ (hlow:=by simp [or_imp,forall_and])
 refine Z3 ?_;refine Z43 ?_;refine Hg 1 1 3 ?_;refine Z68 ?_;refine A2 [1,5,6,7,21,22,23] ?_
 refine Bi (α:=Nat) (fun i=>⟨41,A6 1 (Am c) (A6 5 (.ro (sj x)) (A6 6 (.ptr (oid Hp.length 0) 0) (A6 7 (.ptr (oid Hp.length 1) 0) (A6 21 (G9 q.cols) (A6 22 (A3 (q.cols.length:Nat)) (A6 23 (A3 (i:Nat)) (fun _=>.any))))))),Hp,[.cells 58 [A3 0,.nil],.cells 58 [A3 x.key,.slice true 3 (((q.cols.take i).map (Ry c x)).map Bq)]],[],none⟩) (fun i=>i≤q.cols.length) (fun i=>q.cols.length-i) (0) (Au _) (Bo (by simp)) rfl (fun i hi=>?_)
 refine Z2 ?_;refine A2 [1,5,6,7,21,22,23,24] ?_
 refine Ck (fun ht24=>?_) (fun ht24=>?_)
 ·have hlt:i<q.cols.length:=by simpa using ht24
  have hkl:=h.len
  obtain ⟨j,hj,hjc⟩:=vz (hn _ (Bl hlt))
  have hk:0≤Ay q.cols[i] c∧(Ay q.cols[i] c).toNat<x.l.length:=by omega
  have hget:(x.l.map Bq)[(Ay q.cols[i] c).toNat]? = some (Bq (Ry c x q.cols[i])):=by
   rw [C5,Ab hk.2]
   unfold Ry
   rw [Bv,Ab hk.2]
   rfl
  refine Z73 ?_
  refine A5 (h:=Ag (i) (Ac q.cols[i]) (fun _=>B7 hlt)) (hr:=?_)
  refine Z0 ?_;refine A2 [1,5,6,7,9,21,22,23] ?_;refine Se [0,1,0,4,0,0,48,124,252,508,1023,2047,4095] [1] [.q 1 [] [0],.s [28] (some 0) [] [],.q 8 [] []] (fun _=>Hp) (fun B=>[.cells 58 [A3 0,.nil],.cells 58 (if B 0=true then [A3 x.key,.slice false 3 (((q.cols.take i).map (Ry c x)).map Bq)] else [A3 x.key,.slice true 3 (((q.cols.take i).map (Ry c x)).map Bq)])]) An (by kernel_rfl) rfl rfl (fun _=>rfl) ?_
  apply Y.q
  ·intro B hT hF
   exact Z56
  case hTF=>decide
  refine Y.loadOwnT (u:=Hp.length) (n:=1) (t':=58) (cs:=[A3 x.key,.slice true 3 (((q.cols.take i).map (Ry c x)).map Bq)]) (cs':=[A3 x.key,.slice false 3 (((q.cols.take i).map (Ry c x)).map Bq)]) Tryz.isAgg54 (fun B hB=>⟨rfl,by simp only [hB];rfl,by simp [upd],rfl⟩) ?_
  apply Y.q
  ·intro B hT hF
   refine X1 ?_;refine Du Tryz.call60 (c60 c hc q.cols[i] _) ?_
   refine Aq (h:=Ag ((Ay q.cols[i] c).toNat) (Bq (Ry c x q.cols[i])) (fun _=>hget)) (hr:=?_)
   exact pv
  case hTF=>decide
  refine Ej (tn:=[1]) (O:=[.cells 58 [A3 0,.nil],.cells 58 [A3 x.key,.slice false 3 (((q.cols.take i).map (Ry c x)).map Bq)]]) ?_
  refine E6 jU Tryz.type24 ?_ ?_ ?_
  ·simp only [Ah,C1,B0,Bu,Tryz.t24];omega
  ·simp only [Ah,C1,B0,Bu,Tryz.t24];omega
  refine AGs ?_;refine A2 [1,5,6,7,21,22,23] ?_;refine Q3 ?_;refine A2 [1,5,6,7,21,22,23] ?_;refine Bt (i+1) hlt (by omega) ?_;exact Dx (by rw [Ty hlt,Bj];rfl)
 have hxe:q.cols.length≤i:=by simpa using ht24
 refine Z27 ?_;refine Z82 ?_;refine Z75 ?_;exact A9 (Ao (B6 jA jS)) ⟨by rw [AA5 ht14,E9 hxe],rfl⟩ (hlow:=by simp [or_imp,forall_and];intro y hy;obtain ⟨s,_,rfl⟩:=C2.1 (O4 hy);simp [or_imp,forall_and])

end Go.SX.Nb
namespace Go.SX
variable [GI:GlobInv]
open Classical
section
variable {P:Program} {d:Nat} {st:St} {dst:Option Tmp} {ty:TypeId} {pos:String} {aft:Array Edge} {gd:Option (Nat×Bool)}
variable {sz:Nat} {fr:Nat→AV} {up own own':List AObj} {dfs:List Nat} {rnd:Option Nat} {Q:St→Prop} {ops:Array Oper} {rest:List Oper} {s:Nat}
theorem OpV.le {o:Oper} {st:St} {y y':AV} (h:OpV P d o st y) (hl:Le y y'):OpV P d o st y':=fun G a w hrel Q' =>
 Jw (fun a w ⟨G',v,e,r,k,hrep⟩=>⟨G',v,e,r,k,hrep.le hl⟩) (h G a w hrel Q')
variable {l0:List Oper} {E:List Oper→(Nat→AV)→Prop} {kd:Nat}
end
end Go.SX
namespace Go.SX
variable [GI:GlobInv]
open Classical
section
variable {P:Program} {d:Nat} {st:St} {ty:TypeId} {pos:String} {aft:Array Edge} {gd:Option (Nat×Bool)} {ats:Array TypeId}
variable {sz:Nat} {fr:Nat→AV} {up own own':List AObj} {dfs:List Nat} {rnd:Option Nat} {Q:St→Prop} {ops:Array Oper} {rest:List Oper} {s:Nat}
/-- A struct that is built, whose nil slices are taken as empty ones. -/
theorem R.buildLe {t:TypeId} {fs:Array Field} {places:Array (Nat×Nat)} {parts:List (Nat×Operand)} {z:Value} {zs cs:List AV} {ys:List (Nat×AV)} (y':AV) (hle:Le (.agg cs) y') (hu:P.underlying t=some (.struct fs))
  (hpl:∀w,(fs.mapM (m:=Sem) fun f=>do Pure.pure (f.offset,←Go.sizeOf f.type)).run P w=.ok places w) (hz:∀w,(zeroValue t).run P w=.ok z w) (hr:ARun P d ops rest ⟨sz,A6 s y' fr,up,own,dfs,rnd⟩ Q)
  (hzs:z.cells.toList.map Ey=zs:=by exact sL0) (hone:zs.all AV.one=true:=by exact sL2) (hys:(parts.map fun p=>(p.1,Bc fr p.2))=ys:=by exact sL0)
  (hf:M3 (fun i=>places[i]?) zs ys=some cs:=by simp [M3,go_sem]<;>rfl) (hs:Nat.blt s sz=true:=by rfl):
  ARun P d ops (⟨some s,.build t parts.toArray,ty,pos,aft,none⟩::rest) ⟨sz,fr,up,own,dfs,rnd⟩ Q:=by
 subst hys
 exact W4 rfl rfl hs (OpV.le (OpV.build hu hpl hz hzs.symm hone hf) hle) hr
end
end Go.SX
