/- On the way (part 9). -/
import Derived.Shelf.Strconv.AtoiAll
import Derived.Test.YtekiioamifokoaaGreatDoorRewriteNoneCardSaidPart8
set_option linter.all false
namespace Go.SX.Nb
open Go Go.SX Go.Proofs Go.RowKit
variable [ErrAt]
set_option maxRecDepth 4000
theorem AQ3 (s:Str) (hs:s.length≤1048576) (Hp:List AObj):AFun Tryz.prog 121 [Ac s] Hp (.tup [A3 (V2 s),.any]):=by
 refine AFun.libAny (xs:=[sv s]) (n:=.int .i64 (V2 s)) (fun w hg=>?_)
 have hz:(⟨s.toArray⟩:ByteArray).size≤1048576:=by simpa [ByteArray.size] using hs
 unfold V2
 rcases h:Lib.atoiAll s with v|_|_
 ·refine (Any.strconv_Atoi_ok Tryz.lays172 ⟨s.toArray⟩ (by omega) v h w).mono ?_
  rintro e w' ⟨rfl,hb⟩
  refine ⟨_,rfl,?_⟩
  rcases hb with rfl|⟨t,rfl⟩
  ·exact Below.refl _ _
  exact Lib.bytesWorld_below _ _ _
 ·refine (Any.strconv_Atoi_syntax Tryz.lays172 ⟨s.toArray⟩ (by omega) h _ w (ep hg) (.inr ⟨_,_,rfl⟩)).mono ?_
  rintro e w' ⟨N,rfl,_,_,hb⟩
  exact ⟨_,rfl,hb⟩
 refine (Any.strconv_Atoi_range Tryz.lays172 ⟨s.toArray⟩ (by omega) h _ w (Oj hg) (.inr ⟨_,_,rfl⟩)).mono ?_
 rintro e w' ⟨N,rfl,_,_,hb⟩
 exact ⟨_,rfl,hb⟩
end Go.SX.Nb
namespace Go.SX.Nb
open Go Go.SX Go.Proofs
variable [ErrAt]
set_option maxRecDepth 4000
theorem AJd {l:List Tok} {s:Str} {S:QS} (h:isQ l s S=true):(Af l S.i).kind≠0:=by
 unfold isQ at h
 simp only [At,Dq,beq_iff_eq] at h
 rcases h.1.2 with e|e<;>rw [e]<;>decide
theorem Kf {l:List Tok} (hl:TokEnd l) {s:Str} {S:QS} (hi:S.i<l.length) (h:isQ l s S=true):(F0 S).i<l.length:=hl.step hi (AJd h)
theorem Sp (l:List Tok) (e:Int) (S:QS):(Is l e S).i=S.i:=by unfold Is;split<;>rfl
theorem ky {l:List Tok} (hl:TokEnd l) {s:Str} {S:QS} (hi:S.i<l.length):(Si l s S).i<l.length:=by
 unfold Si
 split
 ·rename_i h;exact Kf hl hi h
 rw [Sp];exact hi
theorem Nk {l:List Tok} (hl:TokEnd l) {q:Qry} {S:QS} (hi:S.i<l.length) (hc:q.cols.length≤12):S.i≤(H8 l (q,S)).2.i∧(H8 l (q,S)).2.i<l.length∧(H8 l (q,S)).1.cols.length≤12:=by
 unfold H8
 split
 ·exact ⟨Am _,hi,hc⟩
 split
 ·exact ALv
 split
 ·exact ALv
 rename_i h1 h2 h3
 have hk:(Af l S.i).kind≠0:=by
  have:(Af l S.i).kind=1:=by simpa using h2
  rw [this];decide
 refine ⟨I6 _,hl.step hi hk,?_⟩
 simp only [beq_iff_eq] at h3
 rw [Av,J7]
 simp only at h3 ⊢
 omega
/-- Where the loop of names stands. -/
structure QNames (l:List Tok) (r0 r:Qry×QS):Prop where
 lt:r.2.i<l.length
 cols:r.1.cols.length≤12
 fuel:∃n,Lc l l.length r0=Lc l n r∧l.length-r.2.i≤n
theorem QNames.start {l:List Tok} {r:Qry×QS} (h1:r.2.i<l.length) (h2:r.1.cols.length≤12):QNames l r r:=⟨h1,h2,l.length,rfl,by omega⟩
theorem QNames.on {l:List Tok} (hl:TokEnd l) {r0 r:Qry×QS} (h:QNames l r0 r) (hq:isQ l [44] r.2=true):QNames l r0 (H8 l (r.1,F0 r.2))∧r.2.i+1≤(H8 l (r.1,F0 r.2)).2.i:=by
 obtain ⟨n,e,hn⟩:=h.fuel
 have hlt:=Kf hl h.lt hq
 obtain ⟨f1,f2,f3⟩:=Nk hl (q:=r.1) hlt h.cols
 have h1:=h.lt
 refine ⟨⟨f2,f3,n-1,?_,?_⟩,f1⟩
 ·rw [e]
  obtain ⟨m,rfl⟩:∃m,n=m+1:=⟨n-1,by omega⟩
  rw [Lc,if_pos hq]
  rfl
 have:r.2.i+1≤(H8 l (r.1,F0 r.2)).2.i:=f1
 omega
theorem QNames.out {l:List Tok} {r0 r:Qry×QS} (h:QNames l r0 r) (hq:isQ l [44] r.2=false):Lc l l.length r0=r:=by
 obtain ⟨n,e,_⟩:=h.fuel
 rw [e]
 cases n with
 | zero=>rfl
 | succ n=>rw [Lc,if_neg (by rw [hq];simp)]
theorem qA {Hp:List AObj} {o ox:Nat} {A B:AObj} (hl:o<Hp.length) (hne:ox≠o):((Hp.set o A).set ox B)[o]? = some A:=by rw [Bh hne];simp [hl]
theorem qB {Hp:List AObj} {o ox:Nat} {A B:AObj} (hl:ox<Hp.length):((Hp.set o A).set ox B)[ox]? = some B:=by simp [hl]
theorem ACe {Hp:List AObj} {o ox:Nat} {A A' B:AObj} (hne:ox≠o):((Hp.set o A).set ox B).set o A'=(Hp.set o A').set ox B:=by rw [Mr _ _ hne,Bu]
theorem AQ4 {Hp:List AObj} {o ox m:Nat} {A A' B B':AObj} (hl:o<Hp.length) (hlx:ox<Hp.length) (hne:ox≠o) (hA:ObjLow m A') (hB:ObjLow m B') (h:∀x∈(Hp.set o A).set ox B,ObjLow m x):∀x∈(Hp.set o A').set ox B',ObjLow m x:=by
 intro x hx
 obtain ⟨i,hi⟩:=C8 hx
 by_cases h1:i=ox
 ·subst h1
  rw [qB hlx] at hi
  injection hi with hi
  subst hi
  exact hB
 by_cases h2:i=o
 ·subst h2
  rw [qA hl hne] at hi
  injection hi with hi
  subst hi
  exact hA
 refine h x (B2 (i:=i) ?_)
 rw [Bh (Ne.symm h1),Bh (Ne.symm h2)] at hi ⊢
 exact hi
/-- A call that turns the parser and the query. -/
theorem sb {d:Nat} {ops:Array Oper} {rest:List Oper} {sz s:Nat} {fr:Nat→AV} {Hp:List AObj} {rnd:Option Nat} {Q:St→Prop} {ty:TypeId} {pos:String} {aft:Array Edge} {g:FuncId} {xs:List Operand} {ats:Array TypeId} {args:List AV} {l:List Tok} {S S':QS} {q q':Qry} {o oq:Nat}
  (hcall:∀args w,(callFunc g args).run Tryz.prog w=.ok (.enter g args) w) (hl:o<Hp.length) (hlq:oq<Hp.length) (hne:oq≠o)
  (h:ACall Tryz.prog g args ((Hp.set o (prq l S)).set oq (qo true q)++[]) (fun r H'=>r=V4∧H'=(((Hp.set o (prq l S)).set oq (qo true q)++[]).set o (prq l S')).set oq (qo true q')))
  (hr:ARun Tryz.prog d ops rest ⟨sz,A6 s V4 fr,(Hp.set o (prq l S')).set oq (qo true q'),[],[],rnd⟩ Q)
  (ha:xs.map (B5 fr)=args:=by simp only [go_sem,↓reduceIte,Nat.reduceEqDiff,Nat.reduceAdd]<;>rfl) (hs:Nat.blt s sz=true:=by rfl):
  ARun Tryz.prog d ops (⟨some s,.call ⟨.value (.func g),xs.toArray,ats⟩,ty,pos,aft,none⟩::rest) ⟨sz,fr,(Hp.set o (prq l S)).set oq (qo true q),[],[],rnd⟩ Q:=by
 refine Gv (up':=(Hp.set o (prq l S')).set oq (qo true q')) (own':=[]) hcall (h.mono fun r H' e=>⟨e.1,e.2.trans ?_⟩) (by simp) (fun hlow=>?_) hr (by simp) ha hs
 ·rw [Gs,Gs,ACe hne,Bu]
 exact AQ4 hl hlq hne Ig ACc hlow
theorem AJe (b:Bool) (q:Qry):AObj.cells 29 [Az b,.slice true 1 (q.cols.map Ac),A3 q.whr.op,Ac q.whr.text,A3 q.whr.val.kind,A3 q.whr.val.n,Ac q.whr.val.s,.slice false 6 (q.whr.kids.map A7),A3 q.lim]=qo true (M9 b q):=rfl
theorem AN1 {l:List Tok} {q:Qry} {S:QS} (h:isQ l [42] S=true):Nd l (q,S)=(M9 true q,F0 S):=if_pos h
theorem AN2 {l:List Tok} {q:Qry} {S:QS} (h:isQ l [42] S=false):Nd l (q,S)=Lc l l.length (H8 l (M9 false q,S)):=if_neg (by show ¬(isQ l [42] S=true);rw [h];simp)
theorem c69 (l:List Tok) (S:QS) (q:Qry) (o oq:Nat) (Hp:List AObj) (hne:oq≠o) (ho:Hp[o]? = some (prq l S)) (hoq:Hp[oq]? = some (qo true q)) (hi:S.i<l.length) (hl:TokEnd l) (hll:l.length≤500000) (hc12:q.cols.length≤12):ACall Tryz.prog 69 [.ptr o 0,.ptr oq 0] Hp (fun r H'=>r=V4∧H'=(Hp.set o (prq l (Nd l (q,S)).2)).set oq (qo true (Nd l (q,S)).1)):=by
 have hlo:=(Ad.1 ho).1
 have hlq:=(Ad.1 hoq).1
 refine Ae [] [0,1] Tryz.func69 Tryz.ntmps69 (fun d=>?_)
 refine Z7 ?_;refine Ch Tryz.call118 ho (by simp) Ig (ACd l S [42] o _ (Ag ho) hi (by omega)) ?_;refine Z0 ?_
 refine Cq jS (by rw [Bh (Ne.symm hne)];exact hoq) ?_ ?_
 ·simp
 refine A2 [0,1] ?_;refine Z15 ?_
 refine A5 (h:=B8 (qB hlq)) (hr:=?_)
 refine A2 [0,1,12] ?_
 refine A4 (fun ht12=>?_) (fun ht12=>?_)
 ·have hq:isQ l [42] S=true:=ht12
  have e:=AN1 (q:=q) hq
  rw [Y9 hq,hq]
  refine Z34 ?_;exact A8 .nores (hp:=⟨rfl,by rw [e];rfl⟩)
 have hq:isQ l [42] S=false:=ht12
 have e:=AN2 (q:=q) hq
 rw [Ya hq,hq]
 rw [AJe]
 refine il ?_
 have f0:=Nk hl (q:=M9 false q) hi hc12
 refine Z0 ?_
 refine sb Tryz.call119 hlo hlq hne (AN0 l S (M9 false q) o oq _ hne (Ag (qA hlo hne)) (Ag (qB hlq)) hi (by omega) (by show q.cols.length≤_;omega)) ?_
 refine A2 [0,1] ?_
 refine Bf (α:=Qry×QS) (fun r=>⟨21,A6 0 (.ptr o 0) (A6 1 (.ptr oq 0) (fun _=>.any)),(Hp.set o (prq l r.2)).set oq (qo true r.1),[],[],none⟩) (fun r=>QNames l (H8 l (M9 false q,S)) r) (fun r=>l.length-r.2.i) (H8 l (M9 false q,S)) (.start f0.2.1 f0.2.2) (Kt _) rfl (fun r hr=>?_)
 refine Z30 ?_;refine Ch Tryz.call118 (qA hlo hne) (by simp) Ig (ACd l r.2 [44] o _ (Ag (qA hlo hne)) hr.lt (by omega)) ?_;refine A2 [0,1,17] ?_
 refine A4 (fun ht17=>?_) (fun ht17=>?_)
 ·have hq1:isQ l [44] r.2=true:=ht17
  have hlt1:=Kf hl hr.lt hq1
  have hon:=hr.on hl hq1
  rw [Y9 hq1,ACe hne]
  refine zv ?_;refine Z22 ?_
  refine sb Tryz.call119 hlo hlq hne (AN0 l (F0 r.2) r.1 o oq _ hne (Ag (qA hlo hne)) (Ag (qB hlq)) hlt1 (by omega) (by have:=hr.cols;omega)) ?_
  refine A2 [0,1] ?_;refine M4 ?_
  refine Bg (H8 l (r.1,F0 r.2)) hon.1 (by have:=hr.lt;have:=hon.2;omega) (Dn rfl)
 have hq1:isQ l [44] r.2=false:=ht17
 have hout:=hr.out hq1
 rw [Ya hq1,ACe hne]
 refine Z59 ?_;refine K.lpE ?_;exact Es .nores (hp:=⟨rfl,by rw [e,hout]⟩)

theorem AFj {l:List Tok} {q:Qry} {S:QS} (h:isQ l P0 S=false):K1 l (q,S)=(q,S):=if_neg (by show ¬(isQ l P0 S=true);rw [h];simp)
theorem AFk {l:List Tok} {q:Qry} {S:QS} (h:isQ l P0 S=true) (h2:((atM l (S.i+1)).2.2.1 != 0)=true):K1 l (q,S)=(q,⟨S.i+1,(atM l (S.i+1)).2.2.1,(atM l (S.i+1)).2.2.2⟩):=by
 unfold K1
 rw [if_pos (by exact h),if_pos (by exact h2)]
theorem AFl {l:List Tok} {q:Qry} {S:QS} {k:Nat} (h:isQ l P0 S=true) (h2:((atM l (S.i+1)).2.2.1 != 0)=false) (hk:(atM l (S.i+1)).2.1=(k:Int)):K1 l (q,S)=(⟨q.all,q.cols,(atM l (S.i+1)).1,q.lim⟩,⟨k,S.code,S.at_⟩):=by
 unfold K1
 rw [if_pos (by exact h),if_neg (by show ¬_=true;rw [h2];simp),hk]
 rfl
theorem AFm {l:List Tok} {q:Qry} {S:QS} (h:isQ l Nf S=false):If l (q,S)=(q,S):=if_neg (by show ¬(isQ l Nf S=true);rw [h];simp)
theorem AFn {l:List Tok} {q:Qry} {S:QS} (h:isQ l Nf S=true) (h2:((Af l (S.i+1)).kind != 3)=true):If l (q,S)=(q,Is l 8 (F0 S)):=by
 unfold If
 rw [if_pos (by exact h),if_pos (by exact h2)]
theorem AFo {l:List Tok} {q:Qry} {S:QS} (h:isQ l Nf S=true) (h2:((Af l (S.i+1)).kind != 3)=false) (h3:decide ((100000:Int)<V2 (Af l (S.i+1)).text)=true):If l (q,S)=(q,Is l 3 (F0 S)):=by
 unfold If
 rw [if_pos (by exact h),if_neg (by show ¬_=true;rw [h2];simp),if_pos (by exact h3)]
theorem AFp {l:List Tok} {q:Qry} {S:QS} (h:isQ l Nf S=true) (h2:((Af l (S.i+1)).kind != 3)=false) (h3:decide ((100000:Int)<V2 (Af l (S.i+1)).text)=false):If l (q,S)=(⟨q.all,q.cols,q.whr,V2 (Af l (S.i+1)).text⟩,F0 (F0 S)):=by
 unfold If
 rw [if_pos (by exact h),if_neg (by show ¬_=true;rw [h2];simp),if_neg (by show ¬_=true;rw [h3];simp)]
theorem Kg {Hp:List AObj} {o:Nat} {A:AObj} (hl:o<Hp.length):(Hp.set o A)[o]? = some A:=by simp [hl]
theorem wr {Hp:List AObj} {o oq:Nat} {A B:AObj} (hne:oq≠o) (hoq:Hp[oq]? = some B):(Hp.set o A)[oq]? = some B:=by rw [Bh (Ne.symm hne)];exact hoq
theorem c70 (l:List Tok) (S:QS) (q:Qry) (o oq:Nat) (Hp:List AObj) (hne:oq≠o) (ho:Hp[o]? = some (prq l S)) (hoq:Hp[oq]? = some (qo true q)) (hi:S.i<l.length) (hl:TokEnd l) (hll:l.length≤500000) (hc12:q.cols.length≤12):ACall Tryz.prog 70 [.ptr o 0,.ptr oq 0] Hp (fun r H'=>r=V4∧H'=(Hp.set o (prq l (K1 l (q,S)).2)).set oq (qo true (K1 l (q,S)).1)):=by
 have hlo:=(Ad.1 ho).1
 have hlq:=(Ad.1 hoq).1
 refine Ae [] [0,1] Tryz.func70 Tryz.ntmps70 (fun d=>?_)
 refine Z30 ?_;refine Ch Tryz.call118 ho (by simp) Ig (ACd l S P0 o _ (Ag ho) hi (by omega)) ?_;refine A5 ?_;refine A2 [0,1,9] ?_
 refine A4 (fun ht9=>?_) (fun ht9=>?_)
 ·have hq:isQ l P0 S=false:=by simpa using ht9
  have e:=AFj (q:=q) hq
  rw [Ya hq,Ce ho]
  exact Z37
 have hq:isQ l P0 S=true:=by simpa using ht9
 have hi1:S.i+1<l.length:=Kf hl hi hq
 rw [Y9 hq]
 refine Z3 ?_;refine Fc [0,1,3,7,0,16,48,112,255,511,1023,1023,1023,0,0,26623,61439,131071] [] [.q 13 [] [],.s [4] none [] [],.s [6] none [] [],.s [4] none [] [],.q 1 [] [],.s [6] none [] []] (fun _=>Hp.set o (prq l (F0 S))) (fun _=>[]) Aj (by kernel_rfl) rfl rfl (fun _=>rfl) ?_
 apply Y.q
 ·intro B hT hF
  refine Z33 ?_
  refine Aq (h:=B8 (Kg hlo)) (hr:=?_)
  refine Z33 ?_
  refine Aq (h:=B8 (Kg hlo)) (hr:=?_)
  refine Dl Tryz.call120 (AMm l (S.i+1) hi1 hl hll (fun n Dv h1 h2=>bn hl (by omega) n Dv h1 h2) _) ?_;exact ij
 case hTF=>decide
 refine Y.allocP Tryz.zeroValue27 ?_;refine Y.allocP Tryz.zeroValue73 ?_;refine Y.storeP Tryz.sizeOf27 ?_
 apply Y.q
 ·intro B hT hF
  exact Z55
 case hTF=>decide
 refine Y.storeP Tryz.sizeOf73 ?_;refine Ed (tn:=[])  ?_;refine A2 [0,1,4,5,6] ?_;refine Z31 ?_;refine A2 [0,1,4,5,6,25] ?_
 refine A4 (fun ht25=>?_) (fun ht25=>?_)
 ·have e:=AFk (q:=q) hq ht25
  refine Z23 ?_
  refine Cq jS (Kg hlo) ?_ ?_
  ·simp
  refine A2 [] ?_;exact Z37
 obtain ⟨k,hk,hkl⟩:=fk hl (by omega) hi1 (by simpa using ht25)
 have e:=AFl (q:=q) hq ht25 hk
 rw [hk]
 refine Z3 ?_;refine Z22 ?_;refine Z57 ?_
 refine Cq jS (wr hne hoq) ?_ ?_
 ·intro z hz
  simp only [B4,Ej,or_false] at hz
  rcases hz with rfl|rfl|rfl|rfl|rfl|rfl
  all_goals first|exact D3|simp
 refine Z0 ?_
 refine Cq jS (qA hlo hne) ?_ ?_
 ·simp
 exact Z74

theorem c71 (l:List Tok) (S:QS) (q:Qry) (o oq:Nat) (Hp:List AObj) (hne:oq≠o) (ho:Hp[o]? = some (prq l S)) (hoq:Hp[oq]? = some (qo true q)) (hi:S.i<l.length) (hl:TokEnd l) (hll:l.length≤500000) (hc12:q.cols.length≤12):ACall Tryz.prog 71 [.ptr o 0,.ptr oq 0] Hp (fun r H'=>r=V4∧H'=(Hp.set o (prq l (If l (q,S)).2)).set oq (qo true (If l (q,S)).1)):=by
 have hlo:=(Ad.1 ho).1
 have hlq:=(Ad.1 hoq).1
 refine Ae [] [0,1] Tryz.func71 Tryz.ntmps71 (fun d=>?_)
 refine Z30 ?_;refine Ch Tryz.call118 ho (by simp) Ig (ACd l S Nf o _ (Ag ho) hi (by omega)) ?_;refine A5 ?_;refine A2 [0,1,9] ?_
 refine A4 (fun ht9=>?_) (fun ht9=>?_)
 ·have hq:isQ l Nf S=false:=by simpa using ht9
  have e:=AFm (q:=q) hq
  rw [Ya hq,Ce ho]
  exact Z37
 have hq:isQ l Nf S=true:=by simpa using ht9
 have hi1:S.i+1<l.length:=Kf hl hi hq
 rw [Y9 hq]
 refine Z3 ?_;refine Fc [0,1,3,7,0,16,48,112,255,511,0,2047] [] [.q 10 [] [],.s [4] none [] [],.s [4] none [] []] (fun _=>Hp.set o (prq l (F0 S))) (fun _=>[]) Aj (by kernel_rfl) rfl rfl (fun _=>rfl) ?_
 apply Y.q
 ·intro B hT hF
  refine Z33 ?_
  refine Aq (h:=B8 (Kg hlo)) (hr:=?_)
  refine Z33 ?_
  refine Aq (h:=B8 (Kg hlo)) (hr:=?_)
  refine Aq (h:=Ai ((S.i+1)) (I1 (Af l (S.i+1))) (fun _=>M7 hi1)) (hr:=?_)
  exact Z55
 case hTF=>decide
 refine AHx ?_;refine Ed (tn:=[])  ?_;refine A2 [0,1,4] ?_;refine Z1 ?_;refine Aa Tryz.call121 (AQ3 (Af l (S.i+1)).text (hl.text _) _) ?_;refine Z81 ?_;refine A2 [0,1,4,5] ?_;refine Z16 ?_;refine Z23 ?_;refine A2 [0,1,5,26] ?_
 refine A4 (fun ht26=>?_) (fun ht26=>?_)
 ·have e:=AFn (q:=q) hq ht26
  refine Z2 ?_;refine Ch Tryz.call72 (Kg hlo) (by simp) Ig (c72 l (F0 S) 8 o _ (Ag (Kg hlo)) hi1) ?_;refine A2 [] ?_;refine Fs ?_;exact Z75
 refine Z15 ?_;refine A2 [0,1,5,32] ?_
 refine A4 (fun ht32=>?_) (fun ht32=>?_)
 ·have e:=AFo (q:=q) hq ht26 ht32
  refine Z2 ?_;refine Ch Tryz.call72 (Kg hlo) (by simp) Ig (c72 l (F0 S) 3 o _ (Ag (Kg hlo)) hi1) ?_;refine A2 [] ?_;refine Fs ?_;exact Z75
 have e:=AFp (q:=q) hq ht26 ht32
 refine Z19 ?_;refine Z23 ?_
 refine Cq jS (wr hne hoq) ?_ ?_
 ·simp
 refine A2 [0] ?_;refine Z49 ?_
 refine A5 (h:=B8 (qA hlo hne)) (hr:=?_)
 refine A5 (h:=Qp (h2:=fun _=>by rw [show (F0 S).i=S.i+1 from rfl];omega)) (hr:=?_)
 refine Z0 ?_
 refine Cq jS (qA hlo hne) ?_ ?_
 ·simp
 exact Z74

theorem V5 {l:List Tok} (hl:TokEnd l):∀(n:Nat) (r:Qry×QS),r.2.i<l.length→r.1.cols.length≤12→(Lc l n r).2.i<l.length∧(Lc l n r).1.cols.length≤12
 | 0,r,h1,h2=>⟨h1,h2⟩
 | n+1,r,h1,h2=>by
  rw [Lc]
  split
  ·rename_i hq
   obtain ⟨_,f2,f3⟩:=Nk hl (q:=r.1) (Kf hl h1 hq) h2
   exact V5 hl n _ f2 f3
  exact ⟨h1,h2⟩
theorem kz {l:List Tok} (hl:TokEnd l) {r:Qry×QS} (h1:r.2.i<l.length) (h2:r.1.cols.length≤12):(Nd l r).2.i<l.length∧(Nd l r).1.cols.length≤12:=by
 unfold Nd
 split
 ·rename_i hq;exact ⟨Kf hl h1 hq,h2⟩
 obtain ⟨_,f2,f3⟩:=Nk hl (q:=M9 false r.1) h1 h2
 exact V5 hl _ _ f2 f3
theorem l3 {l:List Tok} (hl:TokEnd l) (hll:l.length≤500000) {r:Qry×QS} (h1:r.2.i<l.length) (h2:r.1.cols.length≤12):(K1 l r).2.i<l.length∧(K1 l r).1.cols.length≤12:=by
 unfold K1
 split
 ·rename_i hq
  have hi1:r.2.i+1<l.length:=Kf hl h1 hq
  split
  ·exact ⟨hi1,h2⟩
  rename_i h
  obtain ⟨k,hk,hkl⟩:=fk hl (by omega) hi1 (by simpa using h)
  refine ⟨?_,h2⟩
  show (atM l (r.2.i+1)).2.1.toNat<_
  rw [hk,Int.toNat_natCast]
  exact hkl
 exact ⟨h1,h2⟩
theorem l4 {l:List Tok} (hl:TokEnd l) {r:Qry×QS} (h1:r.2.i<l.length) (h2:r.1.cols.length≤12):(If l r).2.i<l.length∧(If l r).1.cols.length≤12:=by
 unfold If
 split
 ·rename_i hq
  have hi1:(F0 r.2).i<l.length:=Kf hl h1 hq
  split
  ·exact ⟨by rw [Sp];exact hi1,h2⟩
  split
  ·exact ⟨by rw [Sp];exact hi1,h2⟩
  rename_i h _
  have hk:(Af l (F0 r.2).i).kind≠0:=by
   have:(Af l (r.2.i+1)).kind=3:=by simpa using h
   show (Af l (r.2.i+1)).kind≠0
   rw [this];decide
  exact ⟨hl.step hi1 hk,h2⟩
 exact ⟨h1,h2⟩
def q0Q:Qry:=⟨false,[],Au, -1⟩
def s1Q (l:List Tok):QS:=Si l fu ⟨0,0,0⟩
def r1Q (l:List Tok):Qry×QS:=Nd l (q0Q,s1Q l)
def r2Q (l:List Tok):Qry×QS:=K1 l (r1Q l)
def r3Q (l:List Tok):Qry×QS:=If l (r2Q l)
def s4Q (l:List Tok):QS:=Si l [59] (r3Q l).2
def s5Q (l:List Tok):QS:=AMo l (s4Q l)
theorem AN3:Le (.agg [Az false,.nil,A3 0,Ac [],A3 0,A3 0,Ac [],.nil,A3 (-1)]) (.agg [Az false,.nil,A3 0,Ac [],A3 0,A3 0,Ac [],.slice false 6 [],A3 (-1)]):=by
 refine .agg _ _ rfl (by simp [AV.one,Value.oneCell',sv]) fun i y y' h1 h2=>?_
 match i with
 | 0=>simp at h1 h2;subst h1;subst h2;exact .inl rfl
 | 1=>simp at h1 h2;subst h1;subst h2;exact .inl rfl
 | 2=>simp at h1 h2;subst h1;subst h2;exact .inl rfl
 | 3=>simp at h1 h2;subst h1;subst h2;exact .inl rfl
 | 4=>simp at h1 h2;subst h1;subst h2;exact .inl rfl
 | 5=>simp at h1 h2;subst h1;subst h2;exact .inl rfl
 | 6=>simp at h1 h2;subst h1;subst h2;exact .inl rfl
 | 7=>simp at h1 h2;subst h1;subst h2;exact .inr ⟨rfl,6,rfl⟩
 | 8=>simp at h1 h2;subst h1;subst h2;exact .inl rfl
 | i+9=>simp at h1
abbrev Nx (q:Qry):AV:=.agg (qoC false q)
theorem AFq {n:Nat} {q:Qry}:Low n (Nx q):=by
 have h:∀z∈qoC false q,Low n z:=ACc (n:=n) (own:=false) (q:=q)
 simpa using h
theorem Yb {n:Nat}:oid n 4≠oid n 3:=by unfold oid;omega
theorem c6 (s:Str) (hs:s.length≤1048576) (Hp:List AObj):AFun Tryz.prog 30 [Ac s] Hp (.tup [Nx (Ma s).1,.agg [A3 (Ma s).2.1,A3 (Ma s).2.2]]):=by
 refine Ae [.cell 2 29,.cell 3 73] [0] Tryz.func30 Tryz.ntmps30 (fun d=>?_)
 refine zq ?_;refine A2 [0,2,3] ?_;refine Z2 ?_;refine Aa Tryz.call66 (c66 s hs _) ?_;refine Z13 ?_;refine ADr ?_;refine A2 [2,3,4,5] ?_;refine Z31 ?_;refine A2 [2,3,4,5,15] ?_
 refine A4 (fun ht15=>?_) (fun ht15=>?_)
 ·have e:Ma s=(kb,(Bd s).2.1,((Bd s).2.2:Int)):=if_pos ht15
  refine Fc [0,0,1,7] [2] [.q 2 [] [],.s [] (some 0) [] []] (fun _=>Hp) (fun _=>[.cells 29 [Az false,.nil,A3 0,Ac [],A3 0,A3 0,Ac [],.nil,A3 0],.cells 73 [A3 0,A3 0],.cells 73 [A3 (Bd s).2.1,A3 ((Bd s).2.2:Nat)]]) Aj (by kernel_rfl) rfl rfl (fun _=>rfl) ?_
  apply Y.q
  ·intro B hT hF
   refine D.build (places:=#[(0,1),(1,1),(2,6),(8,1)]) jU (fun w=>by simp) jZ ?_;exact Z55
  case hTF=>decide
  refine ALw ?_;refine Ed (tn:=[2])  ?_;refine AI2 ?_;refine ze ?_;exact AHi
 have e0:¬((Bd s).2.1 != 0)=true:=by rw [ht15];simp
 have hz:(Bd s).2.1=0:=by simpa using ht15
 have hle:=rc hz
 have hlen:=rn hz
 have hpos:0<(Bd s).1.length:=hle.pos
 have hl5:(Bd s).1.length≤500000:=by omega
 have f1:(s1Q (Bd s).1).i<(Bd s).1.length:=ky hle hpos
 have f2:(r1Q (Bd s).1).2.i<(Bd s).1.length∧(r1Q (Bd s).1).1.cols.length≤12:=kz hle (r:=(q0Q,s1Q (Bd s).1)) f1 (show ([]:List Str).length≤12 by decide)
 have f3:(r2Q (Bd s).1).2.i<(Bd s).1.length∧(r2Q (Bd s).1).1.cols.length≤12:=l3 hle hl5 f2.1 f2.2
 have f4:(r3Q (Bd s).1).2.i<(Bd s).1.length∧(r3Q (Bd s).1).1.cols.length≤12:=l4 hle f3.1 f3.2
 have f5:(s4Q (Bd s).1).i<(Bd s).1.length:=ky hle f4.1
 have hp:Ma s=rr (Bd s).1:=if_neg e0
 refine Qz ?_;refine Ob (places:=#[(0,1),(1,1),(2,2)]) jU (fun w=>by simp) jZ ?_;refine R.box ?_;refine A5 ?_;refine A2 [2,3,6] ?_;refine Ez ?_;refine Ob (places:=#[(0,1),(1,1),(2,6),(8,1)]) jU (fun w=>by simp) jZ ?_;refine R.wk 21 _ AN3 ?_;refine Z14 ?_;refine A2 [2,3,6,7] ?_;refine Ez ?_;refine Gw 4 1 1 ?_;refine A5 ?_
 refine Tg (n:=3) (x:=prq (Bd s).1 (s1Q (Bd s).1)) Tryz.call68 (c68 (Bd s).1 ⟨0,0,0⟩ fu (oid Hp.length 3) _ (by rw [As];rfl) hpos (by omega)) ?_
 refine AE1 ?_
 refine Gv (up':=Hp) (own':=[.cells 29 [Az false,.nil,A3 0,Ac [],A3 0,A3 0,Ac [],.nil,A3 0],.cells 73 [A3 0,A3 0],.cells 73 [A3 (Bd s).2.1,A3 ((Bd s).2.2:Nat)],prq (Bd s).1 (r1Q (Bd s).1).2,qo true (r1Q (Bd s).1).1]) Tryz.call69 ((c69 (Bd s).1 (s1Q (Bd s).1) q0Q (oid Hp.length 3) (oid Hp.length 4) _ Yb (by rw [As];rfl) (by rw [As];rfl) f1 hle hl5 (by decide)).mono fun r H' e=>⟨e.1,e.2.trans (by rw [Cp,Cp];rfl)⟩) rfl (fun h=>h) ?_
 refine AE1 ?_
 refine Gv (up':=Hp) (own':=[.cells 29 [Az false,.nil,A3 0,Ac [],A3 0,A3 0,Ac [],.nil,A3 0],.cells 73 [A3 0,A3 0],.cells 73 [A3 (Bd s).2.1,A3 ((Bd s).2.2:Nat)],prq (Bd s).1 (r2Q (Bd s).1).2,qo true (r2Q (Bd s).1).1]) Tryz.call70 ((c70 (Bd s).1 (r1Q (Bd s).1).2 (r1Q (Bd s).1).1 (oid Hp.length 3) (oid Hp.length 4) _ Yb (by rw [As];rfl) (by rw [As];rfl) f2.1 hle hl5 f2.2).mono fun r H' e=>⟨e.1,e.2.trans (by rw [Cp,Cp];rfl)⟩) rfl (fun h=>h) ?_
 refine AE1 ?_
 refine Gv (up':=Hp) (own':=[.cells 29 [Az false,.nil,A3 0,Ac [],A3 0,A3 0,Ac [],.nil,A3 0],.cells 73 [A3 0,A3 0],.cells 73 [A3 (Bd s).2.1,A3 ((Bd s).2.2:Nat)],prq (Bd s).1 (r3Q (Bd s).1).2,qo true (r3Q (Bd s).1).1]) Tryz.call71 ((c71 (Bd s).1 (r2Q (Bd s).1).2 (r2Q (Bd s).1).1 (oid Hp.length 3) (oid Hp.length 4) _ Yb (by rw [As];rfl) (by rw [As];rfl) f3.1 hle hl5 f3.2).mono fun r H' e=>⟨e.1,e.2.trans (by rw [Cp,Cp];rfl)⟩) rfl (fun h=>h) ?_
 refine AE1 ?_
 refine Tg (n:=3) (x:=prq (Bd s).1 (s4Q (Bd s).1)) Tryz.call68 (c68 (Bd s).1 (r3Q (Bd s).1).2 [59] (oid Hp.length 3) _ (by rw [As];rfl) f4.1 (by omega)) ?_
 refine A2 [2,3,6,7] ?_;refine Jw ?_;refine W.draw [0,1,3,7,0,16,48,112,255,511,1023,2047] 8 Aj (by kernel_rfl) ?_;refine Ti ?_;refine Z8 ?_;refine Z92 ?_
 refine A5 (h:=Ai ((s4Q (Bd s).1).i) (I1 (Af (Bd s).1 (s4Q (Bd s).1).i)) (fun _=>M7 f5)) (hr:=?_)
 refine Z13 ?_;refine A2 [2,3,6,7,43] ?_
 refine A4 (fun ht43=>?_) (fun ht43=>?_)
 ·have e5:s5Q (Bd s).1=Is (Bd s).1 8 (s4Q (Bd s).1):=if_pos ht43
  refine Z44 ?_
  refine Tg (n:=3) (x:=prq (Bd s).1 (Is (Bd s).1 8 (s4Q (Bd s).1))) Tryz.call72 (c72 (Bd s).1 (s4Q (Bd s).1) 8 (oid Hp.length 3) _ (by rw [As];rfl) f5) ?_
  refine A2 [2,3,6,7] ?_;refine Gg ?_;refine Z7 ?_;refine Z57 ?_;refine A2 [2,3,6,7,51] ?_
  refine A4 (fun ht51=>?_) (fun ht51=>?_)
  ·rw [←e5] at ht51 ⊢
   have e:Ma s=(kb,(s5Q (Bd s).1).code,(s5Q (Bd s).1).at_):=by rw [hp];exact if_pos ht51
   refine ALx ?_
   apply Y.q
   ·intro B hT hF
    exact AKf
   case hTF=>decide
   refine Z94 ?_;refine AI2 ?_;refine ze ?_;exact AHi
  rw [←e5] at ht51
  have e:Ma s=((r3Q (Bd s).1).1,0,0):=by rw [hp];exact if_neg (by show ¬(((s5Q (Bd s).1).code != 0)=true);rw [ht51];simp)
  refine Qz ?_;refine Z21 ?_;refine Fw ?_;exact AK4
 have e5:s5Q (Bd s).1=s4Q (Bd s).1:=if_neg (by rw [ht43];simp)
 refine Zi ?_;refine Z57 ?_;refine A2 [2,3,6,7,51] ?_
 refine A4 (fun ht51=>?_) (fun ht51=>?_)
 ·rw [←e5] at ht51 ⊢
  have e:Ma s=(kb,(s5Q (Bd s).1).code,(s5Q (Bd s).1).at_):=by rw [hp];exact if_pos ht51
  refine ALx ?_
  apply Y.q
  ·intro B hT hF
   exact AKf
  case hTF=>decide
  refine Z94 ?_;refine AI2 ?_;refine ze ?_;exact AHi
 rw [←e5] at ht51
 have e:Ma s=((r3Q (Bd s).1).1,0,0):=by rw [hp];exact if_neg (by show ¬(((s5Q (Bd s).1).code != 0)=true);rw [ht51];simp)
 refine Qz ?_;refine Z21 ?_;refine Fw ?_;exact AK4

structure QW (q:Qry):Prop where
 ok:okE 61 q.whr
 size:sizeE q.whr≤1048576
 rng:E0 Hb q.whr=true
 len:q.cols.length≤1048576
 names:∀s∈q.cols,s.length≤1048576
def noN (s:Str):Bool := !(Dw s)
def Yc (ks:List Str):Int:=if ks.any noN then (ks.findIdx noN:Int) else -1
theorem ACf {ks:List Str} {i:Nat} (h:i<ks.length) (hn:noN ks[i]=true) (hp:∀(j:Nat) (y:Str),j<i→ks[j]? = some y→¬noN y=true):(i:Int)=Yc ks:=by
 unfold Yc
 rw [if_pos (H9.2 ⟨_,Be h,hn⟩)]
 congr 1
 refine (mc h |>.2 ⟨hn,fun j hj=>?_⟩).symm
 have:=hp j (ks[j]'(by omega)) hj (Ab (by omega))
 simpa using this
theorem p8 {ks:List Str} (hp:∀(j:Nat) (y:Str),ks[j]? = some y→¬noN y=true):(-1:Int)=Yc ks:=by
 unfold Yc
 rw [if_neg]
 intro h
 obtain ⟨y,hy,hn⟩:=H9.1 h
 obtain ⟨j,hj⟩:=C8 hy
 exact hp j y hj hn
theorem wt (ks:List Str):decide (0≤Yc ks)=ks.any noN:=by
 unfold Yc
 cases ks.any noN<;>simp
theorem ACg {α:Type} {p:α→Bool} (l:List α):(!(l.any fun s => !(p s)))=l.all p:=by
 induction l with
 | nil=>rfl
 | cons a r ih=>rw [List.any_cons,List.all_cons,←ih];cases p a<;>simp
theorem AFr {q:Qry} (h:((((q.all != ((q.cols.length:Int)==0)) || decide ((12:Int)<(q.cols.length:Int))) || decide (q.lim < -1)) || decide ((100000:Int)<q.lim))=true):Ld q=false:=if_pos h
theorem AFs {q:Qry} (h:((((q.all != ((q.cols.length:Int)==0)) || decide ((12:Int)<(q.cols.length:Int))) || decide (q.lim < -1)) || decide ((100000:Int)<q.lim))=false):Ld q=((q.cols.all Dw)&&(!(Jn q) || Fi q.whr)):=if_neg (by rw [h];simp)
theorem AFt {q:Qry} (h:((((q.all != ((q.cols.length:Int)==0)) || decide ((12:Int)<(q.cols.length:Int))) || decide (q.lim < -1)) || decide ((100000:Int)<q.lim))=false):Ld q=(!(q.cols.any noN)&&(!(Jn q) || Ay q.whr)):=by rw [AFs h,←ACg,Fx];rfl
def Sq (q:Qry):Bool:=if decide ((20:Int)<(q.cols.length:Int)) || S8 q.whr then true else q.cols.any fun s=>decide ((100:Int)<(s.length:Int))
theorem AFu {q:Qry} (h:(decide ((20:Int)<(q.cols.length:Int)) || S8 q.whr)=true):Sq q=true:=if_pos h
theorem AFv {q:Qry} (h:(decide ((20:Int)<(q.cols.length:Int)) || S8 q.whr)=false) {s:Str} (hs:s∈q.cols) (hn:decide ((100:Int)<(s.length:Int))=true):Sq q=true:=by
 unfold Sq
 rw [if_neg (by rw [h];simp)]
 exact H9.2 ⟨s,hs,hn⟩
theorem AFw {q:Qry} (h:(decide ((20:Int)<(q.cols.length:Int)) || S8 q.whr)=false) (hn:∀s∈q.cols,decide ((100:Int)<(s.length:Int))=false):Sq q=false:=by
 unfold Sq
 rw [if_neg (by rw [h];simp),Jt]
 intro e
 obtain ⟨s,hs,h2⟩:=H9.1 e
 rw [hn s hs] at h2;cases h2
theorem p9 {α:Type} {l:List α} {P:α→Prop} {i:Nat} (h:i<l.length) (hx:∀y∈l.take i,P y) (hr:P l[i]):∀y∈l.take (i+1),P y:=by
 intro y hy
 rw [J8 h,Ei] at hy
 rcases hy with hy|hy
 ·exact hx y hy
 rw [B7] at hy;subst hy;exact hr
theorem wu {α:Type} {l:List α} {P:α→Prop} {i:Nat} (h:l.length≤i) (hx:∀y∈l.take i,P y):∀y∈l,P y:=by rwa [Eo h] at hx
theorem AQ5 (s:Str) (hs:s.length≤1048576) (Hp:List AObj):AFun Tryz.prog 104 [Ac s] Hp (Az (noN s)):=by
 refine Ae [.tmp 2] [0] Tryz.func104 Tryz.ntmps104 (fun d=>?_)
 refine Z43 ?_;refine Z2 ?_;exact ALg

theorem AN4 (ks:List Str) (hkl:ks.length≤1048576) (hks:∀s∈ks,s.length≤1048576) (Hp:List AObj):AFun Tryz.prog 106 [Fg ks,.fn (.func 104) [] []] Hp (A3 (Yc ks)):=by
 refine Ae [.tmp 4] [0,1] Tryz.func106 Tryz.ntmps106 (fun d=>?_)
 refine eg ?_
 refine Bf (α:=Nat) (fun x=>⟨19,A6 0 (Fg ks) (A6 1 (.fn (.func 104) [] []) (A6 7 (A3 ks.length) (A6 8 (A3 (x:Nat)) (fun _=>.any)))),Hp,[],[],none⟩) (fun x=>x≤ks.length∧∀(j:Nat) (y:Str),j<x→ks[j]? = some y→¬noN y=true) (fun x=>ks.length-x) (0) (by simp) (Bj (by simp)) rfl (fun x hx=>?_)
 refine ea ?_
 refine Cr (fun ht9=>?_) (fun ht9=>?_)
 ·have hlt:x<ks.length:=by simpa using ht9
  refine ee ?_
  refine A5 (h:=Ai (x) (Ac ks[x]) (fun _=>B6 hlt)) (hr:=?_)
  refine A5 ?_;refine Mz Tryz.call104 (AQ5 ks[x] (hks _ (Be hlt)) _) ?_;refine en ?_
  refine A4 (fun ht16=>?_) (fun ht16=>?_)
  ·refine ii ?_;refine Z62 ?_;exact A8 (Ak A9) ⟨by rw [ACf hlt ht16 hx.2],rfl⟩
  refine Z73 ?_;exact AKa
 refine Z28 ?_;refine Z41 ?_;exact A8 (Ak A9) ⟨by rw [p8 (Om (by simp at ht9;omega) hx.2)],rfl⟩

theorem AQ6 (ks:List Str) (hkl:ks.length≤1048576) (hks:∀s∈ks,s.length≤1048576) (Hp:List AObj):AFun Tryz.prog 58 [Fg ks,.fn (.func 104) [] []] Hp (Az (ks.any noN)):=by
 refine Ae [.tmp 4] [0,1] Tryz.func58 Tryz.ntmps58 (fun d=>?_)
 refine el ?_;refine Aa Tryz.call106 (AN4 ks hkl hks _) ?_;refine Z0 ?_;refine Z11 ?_;exact A8 (Ak A9) ⟨by rw [←wt];try rfl,rfl⟩

theorem c61 (q:Qry) (h:QW q) (Hp:List AObj):AFun Tryz.prog 61 [Nx q] Hp (Az (Jn q)):=by
 refine Ae [.tmp 2] [0] Tryz.func61 Tryz.ntmps61 (fun d=>?_)
 refine Z93 ?_;refine AHl ?_;refine R.wk 5 _ Se ?_;refine Aa Tryz.call109 (AIu 61 q.whr h.ok Au _) ?_;exact Z99

theorem c57 (q:Qry) (h:QW q) (Hp:List AObj):AFun Tryz.prog 57 [Nx q] Hp (Az (Ld q)):=by
 refine Ae [.tmp 2] [0] Tryz.func57 Tryz.ntmps57 (fun d=>?_)
 refine Z93 ?_;refine Z7 ?_;refine Z57 ?_;refine Z77 ?_;refine Zg ?_;refine Z35 ?_;refine Z48 ?_;refine A2 [1,25] ?_
 refine A4 (fun ht25=>?_) (fun ht25=>?_)
 ·rw [Ao] at ht25
  have e:=AFr ht25
  refine Z58 ?_;refine C9 ?_;exact A8 (Ak A9) ⟨by rw [e]<;>rfl,rfl⟩
 rw [Ao] at ht25
 have e:=AFt ht25
 refine Z98 ?_;refine Aa Tryz.call58 (AQ6 q.cols h.len h.names _) ?_;refine Qx ?_;refine C3 Tryz.call61 (fun hB=>c61 q h _) ?_;refine Pw ?_;refine C3 Tryz.call96 (fun hB=>c96 61 q.whr h.ok (by decide) _) ?_;refine Cd ?_;refine Z65 ?_;exact A8 (Ak A9) ⟨by rw [e]<;>rfl,rfl⟩

theorem c8 (q:Qry) (Hp:List AObj):AFun Tryz.prog 8 [Nx q] Hp (Az (Sq q)):=by
 refine Ae [.tmp 2] [0] Tryz.func8 Tryz.ntmps8 (fun d=>?_)
 refine Z93 ?_;refine ek ?_;refine Z6 ?_;refine C3 Tryz.call31 (fun hB=>c31 q.whr _) ?_;refine A5 ?_;refine A2 [1,12] ?_
 refine A4 (fun ht12=>?_) (fun ht12=>?_)
 ·rw [Ao] at ht12
  have e:=AFu ht12
  refine Z58 ?_;refine C9 ?_;exact AI5
 rw [Ao] at ht12
 have hl20:q.cols.length≤20:=by
  simp only [E1,decide_eq_false_iff_not] at ht12
  omega
 refine Oi ?_;refine A2 [1,3] ?_
 refine Bf (α:=Nat) (fun x=>⟨27,A6 1 (.ro (qoC false q)) (A6 3 (A3 (x:Nat)) (fun _=>.any)),Hp,[],[],none⟩) (fun x=>x≤q.cols.length∧∀s∈q.cols.take x,decide ((100:Int)<(s.length:Int))=false) (fun x=>q.cols.length-x) (0) ⟨Ar _,fun s hs=>by simp at hs⟩ (Bj (by simp)) rfl (fun x hx=>?_)
 refine ek ?_;refine A2 [1,3,17] ?_
 refine A4 (fun ht17=>?_) (fun ht17=>?_)
 ·have hlt:x<q.cols.length:=by simpa using ht17
  refine Oh ?_;refine Z15 ?_
  refine A5 (h:=Ai (x) (Ac q.cols[x]) (fun _=>B6 hlt)) (hr:=?_)
  refine Z13 ?_;refine A2 [1,3,26] ?_
  refine A4 (fun ht26=>?_) (fun ht26=>?_)
  ·have e:=AFv ht12 (Be hlt) ht26
   refine Z58 ?_;refine Z62 ?_;exact AI5
  refine ef ?_;refine A2 [1,3] ?_;exact Bg (x+1) ⟨hlt,p9 hlt hx.2 ht26⟩ (by omega) (Dn rfl)
 have hxe:q.cols.length≤x:=by simpa using ht17
 have e:=AFw ht12 (wu hxe hx.2)
 refine Pu ?_;refine Z58 ?_;exact AI5

theorem AN5 {q:Qry} (h:Sq q=false) (hg:E0 Hb q.whr=true):QW q:=by
 unfold Sq at h
 split at h
 ·cases h
 rename_i h1
 simp only [Dq,decide_eq_true_eq,not_or,Qf] at h1
 have hs:=qz h1.2
 refine ⟨hs.ok,by have:=hs.size;omega,hg,by omega,fun s hs=>?_⟩
 rw [Jt] at h
 have:¬((100:Int)<(s.length:Int)):=fun e=>h (H9.2 ⟨s,hs,by simpa using e⟩)
 omega
abbrev Uc (r:Rs):AV:=.tup [Bm r.1,A3 r.2]
abbrev sc (l:List Int):AV:=.slice false 1 (l.map A3)
abbrev Yd (c:List Col) (l:List Val):AV:=.agg [An c,Hf l]
theorem AQ7 (e:Int) (Hp:List AObj):AFun Tryz.prog 171 [A3 e] Hp (Uc (De e)):=by
 refine Ae [.cell 2 24,.tmp 3] [0] Tryz.func171 Tryz.ntmps171 (fun d=>?_)
 refine im ?_;refine A2 [0,2] ?_;refine AI0 ?_;refine A5 ?_;refine Wn ?_;exact A8 (B1 (B3 jA jS) A9)

theorem AQ8 (n e:Int) (Hp:List AObj):AFun Tryz.prog 263 [A3 n,A3 e] Hp (Uc (J4 (n,e))):=by
 refine Ae [.cell 4 24,.tmp 5] [0,1] Tryz.func263 Tryz.ntmps263 (fun d=>?_)
 refine im ?_;refine A2 [0,1,4] ?_;refine Z7 ?_;refine A2 [0,1,4,7] ?_
 refine A4 (fun ht7=>?_) (fun ht7=>?_)
 ·have hw:J4 (n,e)=De e:=if_pos ht7
  refine Z2 ?_;refine Z45 ?_;refine Z47 ?_;refine C9 ?_;exact ALy
 have hw:J4 (n,e)=(⟨1,n,[]⟩,0):=if_neg (by rw [ht7];simp)
 refine Qz ?_;refine Aa Tryz.call252 (AIg _ _) ?_;refine Z47 ?_;exact ALy

theorem l5 {vs:List Val} {ks:List Int} (hl:ks.length≤vs.length) {x:Nat} (hk:x<ks.length) (hx:Fk vs ks=Fk (vs.drop x) (ks.drop x)):Fk vs ks=((vs[x].kind==ks[x])&&Fk (vs.drop (x+1)) (ks.drop (x+1))):=by
 rw [hx,I4 hk,I4 (show x<vs.length by omega),Fk]
theorem ACh (vs:List Val) (ks:List Int) (hks:ks.length≤vs.length) (hk2:ks.length≤1048576) (Hp:List AObj):AFun Tryz.prog 262 [Hf vs,sc ks] Hp (Az (Fk vs ks)):=by
 refine Ae [.tmp 4] [0,1] Tryz.func262 Tryz.ntmps262 (fun d=>?_)
 refine Z36 ?_;refine Z31 ?_;refine A2 [0,7,8,9] ?_
 refine Bf (α:=Nat) (fun x=>⟨22,A6 0 (Hf vs) (A6 7 (sc ks) (A6 8 (A3 (ks.length:Nat)) (A6 9 (A3 (x:Nat)) (fun _=>.any)))),Hp,[],[],none⟩) (fun x=>x≤ks.length∧Fk vs ks=Fk (vs.drop x) (ks.drop x)) (fun x=>ks.length-x) (0) ⟨Ar _,rfl⟩ (Bj (by simp)) rfl (fun x hx=>?_)
 refine Z2 ?_;refine A2 [0,7,8,9,10] ?_
 refine Cr (fun ht10=>?_) (fun ht10=>?_)
 ·have hlt:x<ks.length:=by simpa using ht10
  have hls:x<vs.length:=by omega
  have hst:=l5 hks hlt hx.2
  refine Rz ?_
  refine A5 (h:=Ai (x) (A3 ks[x]) (fun _=>B6 hlt)) (hr:=?_)
  refine Z13 ?_;refine A2 [0,5,6,7,8,9] ?_;refine Z1 ?_
  refine A5 (h:=Ai (x) (Bm vs[x]) (fun _=>B6 hls)) (hr:=?_)
  refine Z57 ?_;refine A2 [0,7,8,9,20] ?_
  refine A4 (fun ht20=>?_) (fun ht20=>?_)
  ·have hm:Fk vs ks=false:=by rw [hst];simp only [bne_iff_ne,ne_eq] at ht20;simp [ht20]
   exact AE0
  have hn:Fk vs ks=Fk (vs.drop (x+1)) (ks.drop (x+1)):=by rw [hst];simp only [bne_eq_false_iff_eq] at ht20;simp [ht20]
  refine Z73 ?_;refine A2 [0,7,8,9] ?_;exact AKn
 have hxe:ks.length≤x:=by simpa using ht10
 have hm:Fk vs ks=true:=by rw [hx.2,m0 hxe];cases vs.drop x<;>rfl
 refine Z28 ?_;exact Z95

theorem AQ9 (t:Str) (c:Int) (Hp:List AObj):AFun Tryz.prog 284 [Ac t,A3 c] Hp (.tup [Az (Km t c).1,Az (Km t c).2]):=by
 refine Ae [.tmp 4,.tmp 5] [0,1] Tryz.func284 Tryz.ntmps284 (fun d=>?_)
 refine ec ?_;refine Z30 ?_;refine A2 [1,6] ?_;refine Vf ?_;refine A2 [1,6,7] ?_
 refine A4 (fun ht7=>?_) (fun ht7=>?_)
 ·exact uf
 refine Z1 ?_;refine A2 [1,6,11] ?_
 refine A4 (fun ht11=>?_) (fun ht11=>?_)
 ·exact uf
 refine Z1 ?_;refine A2 [1,6,15] ?_
 refine A4 (fun ht15=>?_) (fun ht15=>?_)
 ·exact uf
 refine Z1 ?_;refine A2 [1,6,19] ?_
 refine A4 (fun ht19=>?_) (fun ht19=>?_)
 ·exact uf
 refine Z1 ?_;refine A2 [1,6,23] ?_
 refine A4 (fun ht23=>?_) (fun ht23=>?_)
 ·exact uf
 refine Z1 ?_;refine A2 [1,27] ?_
 refine A4 (fun ht27=>?_) (fun ht27=>?_)
 ·exact uf
 refine Z19 ?_;refine eb ?_;exact ALz

theorem AN6 (a b:Int) (Hp:List AObj):AFun Tryz.prog 288 [A3 a,A3 b] Hp (.tup [A3 (Vh a b).1,A3 (Vh a b).2]):=by
 refine Ae [.tmp 4,.tmp 5] [0,1] Tryz.func288 Tryz.ntmps288 (fun d=>?_)
 refine ec ?_;refine Z1 ?_
 refine A5 (h:=Q.sub) (hr:=?_)
 refine A5 ?_;refine A2 [0,1,6] ?_;refine Z7 ?_;refine R.xor ?_;refine Z0 ?_;refine R.xor ?_;refine R.and ?_;refine A5 ?_;refine A2 [6,17] ?_
 refine A4 (fun ht17=>?_) (fun ht17=>?_)
 ·have hm:Vh a b=(0,4):=if_pos ht17
  exact AL0
 have hm:Vh a b=(IntKind.i64.wrap (a-b),0):=if_neg (by rw [ht17];simp)
 refine Qy ?_;exact AHq

theorem AQa (a b:Int) (Hp:List AObj):AFun Tryz.prog 308 [A3 a,A3 b] Hp (.tup [A3 (vz a b).1,A3 (vz a b).2]):=by
 refine Ae [.tmp 4,.tmp 5] [0,1] Tryz.func308 Tryz.ntmps308 (fun d=>?_)
 refine ec ?_;refine Z1 ?_
 refine A5 (h:=Q.add) (hr:=?_)
 refine A5 ?_;refine A2 [0,1,6] ?_;refine Z7 ?_;refine R.xor ?_;refine Z0 ?_;refine R.xor ?_;refine R.and ?_;refine A5 ?_;refine A2 [6,17] ?_
 refine A4 (fun ht17=>?_) (fun ht17=>?_)
 ·have hm:vz a b=(0,4):=if_pos ht17
  exact AL0
 have hm:vz a b=(IntKind.i64.wrap (a+b),0):=if_neg (by rw [ht17];simp)
 refine Qy ?_;exact AHq

theorem AQb (a:Int) (Hp:List AObj):AFun Tryz.prog 264 [A3 a] Hp (.tup [A3 (Vh 0 a).1,A3 (Vh 0 a).2]):=by
 refine Ae [.tmp 2,.tmp 3] [0] Tryz.func264 Tryz.ntmps264 (fun d=>?_)
 refine Z1 ?_;refine A2 [0] ?_;refine Z2 ?_;refine Aa Tryz.call288 (AN6 _ _ _) ?_;refine Z57 ?_;refine Z60 ?_;exact A8 (B1 A9 A9)

theorem AN7 (a:Int) (Hp:List AObj):AFun Tryz.prog 327 [A3 a] Hp (AA4 (V1 a)):=by
 refine Ae [.tmp 2] [0] Tryz.func327 Tryz.ntmps327 (fun d=>?_)
 refine Z43 ?_;refine Z7 ?_;refine A2 [0,4] ?_
 refine A4 (fun ht4=>?_) (fun ht4=>?_)
 ·have hm:V1 a=IntKind.u64.wrap (0-IntKind.u64.wrap a):=if_pos ht4
  refine Z23 ?_;refine Z4 ?_;exact Z20
 have hm:V1 a=IntKind.u64.wrap a:=if_neg (by rw [ht4];simp)
 refine Qy ?_;exact AL7

theorem AJf (n:Int):0≤IntKind.u64.wrap n∧IntKind.u64.wrap n<18446744073709551616:=by rw [IntKind.wrap_u64];omega
theorem ACi (a:Int):0≤V1 a∧V1 a<18446744073709551616:=by
 unfold V1
 split<;>exact AJf _
theorem AQc (x y:Int) (hx:0≤x∧x<18446744073709551616) (hy:0≤y∧y<18446744073709551616) (Hp:List AObj):AFun Tryz.prog 326 [AA4 x,AA4 y] Hp (.tup [AA4 (x*y / 18446744073709551616),AA4 (x*y % 18446744073709551616)]):=by
 obtain ⟨m,rfl⟩:=lw hx.1
 obtain ⟨n,rfl⟩:=lw hy.1
 refine Lt (xs:=[.int .u64 m,.int .u64 n]) (v:=.tuple #[.int .u64 ((m*n / 18446744073709551616:Nat):Int),.int .u64 ((m*n % 18446744073709551616:Nat):Int)]) (fun G w=>My rfl (fun i y u hy hu=>?_)) (fun w hg=>?_)
 ·match i with
  | 0=>simp at hy hu;subst hy;subst hu;exact .v _ _
  | 1=>simp at hy hu;subst hy;subst hu;exact .v _ _
  | i+2=>simp at hy
 refine (Any.bits_Mul64 Tryz.lays264 m n (by omega) (by omega) w).mono ?_
 rintro e w' ⟨rfl,rfl⟩
 exact ⟨rfl,Go.RowKit.Below.refl _ _⟩
theorem AQd (s t:Str) (Hp:List AObj):AFun Tryz.prog 307 [Ac s,Ac t] Hp (A3 (Lib.compareBytes s t)):=by
 refine Lt (xs:=[sv s,sv t]) (v:=.int .i64 (Lib.compareBytes s t)) (fun G w=>.v _ _) (fun w hg=>?_)
 refine (Any.strings_Compare Tryz.lays106 ⟨s.toArray⟩ ⟨t.toArray⟩ w).mono ?_
 rintro e w' ⟨rfl,rfl⟩
 exact ⟨rfl,Go.RowKit.Below.refl _ _⟩
theorem AQe (a b:Int) (Hp:List AObj):AFun Tryz.prog 309 [A3 a,A3 b] Hp (.tup [A3 (Zt a b).1,A3 (Zt a b).2]):=by
 refine Ae [.tmp 4,.tmp 5] [0,1] Tryz.func309 Tryz.ntmps309 (fun d=>?_)
 refine ec ?_;refine Z2 ?_;refine Aa Tryz.call327 (AN7 _ _) ?_;refine A5 ?_;refine Aa Tryz.call327 (AN7 _ _) ?_;refine Aa Tryz.call326 (AQc _ _ (ACi a) (ACi b) _) ?_;refine Z81 ?_;refine A2 [0,1,6,7] ?_;refine Z23 ?_;refine Z0 ?_;refine A2 [6,7,8] ?_;refine Z2 ?_;refine A2 [6,7,8,9] ?_;refine Z30 ?_;refine A2 [6,7,8,9,23] ?_
 refine A4 (fun ht23=>?_) (fun ht23=>?_)
 ·refine Z44 ?_
  refine A5 (h:=Q.add) (hr:=?_)
  refine A5 ?_;refine A2 [6,7,8,9] ?_;refine Gg ?_;refine ip ?_;refine Wo ?_;refine A2 [7,8,26] ?_
  refine A4 (fun ht26=>?_) (fun ht26=>?_)
  ·refine eb ?_;refine Z5 ?_
   exact A8 (B1 A9 A9) ⟨by
    have w1:IntKind.u64.wrap 9223372036854775808=9223372036854775808:=rfl
    simp_all [Zt]
    try first|(rw [if_pos ht26];simp;done)|(rw [if_neg (by omega)];simp;done),rfl⟩
  refine Z1 ?_;refine A2 [7,34] ?_
  refine A4 (fun ht34=>?_) (fun ht34=>?_)
  ·refine Z1 ?_;refine Z13 ?_;refine Z10 ?_;refine Z5 ?_
   exact A8 (B1 A9 A9) ⟨by
    have w1:IntKind.u64.wrap 9223372036854775808=9223372036854775808:=rfl
    simp_all [Zt]
    try first|(rw [if_pos ht26];simp;done)|(rw [if_neg (by omega)];simp;done),rfl⟩
  refine Z19 ?_;refine Z23 ?_;refine Z10 ?_
  exact A8 (B1 A9 A9) ⟨by
   have w1:IntKind.u64.wrap 9223372036854775808=9223372036854775808:=rfl
   simp_all [Zt]
   try first|(rw [if_pos ht26];simp;done)|(rw [if_neg (by omega)];simp;done),rfl⟩
 refine Oh ?_;refine Z15 ?_;refine Wo ?_;refine A2 [7,8,26] ?_
 refine A4 (fun ht26=>?_) (fun ht26=>?_)
 ·refine eb ?_;refine Z5 ?_
  exact A8 (B1 A9 A9) ⟨by
   have w1:IntKind.u64.wrap 9223372036854775808=9223372036854775808:=rfl
   simp_all [Zt]
   try first|(rw [if_pos ht26];simp;done)|(rw [if_neg (by omega)];simp;done),rfl⟩
 refine Z1 ?_;refine A2 [7,34] ?_
 refine A4 (fun ht34=>?_) (fun ht34=>?_)
 ·refine Z1 ?_;refine Z13 ?_;refine Z10 ?_;refine Z5 ?_
  exact A8 (B1 A9 A9) ⟨by
   have w1:IntKind.u64.wrap 9223372036854775808=9223372036854775808:=rfl
   simp_all [Zt]
   try first|(rw [if_pos ht26];simp;done)|(rw [if_neg (by omega)];simp;done),rfl⟩
 refine Z19 ?_;refine Z23 ?_;refine Z10 ?_
 exact A8 (B1 A9 A9) ⟨by
  have w1:IntKind.u64.wrap 9223372036854775808=9223372036854775808:=rfl
  simp_all [Zt]
  try first|(rw [if_pos ht26];simp;done)|(rw [if_neg (by omega)];simp;done),rfl⟩

theorem AQf (a b:Int) (Hp:List AObj):AFun Tryz.prog 310 [A3 a,A3 b] Hp (.tup [A3 (w4 a b).1,A3 (w4 a b).2]):=by
 refine Ae [.tmp 4,.tmp 5] [0,1] Tryz.func310 Tryz.ntmps310 (fun d=>?_)
 refine ec ?_;refine ip ?_;refine A2 [0,1,6] ?_
 refine A4 (fun ht6=>?_) (fun ht6=>?_)
 ·refine eb ?_;exact AKq
 refine eh ?_;refine Z0 ?_;refine A2 [0,1,9] ?_
 refine A4 (fun ht9=>?_) (fun ht9=>?_)
 ·refine eb ?_;exact AKq
 refine Z19 ?_;refine Z1 ?_
 refine A5 (h:=Q.quo (h0:=fun _=>by simpa using ht6)) (hr:=?_)
 refine Z0 ?_;refine Z10 ?_;exact A8 (B1 A9 A9) ⟨by simp_all [w4]<;>(rw [if_neg (by rintro ⟨rfl,rfl⟩;simp_all)];exact ⟨rfl,rfl⟩),rfl⟩

theorem wv {a b:Int} (ha : -9223372036854775808≤a∧a≤9223372036854775807):IntKind.i64.wrap (a.tmod b)=a.tmod b:=by
 have h1:(a.tmod b).natAbs≤a.natAbs:=by rw [Int.natAbs_tmod];exact Nat.mod_le _ _
 rw [IntKind.wrap_i64]
 rcases Int.le_total 0 a with h|h
 ·have:=Int.tmod_nonneg b h
  omega
 have h2:=Int.tmod_nonneg b (show 0 ≤ -a by omega)
 rw [Int.neg_tmod] at h2
 omega
theorem AQg (a b:Int) (ha : -9223372036854775808≤a∧a≤9223372036854775807) (Hp:List AObj):AFun Tryz.prog 311 [A3 a,A3 b] Hp (.tup [A3 (fm a b).1,A3 (fm a b).2]):=by
 refine Ae [.tmp 4,.tmp 5] [0,1] Tryz.func311 Tryz.ntmps311 (fun d=>?_)
 refine ec ?_;refine Z30 ?_;refine A2 [0,1,6] ?_;refine Vf ?_;refine A2 [0,1,6,7] ?_
 refine A4 (fun ht7=>?_) (fun ht7=>?_)
 ·have hm:fm a b=(0,5):=if_pos ht7
  refine eb ?_;exact AL1
 refine Z1 ?_;refine A2 [0,1,9] ?_
 refine A4 (fun ht9=>?_) (fun ht9=>?_)
 ·have hm:fm a b=(0,0):=by unfold fm;rw [if_neg (by rw [ht7];simp),if_pos ht9]
  refine eb ?_;exact AL1
 have hm:fm a b=(a.tmod b,0):=by unfold fm;rw [if_neg (by rw [ht7];simp),if_neg (by rw [ht9];simp),wv ha]
 refine Z19 ?_;refine Z1 ?_
 refine A5 (h:=Q.rem (h0:=fun _=>by simpa using ht7)) (hr:=?_)
 refine Z0 ?_;exact AHq

theorem AN8 (a:Int) (Hp:List AObj):AFun Tryz.prog 323 [A3 a] Hp (Az false):=by
 refine Ae [.tmp 2] [0] Tryz.func323 Tryz.ntmps323 (fun d=>?_)
 refine Z43 ?_;refine Z23 ?_;exact ALb

theorem AN9 (a:Int) (Hp:List AObj):AFun Tryz.prog 324 [A3 a] Hp (Az false):=by
 refine Ae [.tmp 2] [0] Tryz.func324 Tryz.ntmps324 (fun d=>?_)
 refine Z43 ?_;refine Z23 ?_;exact ALb

theorem AQh (a b:Int) (Hp:List AObj):AFun Tryz.prog 305 [A3 a,A3 b] Hp (A3 (Nw a b)):=by
 refine Ae [.tmp 4] [0,1] Tryz.func305 Tryz.ntmps305 (fun d=>?_)
 refine Z36 ?_;refine Z2 ?_;refine Aa Tryz.call323 (AN8 _ _) ?_;refine A5 ?_;refine Vg ?_;refine Z2 ?_;refine Aa Tryz.call323 (AN8 _ _) ?_;refine A5 ?_;refine A2 [0,1,5,6] ?_;refine Z30 ?_;refine A2 [0,1,6,11] ?_
 refine A4 (fun ht11=>?_) (fun ht11=>?_)
 ·cases ht11
 refine Oi ?_;refine A2 [0,1,13] ?_
 refine A4 (fun ht13=>?_) (fun ht13=>?_)
 ·cases ht13
 refine iq ?_;refine A2 [0,1,16] ?_
 refine A4 (fun ht16=>?_) (fun ht16=>?_)
 ·have hm:Nw a b = -1:=if_pos ht16
  exact ik
 refine iq ?_;refine A2 [19] ?_
 refine A4 (fun ht19=>?_) (fun ht19=>?_)
 ·have hm:Nw a b=1:=by unfold Nw;rw [if_neg (by rw [ht16];simp),if_pos ht19]
  exact ik
 have hm:Nw a b=0:=by unfold Nw;rw [if_neg (by rw [ht16];simp),if_neg (by rw [ht19];simp)]
 refine Z3 ?_;exact Z95

theorem AQi (a b:Int) (Hp:List AObj):AFun Tryz.prog 306 [A3 a,A3 b] Hp (A3 (Nw a b)):=by
 refine Ae [.tmp 4] [0,1] Tryz.func306 Tryz.ntmps306 (fun d=>?_)
 refine Z36 ?_;refine Z2 ?_;refine Aa Tryz.call324 (AN9 _ _) ?_;refine A5 ?_;refine Vg ?_;refine Z2 ?_;refine Aa Tryz.call324 (AN9 _ _) ?_;refine A5 ?_;refine A2 [0,1,5,6] ?_;refine Z30 ?_;refine A2 [0,1,6,11] ?_
 refine A4 (fun ht11=>?_) (fun ht11=>?_)
 ·cases ht11
 refine Oi ?_;refine A2 [0,1,13] ?_
 refine A4 (fun ht13=>?_) (fun ht13=>?_)
 ·cases ht13
 refine iq ?_;refine A2 [0,1,16] ?_
 refine A4 (fun ht16=>?_) (fun ht16=>?_)
 ·have hm:Nw a b = -1:=if_pos ht16
  exact ik
 refine iq ?_;refine A2 [19] ?_
 refine A4 (fun ht19=>?_) (fun ht19=>?_)
 ·have hm:Nw a b=1:=by unfold Nw;rw [if_neg (by rw [ht16];simp),if_pos ht19]
  exact ik
 have hm:Nw a b=0:=by unfold Nw;rw [if_neg (by rw [ht16];simp),if_neg (by rw [ht19];simp)]
 refine Z3 ?_;exact Z95

theorem ACj {l:List Int} {x:Nat} (h:x<l.length) (hx:orI l=orI (l.drop x)):orI l=if l[x] != 0 then l[x] else orI (l.drop (x+1)):=by rw [hx,I4 h,orI]
theorem AQj (l:List Int) (hl:l.length≤1048576) (Hp:List AObj):AFun Tryz.prog 304 [sc l] Hp (A3 (orI l)):=by
 refine Ae [.tmp 2] [0] Tryz.func304 Tryz.ntmps304 (fun d=>?_)
 refine Z43 ?_;refine Z2 ?_;refine Nv ?_;refine Z31 ?_;refine A2 [3,6,7,8] ?_
 refine Bf (α:=Nat) (fun x=>⟨18,A6 3 (A3 0) (A6 6 (sc l) (A6 7 (A3 (l.length:Nat)) (A6 8 (A3 (x:Nat)) (fun _=>.any)))),Hp,[],[],none⟩) (fun x=>x≤l.length∧orI l=orI (l.drop x)) (fun x=>l.length-x) (0) ⟨Ar _,rfl⟩ (Bj (by simp)) rfl (fun x hx=>?_)
 refine Z2 ?_;refine A2 [3,6,7,8,9] ?_
 refine Cr (fun ht9=>?_) (fun ht9=>?_)
 ·have hlt:x<l.length:=by simpa using ht9
  have hst:=ACj hlt hx.2
  refine Z76 ?_
  refine A5 (h:=Ai (x) (A3 l[x]) (fun _=>B6 hlt)) (hr:=?_)
  refine Z0 ?_;refine A2 [3,5,6,7,8] ?_;refine Z15 ?_;refine A2 [3,5,6,7,8,14] ?_
  refine A4 (fun ht14=>?_) (fun ht14=>?_)
  ·have hm:orI l=l[x]:=by rw [hst,if_pos ht14]
   refine Z1 ?_;refine Z4 ?_;exact mt
  have hn:orI l=orI (l.drop (x+1)):=by rw [hst,if_neg (by rw [ht14];simp)]
  refine Z73 ?_;refine A2 [3,6,7,8] ?_;exact AKn
 have hxe:l.length≤x:=by simpa using ht9
 have hm:orI l=0:=by rw [hx.2,m0 hxe];rfl
 refine Z28 ?_;refine Z1 ?_;exact AL7

theorem AQk (a b:Val) (Hp:List AObj):AFun Tryz.prog 285 [Bm a,Bm b] Hp (A3 (w5 a b)):=by
 refine Ae [.tmp 4] [0,1] Tryz.func285 Tryz.ntmps285 (fun d=>?_)
 refine zm ?_;refine Z30 ?_;refine Aa Tryz.call93 (c93 a _) ?_;refine Qx ?_;refine C3 Tryz.call93 (fun hB=>c93 b _) ?_;refine Z48 ?_;refine A2 [2,3,12] ?_
 refine A4 (fun ht12=>?_) (fun ht12=>?_)
 ·have hm:w5 a b=0:=if_pos ht12
  exact ik
 have hm:w5 a b=orI [Nw a.kind b.kind,Nw a.n b.n,Lib.compareBytes a.s b.s]:=if_neg (by rw [ht12];simp)
 refine Z3 ?_;refine Dt [0,1,0,4,15,0,32,0,128,511,0,1024,0,4096,16383,32767,65535,131071] 14 Aj (by kernel_rfl) ?_;refine Ti ?_;refine Dl Tryz.call305 (AQh _ _ _) ?_;refine Ti ?_;refine Dl Tryz.call306 (AQi _ _ _) ?_;refine Z8 ?_;refine Z92 ?_;refine Aa Tryz.call307 (AQd _ _ _) ?_;refine Tj ?_;refine Aa Tryz.call304 (AQj [Nw a.kind b.kind,Nw a.n b.n,Lib.compareBytes a.s b.s] (by simp) _) ?_;refine A5 ?_;refine Z11 ?_;exact uw

theorem AQl (t:Str) (a b:Int) (ha : -9223372036854775808≤a∧a≤9223372036854775807) (Hp:List AObj):AFun Tryz.prog 287 [Ac t,A3 a,A3 b] Hp (Uc (J4 (R9 t a b))):=by
 refine Ae [.cell 6 24,.tmp 7] [0,1,2] Tryz.func287 Tryz.ntmps287 (fun d=>?_)
 refine im ?_;refine A2 [0,1,2,6] ?_;refine Z30 ?_;refine A2 [1,2,6,8] ?_;refine Vf ?_;refine A2 [1,2,6,8,9] ?_
 refine A4 (fun ht9=>?_) (fun ht9=>?_)
 ·refine Z1 ?_;refine Aa Tryz.call308 (AQa _ _ _) ?_;exact AE7
 refine Z1 ?_;refine A2 [1,2,6,8,19] ?_
 refine A4 (fun ht19=>?_) (fun ht19=>?_)
 ·refine Z1 ?_;refine Aa Tryz.call288 (AN6 _ _ _) ?_;exact AE7
 refine Z1 ?_;refine A2 [1,2,6,8,29] ?_
 refine A4 (fun ht29=>?_) (fun ht29=>?_)
 ·refine Z1 ?_;refine Aa Tryz.call309 (AQe _ _ _) ?_;exact AE7
 refine Z1 ?_;refine A2 [1,2,6,39] ?_
 refine A4 (fun ht39=>?_) (fun ht39=>?_)
 ·refine Z1 ?_;refine Aa Tryz.call310 (AQf _ _ _) ?_;exact AE7
 refine Z19 ?_;refine Z1 ?_;refine Aa Tryz.call311 (AQg _ _ ha _) ?_;refine ADx ?_;refine Z68 ?_;exact AM0

theorem AQm (a b:Val) (fa:Fine a) (fb:Fine b) (Hp:List AObj):AFun Tryz.prog 286 [.slice false 3 [Bm a,Bm b]] Hp (Uc (Sf a b)):=by
 refine Ae [.cell 2 24,.tmp 3] [0] Tryz.func286 Tryz.ntmps286 (fun d=>?_)
 refine im ?_;refine A2 [0,2] ?_;refine Rz ?_;refine dw jU jS jZ ?_;refine Aa Tryz.call262 (ACh [a,b] [2,2] (by simp) (by simp) _) ?_;refine Z0 ?_;refine A2 [0,2,4] ?_
 refine A4 (fun ht4=>?_) (fun ht4=>?_)
 ·have hm:Sf a b=De 10:=if_pos ht4
  refine Zd ?_;refine Wn ?_;exact Z18
 have hla:=fa.len
 have hlb:=fb.len
 refine Dt [0,1,3,7,15,0,32,96,224,480,1023,2047,4095] 10 Aj (by kernel_rfl) ?_;refine Aq ?_
 refine Aq (h:=Ai (0) (Bm a) (fun _=>show ([Bm a,Bm b]:List AV)[0]? = some (Bm a) from rfl)) (hr:=?_)
 refine Ti ?_
 refine Aq (h:=Ai (1) (Bm b) (fun _=>show ([Bm a,Bm b]:List AV)[1]? = some (Bm b) from rfl)) (hr:=?_)
 refine Z33 ?_;refine Ht ?_
 refine A5 (h:=Qp (h1:=fun _=>by omega) (h2:=fun _=>by omega)) (hr:=?_)
 refine Z0 ?_;refine A2 [0,2,12] ?_
 refine A4 (fun ht12=>?_) (fun ht12=>?_)
 ·have hm:Sf a b=De 3:=by unfold Sf;rw [if_neg (by rw [ht4];simp),if_pos ht12]
  refine Zd ?_;refine Wn ?_;exact Z18
 have hm:Sf a b=(Zs (a.s++b.s),0):=by unfold Sf;rw [if_neg (by rw [ht4];simp),if_neg (by rw [ht12];simp)]
 refine Z19 ?_;refine Dt [0,1,3,7,0,16,48,112,255,511,1023,2047] 8 Aj (by kernel_rfl) ?_;refine Aq ?_
 refine Aq (h:=Ai (0) (Bm a) (fun _=>show ([Bm a,Bm b]:List AV)[0]? = some (Bm a) from rfl)) (hr:=?_)
 refine Z33 ?_
 refine Aq (h:=Ai (1) (Bm b) (fun _=>show ([Bm a,Bm b]:List AV)[1]? = some (Bm b) from rfl)) (hr:=?_)
 refine Z92 ?_
 refine A5 (h:=Q.sadd (hl:=fun _=>by omega)) (hr:=?_)
 refine Aa Tryz.call275 (v8 _ _) ?_;refine Wn ?_;exact AA1

theorem AQn (t:Str) (a b:Val) (fa:Fine a) (fb:Fine b) (Hp:List AObj):AFun Tryz.prog 261 [Ac t,.slice false 3 [Bm a,Bm b]] Hp (Uc (Ra t a b)):=by
 refine Ae [.cell 4 24,.tmp 5] [0,1] Tryz.func261 Tryz.ntmps261 (fun d=>?_)
 refine im ?_;refine A2 [0,1,4] ?_;refine Jw ?_;refine Dt [0,0,2,6,0,16,48,126,255,511,1023,1023,2047,8191] 13 Aj (by kernel_rfl) ?_;refine Z8 ?_
 refine Aq (h:=Ai (0) (Bm a) (fun _=>show ([Bm a,Bm b]:List AV)[0]? = some (Bm a) from rfl)) (hr:=?_)
 refine Z8 ?_
 refine Aq (h:=Ai (1) (Bm b) (fun _=>show ([Bm a,Bm b]:List AV)[1]? = some (Bm b) from rfl)) (hr:=?_)
 refine Aq ?_;refine Dl Tryz.call285 (AQk _ _ _) ?_;refine Dl Tryz.call284 (AQ9 _ _ _) ?_;refine Z8 ?_;refine Z92 ?_;refine A5 ?_;refine A2 [0,1,4,6,7] ?_;refine Z2 ?_;refine A2 [0,1,4,6,20] ?_
 refine A4 (fun ht20=>?_) (fun ht20=>?_)
 ·refine Jw ?_;refine Dt [0,1,3,7,0,16,48,112,255] 8 Aj (by kernel_rfl) ?_;refine Aq ?_
  refine Aq (h:=Ai (0) (Bm a) (fun _=>show ([Bm a,Bm b]:List AV)[0]? = some (Bm a) from rfl)) (hr:=?_)
  refine Z33 ?_
  refine Aq (h:=Ai (1) (Bm b) (fun _=>show ([Bm a,Bm b]:List AV)[1]? = some (Bm b) from rfl)) (hr:=?_)
  refine Z92 ?_;refine A5 ?_;refine A2 [4,6,29] ?_
  refine A4 (fun ht29=>?_) (fun ht29=>?_)
  ·have hm:Ra t a b=De 10:=by unfold Ra;rw [if_pos ht20,if_pos ht29]
   refine Zd ?_;refine Z47 ?_;refine C9 ?_;exact Z25
  have hm:Ra t a b=(Io (Km t (w5 a b)).1,0):=by unfold Ra;rw [if_pos ht20,if_neg (by rw [ht29];simp)]
  refine Qz ?_;refine Aa Tryz.call178 (et _ _) ?_;exact ug
 refine Zi ?_;refine A2 [0,1,4,36] ?_
 refine A4 (fun ht36=>?_) (fun ht36=>?_)
 ·have hm:Ra t a b=Sf a b:=by unfold Ra;rw [if_neg (by rw [ht20];simp),if_pos ht36]
  refine Z2 ?_;refine Aa Tryz.call286 (AQm a b fa fb _) ?_;refine Z0 ?_;exact ug
 refine Oi ?_;refine dw jU jS jZ ?_;refine Aa Tryz.call262 (ACh [a,b] [1,1] (by simp) (by simp) _) ?_;refine A5 ?_;refine A2 [0,1,4,44] ?_
 refine A4 (fun ht44=>?_) (fun ht44=>?_)
 ·have hm:Ra t a b=De 10:=by unfold Ra;rw [if_neg (by rw [ht20];simp),if_neg (by rw [ht36];simp),if_pos ht44]
  refine Zd ?_;exact ug
 have hm:Ra t a b=J4 (R9 t a.n b.n):=by unfold Ra;rw [if_neg (by rw [ht20];simp),if_neg (by rw [ht36];simp),if_neg (by rw [ht44];simp)]
 refine Z3 ?_;refine Dt [0,0,2,6,14,0,32,96,224,511,1023,1023,4095,8191] 12 Aj (by kernel_rfl) ?_;refine Z8 ?_
 refine Aq (h:=Ai (0) (Bm a) (fun _=>show ([Bm a,Bm b]:List AV)[0]? = some (Bm a) from rfl)) (hr:=?_)
 refine Z33 ?_
 refine Aq (h:=Ai (1) (Bm b) (fun _=>show ([Bm a,Bm b]:List AV)[1]? = some (Bm b) from rfl)) (hr:=?_)
 refine Z8 ?_;refine Dl Tryz.call287 (AQl _ _ _ ⟨fa.lo,fa.hi⟩ _) ?_;refine Z92 ?_;exact Z53

theorem AJg (s:Str) (n:Int):∃k:Nat,(if (0:Int)<(if (s.length:Int)<n then (s.length:Int) else n) then (if (s.length:Int)<n then (s.length:Int) else n) else 0)=(k:Int)∧k≤s.length∧k=(max 0 (min n s.length)).toNat:=by
 refine ⟨(max 0 (min n s.length)).toNat,?_,?_,rfl⟩<;>repeat' split
 all_goals omega
theorem AQo (t s:Str) (n:Int) (hs:s.length≤1048576) (Hp:List AObj):AFun Tryz.prog 266 [Ac t,Ac s,A3 n] Hp (Bm (Oz t s n)):=by
 refine Ae [.cell 6 24] [0,1,2] Tryz.func266 Tryz.ntmps266 (fun d=>?_)
 refine ADz ?_;refine Z15 ?_;refine R.minI ?_;refine R.maxI ?_
 obtain ⟨k,hk,hks,hke⟩:=AJg s n
 simp only [hk]
 refine A5 ?_;refine A2 [0,1,6,7] ?_;refine Z7 ?_;refine A2 [1,6,7,14] ?_
 refine A4 (fun ht14=>?_) (fun ht14=>?_)
 ·have hm:Oz t s n=Zs (s.take k):=by unfold Oz;rw [if_pos ht14,←hke]
  refine Z1 ?_
  refine A5 (h:=Kx k (fun _=>Ar _) (fun _=>hks)) (hr:=?_)
  refine Aa Tryz.call275 (v8 _ _) ?_;refine Fw ?_;refine ie ?_;exact AM1
 have hm:Oz t s n=Zs (s.drop (s.length-k)):=by unfold Oz;rw [if_neg (by rw [ht14];simp),←hke]
 refine Zh ?_
 refine A5 (h:=Q.sub64 (h1:=fun _=>by omega) (h2:=fun _=>by omega)) (hr:=?_)
 refine A5 (h:=Q.scutL (s.length-k) (fun _=>show s.length-k≤s.length by omega) (fun _=>Am _)) (hr:=?_)
 refine Aa Tryz.call275 (v8 _ _) ?_;refine Fw ?_;refine Z72 ?_;exact AM1

theorem AQp (t:Str) (v:Val) (h:Fine v) (Hp:List AObj):AFun Tryz.prog 265 [Ac t,Bm v] Hp (Uc (Nt t v)):=by
 have hlen:=h.len
 refine Ae [.cell 4 24,.tmp 5] [0,1] Tryz.func265 Tryz.ntmps265 (fun d=>?_)
 refine Z2 ?_;refine Z52 ?_;refine A2 [0,3,4] ?_;refine ip ?_;refine Wo ?_;refine A2 [0,3,4,6] ?_
 refine A4 (fun ht6=>?_) (fun ht6=>?_)
 ·have hm:Nt t v=(Zs (Lib.itoa v.n),0):=if_pos ht6
  refine Z1 ?_;refine Aa Tryz.call289 (AMg _ h.lo h.hi _) ?_;refine Aa Tryz.call275 (v8 _ _) ?_;exact Z97
 refine Z15 ?_;refine Wo ?_;refine A2 [0,3,4,18] ?_
 refine A4 (fun ht18=>?_) (fun ht18=>?_)
 ·have hm:Nt t v=(⟨1,v.s.length,[]⟩,0):=by unfold Nt;rw [if_neg (by rw [ht6];simp),if_pos ht18]
  refine Z15 ?_;refine Aa Tryz.call252 (AIg _ _) ?_;exact Z97
 refine Z15 ?_;refine Wo ?_;refine A2 [3,4,30] ?_
 refine A4 (fun ht30=>?_) (fun ht30=>?_)
 ·have hm:Nt t v=J4 (Du v.s):=by unfold Nt;rw [if_neg (by rw [ht6];simp),if_neg (by rw [ht18];simp),if_pos ht30]
  refine Z1 ?_;refine Aa Tryz.call251 (AMf v.s (by omega) _) ?_;refine ADx ?_;exact Z97
 have hm:Nt t v=De 10:=by unfold Nt;rw [if_neg (by rw [ht6];simp),if_neg (by rw [ht18];simp),if_neg (by rw [ht30];simp)]
 refine Z19 ?_;refine Zd ?_;exact Z53

theorem AFx {vs:List Val} (h:0<vs.length):vs.getD 0 noV=vs[0]:=by rw [Bw,Ab h];rfl
/-- As many values as a node asks for. -/
structure ArgsOk (o:Int) (vs:List Val):Prop where
 two:o=5→∃a b,vs=[a,b]
 one:o=3∨o=4→vs.length=1
 call:o=6→vs.length=1∨∃a b,vs=[a,b]
 fine:∀v∈vs,Fine v
theorem AQq (e:Expr) (vs:List Val) (h:ArgsOk e.op vs) (Hp:List AObj):AFun Tryz.prog 241 [A7 e,Hf vs] Hp (Uc (Bx e.op e.text vs)):=by
 refine Ae [.cell 4 24,.tmp 5] [0,1] Tryz.func241 Tryz.ntmps241 (fun d=>?_)
 refine Z2 ?_;refine Z52 ?_;refine A2 [1,2,4] ?_;refine Z16 ?_;refine Z23 ?_;refine A2 [1,2,4,6] ?_
 refine A4 (fun ht6=>?_) (fun ht6=>?_)
 ·obtain ⟨a,b,rfl⟩:=h.two (by simpa using ht6)
  have hm:Bx e.op e.text [a,b]=Ra e.text a b:=if_pos ht6
  refine Z15 ?_;refine Aa Tryz.call261 (AQn e.text a b (h.fine a (by simp)) (h.fine b (by simp)) _) ?_;refine Z0 ?_;exact Z97
 refine un ?_;refine G.buildSl jU jS jZ ?_
 refine C3 Tryz.call262 (C:=((e.op==3)==true)) (fun hB=>ACh vs [1] (by have:=h.one (.inl (by simpa using hB));simp [this]) (by simp) _) ?_
 refine Z0 ?_;refine A2 [1,2,4,16] ?_
 refine A4 (fun ht16=>?_) (fun ht16=>?_)
 ·have hm0:((e.op==3)&&Fk vs [1])=true:=ht16
  have hop:e.op=3:=by simp only [At,beq_iff_eq] at hm0;exact hm0.1
  have hln:=h.one (.inl hop)
  have hg0:(vs.map Bm)[0]? = some (Bm (vs.getD 0 noV)):=by rw [AFx (by omega)];exact B6 (by omega)
  have hm:Bx e.op e.text vs=J4 (Vh 0 (vs.getD 0 noV).n):=by unfold Bx;rw [if_neg (by rw [ht6];simp),if_pos ht16]
  refine Z2 ?_
  refine A5 (h:=Ai (0) (Bm (vs.getD 0 noV)) (fun _=>hg0)) (hr:=?_)
  refine Z0 ?_;refine Aa Tryz.call264 (AQb _ _) ?_;refine ADx ?_;exact Z97
 refine un ?_;refine G.buildSl jU jS jZ ?_
 refine C3 Tryz.call262 (C:=((e.op==4)==true)) (fun hB=>ACh vs [3] (by have:=h.one (.inr (by simpa using hB));simp [this]) (by simp) _) ?_
 refine Z0 ?_;refine A2 [1,2,4,35] ?_
 refine A4 (fun ht35=>?_) (fun ht35=>?_)
 ·have hm0:((e.op==4)&&Fk vs [3])=true:=ht35
  have hop:e.op=4:=by simp only [At,beq_iff_eq] at hm0;exact hm0.1
  have hln:=h.one (.inr hop)
  have hg0:(vs.map Bm)[0]? = some (Bm (vs.getD 0 noV)):=by rw [AFx (by omega)];exact B6 (by omega)
  have hm:Bx e.op e.text vs=(Io ((vs.getD 0 noV).n==0),0):=by unfold Bx;rw [if_neg (by rw [ht6];simp),if_neg (by rw [ht16];simp),if_pos ht35]
  refine Z2 ?_
  refine A5 (h:=Ai (0) (Bm (vs.getD 0 noV)) (fun _=>hg0)) (hr:=?_)
  refine Z13 ?_;refine Aa Tryz.call178 (et _ _) ?_;exact Z97
 refine Z23 ?_;refine A2 [1,2,4,50] ?_
 refine A4 (fun ht50=>?_) (fun ht50=>?_)
 ·have hm:Bx e.op e.text vs=De 10:=by unfold Bx;rw [if_neg (by rw [ht6];simp),if_neg (by rw [ht16];simp),if_neg (by rw [ht35];simp),if_pos ht50]
  refine Zd ?_;exact Z97
 have hop:e.op=6:=by simpa using ht50
 have hcl:=h.call hop
 refine Z23 ?_;refine A2 [1,2,4,57] ?_
 refine A4 (fun ht57=>?_) (fun ht57=>?_)
 ·rw [Ao] at ht57
  have hln:vs.length=1:=by have:=ht57;simp only [beq_iff_eq] at this;omega
  have hg0:(vs.map Bm)[0]? = some (Bm (vs.getD 0 noV)):=by rw [AFx (by omega)];exact B6 (by omega)
  have hf0:Fine (vs.getD 0 noV):=by rw [AFx (by omega)];exact h.fine _ (Be _)
  have hm:Bx e.op e.text vs=Nt e.text (vs.getD 0 noV):=by unfold Bx;rw [if_neg (by rw [ht6];simp),if_neg (by rw [ht16];simp),if_neg (by rw [ht35];simp),if_neg (by rw [ht50];simp),if_pos ht57]
  refine Dt [0,1,0,4,12,31,63,63,255,511] 8 Aj (by kernel_rfl) ?_;refine Z33 ?_
  refine Aq (h:=Ai (0) (Bm (vs.getD 0 noV)) (fun _=>hg0)) (hr:=?_)
  refine Aq ?_;refine Dl Tryz.call265 (AQp _ _ hf0 _) ?_;refine Z92 ?_;exact Z97
 rw [Ao] at ht57
 obtain ⟨a,b,rfl⟩:∃a b,vs=[a,b]:=by
  rcases hcl with h1|h1
  ·exfalso
   have:=ht57
   rw [h1] at this
   simp at this
  exact h1
 refine Z2 ?_;refine dw jU jS jZ ?_;refine Aa Tryz.call262 (ACh [a,b] [2,1] (by simp) (by simp) _) ?_;refine Z0 ?_;refine A2 [1,2,4,69] ?_
 refine A4 (fun ht69=>?_) (fun ht69=>?_)
 ·have hm:Bx e.op e.text [a,b]=De 10:=by unfold Bx;rw [if_neg (by rw [ht6];simp),if_neg (by rw [ht16];simp),if_neg (by rw [ht35];simp),if_neg (by rw [ht50];simp),if_neg (by rw [ht57];simp),if_pos ht69]
  refine Zd ?_;exact Z97
 have hm:Bx e.op e.text [a,b]=(Oz e.text a.s b.n,0):=by unfold Bx;rw [if_neg (by rw [ht6];simp),if_neg (by rw [ht16];simp),if_neg (by rw [ht35];simp),if_neg (by rw [ht50];simp),if_neg (by rw [ht57];simp),if_neg (by rw [ht69];simp)];rfl
 refine Z19 ?_;refine Dt [0,1,0,4,12,28,0,64,192,448,1023,2047,4095] 10 Aj (by kernel_rfl) ?_;refine Z33 ?_
 refine Aq (h:=Ai (0) (Bm a) (fun _=>show ([Bm a,Bm b]:List AV)[0]? = some (Bm a) from rfl)) (hr:=?_)
 refine Z33 ?_
 refine Aq (h:=Ai (1) (Bm b) (fun _=>show ([Bm a,Bm b]:List AV)[1]? = some (Bm b) from rfl)) (hr:=?_)
 refine Z92 ?_
 refine Aa Tryz.call266 (AQo e.text a.s b.n (by have:=(h.fine a (by simp)).len;omega) _) ?_
 exact Z53

theorem Pt (a b:Val):((a.kind==b.kind&&a.n==b.n)&&a.s==b.s)=(a==b):=by
 obtain ⟨k,n,s⟩:=a
 obtain ⟨k',n',s'⟩:=b
 by_cases h:(⟨k,n,s⟩:Val)=⟨k',n',s'⟩
 ·injection h with h1 h2 h3
  subst h1;subst h2;subst h3
  simp
 have:((⟨k,n,s⟩:Val)==⟨k',n',s'⟩)=false:=by simpa using h
 rw [this]
 simp only [ye,beq_eq_false_iff_ne]
 by_cases h1:k=k'
 ·by_cases h2:n=n'
  ·right
   rintro rfl
   exact h (by rw [h1,h2])
  exact .inl (.inr h2)
 exact .inl (.inl h1)
/-- What eval answers for a tree, over any heap. -/
abbrev Kh (c:List Col) (l:List Val) (e:Expr) (r:Rs):Prop:=∀Hp,AFun Tryz.prog 172 [Yd c l,A7 e] Hp (Uc r)
theorem ANa (c:List Col) (l:List Val) (x:Expr) (r:Rs) (h:Kh c l x r) (Hp:List AObj):AFun Tryz.prog 240 [Yd c l,A7 x] Hp (Uc (B9 r)):=by
 refine Ae [.cell 4 24,.tmp 5] [0,1] Tryz.func240 Tryz.ntmps240 (fun d=>?_)
 refine Z1 ?_;refine AE9 ?_;refine Z1 ?_;refine Aa Tryz.call172 (h _) ?_;refine Pv ?_;refine A2 [4,6,7] ?_;refine Z31 ?_;refine Z69 ?_;refine Z35 ?_;refine Z48 ?_;refine A2 [4,6,7,25] ?_
 refine A4 (fun ht25=>?_) (fun ht25=>?_)
 ·have hm:B9 r=De 10:=if_pos ht25
  refine Zd ?_;exact ug
 have hm:B9 r=r:=if_neg (by rw [ht25];simp)
 refine Z98 ?_;exact Z53

theorem ANb (c:List Col) (l:List Val) (x k0 k1:Expr) (s:Val) (ra rb:Rs) (h0:(x.kids.map A7)[0]? = some (A7 k0)) (h1:(x.kids.map A7)[1]? = some (A7 k1)) (ha:Kh c l k0 ra) (hb:Kh c l k1 rb) (Hp:List AObj):AFun Tryz.prog 216 [Yd c l,A7 x,Bm s] Hp (Uc (Jz s ra rb)):=by
 refine Ae [.cell 6 24,.tmp 7] [0,1,2] Tryz.func216 Tryz.ntmps216 (fun d=>?_)
 refine Z15 ?_;refine Z52 ?_;refine A2 [3,4,5,6] ?_;refine Fc [0,0,2,6,14,31,63,127,127,0,767,2047] [9,10] [.q 9 [] [],.s [8] (some 0) [] [1],.s [] (some 1) [0] []] (fun _=>Hp) (fun B=>if B 0=true then [.cells 24 [A3 0,A3 0,Ac []],(if B 1=true then .cells 24 [A3 (B9 ra).1.kind,A3 (B9 ra).1.n,Ac (B9 ra).1.s] else .cells 24 [A3 0,A3 0,Ac []]:AObj)] else [.cells 24 [A3 0,A3 0,Ac []]]) Aj (by kernel_rfl) rfl rfl (fun _=>rfl) ?_
 apply Y.q
 ·intro B hT hF
  refine Z33 ?_
  refine Aq (h:=Ai (0) (A7 k0) (fun _=>h0)) (hr:=?_)
  refine Aq ?_;exact AL6
 case hTF=>decide
 refine Z66 ?_;refine AK7 ?_;refine A2 [3,4,5,6,8,9] ?_;refine Z31 ?_;refine Z6 ?_
 refine Cd (h:=Qq Zk (fun w=>Jc (B9 ra).1.kind (B9 ra).1.n s.kind s.n (B9 ra).1.s s.s w)) (hr:=?_)
 refine A5 ?_;refine A2 [3,4,5,6,8,9,26] ?_
 refine A4 (fun ht26=>?_) (fun ht26=>?_)
 ·rw [Pt] at ht26
  have hm:Jz s ra rb=B9 ra:=if_pos ht26
  refine Z1 ?_;refine Z68 ?_;exact Z25
 rw [Pt] at ht26
 refine Z3 ?_;refine Fc [0,0,2,6,14,31,63,127,127,0,767,2047] [9,10] [.q 9 [] [],.s [10] (some 0) [] [1],.s [] (some 1) [0] []] (fun _=>Hp) (fun B=>if B 0=true then [.cells 24 [A3 0,A3 0,Ac []],.cells 24 [A3 (B9 ra).1.kind,A3 (B9 ra).1.n,Ac (B9 ra).1.s],(if B 1=true then .cells 24 [A3 (B9 rb).1.kind,A3 (B9 rb).1.n,Ac (B9 rb).1.s] else .cells 24 [A3 0,A3 0,Ac []]:AObj)] else [.cells 24 [A3 0,A3 0,Ac []],.cells 24 [A3 (B9 ra).1.kind,A3 (B9 ra).1.n,Ac (B9 ra).1.s]]) Aj (by kernel_rfl) rfl rfl (fun _=>rfl) ?_
 apply Y.q
 ·intro B hT hF
  refine Z33 ?_
  refine Aq (h:=Ai (1) (A7 k1) (fun _=>h1)) (hr:=?_)
  refine Aq ?_;refine Dl Tryz.call240 (ANa c l k1 rb hb _) ?_;exact ADv
 case hTF=>decide
 refine Y.alloc (zs:=[A3 0,A3 0,Ac []]) (n:=2) (u:=Hp.length) Tryz.zeroValue24 (fun B hT hF hB=>⟨rfl,by simp [hB],by simp [upd,hB,hF 1 (by simp)],rfl⟩) ?_;refine Y.storeOwnT (u:=Hp.length) (n:=2) (t':=24) (cs:=[A3 0,A3 0,Ac []]) (cs':=[A3 (B9 rb).1.kind,A3 (B9 rb).1.n,Ac (B9 rb).1.s]) Tryz.sizeOf24 (fun B hT hF hB=>⟨rfl,by simp [hT 0 (by simp),hB],by simp [upd,hT 0 (by simp),hB],rfl⟩) ?_;refine Ed (tn:=[9,10]) (O:=[.cells 24 [A3 0,A3 0,Ac []],.cells 24 [A3 (B9 ra).1.kind,A3 (B9 ra).1.n,Ac (B9 ra).1.s],.cells 24 [A3 (B9 rb).1.kind,A3 (B9 rb).1.n,Ac (B9 rb).1.s]]) ?_;refine A5 ?_;refine A2 [5,6,8,9,10] ?_;refine Z31 ?_;refine Z6 ?_
 refine Cd (h:=Qq Zk (fun w=>Jc (B9 rb).1.kind (B9 rb).1.n s.kind s.n (B9 rb).1.s s.s w)) (hr:=?_)
 refine Z35 ?_;refine Z48 ?_;refine A2 [6,8,9,10,49] ?_
 refine A4 (fun ht49=>?_) (fun ht49=>?_)
 ·rw [Pt] at ht49
  have hm:Jz s ra rb=B9 rb:=by unfold Jz;rw [if_neg (by rw [ht26];simp),if_pos ht49]
  refine Z1 ?_;refine Z68 ?_;exact Z25
 rw [Pt] at ht49
 have hm:Jz s ra rb=((B9 ra).1,0):=by unfold Jz;rw [if_neg (by rw [ht26];simp),if_neg (by rw [ht49];simp)]
 refine Qz ?_;exact AKl

theorem AQr (c:List Col) (l:List Val) (x k0 k1 k2:Expr) (ra rb d2:Rs) (h0:(x.kids.map A7)[0]? = some (A7 k0)) (h1:(x.text==Ct)=false→(x.kids.map A7)[1]? = some (A7 k1)) (h2:(x.text==ifW)=true→(x.kids.map A7)[2]? = some (A7 k2)) (ha:Kh c l k0 ra) (hb:(x.text==Ct)=false→Kh c l k1 rb) (hd:(x.text==ifW)=true→Kh c l k2 d2) (Hp:List AObj):AFun Tryz.prog 217 [Yd c l,A7 x] Hp (Uc (Gl x.text ra rb d2)):=by
 refine Ae [.cell 4 24,.tmp 5] [0,1] Tryz.func217 Tryz.ntmps217 (fun d=>?_)
 refine Z1 ?_;refine AE9 ?_;refine Z31 ?_;refine A2 [2,3,4,12] ?_
 refine A4 (fun ht12=>?_) (fun ht12=>?_)
 ·have hni:(x.text==Ct)=false:=by
   have e:x.text=ifW:=by simpa [ifW] using ht12
   rw [e];rfl
  have hc:Gl x.text ra rb d2=(if (B9 ra).2 != 0 then De (B9 ra).2 else if (B9 ra).1==Io true then rb else d2):=if_pos ht12
  refine Fc [0,0,2,6,14,31,63,127,127,0,767,2047] [9,10] [.q 9 [] [],.s [6] (some 0) [] [1],.s [] (some 1) [0] []] (fun _=>Hp) (fun B=>if B 0=true then [.cells 24 [A3 0,A3 0,Ac []],(if B 1=true then .cells 24 [A3 (B9 ra).1.kind,A3 (B9 ra).1.n,Ac (B9 ra).1.s] else .cells 24 [A3 0,A3 0,Ac []]:AObj)] else [.cells 24 [A3 0,A3 0,Ac []]]) Aj (by kernel_rfl) rfl rfl (fun _=>rfl) ?_
  apply Y.q
  ·intro B hT hF
   refine Z33 ?_
   refine Aq (h:=Ai (0) (A7 k0) (fun _=>h0)) (hr:=?_)
   refine Aq ?_;exact AL6
  case hTF=>decide
  refine Z66 ?_;refine AK7 ?_;refine A2 [2,3,4,6,7] ?_;refine ip ?_;refine A2 [2,3,4,6,7,22] ?_
  refine A4 (fun ht22=>?_) (fun ht22=>?_)
  ·have hm:Gl x.text ra rb d2=De (B9 ra).2:=by rw [hc,if_pos ht22]
   refine Z2 ?_;refine Z45 ?_;refine Z47 ?_;refine Z5 ?_;exact Z25
  refine Dt [0,0,3,7] 2 Aj (by kernel_rfl) ?_;refine Aq ?_;refine Dl Tryz.call178 (et true _) ?_;refine Ht ?_
  refine A5 (h:=Qq Zk (fun w=>Jc (B9 ra).1.kind (B9 ra).1.n 3 1 (B9 ra).1.s [] w)) (hr:=?_)
  refine A5 ?_;refine A2 [2,3,4,29] ?_
  refine A4 (fun ht29=>?_) (fun ht29=>?_)
  ·rw [Pt (B9 ra).1 ⟨3,1,[]⟩] at ht29
   have ht29b:((B9 ra).1==Io true)=true:=ht29
   have hm:Gl x.text ra rb d2=rb:=by rw [hc,if_neg (by rw [ht22];simp),if_pos ht29b]
   refine AHo ?_
   refine Aq (h:=Ai (1) (A7 k1) (fun _=>h1 hni)) (hr:=?_)
   refine Aq ?_;refine Dl Tryz.call172 (hb hni _) ?_;refine Z92 ?_;refine Z47 ?_;refine Z5 ?_;exact Z25
  rw [Pt (B9 ra).1 ⟨3,1,[]⟩] at ht29
  have hm:Gl x.text ra rb d2=d2:=by rw [hc,if_neg (by rw [ht22];simp),if_neg (by show ¬((B9 ra).1==⟨3,1,[]⟩)=true;rw [ht29];simp)]
  refine Z19 ?_;refine AHo ?_
  refine Aq (h:=Ai (2) (A7 k2) (fun _=>h2 ht12)) (hr:=?_)
  refine Aq ?_;refine Dl Tryz.call172 (hd ht12 _) ?_;refine Z92 ?_;exact ug
 have hc:Gl x.text ra rb d2=(if ra.2 != 0 then De ra.2 else if x.text==Ct then (Io (ra.1.kind==0),0) else if ra.1.kind != 0 then (ra.1,0) else rb):=if_neg (by show ¬(x.text==ifW)=true;rw [show (x.text==ifW)=false from ht12];simp)
 refine Z3 ?_;refine Fc [0,0,2,6,14,31,63,127,127,0,767,2047] [9,10] [.q 9 [] [],.s [8] (some 0) [] [1],.s [] (some 1) [0] []] (fun _=>Hp) (fun B=>if B 0=true then [.cells 24 [A3 0,A3 0,Ac []],(if B 1=true then .cells 24 [A3 ra.1.kind,A3 ra.1.n,Ac ra.1.s] else .cells 24 [A3 0,A3 0,Ac []]:AObj)] else [.cells 24 [A3 0,A3 0,Ac []]]) Aj (by kernel_rfl) rfl rfl (fun _=>rfl) ?_
 apply Y.q
 ·intro B hT hF
  refine Z33 ?_
  refine Aq (h:=Ai (0) (A7 k0) (fun _=>h0)) (hr:=?_)
  refine Aq ?_;refine Dl Tryz.call172 (ha _) ?_;exact ADv
 case hTF=>decide
 refine AM2 ?_;refine Y.storeOwnT (u:=Hp.length) (n:=1) (t':=24) (cs:=[A3 0,A3 0,Ac []]) (cs':=[A3 ra.1.kind,A3 ra.1.n,Ac ra.1.s]) Tryz.sizeOf24 (fun B hT hF hB=>⟨rfl,by simp [hT 0 (by simp),hB],by simp [upd,hT 0 (by simp),hB],rfl⟩) ?_;refine Ed (tn:=[9,10]) (O:=[.cells 24 [A3 0,A3 0,Ac []],.cells 24 [A3 ra.1.kind,A3 ra.1.n,Ac ra.1.s]]) ?_;refine A5 ?_;refine A2 [2,3,4,8,9] ?_;refine ip ?_;refine A2 [2,3,4,8,9,58] ?_
 refine A4 (fun ht58=>?_) (fun ht58=>?_)
 ·have hm:Gl x.text ra rb d2=De ra.2:=by rw [hc,if_pos ht58]
  refine Z2 ?_;refine Z45 ?_;exact Z97
 refine Z23 ?_;refine A2 [2,3,4,8,65] ?_
 refine A4 (fun ht65=>?_) (fun ht65=>?_)
 ·have hm:Gl x.text ra rb d2=(Io (ra.1.kind==0),0):=by rw [hc,if_neg (by rw [ht58];simp),if_pos (show (x.text==Ct)=true from ht65)]
  refine Z15 ?_;refine Aa Tryz.call178 (et _ _) ?_;exact Z97
 refine Z23 ?_;refine A2 [2,3,4,8,73] ?_
 refine A4 (fun ht73=>?_) (fun ht73=>?_)
 ·have hm:Gl x.text ra rb d2=(ra.1,0):=by rw [hc,if_neg (by rw [ht58];simp),if_neg (by show ¬(x.text==Ct)=true;rw [show (x.text==Ct)=false from ht65];simp),if_pos ht73]
  refine Z2 ?_;exact Z97
 have hm:Gl x.text ra rb d2=rb:=by rw [hc,if_neg (by rw [ht58];simp),if_neg (by show ¬(x.text==Ct)=true;rw [show (x.text==Ct)=false from ht65];simp),if_neg (by rw [ht73];simp)]
 refine Z19 ?_;refine AHo ?_
 refine Aq (h:=Ai (1) (A7 k1) (fun _=>h1 ht65)) (hr:=?_)
 refine Aq ?_;refine Dl Tryz.call172 (hb ht65 _) ?_;refine Z92 ?_;exact Z53

/-- The first fault of those that were asked. -/
structure AllAt (f:Expr→Rs) (k:List Expr) (x:Nat):Prop where
 le:x≤k.length
 ok:∀(j:Nat) (y:Expr),j<x→k[j]? = some y→((f y).2 != 0)=false
theorem AllAt.bad {f:Expr→Rs} {k:List Expr} {x:Nat} (h:AllAt f k x) (hx:x<k.length) (hb:((f k[x]).2 != 0)=true) (g:List Val→Rs):Xt g (k.map f)=De (f k[x]).2:=by
 unfold Xt
 have:(k.map f).find? (fun q=>q.2 != 0)=some ((k.map f)[x]'(by simpa using hx)):=er (by simpa using hx) (by simpa using hb) (fun j y hj hy=>by
  rw [Bz,E3] at hy
  obtain ⟨z,hz,rfl⟩:=hy
  exact h.ok j z hj hz)
 rw [this]
 simp
theorem AllAt.all {f:Expr→Rs} {k:List Expr} {x:Nat} (h:AllAt f k x) (hx:k.length≤x) (g:List Val→Rs):Xt g (k.map f)=if (k.take x).any (fun y=>(f y).1.kind==0) then (noV,0) else g ((k.take x).map fun y=>(f y).1):=by
 unfold Xt
 have:(k.map f).find? (fun q=>q.2 != 0)=none:=Tn (fun j y hy=>by
  rw [Bz,E3] at hy
  obtain ⟨z,hz,rfl⟩:=hy
  exact h.ok j z (by have:=(Ad.1 hz).1;omega) hz)
 rw [this,Eo hx]
 simp only [List.any_map,Pb]
 rfl
theorem AllAt.next {f:Expr→Rs} {k:List Expr} {x:Nat} (h:AllAt f k x) (hx:x<k.length) (hb:((f k[x]).2 != 0)=false):AllAt f k (x+1):=⟨hx,El hx h.ok hb⟩
theorem ACk (f:Expr→Bool) (k:List Expr) {x:Nat} (h:x<k.length):(k.take (x+1)).any f=((k.take x).any f || f k[x]):=by rw [J8 h,List.any_append];simp
theorem ww (f:Expr→Val) (l:List Expr) {x:Nat} (h:x<l.length):((l.take x).map f).map Bm++[Bm (f l[x])]=((l.take (x+1)).map f).map Bm:=by rw [J8 h,Bq,Bq];rfl
theorem l6 {n k:Nat} {own:Bool} {l:List Val}:Low n (.slice own k (l.map Bm)):=low_slice.2 fun y hy=>by
 obtain ⟨z,_,rfl⟩:=C2.1 hy
 simp [or_imp,forall_and]
theorem AQs (c:List Col) (l:List Val) (e:Expr) (hk:e.kids.length≤1048576) (hev:∀y∈e.kids,Kh c l y (Cu c l y)) (hargs:((∀y∈e.kids,(Cu c l y).2=0)→ArgsOk e.op (e.kids.map fun y=>(Cu c l y).1))) (Hp:List AObj):AFun Tryz.prog 218 [Yd c l,A7 e] Hp (Uc (Xt (Bx e.op e.text) (e.kids.map (Cu c l)))):=by
 refine Ae [.cell 4 24,.tmp 5] [0,1] Tryz.func218 Tryz.ntmps218 (fun d=>?_)
 refine Z1 ?_;refine AE9 ?_;refine Z2 ?_;refine A2 [2,3,4,6] ?_;refine Ez ?_;refine Qu 6 3 ?_;refine A5 ?_;refine A2 [2,3,4,6,7] ?_;refine Z83 ?_;refine A2 [2,3,4,6,7,13,14,15] ?_
 refine Bf (α:=Nat) (fun x=>⟨49,A6 2 (.ro [An c,Hf l]) (A6 3 (.ro (E4 e)) (A6 4 (.ptr (oid Hp.length 0) 0) (A6 6 (.slice true 3 (((e.kids.take x).map fun y=>(Cu c l y).1).map Bm)) (A6 7 (Az ((e.kids.take x).any fun y=>(Cu c l y).1.kind==0)) (A6 13 (.slice false 6 (e.kids.map A7)) (A6 14 (A3 (e.kids.length:Nat)) (A6 15 (A3 (x:Nat)) (fun _=>.any)))))))),Hp,[.cells 24 [A3 0,A3 0,Ac []]],[],none⟩) (fun x=>AllAt (Cu c l) e.kids x) (fun x=>e.kids.length-x) (0) ⟨Ar _,fun j y h=>by omega⟩ (Bj (by simp)) rfl (fun x hx=>?_)
 refine Z2 ?_;refine A2 [2,3,4,6,7,13,14,15,16] ?_
 refine Cr (fun ht16=>?_) (fun ht16=>?_)
 ·have hlt:x<e.kids.length:=by simpa using ht16
  refine Z76 ?_
  refine A5 (h:=Ai (x) (A7 e.kids[x]) (fun _=>B6 hlt)) (hr:=?_)
  refine Qw ?_;refine A2 [2,3,4,6,7,9,13,14,15] ?_;refine Z1 ?_;refine Aa Tryz.call172 (hev _ (Be hlt) _) ?_;refine Pv ?_;refine A2 [2,3,4,6,7,10,11,13,14,15] ?_;refine Z7 ?_;refine A2 [2,3,4,6,7,10,11,13,14,15,26] ?_
  refine A4 (fun ht26=>?_) (fun ht26=>?_)
  ·have hm:=hx.bad hlt ht26 (Bx e.op e.text)
   refine Z2 ?_;refine Z45 ?_;refine Z47 ?_;refine C9 ?_;refine Z32 ?_;exact Z25
  refine Z98 ?_;refine Wo ?_;refine A2 [2,3,4,6,7,10,13,14,15] ?_;refine ue ?_;refine Z80 ?_
  refine Ep jU Tryz.type24 ?_ ?_ ?_
  ·simp only [Ao,Cy,Bi,Cb,Tryz.t24];omega
  ·simp only [Ao,Cy,Bi,Cb,Tryz.t24];omega
  refine Jv ?_;refine A2 [2,3,4,6,7,13,14,15] ?_;refine Ry ?_;refine A2 [2,3,4,6,7,13,14,15] ?_;refine Bg (x+1) (hx.next hlt ht26) (by omega) ?_
  simp only [show Tryz.t24.size=3 from rfl,ACk _ _ hlt]
  have hvs:((e.kids.take x).map fun y=>(Cu c l y).1).map Bm++[.agg [.v (.int .i64 (Cu c l e.kids[x]).1.kind),.v (.int .i64 (Cu c l e.kids[x]).1.n),.v (sv (Cu c l e.kids[x]).1.s)]]=((e.kids.take (x+1)).map fun y=>(Cu c l y).1).map Bm:=ww _ _ hlt
  simp only [hvs]
  exact Di (own:=[.cells 24 [A3 0,A3 0,Ac []]]) (fun _=>.refl _) (by repeat (first|exact Bc|refine Bb (by first|exact D3|exact l6|exact rt|(simp [or_imp,forall_and,oid]<;>omega)) ?_)) (by intro y hy;rw [B7.1 hy];intro z hz;simp only [B4,Ej,or_false] at hz;rcases hz with rfl|rfl|rfl<;>simp) (by simp)
 have hxe:e.kids.length≤x:=by simpa using ht16
 have ha:=hx.all hxe (Bx e.op e.text)
 have htk:e.kids.take x=e.kids:=Eo hxe
 have h00:∀y∈e.kids,(Cu c l y).2=0:=fun y hy=>by
  obtain ⟨j,hj⟩:=C8 hy
  have:=hx.ok j y (by have:=(Ad.1 hj).1;omega) hj
  simpa using this
 have hao:=hargs h00
 rw [←htk] at hao
 refine Z28 ?_;refine Z30 ?_;refine A2 [3,4,6,42] ?_
 refine A4 (fun ht42=>?_) (fun ht42=>?_)
 ·have hm:Xt (Bx e.op e.text) (e.kids.map (Cu c l))=(noV,0):=by rw [ha,if_pos ht42]
  refine AI0 ?_;exact ug
 have hm:Xt (Bx e.op e.text) (e.kids.map (Cu c l))=Bx e.op e.text ((e.kids.take x).map fun y=>(Cu c l y).1):=by rw [ha,if_neg (by rw [ht42];simp)]
 refine Z98 ?_;refine Aa Tryz.call241 (AQq e _ hao _) ?_;refine Z0 ?_;exact Z53

theorem ca {e:Expr} (h:Ew e=true):(e.op=5→e.kids.length=2)∧(e.op=3∨e.op=4→e.kids.length=1)∧(e.op=6→Cf e.text=(e.kids.length:Int))∧(e.op=1∨e.op=2∨e.op=3∨e.op=4∨e.op=5∨e.op=6):=by
 cases L7 h with
 | val v hp h0=>simp [Ox,Expr.op]
 | name t ht=>simp [Cm,Expr.op]
 | neg a=>simp [Ll,Expr.op,Expr.kids]
 | no a=>simp [Ll,Expr.op,Expr.kids]
 | bin t a b ht=>simp [N8,Expr.op,Expr.kids]
 | call t k ht=>simpa [Expr.op,Expr.kids,Expr.text] using ht
theorem Hi {k:List Expr} {i:Nat} (h:i<k.length):(k.map A7)[i]? = some (A7 (k.getD i Au))∧k.getD i Au∈k∧∀(f:Expr→Rs) (d:Rs),(k.map f).getD i d=f (k.getD i Au):=by
 have e:k.getD i Au=k[i]:=by rw [Bw,Ab h];rfl
 rw [e]
 refine ⟨by simp [h],Be h,fun f d=>?_⟩
 rw [Bw,Bz,Ab h]
 rfl
theorem g9 {c:List Col} {l:List Val} {e:Expr} (h1:(e.op==1)=false) (h2:(e.op==2)=false) (h3:((e.op==5)&&(e.text==orW))=false) (h4:((e.op==5)&&(e.text==AF4))=false) (h5:((e.op==6)&&(((e.text==ifW) || (e.text==fl)) || (e.text==Ct)))=false):Cu c l e=Xt (Bx e.op e.text) (e.kids.map (Cu c l)):=by
 rw [Cu,Mk]
 unfold La
 rw [h1,h2,h3,h4,h5]
 rfl
theorem AFy {c:List Col} {l:List Val} (hf:∀v∈l,Fine v) {e:Expr} (hnd:E0 Ew e=true) (hrg:E0 Hb e=true) (hv:E0 Sh e=true) (h5:((e.op==6)&&(((e.text==ifW) || (e.text==fl)) || (e.text==Ct)))=false):ArgsOk e.op (e.kids.map fun y=>(Cu c l y).1):=by
 rw [Jf,At] at hnd hrg hv
 obtain ⟨k5,k34,k6,_⟩:=ca hnd.1
 refine ⟨fun h=>?_,fun h=>by rw [Ao];exact k34 h,fun h=>?_,fun v hv'=>?_⟩
 ·obtain ⟨a,b,e⟩:=fq (k5 h)
  rw [e]
  exact ⟨_,_,rfl⟩
 ·rw [Ao]
  rw [h] at h5
  simp only [beq_self_eq_true,Mp,E1,beq_eq_false_iff_ne] at h5
  rcases Rd (k6 h) with ⟨_,h⟩|⟨_,h⟩|⟨_,h⟩|⟨e,_⟩|⟨e,_⟩|⟨_,h⟩|⟨_,h⟩|⟨e,_⟩
  ·exact .inl h
  ·exact .inl h
  ·exact .inl h
  ·exact absurd e h5.2
  ·exact absurd e h5.1.2
  ·obtain ⟨a,b,e⟩:=fq h
   rw [e]
   exact .inr ⟨_,_,rfl⟩
  ·obtain ⟨a,b,e⟩:=fq h
   rw [e]
   exact .inr ⟨_,_,rfl⟩
  exact absurd e h5.1.1
 obtain ⟨y,hy,rfl⟩:=C2.1 hv'
 exact bj hf y ((Fh _ _).1 hv.2 y hy) ((Fh _ _).1 hrg.2 y hy)
theorem V6 (a b d:Rs):Gl Ct a b d=Gl Ct a (noV,0) (noV,0):=by
 unfold Gl
 rw [show (Ct==ifW)=false from rfl,show (Ct==Ct)=true from rfl]
 rfl
theorem pc {t:Str} (h:(t==ifW)=false) (a b d d':Rs):Gl t a b d=Gl t a b d':=by
 unfold Gl
 rw [h]
 rfl
theorem l7 {t:Str} (h:(t==Ct)=true) (a b b' d d':Rs):Gl t a b d=Gl t a b' d':=by
 have e:t=Ct:=by simpa using h
 subst e
 rw [V6,V6 a b' d']
theorem wx {t:Str} {k:List Expr} {f:Expr→Rs} {a:Rs} (h1:(t==Ct)=false→1<k.length) (h2:(t==ifW)=true→2<k.length):Gl t a ((k.map f).getD 1 (noV,0)) ((k.map f).getD 2 (noV,0))=Gl t a (f (k.getD 1 Au)) (f (k.getD 2 Au)):=by
 cases hn:t==Ct with
 | true=>exact l7 hn _ _ _ _ _
 | false =>
  rw [(Hi (h1 hn)).2.2]
  cases hi:t==ifW with
  | true=>rw [(Hi (h2 hi)).2.2]
  | false=>exact pc hi _ _ _ _
theorem AQt (c:List Col) (l:List Val) (hc:OkCols c) (hl:l.length=c.length) (hf:∀v∈l,Fine v):∀(n:Nat) (e:Expr),okE n e→E0 Ew e=true→E0 Hb e=true→E0 Sh e=true→Kh c l e (Cu c l e):=by
 intro n
 induction n with
 | zero=>exact fun e h=>h.elim
 | succ n ih =>
 intro e hok hnd hrg hvo Hp
 have hnd0:=hnd
 have hrg0:=hrg
 have hvo0:=hvo
 rw [Jf,At] at hnd0 hrg0 hvo0
 have hev:∀y∈e.kids,Kh c l y (Cu c l y):=fun y hy=>ih y (hok.2.2 y hy) ((Fh _ _).1 hnd0.2 y hy) ((Fh _ _).1 hrg0.2 y hy) ((Fh _ _).1 hvo0.2 y hy)
 obtain ⟨k5,k34,k6,_⟩:=ca hnd0.1
 have hev0:Cu c l e=La Bx c l e.op e.text e.val (e.kids.map (Cu c l)):=Mk _ _ _ _
 refine Ae [.cell 4 24,.tmp 5] [0,1] Tryz.func172 Tryz.ntmps172 (fun d=>?_)
 refine Z1 ?_;refine AE9 ?_;refine Z16 ?_;refine Z23 ?_;refine A2 [2,3,4,7] ?_
 refine A4 (fun ht7=>?_) (fun ht7=>?_)
 ·have hm:Cu c l e=(e.val,0):=by rw [hev0];unfold La;rw [if_pos ht7]
  refine Z1 ?_;exact Z97
 refine Z23 ?_;refine A2 [2,3,4,13] ?_
 refine A4 (fun ht13=>?_) (fun ht13=>?_)
 ·have hm0:Cu c l e=Sg c l e.text:=by rw [hev0];unfold La;rw [if_neg (by rw [ht7];simp),if_pos ht13]
  refine Z23 ?_;refine Aa Tryz.call60 (c60 c hc e.text _) ?_;refine A5 ?_;refine A2 [2,4,6] ?_;refine Z7 ?_;refine A2 [2,4,6,23] ?_
  refine A4 (fun ht23=>?_) (fun ht23=>?_)
  ·have hm:Cu c l e=De 9:=by rw [hm0];exact if_pos (by simpa using ht23)
   refine Zd ?_;refine Z47 ?_;refine C9 ?_;exact Z18
  have hneg:¬(Aw e.text c<0):=by simpa using ht23
  obtain ⟨j,hj,hjc⟩:=Fl hneg
  have hjl:j<l.length:=by omega
  have hm:Cu c l e=(l[j],0):=by
   rw [hm0]
   unfold Sg
   rw [if_neg hneg,hj,Int.toNat_natCast,Bw,Ab hjl]
   rfl
  rw [hj]
  refine Qy ?_
  refine A5 (h:=Ai (j) (Bm l[j]) (fun _=>B6 hjl)) (hr:=?_)
  refine A5 ?_;exact Z97
 refine Z23 ?_;refine Wo ?_;refine A2 [2,3,4,32] ?_
 refine A4 (fun ht32=>?_) (fun ht32=>?_)
 ·have h32:((e.op==5)&&(e.text==orW))=true:=ht32
  have hop:e.op=5:=by simp only [At,beq_iff_eq] at h32;exact h32.1
  have hkl:=k5 hop
  have hm:Cu c l e=Jz (Io true) (Cu c l (e.kids.getD 0 Au)) (Cu c l (e.kids.getD 1 Au)):=by rw [hev0];unfold La;rw [if_neg (by rw [ht7];simp),if_neg (by rw [ht13];simp),if_pos h32,(Hi (by omega)).2.2,(Hi (by omega)).2.2]
  refine Dt [0,0,0,7,15,15,63,127] 6 Aj (by kernel_rfl) ?_;refine Z8 ?_;refine Dl Tryz.call178 (et _ _) ?_;refine Dl Tryz.call216 (ANb c l e (e.kids.getD 0 Au) (e.kids.getD 1 Au) (Io true) _ _ (Hi (by omega)).1 (Hi (by omega)).1 (hev _ (Hi (by omega)).2.1) (hev _ (Hi (by omega)).2.1) _) ?_;refine Z92 ?_;exact Z97
 have h32:((e.op==5)&&(e.text==orW))=false:=ht32
 refine Z23 ?_;refine Wo ?_;refine A2 [2,3,4,47] ?_
 refine A4 (fun ht47=>?_) (fun ht47=>?_)
 ·have h47:((e.op==5)&&(e.text==AF4))=true:=ht47
  have hop:e.op=5:=by simp only [At,beq_iff_eq] at h47;exact h47.1
  have hkl:=k5 hop
  have hm:Cu c l e=Jz (Io false) (Cu c l (e.kids.getD 0 Au)) (Cu c l (e.kids.getD 1 Au)):=by rw [hev0];unfold La;rw [if_neg (by rw [ht7];simp),if_neg (by rw [ht13];simp),if_neg (by rw [h32];simp),if_pos h47,(Hi (by omega)).2.2,(Hi (by omega)).2.2]
  refine Dt [0,0,0,7,15,15,63,127] 6 Aj (by kernel_rfl) ?_;refine Z8 ?_;refine Dl Tryz.call178 (et _ _) ?_;refine Dl Tryz.call216 (ANb c l e (e.kids.getD 0 Au) (e.kids.getD 1 Au) (Io false) _ _ (Hi (by omega)).1 (Hi (by omega)).1 (hev _ (Hi (by omega)).2.1) (hev _ (Hi (by omega)).2.1) _) ?_;refine Z92 ?_;exact Z97
 have h47:((e.op==5)&&(e.text==AF4))=false:=ht47
 refine Z23 ?_;refine Pw ?_;refine Pw ?_;refine Z6 ?_;refine Wo ?_;refine A2 [2,3,4,62] ?_
 refine A4 (fun ht62=>?_) (fun ht62=>?_)
 ·have h62:((e.op==6)&&(((e.text==ifW) || (e.text==fl)) || (e.text==Ct)))=true:=ht62
  obtain ⟨hkl,hl1,hl2⟩:0<e.kids.length∧((e.text==Ct)=false→1<e.kids.length)∧((e.text==ifW)=true→2<e.kids.length):=by
   have h:=h62
   simp only [At,Dq,beq_iff_eq] at h
   have ha:=k6 h.1
   rcases h.2 with (h1|h1)|h1
   ·rw [h1] at ha ⊢
    have:e.kids.length=3:=by
     have:Cf ifW=3:=by kernel_rfl
     omega
    exact ⟨by omega,fun _=>by omega,fun _=>by omega⟩
   ·rw [h1] at ha ⊢
    have:e.kids.length=2:=by
     have:Cf fl=2:=by kernel_rfl
     omega
    exact ⟨by omega,fun _=>by omega,fun h=>absurd h (by decide)⟩
   rw [h1] at ha ⊢
   have:e.kids.length=1:=by
    have:Cf Ct=1:=by kernel_rfl
    omega
   exact ⟨by omega,fun h=>absurd h (by decide),fun h=>absurd h (by decide)⟩
  have hm:Cu c l e=Gl e.text (Cu c l (e.kids.getD 0 Au)) (Cu c l (e.kids.getD 1 Au)) (Cu c l (e.kids.getD 2 Au)):=by
   rw [hev0]
   unfold La
   rw [if_neg (by rw [ht7];simp),if_neg (by rw [ht13];simp),if_neg (by rw [h32];simp),if_neg (by rw [h47];simp),if_pos h62,(Hi hkl).2.2]
   exact wx hl1 hl2
  refine Z1 ?_;refine Aa Tryz.call217 (AQr c l e (e.kids.getD 0 Au) (e.kids.getD 1 Au) (e.kids.getD 2 Au) _ _ _ (Hi (by omega)).1 (fun h=>(Hi (hl1 h)).1) (fun h=>(Hi (hl2 h)).1) (hev _ (Hi (by omega)).2.1) (fun h=>hev _ (Hi (hl1 h)).2.1) (fun h=>hev _ (Hi (hl2 h)).2.1) _) ?_;refine Z0 ?_;exact Z97
 have h62:((e.op==6)&&(((e.text==ifW) || (e.text==fl)) || (e.text==Ct)))=false:=ht62
 have hm:=g9 (c:=c) (l:=l) ht7 ht13 h32 h47 h62
 refine Z19 ?_;refine Z1 ?_;refine Aa Tryz.call218 (AQs c l e hok.2.1 hev (fun _=>AFy hf hnd hrg hvo h62) _) ?_;refine Z0 ?_;exact Z53

def P6 (l:List Val):Bool:=decide ((50:Int)<(l.length:Int)) || l.any fun v=>decide ((400:Int)<(v.s.length:Int))
theorem c45 (l:List Val) (Hp:List AObj):AFun Tryz.prog 45 [Hf l] Hp (Az (P6 l)):=by
 refine Ae [.tmp 2] [0] Tryz.func45 Tryz.ntmps45 (fun d=>?_)
 refine mz ?_;refine A2 [0,6] ?_
 refine A4 (fun ht6=>?_) (fun ht6=>?_)
 ·rw [Ao] at ht6
  have hm:P6 l=true:=by unfold P6;rw [ht6];rfl
  exact AE5
 rw [Ao] at ht6
 have hl50:l.length≤50:=by simp at ht6;omega
 refine Oi ?_;refine Nv ?_
 refine Bf (α:=Nat) (fun x=>⟨20,A6 0 (Hf l) (A6 3 (A3 (x:Nat)) (fun _=>.any)),Hp,[],[],none⟩) (fun x=>x≤l.length∧∀(j:Nat) (v:Val),j<x→l[j]? = some v→decide ((400:Int)<(v.s.length:Int))=false) (fun x=>l.length-x) (0) ⟨Ar _,fun j v h=>by omega⟩ (Bj (by simp)) rfl (fun x hx=>?_)
 refine Z83 ?_;refine A2 [0,3,10] ?_
 refine A4 (fun ht10=>?_) (fun ht10=>?_)
 ·have hlt:x<l.length:=by simpa using ht10
  refine Oh ?_;refine Z1 ?_
  refine A5 (h:=Ai (x) (Bm l[x]) (fun _=>B6 hlt)) (hr:=?_)
  refine Z57 ?_;refine A2 [0,3,19] ?_
  refine A4 (fun ht19=>?_) (fun ht19=>?_)
  ·have hm:P6 l=true:=by unfold P6;rw [Dq];exact .inr (H9.2 ⟨l[x],Be hlt,ht19⟩)
   refine Z58 ?_;exact mt
  refine Z19 ?_;refine Z44 ?_
  refine A5 (h:=Qp (h1:=fun _=>by omega) (h2:=fun _=>by omega)) (hr:=?_)
  refine A5 ?_;refine Nv ?_;exact AKg
 have hxe:l.length≤x:=by simpa using ht10
 have hm:P6 l=false:=by
  unfold P6
  rw [ht6,F6,I2]
  intro v hv
  obtain ⟨j,hj⟩:=C8 hv
  have:=hx.2 j v (by have:=(Ad.1 hj).1;omega) hj
  rw [this]
  simp
 refine Pu ?_;exact AHt

structure RowAt (c:List Col) (l:List Val) (x:Nat):Prop where
 le:x≤l.length
 ok:∀(i:Nat) (v:Val) (y:Col),i<x→l[i]? = some v→c[i]? = some y→Ee v=true∧(v.kind=0∨v.kind=y.kind)
theorem RowAt.next {c:List Col} {l:List Val} {x:Nat} (h:RowAt c l x) (hl:x<l.length) (hc:x<c.length) (hb:((!(Ee l[x])) || ((l[x].kind != 0)&&(l[x].kind != c[x].kind)))=false):RowAt c l (x+1):=⟨hl,fun i v y hi hv hy=>by
 rcases Bk i x with h'|h'
 ·exact h.ok i v y h' hv hy
 have e:i=x:=by omega
 subst e
 rw [Ab hl] at hv
 rw [Ab hc] at hy
 injection hv with hv
 injection hy with hy
 subst hv
 subst hy
 simp only [E1,Mo,ye,bne_eq_false_iff_eq] at hb
 exact ⟨hb.1,hb.2⟩⟩
theorem RowAt.bad {c:List Col} {l:List Val} {x:Nat} (hl:x<l.length) (hc:x<c.length) (hb:((!(Ee l[x])) || ((l[x].kind != 0)&&(l[x].kind != c[x].kind)))=true):Im c l=false:=by
 cases h:Im c l with
 | false=>rfl
 | true =>
  obtain ⟨h1,h2⟩:=(row_iff.1 h).2.2 x l[x] c[x] (Ab hl) (Ab hc)
  rw [h1] at hb
  simp only [Kp,F6,At,bne_iff_ne] at hb
  omega
theorem c47 (c:List Col) (hc:OkCols c) (l:List Val) (hll:l.length≤1048576) (Hp:List AObj):AFun Tryz.prog 47 [An c,Hf l] Hp (Az (Im c l)):=by
 refine Ae [.tmp 4] [0,1] Tryz.func47 Tryz.ntmps47 (fun d=>?_)
 refine Z36 ?_;refine Z30 ?_;refine Aa Tryz.call50 (c50 c hc _) ?_;refine Z77 ?_;refine Z48 ?_;refine A2 [0,1,16] ?_
 refine A4 (fun ht16=>?_) (fun ht16=>?_)
 ·have hm:Im c l=false:=by
   simp only [Ao,Dq,Ko,bne_iff_ne,ne_eq] at ht16
   unfold Im
   rcases ht16 with h|h
   ·rw [h];rfl
   rw [show (l.length==c.length)=false by simpa using (show l.length≠c.length by omega)];simp
  exact ik
 have hcl:Ip c=true∧l.length=c.length:=by
  simp only [Ao,E1,Mo,bne_eq_false_iff_eq] at ht16
  exact ⟨ht16.1,by omega⟩
 refine iq ?_;refine A2 [0,17,18,19] ?_
 refine Bf (α:=Nat) (fun x=>⟨43,A6 0 (An c) (A6 17 (Hf l) (A6 18 (A3 (l.length:Nat)) (A6 19 (A3 (x:Nat)) (fun _=>.any)))),Hp,[],[],none⟩) (fun x=>RowAt c l x) (fun x=>l.length-x) (0) ⟨Ar _,fun i v y h=>by omega⟩ (Bj (by simp)) rfl (fun x hx=>?_)
 refine Z2 ?_;refine A2 [0,17,18,19,20] ?_
 refine Cr (fun ht20=>?_) (fun ht20=>?_)
 ·have hlt:x<l.length:=by simpa using ht20
  have hlc:x<c.length:=by omega
  refine Rz ?_
  refine A5 (h:=Ai (x) (Bm l[x]) (fun _=>B6 hlt)) (hr:=?_)
  refine um ?_;refine A2 [0,5,6,17,18,19] ?_;refine Dt [0,1,3,7,15,31,63,127,255,511,255,255,3327,7423,15615,32767,65535,131071] 15 Aj (by kernel_rfl) ?_;refine Aq ?_;refine Dl Tryz.call93 (c93 _ _) ?_;refine Z8 ?_;refine Z87 ?_;refine Z87 ?_;refine Z87 ?_;refine Z87 ?_
  refine H.go (h:=Ai (x) (C0 c[x]) (fun _=>B6 hlc)) (hr:=?_)
  refine Z87 ?_;refine Ht ?_;refine io ?_;refine A2 [0,17,18,19,41] ?_
  refine A4 (fun ht41=>?_) (fun ht41=>?_)
  ·have hm:=RowAt.bad hlt hlc ht41
   exact AE0
  refine Z73 ?_;refine A2 [0,17,18,19] ?_;refine Bg (x+1) (hx.next hlt hlc ht41) (by omega) ?_
  exact Di (own:=[]) (fun _=>.refl _) (by repeat (first|exact Bc|refine Bb (by first|exact l6|exact low_cols|(simp [or_imp,forall_and];done)) ?_)) (by simp) (by simp)
 have hxe:l.length≤x:=by simpa using ht20
 have hm:Im c l=true:=row_iff.2 ⟨by rw [←N6];exact hcl.1,hcl.2,fun i v y hv hy=>hx.ok i v y (by have:=(Ad.1 hv).1;omega) hv hy⟩
 refine Z28 ?_;exact Z95

theorem ACl {e:Expr} (h:Ew e=true):Sh e=true:=by
 unfold Sh
 cases L7 h with
 | val v hp h0=>simpa [Ox,Expr.op,Expr.val] using hp
 | name t ht=>rfl
 | neg a=>rfl
 | no a=>rfl
 | bin t a b ht=>rfl
 | call t k ht=>rfl
mutual
theorem sd:∀e:Expr,E0 Ew e=true→E0 Sh e=true
 | .mk o t v k,h=>by
  rw [E0,At] at h ⊢
  exact ⟨ACl h.1,l8 k h.2⟩
theorem l8:∀k:List Expr,Ov Ew k=true→Ov Sh k=true
  | [],_=>rfl
  | e::r,h=>by
    rw [Ov,At] at h ⊢
    exact ⟨sd e h.1,l8 r h.2⟩
 end
theorem ACm {c:List Col} {l:List Val} (h:Im c l=true) (hr:∀v∈l, -9223372036854775808≤v.n∧v.n≤9223372036854775807):∀v∈l,Fine v:=fun v hv=>by
 obtain ⟨i,hi⟩:=C8 hv
 obtain ⟨_,h2,h3⟩:=row_iff.1 h
 have hil:=(Ad.1 hi).1
 exact ⟨(h3 i v _ hi (Ab (show i<c.length by omega))).1,(hr v hv).1,(hr v hv).2⟩
theorem ANc (n:Nat) (x:Expr) (hok:okE n x) (hn:n≤1048576) (hrg:E0 Hb x=true) (c:List Col) (hc:OkCols c) (l:List Val) (hll:l.length≤1048576) (hlr:∀v∈l, -9223372036854775808≤v.n∧v.n≤9223372036854775807) (Hp:List AObj):AFun Tryz.prog 138 [A7 x,An c,Hf l] Hp (Uc (Cx x c l)):=by
 refine Ae [.cell 6 24,.tmp 7] [0,1,2] Tryz.func138 Tryz.ntmps138 (fun d=>?_)
 refine Z2 ?_;refine uc ?_;refine Z30 ?_;refine Aa Tryz.call96 (c96 n x hok hn _) ?_;refine Z35 ?_;refine C3 Tryz.call47 (fun hB=>c47 c hc l hll _) ?_;refine Z48 ?_;refine A2 [1,2,3,6,16] ?_
 refine A4 (fun ht16=>?_) (fun ht16=>?_)
 ·have hm:Cx x c l=De 1:=if_pos ht16
  refine Zd ?_;refine Z68 ?_;exact Z25
 have hm:Cx x c l=Cu c l x:=if_neg (by rw [ht16];simp)
 have hrr:Ay x=true∧Im c l=true:=by simpa using ht16
 obtain ⟨hr,hrow⟩:=hrr
 refine Z98 ?_;refine n6 ?_;refine A5 ?_;refine Aa Tryz.call172 (AQt c l hc (row_iff.1 hrow).2.1 (ACm hrow hlr) n x hok (P2 hr) hrg (sd x (P2 hr)) _) ?_;refine Z0 ?_;exact AKl

theorem ACn {l:List Val} (h:P6 l=false):l.length≤1048576:=by
 unfold P6 at h
 simp only [E1,decide_eq_false_iff_not] at h
 omega
/-! SoundJoins: one behind the other, in one. -/
/-! image: rows forth and back. -/
/-- image.reckon. -/
def Gp (c:List Col) (row:List Val):List Expr→List Val×Int
 | []=>([],0)
 | x::r=>if (Cx x c row).2 != 0 then ([],(Cx x c row).2) else if (Gp c row r).2 != 0 then ([],(Gp c row r).2) else ((Cx x c row).1::(Gp c row r).1,0)
theorem Ye {c:List Col} {row:List Val}:∀{l:List Expr},(∀(j:Nat) (y:Expr),l[j]? = some y→((Cx y c row).2 != 0)=false)→Gp c row l=(l.map (fun e=>(Cx e c row).1),0)
 | [],_=>rfl
 | x::r,h=>by
  rw [Gp,Ye (l:=r) (fun j y hy=>h (j+1) y hy),if_neg (by rw [h 0 x rfl];simp),if_neg (by simp)]
  rfl
theorem Yf {c:List Col} {row:List Val}:∀{l:List Expr} {x:Nat} {y:Expr},(∀(j:Nat) (z:Expr),j<x→l[j]? = some z→((Cx z c row).2 != 0)=false)→l[x]? = some y→((Cx y c row).2 != 0)=true→Gp c row l=([],(Cx y c row).2)
 | [],_,_,_,h,_=>by simp at h
 | a::r,0,y,_,h,h1=>by
  have:a=y:=by simpa using h
  subst this
  rw [Gp,if_pos h1]
 | a::r,x+1,y,h0,h,h1=>by
  rw [Gp,if_neg (by rw [h0 0 a (by omega) rfl];simp),Yf (l:=r) (x:=x) (fun j z hj hz=>h0 (j+1) z (by omega) hz) (by simpa using h) h1,if_pos h1]
theorem c48 (l:List Val) (hl:l.length≤1048576) (Hp:List AObj):AFun Tryz.prog 48 [Hf l] Hp (Hf l):=by
 refine Ae [.tmp 2] [0] Tryz.func48 Tryz.ntmps48 (fun d=>?_)
 refine Z43 ?_;refine Z30 ?_
 refine R.eqlNil jU (by kernel_rfl) (fun b hb=>?_)
 refine A2 [0,4] ?_
 refine A4 (fun ht4=>?_) (fun ht4=>?_)
 ·have hl0:l=[]:=by simpa using hb ht4
  subst hl0
  refine Z2 ?_;refine Ts 2 3 false ?_;refine Z4 ?_;exact AL9
 refine Z3 ?_;refine Z42 ?_;refine A5 ?_
 refine Ep jU Tryz.type24 ?_ ?_ ?_
 ·simp [Tryz.t24];omega
 ·simp [Tryz.t24];omega
 refine Jv ?_;exact ALf

/-- What a card says of rows. -/
structure RW (l:List Row):Prop where
 len:l.length≤1048576
 each:∀x∈l,x.l.length≤1048576∧∀v∈x.l, -9223372036854775808≤v.n∧v.n≤9223372036854775807
def Qb (l:List Row):Bool:=decide ((60:Int)<(l.length:Int)) || l.any fun x=>P6 x.l
theorem cb {α:Type} {a b:List α} (h:a.length=b.length) (hp:∀(j:Nat) (y:α),j<a.length→a[j]? = some y→b[j]? = some y):a=b:=Q9 h fun j y hj hy=>hp j y (by omega) hy
theorem c19 (l:List Row) (Hp:List AObj):AFun Tryz.prog 19 [Gy l] Hp (Az (Qb l)):=by
 refine Ae [.tmp 2] [0] Tryz.func19 Tryz.ntmps19 (fun d=>?_)
 refine mz ?_;refine A2 [0,6] ?_
 refine A4 (fun ht6=>?_) (fun ht6=>?_)
 ·rw [Ao] at ht6
  have hm:Qb l=true:=by unfold Qb;rw [ht6];rfl
  exact AE5
 rw [Ao] at ht6
 have hl50:l.length≤60:=by simp at ht6;omega
 refine Oi ?_;refine Nv ?_
 refine Bf (α:=Nat) (fun x=>⟨19,A6 0 (Gy l) (A6 3 (A3 (x:Nat)) (fun _=>.any)),Hp,[],[],none⟩) (fun x=>x≤l.length∧∀(j:Nat) (v:Row),j<x→l[j]? = some v→P6 v.l=false) (fun x=>l.length-x) (0) ⟨Ar _,fun j v h=>by omega⟩ (Bj (by simp)) rfl (fun x hx=>?_)
 refine Z83 ?_;refine A2 [0,3,10] ?_
 refine A4 (fun ht10=>?_) (fun ht10=>?_)
 ·have hlt:x<l.length:=by simpa using ht10
  refine Oh ?_;refine Z1 ?_
  refine A5 (h:=Ai (x) (Eh l[x]) (fun _=>B6 hlt)) (hr:=?_)
  refine Z0 ?_;refine Aa Tryz.call45 (c45 l[x].l _) ?_;refine A2 [0,3,18] ?_
  refine A4 (fun ht18=>?_) (fun ht18=>?_)
  ·have hm:Qb l=true:=by unfold Qb;rw [Dq];exact .inr (H9.2 ⟨l[x],Be hlt,ht18⟩)
   refine Z58 ?_;exact mt
  refine Z19 ?_;refine Z44 ?_
  refine A5 (h:=Qp (h1:=fun _=>by omega) (h2:=fun _=>by omega)) (hr:=?_)
  refine A5 ?_;refine Nv ?_;refine Bg (x+1) ⟨hlt,El hlt hx.2 ht18⟩ (by omega) ?_;exact Dn (by simp)
 have hxe:l.length≤x:=by simpa using ht10
 have hm:Qb l=false:=by
  unfold Qb
  rw [ht6,F6,I2]
  intro v hv
  obtain ⟨j,hj⟩:=C8 hv
  have:=hx.2 j v (by have:=(Ad.1 hj).1;omega) hj
  rw [this]
  simp
 refine Pu ?_;exact AHt

theorem c56 (a b:List Val) (ha:a.length≤1048576) (Hp:List AObj):AFun Tryz.prog 56 [Hf a,Hf b] Hp (Az (decide (a=b))):=by
 refine Ae [.tmp 4] [0,1] Tryz.func56 Tryz.ntmps56 (fun d=>?_)
 refine Z36 ?_;refine ek ?_;refine A2 [0,1,10] ?_
 refine A4 (fun ht10=>?_) (fun ht10=>?_)
 ·have hm:decide (a=b)=false:=by rw [decide_eq_false];rintro rfl;simp at ht10
  exact ik
 have hlen:a.length=b.length:=by have:=ht10;simp at this;omega
 refine Oi ?_;refine Vg ?_
 refine Bf (α:=Nat) (fun x=>⟨26,A6 0 (Hf a) (A6 1 (Hf b) (A6 5 (A3 (x:Nat)) (fun _=>.any))),Hp,[],[],none⟩) (fun x=>x≤a.length∧∀(j:Nat) (y:Val),j<x→a[j]? = some y→b[j]? = some y) (fun x=>a.length-x) (0) ⟨Ar _,fun j y h=>by omega⟩ (Bj (by simp)) rfl (fun x hx=>?_)
 refine Z83 ?_;refine A2 [0,1,5,14] ?_
 refine A4 (fun ht14=>?_) (fun ht14=>?_)
 ·have hlt:x<a.length:=by simpa using ht14
  have hlb:x<b.length:=by omega
  refine Oh ?_;refine W.draw [0,0,3,7,0,0,48,112,255] 8 Aj (by kernel_rfl) ?_;refine Z8 ?_
  refine Aq (h:=Ai (x) (Bm a[x]) (fun _=>B6 hlt)) (hr:=?_)
  refine Z33 ?_
  refine Aq (h:=Ai (x) (Bm b[x]) (fun _=>B6 hlb)) (hr:=?_)
  refine uk ?_
  refine A5 (h:=Q.neqAgg Zk (Jc a[x].kind a[x].n b[x].kind b[x].n a[x].s b[x].s)) (hr:=?_)
  refine A2 [0,1,5,25] ?_
  refine A4 (fun ht25=>?_) (fun ht25=>?_)
  ·rw [ql] at ht25
   have hm:decide (a=b)=false:=by
    rw [decide_eq_false]
    rintro rfl
    simp at ht25
   exact AE0
  rw [ql] at ht25
  have heq:a[x]=b[x]:=by simpa using ht25
  refine ef ?_;refine Vg ?_
  exact Bg (x+1) ⟨hlt,L3 (p:=fun j y=>b[j]? = some y) hlt hx.2 (by rw [Ab hlb,heq])⟩ (by omega) (Dn rfl)
 have hxe:a.length≤x:=by simpa using ht14
 have hm:decide (a=b)=true:=decide_eq_true (cb hlen fun j y hj hy=>hx.2 j y (by omega) hy)
 refine Pu ?_;exact Z95

theorem c24 (a b:List Row) (ha:a.length≤1048576) (he:∀x∈a,x.l.length≤1048576) (Hp:List AObj):AFun Tryz.prog 24 [Gy a,Gy b] Hp (Az (decide (a=b))):=by
 refine Ae [.tmp 4] [0,1] Tryz.func24 Tryz.ntmps24 (fun d=>?_)
 refine Z36 ?_;refine ek ?_;refine A2 [0,1,10] ?_
 refine A4 (fun ht10=>?_) (fun ht10=>?_)
 ·have hm:decide (a=b)=false:=by rw [decide_eq_false];rintro rfl;simp at ht10
  exact ik
 have hlen:a.length=b.length:=by have:=ht10;simp at this;omega
 refine Oi ?_;refine Vg ?_
 refine Bf (α:=Nat) (fun x=>⟨42,A6 0 (Gy a) (A6 1 (Gy b) (A6 5 (A3 (x:Nat)) (fun _=>.any))),Hp,[],[],none⟩) (fun x=>x≤a.length∧∀(j:Nat) (y:Row),j<x→a[j]? = some y→b[j]? = some y) (fun x=>a.length-x) (0) ⟨Ar _,fun j y h=>by omega⟩ (Bj (by simp)) rfl (fun x hx=>?_)
 refine Z83 ?_;refine A2 [0,1,5,14] ?_
 refine A4 (fun ht14=>?_) (fun ht14=>?_)
 ·have hlt:x<a.length:=by simpa using ht14
  have hlb:x<b.length:=by omega
  refine Oh ?_;refine W.draw [0,0,3,7,15,0,0,96,224,480,1023,2047,4095,4095,16383,32767,65535,4095,4095,397311,921599,1970175,4194303,8388607,16777215] 22 Aj (by kernel_rfl) ?_;refine Z8 ?_
  refine Aq (h:=Ai (x) (Eh a[x]) (fun _=>B6 hlt)) (hr:=?_)
  refine Ti ?_
  refine Aq (h:=Ai (x) (Eh b[x]) (fun _=>B6 hlb)) (hr:=?_)
  refine Ti ?_;refine Z87 ?_
  refine H.go (h:=Ai (x) (Eh a[x]) (fun _=>B6 hlt)) (hr:=?_)
  refine Z87 ?_;refine Z87 ?_
  refine H.go (h:=Ai (x) (Eh b[x]) (fun _=>B6 hlb)) (hr:=?_)
  refine Z87 ?_;refine Ht ?_;refine C3 Tryz.call56 (fun hB=>c56 a[x].l b[x].l (he _ (Be hlt)) _) ?_;refine Z48 ?_;refine A2 [0,1,5,41] ?_
  refine A4 (fun ht41=>?_) (fun ht41=>?_)
  ·rw [qm] at ht41
   have hm:decide (a=b)=false:=by
    rw [decide_eq_false]
    rintro rfl
    simp at ht41
   exact AE0
  rw [qm] at ht41
  have heq:a[x]=b[x]:=by simpa using ht41
  refine ef ?_;refine Vg ?_
  exact Bg (x+1) ⟨hlt,L3 (p:=fun j y=>b[j]? = some y) hlt hx.2 (by rw [Ab hlb,heq])⟩ (by omega) (Dn rfl)
 have hxe:a.length≤x:=by simpa using ht14
 have hm:decide (a=b)=true:=decide_eq_true (cb hlen fun j y hj hy=>hx.2 j y (by omega) hy)
 refine Pu ?_;exact Z95

theorem ANd (n:Nat) (x:Expr) (hok:okE n x) (hn:n≤1048576) (hrg:E0 Hb x=true) (c:List Col) (hc:OkCols c) (l:List Val) (hll:l.length≤1048576) (hlr:∀v∈l, -9223372036854775808≤v.n∧v.n≤9223372036854775807) (Hp:List AObj):AFun Tryz.prog 142 [A7 x,An c,Hf l] Hp (.tup [Az (Y1 (Cx x c l)),A3 (Sj (Cx x c l))]):=by
 refine Ae [.tmp 6,.tmp 7] [0,1,2] Tryz.func142 Tryz.ntmps142 (fun d=>?_)
 refine Z15 ?_;refine A2 [1,2,3] ?_;refine Z15 ?_;refine Aa Tryz.call138 (ANc n x hok hn hrg c hc l hll hlr _) ?_;refine Pv ?_;refine A2 [8,9] ?_;refine Z31 ?_;refine Z69 ?_;refine Z35 ?_;refine Z48 ?_;refine A2 [8,9,28] ?_
 refine A4 (fun ht28=>?_) (fun ht28=>?_)
 ·have hm:Sj (Cx x c l)=10:=if_pos ht28
  refine Z44 ?_;refine A2 [8,9] ?_;refine Gg ?_;refine ALa ?_;refine H.go ?_;refine H.call Tryz.call178 (fun hB=>et true _) ?_
  refine H.go (h:=Qq Zk (fun w=>Jc (Cx x c l).1.kind (Cx x c l).1.n 3 1 (Cx x c l).1.s [] w)) (hr:=?_)
  refine Z33 ?_;refine Ht ?_;exact AKj
 have hm:Sj (Cx x c l)=(Cx x c l).2:=if_neg (by rw [ht28];simp)
 refine Z3 ?_;refine ALa ?_;refine H.go ?_;refine H.call Tryz.call178 (fun hB=>et true _) ?_
 refine H.go (h:=Qq Zk (fun w=>Jc (Cx x c l).1.kind (Cx x c l).1.n 3 1 (Cx x c l).1.s [] w)) (hr:=?_)
 refine Z33 ?_;refine Ht ?_;exact AKj

theorem AQu (q:Qry) (h:QW q) (c:List Col) (hc:OkCols c) (l:List Val) (hll:l.length≤1048576) (hlr:∀v∈l, -9223372036854775808≤v.n∧v.n≤9223372036854775807) (Hp:List AObj):AFun Tryz.prog 103 [Nx q,An c,Hf l] Hp (.tup [Az (C4 q c l).1,A3 (C4 q c l).2]):=by
 refine Ae [.tmp 6,.tmp 7] [0,1,2] Tryz.func103 Tryz.ntmps103 (fun d=>?_)
 refine Z15 ?_;refine A2 [1,2,3] ?_;refine Z7 ?_;refine Aa Tryz.call47 (c47 c hc l hll _) ?_;refine A5 ?_;refine A2 [1,2,3,11] ?_
 refine A4 (fun ht11=>?_) (fun ht11=>?_)
 ·have hm:C4 q c l=(false,1):=by unfold C4;rw [if_pos ht11]
  refine Z1 ?_;refine Z17 ?_;exact Z40
 refine Oi ?_;refine Aa Tryz.call61 (c61 q h _) ?_;refine A5 ?_;refine A2 [1,2,3,14] ?_
 refine A4 (fun ht14=>?_) (fun ht14=>?_)
 ·have hm:C4 q c l=(true,0):=by unfold C4;rw [if_neg (by rw [ht11];simp),if_pos ht14]
  refine Z1 ?_;refine Z17 ?_;exact Z40
 have hm:C4 q c l=(Y1 (Cx q.whr c l),Sj (Cx q.whr c l)):=by unfold C4;rw [if_neg (by rw [ht11];simp),if_neg (by rw [ht14];simp)]
 refine Zh ?_;refine Aa Tryz.call142 (ANd 61 q.whr h.ok (by decide) h.rng c hc l hll hlr _) ?_;refine Z57 ?_;exact AKv

def AFz (c:List Col) (s:Str):Bool:=decide (Aw s c<0)
def Yg (p:Str→Bool) (ks:List Str):Int:=if ks.any p then (ks.findIdx p:Int) else -1
theorem ACo {p:Str→Bool} {ks:List Str} {i:Nat} (h:i<ks.length) (hn:p ks[i]=true) (hp:∀(j:Nat) (y:Str),j<i→ks[j]? = some y→¬p y=true):(i:Int)=Yg p ks:=by
 unfold Yg
 rw [if_pos (H9.2 ⟨_,Be h,hn⟩)]
 congr 1
 refine (mc h |>.2 ⟨hn,fun j hj=>?_⟩).symm
 have:=hp j (ks[j]'(by omega)) hj (Ab (by omega))
 simpa using this
theorem pe {p:Str→Bool} {ks:List Str} (hp:∀(j:Nat) (y:Str),ks[j]? = some y→¬p y=true):(-1:Int)=Yg p ks:=by
 unfold Yg
 rw [if_neg]
 intro h
 obtain ⟨y,hy,hn⟩:=H9.1 h
 obtain ⟨j,hj⟩:=C8 hy
 exact hp j y hj hn
theorem wy (p:Str→Bool) (ks:List Str):decide (0≤Yg p ks)=ks.any p:=by
 unfold Yg
 cases ks.any p<;>simp
theorem c59 (c:List Col) (hc:OkCols c) (s:Str) (Hp:List AObj):AFun Tryz.prog 59 [Ac s,.ro [An c]] Hp (Az (AFz c s)):=by
 refine Ae [.tmp 3] [0,1] Tryz.func59 Tryz.ntmps59 (fun d=>?_)
 refine el ?_;refine Aa Tryz.call60 (c60 c hc s _) ?_;refine Z0 ?_;refine A2 [3] ?_;refine Fs ?_;exact uq

theorem AQv (c:List Col) (hc:OkCols c) (ks:List Str) (hkl:ks.length≤1048576) (Hp:List AObj):AFun Tryz.prog 106 [Fg ks,.fn (.func 59) [] [.ro [An c]]] Hp (A3 (Yg (AFz c) ks)):=by
 refine Ae [.tmp 4] [0,1] Tryz.func106 Tryz.ntmps106 (fun d=>?_)
 refine eg ?_
 refine Bf (α:=Nat) (fun x=>⟨19,A6 0 (Fg ks) (A6 1 (.fn (.func 59) [] [.ro [An c]]) (A6 7 (A3 ks.length) (A6 8 (A3 (x:Nat)) (fun _=>.any)))),Hp,[],[],none⟩) (fun x=>x≤ks.length∧∀(j:Nat) (y:Str),j<x→ks[j]? = some y→¬AFz c y=true) (fun x=>ks.length-x) (0) (by simp) (Bj (by simp)) rfl (fun x hx=>?_)
 refine ea ?_
 refine Cr (fun ht9=>?_) (fun ht9=>?_)
 ·have hlt:x<ks.length:=by simpa using ht9
  refine ee ?_
  refine A5 (h:=Ai (x) (Ac ks[x]) (fun _=>B6 hlt)) (hr:=?_)
  refine A5 ?_;refine Mz Tryz.call59 (c59 c hc ks[x] _) ?_;refine en ?_
  refine A4 (fun ht16=>?_) (fun ht16=>?_)
  ·refine ii ?_;refine Z62 ?_;exact A8 (Ak A9) ⟨by rw [ACo hlt ht16 hx.2],rfl⟩
  refine Z73 ?_;exact AKa
 refine Z28 ?_;refine Z41 ?_;exact A8 (Ak A9) ⟨by rw [pe (Om (by simp at ht9;omega) hx.2)],rfl⟩

theorem AQw (c:List Col) (hc:OkCols c) (ks:List Str) (hkl:ks.length≤1048576) (Hp:List AObj):AFun Tryz.prog 58 [Fg ks,.fn (.func 59) [] [.ro [An c]]] Hp (Az (ks.any (AFz c))):=by
 refine Ae [.tmp 4] [0,1] Tryz.func58 Tryz.ntmps58 (fun d=>?_)
 refine el ?_;refine Aa Tryz.call106 (AQv c hc ks hkl _) ?_;refine Z0 ?_;refine Z11 ?_;exact A8 (Ak A9) ⟨by rw [←wy];try rfl,rfl⟩

theorem c25 (q:Qry) (h:QW q) (c:List Col) (hc:OkCols c) (Hp:List AObj):AFun Tryz.prog 25 [Nx q,An c] Hp (A3 (Bp q c)):=by
 refine Ae [.tmp 4] [0,1] Tryz.func25 Tryz.ntmps25 (fun d=>?_)
 refine zm ?_;refine Z30 ?_;refine Aa Tryz.call57 (c57 q h _) ?_;refine Qx ?_;refine C3 Tryz.call50 (C:=(((!(Ld q))==false))) (fun hB=>c50 c hc _) ?_;refine Z48 ?_;refine A2 [2,3,14] ?_
 refine A4 (fun ht14=>?_) (fun ht14=>?_)
 ·have hm:Bp q c=1:=if_pos ht14
  exact AE8
 refine Zi ?_;refine Ia ?_;refine Aa Tryz.call58 (AQw c hc q.cols h.len _) ?_;refine A2 [2,3,18] ?_
 refine A4 (fun ht18=>?_) (fun ht18=>?_)
 ·have hm:Bp q c=9:=by unfold Bp;rw [if_neg (by rw [ht14];simp)];exact if_pos ht18
  exact AE8
 have ht18b:¬(q.cols.any fun s=>decide (Aw s c<0))=true:=fun e=>Bool.false_ne_true (ht18.symm.trans e)
 refine Oi ?_;refine Aa Tryz.call61 (c61 q h _) ?_;refine A5 ?_;refine A2 [2,3,21] ?_
 refine A4 (fun ht21=>?_) (fun ht21=>?_)
 ·have hm:Bp q c=0:=by unfold Bp;rw [if_neg (by rw [ht14];simp),if_neg ht18b,if_pos ht21]
  exact AE8
 have hm0:Bp q c=if (Ie q.whr c).2 != 0 then (Ie q.whr c).2 else if !kc q.whr c 3 then 10 else 0:=by unfold Bp;rw [if_neg (by rw [ht14];simp),if_neg ht18b,if_neg (by rw [ht21];simp)]
 refine iq ?_;refine Aa Tryz.call62 (c62 61 q.whr h.ok (by decide) c hc _) ?_;refine Z81 ?_;refine A2 [2,3,6] ?_;refine Z1 ?_;refine A2 [2,3,6,30] ?_
 refine A4 (fun ht30=>?_) (fun ht30=>?_)
 ·have hm:Bp q c=(Ie q.whr c).2:=by rw [hm0,if_pos ht30]
  refine ii ?_;exact Z46
 refine iq ?_;refine Aa Tryz.call63 (c63 61 q.whr h.ok (by decide) c hc 3 _) ?_;refine A5 ?_;refine A2 [36] ?_
 refine A4 (fun ht36=>?_) (fun ht36=>?_)
 ·have hm:Bp q c=10:=by rw [hm0,if_neg (by rw [ht30];simp),if_pos ht36]
  exact AE8
 have hm:Bp q c=0:=by rw [hm0,if_neg (by rw [ht30];simp),if_neg (by rw [ht36];simp)]
 refine Z3 ?_;refine Z41 ?_;exact AA0

abbrev pg (r:Row):List AV:=[A3 r.key,Hf r.l]
theorem RW.at {rows:List Row} (h:RW rows) {k:Nat} (hk:k<rows.length):rows[k].l.length≤1048576∧∀v∈rows[k].l, -9223372036854775808≤v.n∧v.n≤9223372036854775807:=h.each _ (Be hk)
theorem c54 (q:Qry) (c:List Col) (rows:List Row) (Hp:List AObj):AFun Tryz.prog 54 [Nx q,An c,Gy rows] Hp (.fn (.func 102) [] [.ro [Gy rows],.ro (qoC false q),.ro [An c]]):=by
 refine Ae [.tmp 6] [0,1,2] Tryz.func54 Tryz.ntmps54 (fun d=>?_)
 refine Z23 ?_;refine A2 [3,4,5] ?_;refine mx ?_;refine Z72 ?_;exact A8 (Ak A9) ⟨rfl,rfl⟩ (hlow:=by simp [or_imp,forall_and];exact fun a _=>Ah _ a)

theorem AQx (l:Nat) (q:Qry) (h:QW q) (c:List Col) (hc:OkCols c) (rows:List Row) (hw:RW rows) (U:Nat→List AObj) (N:Nat→Prop) (Z:List AObj→Prop) (hlen:∀k,(U k).length=(U 0).length) (hll:l<(U 0).length)
  (hlw:∀k,∀x∈U k,ObjLow (U 0).length x) (h0:N 0) (hn:∀k y,rows[k]? = some y→N k→(C4 q c y.l).2=0→(C4 q c y.l).1=false→N (k+1)∧U (k+1)=U k)
  (he:∀k y X,rows[k]? = some y→N k→(C4 q c y.l).2≠0→AYield Tryz.prog l [.agg [A3 0,.nil],A3 (C4 q c y.l).2] (U k++X) (fun b H'=>∃V,H'=V++X∧V.length=(U 0).length∧(∀x∈V,ObjLow (U 0).length x)∧Z V))
  (hy:∀k y X,rows[k]? = some y→N k→(C4 q c y.l).2=0→(C4 q c y.l).1=true→AYield Tryz.prog l [Eh y,A3 0] (U k++X) (fun b H'=>(b=true∧N (k+1)∧H'=U (k+1)++X)∨(b=false∧∃V,H'=V++X∧V.length=(U 0).length∧(∀x∈V,ObjLow (U 0).length x)∧Z V)))
  (hR:N rows.length→Z (U rows.length)):ACall Tryz.prog 102 [.yield l,.ro [Gy rows],.ro (qoC false q),.ro [An c]] (U 0) (fun _ H'=>Z H'):=by
 refine Ae [] [0,1,2,3] Tryz.func102 Tryz.ntmps102 (fun d=>?_)
 refine Z15 ?_;refine A2 [0,2,3,9,10,11] ?_
 refine Bf (α:=Nat) (fun x=>⟨37,A6 0 (.yield l) (A6 2 (.ro (qoC false q)) (A6 3 (.ro [An c]) (A6 9 (Gy rows) (A6 10 (A3 rows.length) (A6 11 (A3 (x:Nat)) (fun _=>.any)))))),U x,[],[],none⟩) (fun x=>x≤rows.length∧N x) (fun x=>rows.length-x) (0) ⟨Ar _,h0⟩ (Bj (by simp)) rfl (fun x hx=>?_)
 refine Z2 ?_;refine A2 [0,2,3,9,10,11,12] ?_
 refine Cr (fun ht12=>?_) (fun ht12=>?_)
 ·have hlt:x<rows.length:=by simpa using ht12
  have hwl:=hw.len
  refine Z76 ?_
  refine A5 (h:=Ai (x) (Eh rows[x]) (fun _=>B6 hlt)) (hr:=?_)
  refine Qw ?_;refine A2 [0,2,3,6,9,10,11] ?_;refine Z23 ?_;refine Aa Tryz.call103 (AQu q h c hc rows[x].l (hw.at hlt).1 (hw.at hlt).2 _) ?_;refine Z81 ?_;refine A2 [0,2,3,6,7,8,9,10,11] ?_;refine Z7 ?_;refine A2 [0,2,3,6,7,8,9,10,11,24] ?_
  refine A4 (fun ht24=>?_) (fun ht24=>?_)
  ·refine Z96 ?_;refine A5 ?_
   refine R.yield (l:=l) (args:=[.agg [A3 0,.nil],A3 (C4 q c rows[x].l).2]) (he x rows[x] _ (Ab hlt) hx.2 (by simpa using ht24)) ?_
   rintro b V O hV ⟨W,h2,h3,h4,h5⟩
   obtain ⟨rfl,rfl⟩:=I3 h2 (by rw [hV,hlen x,h3])
   refine ⟨fun _=>by rw [h3];exact h4,fun o ho=>(by cases ho),?_⟩
   refine zc ?_;exact AHy
  refine Z98 ?_;refine Z6 ?_
  refine G.yield (l:=l) (C:=((C4 q c rows[x].l).1==true)) (args:=[Eh rows[x],A3 0]) (fun hC=>hy x rows[x] _ (Ab hlt) hx.2 (by simpa using ht24) (by simpa using hC)) ?_
  intro b V O hV hb hb0
  have hVO:O=[AObj.cells 58 (pg rows[x])]∧(((C4 q c rows[x].l).1=false∧N (x+1)∧V=U (x+1))∨((C4 q c rows[x].l).1=true∧b=true∧N (x+1)∧V=U (x+1))∨((C4 q c rows[x].l).1=true∧b=false∧V.length=(U 0).length∧(∀y∈V,ObjLow (U 0).length y)∧Z V)):=by
   cases hcn:(C4 q c rows[x].l).1 with
   | false =>
    obtain ⟨h1,h2⟩:=hb0 (by rw [hcn];rfl)
    obtain ⟨h3,h4⟩:=hn x _ (Ab hlt) hx.2 (by simpa using ht24) hcn
    exact ⟨h2,.inl ⟨rfl,h3,h1.trans h4.symm⟩⟩
   | true =>
    rcases hb (by rw [hcn];rfl) with ⟨h1,h3,h2⟩|⟨h1,W,h2,h3,h4,h5⟩
    ·have h6:=I3 h2 (by rw [hV,hlen x,hlen (x+1)])
     exact ⟨h6.2,.inr (.inl ⟨rfl,h1,h3,h6.1⟩)⟩
    obtain ⟨rfl,rfl⟩:=I3 h2 (by rw [hV,hlen x,h3])
    exact ⟨rfl,.inr (.inr ⟨rfl,h1,h3,h4,h5⟩)⟩
  obtain ⟨rfl,hVO⟩:=hVO
  have hVl:V.length=(U 0).length:=by rw [hV,hlen x]
  have hVw:∀y∈V,ObjLow (U 0).length y:=by
   rcases hVO with ⟨_,_,rfl⟩|⟨_,_,_,rfl⟩|⟨_,_,_,h,_⟩
   ·exact hlw _
   ·exact hlw _
   exact h
  refine ⟨fun _=>by rw [hVl];exact hVw,fun o ho=>(by cases ho),?_⟩
  refine Z48 ?_;refine A2 [0,2,3,9,10,11,35] ?_
  refine A4 (fun ht35=>?_) (fun ht35=>?_)
  ·have hRV:Z V:=by
    rcases hVO with ⟨h1,_⟩|⟨h1,h2,_⟩|⟨_,_,_,_,h5⟩
    ·rw [h1] at ht35;simp at ht35
    ·rw [h1,h2] at ht35;simp at ht35
    exact h5
   refine Fs ?_;refine Z32 ?_;exact A8 .nores (hp:=hRV)
  have hVn:N (x+1)∧V=U (x+1):=by
   rcases hVO with ⟨_,h2,h3⟩|⟨_,_,h2,h3⟩|⟨h1,h2,_⟩
   ·exact ⟨h2,h3⟩
   ·exact ⟨h2,h3⟩
   rw [h1,h2] at ht35;simp at ht35
  obtain ⟨hN,rfl⟩:=hVn
  refine Z73 ?_;refine A2 [0,2,3,9,10,11] ?_;refine AEb ?_
  exact Di (own:=[]) (fun _=>.refl _) (by repeat (first|exact Bc|refine Bb (by first|(simp [or_imp,forall_and];done)|(simp [or_imp,forall_and];exact fun a _=>Ah _ a)|(have:=hlen (x+1);simp;omega)) ?_)) (by simp) (by simp)
 have hxe:x=rows.length:=by have:=hx.1;simp at ht12;omega
 exact AHn

/-! What rewrite.turn, Forth, Back answer. -/
structure Pln where
 trees:List Expr
 whr:Expr
 lim:Int
def Hz:Pln:=⟨[],Au,0⟩
abbrev Zu (p:Pln):List AV:=[Bo p.trees,A3 p.whr.op,Ac p.whr.text,A3 p.whr.val.kind,A3 p.whr.val.n,Ac p.whr.val.s,Bo p.whr.kids,A3 p.lim]
abbrev Yh (p:Pln):AV:=.agg (Zu p)
def Ih (c:List Col) (l:List Expr) (s:Str):Expr:=l.getD (Aw s c).toNat Au
def Dg (q:Qry) (c:List Col) (l:List Expr):List Expr:=if q.all then l else q.cols.map (Ih c l)
def Hj (q:Qry) (c:List Col) (l:List Expr):Pln×Int:=
 if q.whr.op==0 then (⟨Dg q c l,Au,q.lim⟩,0) else if (Da q.whr c l).2 != 0 then (Hz,(Da q.whr c l).2) else (⟨Dg q c l,(Da q.whr c l).1,q.lim⟩,0)
def Ba (q:Qry) (c:List Col) (l:List Mov):Pln×Int:=
 if (E5 c l).2 != 0 then (Hz,1) else if Bp q (E5 c l).1 != 0 then (Hz,Bp q (E5 c l).1) else if (F3 c l).2 != 0 then (Hz,(F3 c l).2) else Hj q (E5 c l).1 (F3 c l).1
def Li (q:Qry) (c:List Col) (l:List Mov):Pln×Int:=
 if (Fz c l).2 != 0 then (Hz,1) else if Bp q c != 0 then (Hz,Bp q c) else if (Iu c l).2 != 0 then (Hz,(Iu c l).2) else Hj q c (Iu c l).1
theorem AH7 {q:Qry} {c:List Col} {l:List Expr} (h:(q.whr.op==0)=true):Hj q c l=(⟨Dg q c l,Au,q.lim⟩,0):=if_pos h
theorem ANe {q:Qry} {c:List Col} {l:List Expr} (h:(q.whr.op==0)=false) (h2:((Da q.whr c l).2 != 0)=true):Hj q c l=(Hz,(Da q.whr c l).2):=by
 unfold Hj;rw [if_neg (by rw [h];simp),if_pos h2]
theorem AH8 {q:Qry} {c:List Col} {l:List Expr} (h:(q.whr.op==0)=false) (h2:((Da q.whr c l).2 != 0)=false):Hj q c l=(⟨Dg q c l,(Da q.whr c l).1,q.lim⟩,0):=by
 unfold Hj;rw [if_neg (by rw [h];simp),if_neg (by rw [h2];simp)]
theorem wz {q:Qry} {c:List Col} {l:List Expr} (h:q.all=true):Dg q c l=l:=by unfold Dg;rw [h];rfl
theorem ph {q:Qry} {c:List Col} {l:List Expr} (h:q.all=false):Dg q c l=q.cols.map (Ih c l):=by unfold Dg;rw [h];rfl
theorem AG0:Le (.agg [.nil,A3 0,Ac [],A3 0,A3 0,Ac [],.nil,A3 0]) (Yh Hz):=.agg _ _ rfl (by simp [Hz,Au];repeat' (first|rfl|apply And.intro)) fun i y y' h h'=>by
 rcases i with _|_|_|_|_|_|_|_|i<;>simp at h h'<;>subst h<;>subst h'
 ·exact .inr ⟨rfl,_,rfl⟩
 ·exact .inl rfl
 ·exact .inl rfl
 ·exact .inl rfl
 ·exact .inl rfl
 ·exact .inl rfl
 ·exact .inr ⟨rfl,_,rfl⟩
 exact .inl rfl
/-! What rewrite.Run answers. -/
def V7 (p:Pln) (c:List Col) (l:List Val):Bool×Int:=if p.whr.op==0 then (true,0) else (Y1 (Cx p.whr c l),Sj (Cx p.whr c l))
def Js (p:Pln) (c:List Col) (l:List Val):Bool×Int:=if Im c l then V7 p c l else (false,1)
def Ly (p:Pln) (c:List Col) (x:Row):Row×Int:=if (Gp c x.l p.trees).2 != 0 then (⟨0,[]⟩,(Gp c x.l p.trees).2) else (⟨x.key,(Gp c x.l p.trees).1⟩,0)
def P7 (p:Pln) (c:List Col) (x:Row):Bool:=((Js p c x.l).2==0)&&(Js p c x.l).1
def stP (p:Pln) (c:List Col) (x:Row):Bool×Int:=if P7 p c x then (true,(Ly p c x).2) else Js p c x.l
def Lm (p:Pln) (c:List Col) (x:Row):Row:=(Ly p c x).1
/-- Rows one behind the other, till one is wrong, or there are n. -/
def Ki (h:Row→Bool×Int) (g:Row→Row) (n:Int):List Row→List Row→List Row×Int
 | [],o=>(o,0)
 | x::r,o=>if (h x).2 != 0 then ([],(h x).2) else if (h x).1 then (if ((o.length+1:Nat):Int)==n then (o++[g x],0) else Ki h g n r (o++[g x])) else Ki h g n r o
def P8 (p:Pln) (c:List Col):Bool:=(!(Ip c) || p.trees.any Dx) || ((p.whr.op != 0)&&Dx p.whr)
def Yi (p:Pln) (c:List Col) (rows:List Row):List Row×Int:=if P8 p c then ([],1) else if p.lim==0 then ([],0) else Ki (stP p c) (Lm p c) p.lim rows []
def Lj (h:Row→Bool×Int) (g:Row→Row) (rows:List Row) (k:Nat):List Row:=((rows.take k).filter fun x=>(h x).1).map g
section
variable {h:Row→Bool×Int} {g:Row→Row} {n:Int} {rows:List Row} {k:Nat} {y:Row}
theorem cd (hk:rows[k]? = some y) (hf:(h y).1=false):Lj h g rows (k+1)=Lj h g rows k:=by
 unfold Lj
 rw [Ms,hk,Ta]
 simp [O0,hf]
theorem Vw (hk:rows[k]? = some y) (hf:(h y).1=true):Lj h g rows (k+1)=Lj h g rows k++[g y]:=by
 unfold Lj
 rw [Ms,hk,Ta]
 simp [O0,hf]
theorem l9 (k:Nat):(Lj h g rows k).length≤rows.length:=by
 unfold Lj
 rw [Ao]
 exact AM3
theorem Sr (hk:rows[k]? = some y):rows.drop k=y::rows.drop (k+1):=by
 obtain ⟨h1,h2⟩:=Ad.1 hk
 rw [I4 h1,h2]
variable (h g n rows)
def NSt (k:Nat):Prop:=Ki h g n rows []=Ki h g n (rows.drop k) (Lj h g rows k)
variable {h g n rows}
theorem AG1 (hk:rows[k]? = some y) (hN:NSt h g n rows k) (he:(h y).2≠0):Ki h g n rows []=([],(h y).2):=by
 rw [hN,Sr hk,Ki,if_pos (by simpa using he)]
theorem ACp (hk:rows[k]? = some y) (hN:NSt h g n rows k) (he:(h y).2=0) (hf:(h y).1=false):NSt h g n rows (k+1):=by
 unfold NSt
 rw [hN,Sr hk,Ki,if_neg (by rw [he];simp),if_neg (by rw [hf];simp),cd hk hf]
theorem AJh (hk:rows[k]? = some y) (hN:NSt h g n rows k) (he:(h y).2=0) (hf:(h y).1=true) (hl:(((Lj h g rows k).length+1:Nat):Int)≠n):NSt h g n rows (k+1):=by
 unfold NSt
 rw [hN,Sr hk,Ki,if_neg (by rw [he];simp),if_pos hf,if_neg (by simpa using hl),Vw hk hf]
theorem AG2 (hk:rows[k]? = some y) (hN:NSt h g n rows k) (he:(h y).2=0) (hf:(h y).1=true) (hl:(((Lj h g rows k).length+1:Nat):Int)=n):Ki h g n rows []=(Lj h g rows (k+1),0):=by
 rw [hN,Sr hk,Ki,if_neg (by rw [he];simp),if_pos hf,if_pos (by simpa using hl),Vw hk hf]
theorem AG3 (hN:NSt h g n rows rows.length):Ki h g n rows []=(Lj h g rows rows.length,0):=by
 rw [hN,W4,Ki]
theorem ANf:NSt h g n rows 0:=rfl
end
/-- query.Run's rows are such ones. -/
theorem Yj {q:Qry} {c:List Col}:∀r o:List Row,Mb q c r o=Ki (fun x=>C4 q c x.l) (It q c) q.lim r o
 | [],o=>rfl
 | x::r,o=>by
  rw [Mb,Ki,Yj r o,Yj r (o++[It q c x])]
/-- What a plan must be, to be run. -/
structure PW (p:Pln):Prop where
 ok:okE 61 p.whr
 rng:E0 Hb p.whr=true
 tok:∀e∈p.trees,okE 61 e
 trng:∀e∈p.trees,E0 Hb e=true
 len:p.trees.length≤1048576
theorem AH9 {p:Pln} {c:List Col} {x:Row} (h:P7 p c x=true):stP p c x=(true,(Ly p c x).2):=if_pos h
theorem ACq {p:Pln} {c:List Col} {x:Row} (h:P7 p c x=false):stP p c x=Js p c x.l:=if_neg (by rw [h];simp)
def Qc (c:List Col) (x:Row) (s:Str):Val:=x.l.getD (Aw s c).toNat noV
theorem ACr {q:Qry} {c:List Col} {x:Row} (h:q.all=true):It q c x=x:=by unfold It;rw [h];rfl
theorem x5 {q:Qry} {c:List Col} {x:Row} (h:q.all=false):It q c x=⟨x.key,q.cols.map (Qc c x)⟩:=by unfold It;rw [h];rfl
theorem se {c:List Col} {s:Str} (h:¬Aw s c<0):∃j:Nat,Aw s c=(j:Int)∧j<c.length:=Fl h
theorem c55 (q:Qry) (h:QW q) (c:List Col) (hc:OkCols c) (x:Row) (hx:x.l.length≤1048576) (hr:c.length=x.l.length) (hn:∀s∈q.cols,¬Aw s c<0) (Hp:List AObj):AFun Tryz.prog 55 [Nx q,An c,Eh x] Hp (Eh (It q c x)):=by
 refine Ae [.cell 6 58] [0,1,2] Tryz.func55 Tryz.ntmps55 (fun d=>?_)
 refine Z1 ?_;refine R0 ?_;refine A2 [1,3,5,6] ?_;refine AHs ?_;refine Z14 ?_;refine A2 [1,3,5,6,7] ?_;refine Z7 ?_;refine A2 [1,3,5,6,7,14] ?_
 refine A4 (fun ht14=>?_) (fun ht14=>?_)
 ·refine Z1 ?_;refine Aa Tryz.call48 (c48 x.l hx _) ?_;refine A5 ?_;refine Fw ?_;refine A2 [6,7] ?_;refine Z89 ?_;refine ie ?_;exact A8 (Ak (B3 jA jS)) ⟨by rw [ACr ht14],rfl⟩ (hlow:=by simp [or_imp,forall_and])
 refine Z3 ?_;refine Z54 ?_;refine Gw 1 1 3 ?_;refine Z57 ?_;refine A2 [1,5,6,7,21,22,23] ?_
 refine Bf (α:=Nat) (fun i=>⟨41,A6 1 (An c) (A6 5 (.ro (pg x)) (A6 6 (.ptr (oid Hp.length 0) 0) (A6 7 (.ptr (oid Hp.length 1) 0) (A6 21 (Fg q.cols) (A6 22 (A3 (q.cols.length:Nat)) (A6 23 (A3 (i:Nat)) (fun _=>.any))))))),Hp,[.cells 58 [A3 0,.nil],.cells 58 [A3 x.key,.slice true 3 (((q.cols.take i).map (Qc c x)).map Bm)]],[],none⟩) (fun i=>i≤q.cols.length) (fun i=>q.cols.length-i) (0) (Ar _) (Bj (by simp)) rfl (fun i hi=>?_)
 refine Z2 ?_;refine A2 [1,5,6,7,21,22,23,24] ?_
 refine Cr (fun ht24=>?_) (fun ht24=>?_)
 ·have hlt:i<q.cols.length:=by simpa using ht24
  have hkl:=h.len
  obtain ⟨j,hj,hjc⟩:=se (hn _ (Be hlt))
  have hk:0≤Aw q.cols[i] c∧(Aw q.cols[i] c).toNat<x.l.length:=by omega
  have hget:(x.l.map Bm)[(Aw q.cols[i] c).toNat]? = some (Bm (Qc c x q.cols[i])):=by
   rw [Bz,Ab hk.2]
   unfold Qc
   rw [Bw,Ab hk.2]
   rfl
  refine Z76 ?_
  refine A5 (h:=Ai (i) (Ac q.cols[i]) (fun _=>B6 hlt)) (hr:=?_)
  refine Z0 ?_;refine A2 [1,5,6,7,9,21,22,23] ?_;refine Qt [0,1,0,4,0,0,48,124,252,508,1023,2047,4095] [1] [.q 1 [] [0],.s [28] (some 0) [] [],.q 8 [] []] (fun _=>Hp) (fun B=>[.cells 58 [A3 0,.nil],.cells 58 (if B 0=true then [A3 x.key,.slice false 3 (((q.cols.take i).map (Qc c x)).map Bm)] else [A3 x.key,.slice true 3 (((q.cols.take i).map (Qc c x)).map Bm)])]) Aj (by kernel_rfl) rfl rfl (fun _=>rfl) ?_
  apply Y.q
  ·intro B hT hF
   exact Z55
  case hTF=>decide
  refine Y.loadOwnT (u:=Hp.length) (n:=1) (t':=58) (cs:=[A3 x.key,.slice true 3 (((q.cols.take i).map (Qc c x)).map Bm)]) (cs':=[A3 x.key,.slice false 3 (((q.cols.take i).map (Qc c x)).map Bm)]) Tryz.isAgg54 (fun B hB=>⟨rfl,by simp only [hB];rfl,by simp [upd],rfl⟩) ?_
  apply Y.q
  ·intro B hT hF
   refine Ti ?_;refine Dl Tryz.call60 (c60 c hc q.cols[i] _) ?_
   refine Aq (h:=Ai ((Aw q.cols[i] c).toNat) (Bm (Qc c x q.cols[i])) (fun _=>hget)) (hr:=?_)
   exact mv
  case hTF=>decide
  refine Ed (tn:=[1]) (O:=[.cells 58 [A3 0,.nil],.cells 58 [A3 x.key,.slice false 3 (((q.cols.take i).map (Qc c x)).map Bm)]]) ?_
  refine Ep jU Tryz.type24 ?_ ?_ ?_
  ·simp only [Ao,Cy,Bi,Cb,Tryz.t24];omega
  ·simp only [Ao,Cy,Bi,Cb,Tryz.t24];omega
  refine AE3 ?_;refine A2 [1,5,6,7,21,22,23] ?_;refine Ry ?_;refine A2 [1,5,6,7,21,22,23] ?_;refine Bg (i+1) hlt (by omega) ?_;exact Dn (by rw [Xz hlt,Bq];rfl)
 have hxe:q.cols.length≤i:=by simpa using ht24
 refine Z28 ?_;refine Z89 ?_;refine Z72 ?_;exact A8 (Ak (B3 jA jS)) ⟨by rw [x5 ht14,Eo hxe],rfl⟩ (hlow:=by simp [or_imp,forall_and];intro y hy;obtain ⟨s,_,rfl⟩:=C2.1 (Mq hy);simp [or_imp,forall_and])

end Go.SX.Nb
namespace Go.SX
variable [GI:GlobInv]
open Classical
section
variable {P:Program} {d:Nat} {st:St} {dst:Option Tmp} {ty:TypeId} {pos:String} {aft:Array Edge} {gd:Option (Nat×Bool)}
variable {sz:Nat} {fr:Nat→AV} {up own own':List AObj} {dfs:List Nat} {rnd:Option Nat} {Q:St→Prop} {ops:Array Oper} {rest:List Oper} {s:Nat}
theorem OpV.le {o:Oper} {st:St} {y y':AV} (h:OpV P d o st y) (hl:Le y y'):OpV P d o st y':=fun G a w hrel Q' =>
 Ix (fun a w ⟨G',v,e,r,k,hrep⟩=>⟨G',v,e,r,k,hrep.le hl⟩) (h G a w hrel Q')
variable {l0:List Oper} {E:List Oper→(Nat→AV)→Prop} {kd:Nat}
end
end Go.SX
namespace Go.SX
variable [GI:GlobInv]
open Classical
section
variable {P:Program} {d:Nat} {st:St} {ty:TypeId} {pos:String} {aft:Array Edge} {gd:Option (Nat×Bool)} {ats:Array TypeId}
variable {sz:Nat} {fr:Nat→AV} {up own own':List AObj} {dfs:List Nat} {rnd:Option Nat} {Q:St→Prop} {ops:Array Oper} {rest:List Oper} {s:Nat}
/-- A struct that is built, whose nil slices are taken as empty ones. -/
theorem R.buildLe {t:TypeId} {fs:Array Field} {places:Array (Nat×Nat)} {parts:List (Nat×Operand)} {z:Value} {zs cs:List AV} {ys:List (Nat×AV)} (y':AV) (hle:Le (.agg cs) y') (hu:P.underlying t=some (.struct fs))
  (hpl:∀w,(fs.mapM (m:=Sem) fun f=>do Pure.pure (f.offset,←Go.sizeOf f.type)).run P w=.ok places w) (hz:∀w,(zeroValue t).run P w=.ok z w) (hr:ARun P d ops rest ⟨sz,A6 s y' fr,up,own,dfs,rnd⟩ Q)
  (hzs:z.cells.toList.map Ek=zs:=by exact sL0) (hone:zs.all AV.one=true:=by exact sL2) (hys:(parts.map fun p=>(p.1,B5 fr p.2))=ys:=by exact sL0)
  (hf:Kw (fun i=>places[i]?) zs ys=some cs:=by simp [Kw,go_sem]<;>rfl) (hs:Nat.blt s sz=true:=by rfl):
  ARun P d ops (⟨some s,.build t parts.toArray,ty,pos,aft,none⟩::rest) ⟨sz,fr,up,own,dfs,rnd⟩ Q:=by
 subst hys
 exact Uk rfl rfl hs (OpV.le (OpV.build hu hpl hz hzs.symm hone hf) hle) hr
end
end Go.SX
