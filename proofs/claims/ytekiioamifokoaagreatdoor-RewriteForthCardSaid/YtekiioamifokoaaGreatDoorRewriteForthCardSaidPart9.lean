/- On the way (part 9). -/
import Derived.Shelf.Strconv.AtoiAll
import Derived.Test.YtekiioamifokoaaGreatDoorRewriteForthCardSaidPart8
set_option linter.all false
namespace Go.SX.Nb
open Go Go.SX Go.Proofs Go.RowKit
variable [ErrAt]
set_option maxRecDepth 4000
theorem AQf (s:Str) (hs:s.length≤1048576) (Hp:List AObj):AFun Tryz.prog 121 [Ac s] Hp (.tup [A3 (Vj s),.any]):=by
 refine AFun.libAny (xs:=[sv s]) (n:=.int .i64 (Vj s)) (fun w hg=>?_)
 have hz:(⟨s.toArray⟩:ByteArray).size≤1048576:=by simpa [ByteArray.size] using hs
 unfold Vj
 rcases h:Lib.atoiAll s with v|_|_
 ·refine (Any.strconv_Atoi_ok Tryz.lays172 ⟨s.toArray⟩ (by omega) v h w).mono ?_
  rintro e w' ⟨rfl,hb⟩
  refine ⟨_,rfl,?_⟩
  rcases hb with rfl|⟨t,rfl⟩
  ·exact Below.refl _ _
  exact Lib.bytesWorld_below _ _ _
 ·refine (Any.strconv_Atoi_syntax Tryz.lays172 ⟨s.toArray⟩ (by omega) h _ w (g7 hg) (.inr ⟨_,_,rfl⟩)).mono ?_
  rintro e w' ⟨N,rfl,_,_,hb⟩
  exact ⟨_,rfl,hb⟩
 refine (Any.strconv_Atoi_range Tryz.lays172 ⟨s.toArray⟩ (by omega) h _ w (P2 hg) (.inr ⟨_,_,rfl⟩)).mono ?_
 rintro e w' ⟨N,rfl,_,_,hb⟩
 exact ⟨_,rfl,hb⟩
end Go.SX.Nb
namespace Go.SX.Nb
open Go Go.SX Go.Proofs
variable [ErrAt]
set_option maxRecDepth 4000
theorem AJs {l:List Tok} {s:Str} {S:QS} (h:isQ l s S=true):(Af l S.i).kind≠0:=by
 unfold isQ at h
 simp only [Ao,Cx,beq_iff_eq] at h
 rcases h.1.2 with e|e<;>rw [e]<;>decide
theorem Kt {l:List Tok} (hl:TokEnd l) {s:Str} {S:QS} (hi:S.i<l.length) (h:isQ l s S=true):(F6 S).i<l.length:=hl.step hi (AJs h)
theorem T3 (l:List Tok) (e:Int) (S:QS):(J8 l e S).i=S.i:=by unfold J8;split<;>rfl
theorem ln {l:List Tok} (hl:TokEnd l) {s:Str} {S:QS} (hi:S.i<l.length):(Sv l s S).i<l.length:=by
 unfold Sv
 split
 ·rename_i h;exact Kt hl hi h
 rw [T3];exact hi
theorem O0 {l:List Tok} (hl:TokEnd l) {q:Qry} {S:QS} (hi:S.i<l.length) (hc:q.cols.length≤12):S.i≤(Hf l (q,S)).2.i∧(Hf l (q,S)).2.i<l.length∧(Hf l (q,S)).1.cols.length≤12:=by
 unfold Hf
 split
 ·exact ⟨Aj _,hi,hc⟩
 split
 ·exact AM9
 split
 ·exact AM9
 rename_i h1 h2 h3
 have hk:(Af l S.i).kind≠0:=by
  have:(Af l S.i).kind=1:=by simpa using h2
  rw [this];decide
 refine ⟨Ii _,hl.step hi hk,?_⟩
 simp only [beq_iff_eq] at h3
 rw [At,Jn]
 simp only at h3 ⊢
 omega
/-- Where the loop of names stands. -/
structure QNames (l:List Tok) (r0 r:Qry×QS):Prop where
 lt:r.2.i<l.length
 cols:r.1.cols.length≤12
 fuel:∃n,Li l l.length r0=Li l n r∧l.length-r.2.i≤n
theorem QNames.start {l:List Tok} {r:Qry×QS} (h1:r.2.i<l.length) (h2:r.1.cols.length≤12):QNames l r r:=⟨h1,h2,l.length,rfl,by omega⟩
theorem QNames.on {l:List Tok} (hl:TokEnd l) {r0 r:Qry×QS} (h:QNames l r0 r) (hq:isQ l [44] r.2=true):QNames l r0 (Hf l (r.1,F6 r.2))∧r.2.i+1≤(Hf l (r.1,F6 r.2)).2.i:=by
 obtain ⟨n,e,hn⟩:=h.fuel
 have hlt:=Kt hl h.lt hq
 obtain ⟨f1,f2,f3⟩:=O0 hl (q:=r.1) hlt h.cols
 have h1:=h.lt
 refine ⟨⟨f2,f3,n-1,?_,?_⟩,f1⟩
 ·rw [e]
  obtain ⟨m,rfl⟩:∃m,n=m+1:=⟨n-1,by omega⟩
  rw [Li,if_pos hq]
  rfl
 have:r.2.i+1≤(Hf l (r.1,F6 r.2)).2.i:=f1
 omega
theorem QNames.out {l:List Tok} {r0 r:Qry×QS} (h:QNames l r0 r) (hq:isQ l [44] r.2=false):Li l l.length r0=r:=by
 obtain ⟨n,e,_⟩:=h.fuel
 rw [e]
 cases n with
 | zero=>rfl
 | succ n=>rw [Li,if_neg (by rw [hq];simp)]
theorem qA {Hp:List AObj} {o ox:Nat} {A B:AObj} (hl:o<Hp.length) (hne:ox≠o):((Hp.set o A).set ox B)[o]? = some A:=by rw [Bx hne];simp [hl]
theorem qB {Hp:List AObj} {o ox:Nat} {A B:AObj} (hl:ox<Hp.length):((Hp.set o A).set ox B)[ox]? = some B:=by simp [hl]
theorem ACt {Hp:List AObj} {o ox:Nat} {A A' B:AObj} (hne:ox≠o):((Hp.set o A).set ox B).set o A'=(Hp.set o A').set ox B:=by rw [N2 _ _ hne,Bv]
theorem AQg {Hp:List AObj} {o ox m:Nat} {A A' B B':AObj} (hl:o<Hp.length) (hlx:ox<Hp.length) (hne:ox≠o) (hA:ObjLow m A') (hB:ObjLow m B') (h:∀x∈(Hp.set o A).set ox B,ObjLow m x):∀x∈(Hp.set o A').set ox B',ObjLow m x:=by
 intro x hx
 obtain ⟨i,hi⟩:=C6 hx
 by_cases h1:i=ox
 ·subst h1
  rw [qB hlx] at hi
  injection hi with hi
  subst hi
  exact hB
 by_cases h2:i=o
 ·subst h2
  rw [qA hl hne] at hi
  injection hi with hi
  subst hi
  exact hA
 refine h x (Aw (i:=i) ?_)
 rw [Bx (Ne.symm h1),Bx (Ne.symm h2)] at hi ⊢
 exact hi
/-- A call that turns the parser and the query. -/
theorem tg {d:Nat} {ops:Array Oper} {rest:List Oper} {sz s:Nat} {fr:Nat→AV} {Hp:List AObj} {rnd:Option Nat} {Q:St→Prop} {ty:TypeId} {pos:String} {aft:Array Edge} {g:FuncId} {xs:List Operand} {ats:Array TypeId} {args:List AV} {l:List Tok} {S S':QS} {q q':Qry} {o oq:Nat}
  (hcall:∀args w,(callFunc g args).run Tryz.prog w=.ok (.enter g args) w) (hl:o<Hp.length) (hlq:oq<Hp.length) (hne:oq≠o)
  (h:ACall Tryz.prog g args ((Hp.set o (prq l S)).set oq (qo true q)++[]) (fun r H'=>r=Vl∧H'=(((Hp.set o (prq l S)).set oq (qo true q)++[]).set o (prq l S')).set oq (qo true q')))
  (hr:ARun Tryz.prog d ops rest ⟨sz,A6 s Vl fr,(Hp.set o (prq l S')).set oq (qo true q'),[],[],rnd⟩ Q)
  (ha:xs.map (B6 fr)=args:=by simp only [go_sem,↓reduceIte,Nat.reduceEqDiff,Nat.reduceAdd]<;>rfl) (hs:Nat.blt s sz=true:=by rfl):
  ARun Tryz.prog d ops (⟨some s,.call ⟨.value (.func g),xs.toArray,ats⟩,ty,pos,aft,none⟩::rest) ⟨sz,fr,(Hp.set o (prq l S)).set oq (qo true q),[],[],rnd⟩ Q:=by
 refine H3 (up':=(Hp.set o (prq l S')).set oq (qo true q')) (own':=[]) hcall (h.mono fun r H' e=>⟨e.1,e.2.trans ?_⟩) (by simp) (fun hlow=>?_) hr (by simp) ha hs
 ·rw [Gm,Gm,ACt hne,Bv]
 exact AQg hl hlq hne Ix ACr hlow
theorem AJt (b:Bool) (q:Qry):AObj.cells 29 [B0 b,.slice true 1 (q.cols.map Ac),A3 q.whr.op,Ac q.whr.text,A3 q.whr.val.kind,A3 q.whr.val.n,Ac q.whr.val.s,.slice false 6 (q.whr.kids.map A8),A3 q.lim]=qo true (Mi b q):=rfl
theorem ANe {l:List Tok} {q:Qry} {S:QS} (h:isQ l [42] S=true):Nt l (q,S)=(Mi true q,F6 S):=if_pos h
theorem ANf {l:List Tok} {q:Qry} {S:QS} (h:isQ l [42] S=false):Nt l (q,S)=Li l l.length (Hf l (Mi false q,S)):=if_neg (by show ¬(isQ l [42] S=true);rw [h];simp)
theorem c69 (l:List Tok) (S:QS) (q:Qry) (o oq:Nat) (Hp:List AObj) (hne:oq≠o) (ho:Hp[o]? = some (prq l S)) (hoq:Hp[oq]? = some (qo true q)) (hi:S.i<l.length) (hl:TokEnd l) (hll:l.length≤500000) (hc12:q.cols.length≤12):ACall Tryz.prog 69 [.ptr o 0,.ptr oq 0] Hp (fun r H'=>r=Vl∧H'=(Hp.set o (prq l (Nt l (q,S)).2)).set oq (qo true (Nt l (q,S)).1)):=by
 have hlo:=(Ad.1 ho).1
 have hlq:=(Ad.1 hoq).1
 refine Ae [] [0,1] Tryz.func69 Tryz.ntmps69 (fun d=>?_)
 refine Z7 ?_;refine Cj Tryz.call118 ho (by simp) Ix (ACs l S [42] o _ (Ag ho) hi (by omega)) ?_;refine Z0 ?_
 refine Dp jS (by rw [Bx (Ne.symm hne)];exact hoq) ?_ ?_
 ·simp
 refine A2 [0,1] ?_;refine Z15 ?_
 refine A5 (h:=Bh (qB hlq)) (hr:=?_)
 refine A2 [0,1,12] ?_
 refine A4 (fun ht12=>?_) (fun ht12=>?_)
 ·have hq:isQ l [42] S=true:=ht12
  have e:=ANe (q:=q) hq
  rw [Ys hq,hq]
  refine Z34 ?_;exact Aa .nores (hp:=⟨rfl,by rw [e];rfl⟩)
 have hq:isQ l [42] S=false:=ht12
 have e:=ANf (q:=q) hq
 rw [Yt hq,hq]
 rw [AJt]
 refine j9 ?_
 have f0:=O0 hl (q:=Mi false q) hi hc12
 refine Z0 ?_
 refine tg Tryz.call119 hlo hlq hne (ANd l S (Mi false q) o oq _ hne (Ag (qA hlo hne)) (Ag (qB hlq)) hi (by omega) (by show q.cols.length≤_;omega)) ?_
 refine A2 [0,1] ?_
 refine Bg (α:=Qry×QS) (fun r=>⟨21,A6 0 (.ptr o 0) (A6 1 (.ptr oq 0) (fun _=>.any)),(Hp.set o (prq l r.2)).set oq (qo true r.1),[],[],none⟩) (fun r=>QNames l (Hf l (Mi false q,S)) r) (fun r=>l.length-r.2.i) (Hf l (Mi false q,S)) (.start f0.2.1 f0.2.2) (M8 _) rfl (fun r hr=>?_)
 refine Z31 ?_;refine Cj Tryz.call118 (qA hlo hne) (by simp) Ix (ACs l r.2 [44] o _ (Ag (qA hlo hne)) hr.lt (by omega)) ?_;refine A2 [0,1,17] ?_
 refine A4 (fun ht17=>?_) (fun ht17=>?_)
 ·have hq1:isQ l [44] r.2=true:=ht17
  have hlt1:=Kt hl hr.lt hq1
  have hon:=hr.on hl hq1
  rw [Ys hq1,ACt hne]
  refine AAa ?_;refine Z22 ?_
  refine tg Tryz.call119 hlo hlq hne (ANd l (F6 r.2) r.1 o oq _ hne (Ag (qA hlo hne)) (Ag (qB hlq)) hlt1 (by omega) (by have:=hr.cols;omega)) ?_
  refine A2 [0,1] ?_;refine M9 ?_
  refine Bm (Hf l (r.1,F6 r.2)) hon.1 (by have:=hr.lt;have:=hon.2;omega) (Ds rfl)
 have hq1:isQ l [44] r.2=false:=ht17
 have hout:=hr.out hq1
 rw [Yt hq1,ACt hne]
 refine Z59 ?_;refine K.lpE ?_;exact F3 .nores (hp:=⟨rfl,by rw [e,hout]⟩)

theorem AFv {l:List Tok} {q:Qry} {S:QS} (h:isQ l Ph S=false):Ka l (q,S)=(q,S):=if_neg (by show ¬(isQ l Ph S=true);rw [h];simp)
theorem AFw {l:List Tok} {q:Qry} {S:QS} (h:isQ l Ph S=true) (h2:((atM l (S.i+1)).2.2.1 != 0)=true):Ka l (q,S)=(q,⟨S.i+1,(atM l (S.i+1)).2.2.1,(atM l (S.i+1)).2.2.2⟩):=by
 unfold Ka
 rw [if_pos (by exact h),if_pos (by exact h2)]
theorem AFx {l:List Tok} {q:Qry} {S:QS} {k:Nat} (h:isQ l Ph S=true) (h2:((atM l (S.i+1)).2.2.1 != 0)=false) (hk:(atM l (S.i+1)).2.1=(k:Int)):Ka l (q,S)=(⟨q.all,q.cols,(atM l (S.i+1)).1,q.lim⟩,⟨k,S.code,S.at_⟩):=by
 unfold Ka
 rw [if_pos (by exact h),if_neg (by show ¬_=true;rw [h2];simp),hk]
 rfl
theorem AFy {l:List Tok} {q:Qry} {S:QS} (h:isQ l Nu S=false):It l (q,S)=(q,S):=if_neg (by show ¬(isQ l Nu S=true);rw [h];simp)
theorem AFz {l:List Tok} {q:Qry} {S:QS} (h:isQ l Nu S=true) (h2:((Af l (S.i+1)).kind != 3)=true):It l (q,S)=(q,J8 l 8 (F6 S)):=by
 unfold It
 rw [if_pos (by exact h),if_pos (by exact h2)]
theorem AG0 {l:List Tok} {q:Qry} {S:QS} (h:isQ l Nu S=true) (h2:((Af l (S.i+1)).kind != 3)=false) (h3:decide ((100000:Int)<Vj (Af l (S.i+1)).text)=true):It l (q,S)=(q,J8 l 3 (F6 S)):=by
 unfold It
 rw [if_pos (by exact h),if_neg (by show ¬_=true;rw [h2];simp),if_pos (by exact h3)]
theorem AG1 {l:List Tok} {q:Qry} {S:QS} (h:isQ l Nu S=true) (h2:((Af l (S.i+1)).kind != 3)=false) (h3:decide ((100000:Int)<Vj (Af l (S.i+1)).text)=false):It l (q,S)=(⟨q.all,q.cols,q.whr,Vj (Af l (S.i+1)).text⟩,F6 (F6 S)):=by
 unfold It
 rw [if_pos (by exact h),if_neg (by show ¬_=true;rw [h2];simp),if_neg (by show ¬_=true;rw [h3];simp)]
theorem Ku {Hp:List AObj} {o:Nat} {A:AObj} (hl:o<Hp.length):(Hp.set o A)[o]? = some A:=by simp [hl]
theorem xh {Hp:List AObj} {o oq:Nat} {A B:AObj} (hne:oq≠o) (hoq:Hp[oq]? = some B):(Hp.set o A)[oq]? = some B:=by rw [Bx (Ne.symm hne)];exact hoq
theorem c70 (l:List Tok) (S:QS) (q:Qry) (o oq:Nat) (Hp:List AObj) (hne:oq≠o) (ho:Hp[o]? = some (prq l S)) (hoq:Hp[oq]? = some (qo true q)) (hi:S.i<l.length) (hl:TokEnd l) (hll:l.length≤500000) (hc12:q.cols.length≤12):ACall Tryz.prog 70 [.ptr o 0,.ptr oq 0] Hp (fun r H'=>r=Vl∧H'=(Hp.set o (prq l (Ka l (q,S)).2)).set oq (qo true (Ka l (q,S)).1)):=by
 have hlo:=(Ad.1 ho).1
 have hlq:=(Ad.1 hoq).1
 refine Ae [] [0,1] Tryz.func70 Tryz.ntmps70 (fun d=>?_)
 refine Z31 ?_;refine Cj Tryz.call118 ho (by simp) Ix (ACs l S Ph o _ (Ag ho) hi (by omega)) ?_;refine A5 ?_;refine A2 [0,1,9] ?_
 refine A4 (fun ht9=>?_) (fun ht9=>?_)
 ·have hq:isQ l Ph S=false:=by simpa using ht9
  have e:=AFv (q:=q) hq
  rw [Yt hq,Ce ho]
  exact Z35
 have hq:isQ l Ph S=true:=by simpa using ht9
 have hi1:S.i+1<l.length:=Kt hl hi hq
 rw [Ys hq]
 refine Z3 ?_;refine Fj [0,1,3,7,0,16,48,112,255,511,1023,1023,1023,0,0,26623,61439,131071] [] [.q 13 [] [],.s [4] none [] [],.s [6] none [] [],.s [4] none [] [],.q 1 [] [],.s [6] none [] []] (fun _=>Hp.set o (prq l (F6 S))) (fun _=>[]) Ak (by kernel_rfl) rfl rfl (fun _=>rfl) ?_
 apply Y.q
 ·intro B hT hF
  refine Z33 ?_
  refine As (h:=Bh (Ku hlo)) (hr:=?_)
  refine Z33 ?_
  refine As (h:=Bh (Ku hlo)) (hr:=?_)
  refine Dx Tryz.call120 (AN0 l (S.i+1) hi1 hl hll (fun n Dv h1 h2=>bx hl (by omega) n Dv h1 h2) _) ?_;exact j6
 case hTF=>decide
 refine Y.allocP Tryz.zeroValue27 ?_;refine Y.allocP Tryz.zeroValue73 ?_;refine Y.storeP Tryz.sizeOf27 ?_
 apply Y.q
 ·intro B hT hF
  exact Z56
 case hTF=>decide
 refine Y.storeP Tryz.sizeOf73 ?_;refine Er (tn:=[])  ?_;refine A2 [0,1,4,5,6] ?_;refine Z30 ?_;refine A2 [0,1,4,5,6,25] ?_
 refine A4 (fun ht25=>?_) (fun ht25=>?_)
 ·have e:=AFw (q:=q) hq ht25
  refine Z23 ?_
  refine Dp jS (Ku hlo) ?_ ?_
  ·simp
  refine A2 [] ?_;exact Z35
 obtain ⟨k,hk,hkl⟩:=gr hl (by omega) hi1 (by simpa using ht25)
 have e:=AFx (q:=q) hq ht25 hk
 rw [hk]
 refine Z3 ?_;refine Z22 ?_;refine Z58 ?_
 refine Dp jS (xh hne hoq) ?_ ?_
 ·intro z hz
  simp only [B3,E6,or_false] at hz
  rcases hz with rfl|rfl|rfl|rfl|rfl|rfl
  all_goals first|exact D5|simp
 refine Z0 ?_
 refine Dp jS (qA hlo hne) ?_ ?_
 ·simp
 exact Z72

theorem c71 (l:List Tok) (S:QS) (q:Qry) (o oq:Nat) (Hp:List AObj) (hne:oq≠o) (ho:Hp[o]? = some (prq l S)) (hoq:Hp[oq]? = some (qo true q)) (hi:S.i<l.length) (hl:TokEnd l) (hll:l.length≤500000) (hc12:q.cols.length≤12):ACall Tryz.prog 71 [.ptr o 0,.ptr oq 0] Hp (fun r H'=>r=Vl∧H'=(Hp.set o (prq l (It l (q,S)).2)).set oq (qo true (It l (q,S)).1)):=by
 have hlo:=(Ad.1 ho).1
 have hlq:=(Ad.1 hoq).1
 refine Ae [] [0,1] Tryz.func71 Tryz.ntmps71 (fun d=>?_)
 refine Z31 ?_;refine Cj Tryz.call118 ho (by simp) Ix (ACs l S Nu o _ (Ag ho) hi (by omega)) ?_;refine A5 ?_;refine A2 [0,1,9] ?_
 refine A4 (fun ht9=>?_) (fun ht9=>?_)
 ·have hq:isQ l Nu S=false:=by simpa using ht9
  have e:=AFy (q:=q) hq
  rw [Yt hq,Ce ho]
  exact Z35
 have hq:isQ l Nu S=true:=by simpa using ht9
 have hi1:S.i+1<l.length:=Kt hl hi hq
 rw [Ys hq]
 refine Z3 ?_;refine Fj [0,1,3,7,0,16,48,112,255,511,0,2047] [] [.q 10 [] [],.s [4] none [] [],.s [4] none [] []] (fun _=>Hp.set o (prq l (F6 S))) (fun _=>[]) Ak (by kernel_rfl) rfl rfl (fun _=>rfl) ?_
 apply Y.q
 ·intro B hT hF
  refine Z33 ?_
  refine As (h:=Bh (Ku hlo)) (hr:=?_)
  refine Z33 ?_
  refine As (h:=Bh (Ku hlo)) (hr:=?_)
  refine As (h:=Ah ((S.i+1)) (Id (Af l (S.i+1))) (fun _=>Mf hi1)) (hr:=?_)
  exact Z56
 case hTF=>decide
 refine AIb ?_;refine Er (tn:=[])  ?_;refine A2 [0,1,4] ?_;refine Z1 ?_;refine A9 Tryz.call121 (AQf (Af l (S.i+1)).text (hl.text _) _) ?_;refine Z75 ?_;refine A2 [0,1,4,5] ?_;refine Z16 ?_;refine Z23 ?_;refine A2 [0,1,5,26] ?_
 refine A4 (fun ht26=>?_) (fun ht26=>?_)
 ·have e:=AFz (q:=q) hq ht26
  refine Z2 ?_;refine Cj Tryz.call72 (Ku hlo) (by simp) Ix (c72 l (F6 S) 8 o _ (Ag (Ku hlo)) hi1) ?_;refine A2 [] ?_;refine G5 ?_;exact Z74
 refine Z15 ?_;refine A2 [0,1,5,32] ?_
 refine A4 (fun ht32=>?_) (fun ht32=>?_)
 ·have e:=AG0 (q:=q) hq ht26 ht32
  refine Z2 ?_;refine Cj Tryz.call72 (Ku hlo) (by simp) Ix (c72 l (F6 S) 3 o _ (Ag (Ku hlo)) hi1) ?_;refine A2 [] ?_;refine G5 ?_;exact Z74
 have e:=AG1 (q:=q) hq ht26 ht32
 refine Z20 ?_;refine Z23 ?_
 refine Dp jS (xh hne hoq) ?_ ?_
 ·simp
 refine A2 [0] ?_;refine Z47 ?_
 refine A5 (h:=Bh (qA hlo hne)) (hr:=?_)
 refine A5 (h:=Tt (h2:=fun _=>by rw [show (F6 S).i=S.i+1 from rfl];omega)) (hr:=?_)
 refine Z0 ?_
 refine Dp jS (qA hlo hne) ?_ ?_
 ·simp
 exact Z72

theorem Vm {l:List Tok} (hl:TokEnd l):∀(n:Nat) (r:Qry×QS),r.2.i<l.length→r.1.cols.length≤12→(Li l n r).2.i<l.length∧(Li l n r).1.cols.length≤12
 | 0,r,h1,h2=>⟨h1,h2⟩
 | n+1,r,h1,h2=>by
  rw [Li]
  split
  ·rename_i hq
   obtain ⟨_,f2,f3⟩:=O0 hl (q:=r.1) (Kt hl h1 hq) h2
   exact Vm hl n _ f2 f3
  exact ⟨h1,h2⟩
theorem lq {l:List Tok} (hl:TokEnd l) {r:Qry×QS} (h1:r.2.i<l.length) (h2:r.1.cols.length≤12):(Nt l r).2.i<l.length∧(Nt l r).1.cols.length≤12:=by
 unfold Nt
 split
 ·rename_i hq;exact ⟨Kt hl h1 hq,h2⟩
 obtain ⟨_,f2,f3⟩:=O0 hl (q:=Mi false r.1) h1 h2
 exact Vm hl _ _ f2 f3
theorem lr {l:List Tok} (hl:TokEnd l) (hll:l.length≤500000) {r:Qry×QS} (h1:r.2.i<l.length) (h2:r.1.cols.length≤12):(Ka l r).2.i<l.length∧(Ka l r).1.cols.length≤12:=by
 unfold Ka
 split
 ·rename_i hq
  have hi1:r.2.i+1<l.length:=Kt hl h1 hq
  split
  ·exact ⟨hi1,h2⟩
  rename_i h
  obtain ⟨k,hk,hkl⟩:=gr hl (by omega) hi1 (by simpa using h)
  refine ⟨?_,h2⟩
  show (atM l (r.2.i+1)).2.1.toNat<_
  rw [hk,Int.toNat_natCast]
  exact hkl
 exact ⟨h1,h2⟩
theorem ls {l:List Tok} (hl:TokEnd l) {r:Qry×QS} (h1:r.2.i<l.length) (h2:r.1.cols.length≤12):(It l r).2.i<l.length∧(It l r).1.cols.length≤12:=by
 unfold It
 split
 ·rename_i hq
  have hi1:(F6 r.2).i<l.length:=Kt hl h1 hq
  split
  ·exact ⟨by rw [T3];exact hi1,h2⟩
  split
  ·exact ⟨by rw [T3];exact hi1,h2⟩
  rename_i h _
  have hk:(Af l (F6 r.2).i).kind≠0:=by
   have:(Af l (r.2.i+1)).kind=3:=by simpa using h
   show (Af l (r.2.i+1)).kind≠0
   rw [this];decide
  exact ⟨hl.step hi1 hk,h2⟩
 exact ⟨h1,h2⟩
def q0Q:Qry:=⟨false,[],Av, -1⟩
def s1Q (l:List Tok):QS:=Sv l gx ⟨0,0,0⟩
def r1Q (l:List Tok):Qry×QS:=Nt l (q0Q,s1Q l)
def r2Q (l:List Tok):Qry×QS:=Ka l (r1Q l)
def r3Q (l:List Tok):Qry×QS:=It l (r2Q l)
def s4Q (l:List Tok):QS:=Sv l [59] (r3Q l).2
def s5Q (l:List Tok):QS:=AN4 l (s4Q l)
theorem ANg:Le (.agg [B0 false,.nil,A3 0,Ac [],A3 0,A3 0,Ac [],.nil,A3 (-1)]) (.agg [B0 false,.nil,A3 0,Ac [],A3 0,A3 0,Ac [],.slice false 6 [],A3 (-1)]):=by
 refine .agg _ _ rfl (by simp [AV.one,Value.oneCell',sv]) fun i y y' h1 h2=>?_
 match i with
 | 0=>simp at h1 h2;subst h1;subst h2;exact .inl rfl
 | 1=>simp at h1 h2;subst h1;subst h2;exact .inl rfl
 | 2=>simp at h1 h2;subst h1;subst h2;exact .inl rfl
 | 3=>simp at h1 h2;subst h1;subst h2;exact .inl rfl
 | 4=>simp at h1 h2;subst h1;subst h2;exact .inl rfl
 | 5=>simp at h1 h2;subst h1;subst h2;exact .inl rfl
 | 6=>simp at h1 h2;subst h1;subst h2;exact .inl rfl
 | 7=>simp at h1 h2;subst h1;subst h2;exact .inr ⟨rfl,6,rfl⟩
 | 8=>simp at h1 h2;subst h1;subst h2;exact .inl rfl
 | i+9=>simp at h1
abbrev Rq (q:Qry):AV:=.agg (qoC false q)
theorem AG2 {n:Nat} {q:Qry}:Low n (Rq q):=by
 have h:∀z∈qoC false q,Low n z:=ACr (n:=n) (own:=false) (q:=q)
 simpa using h
theorem Yu {n:Nat}:oid n 4≠oid n 3:=by unfold oid;omega
theorem c6 (s:Str) (hs:s.length≤1048576) (Hp:List AObj):AFun Tryz.prog 30 [Ac s] Hp (.tup [Rq (Mj s).1,.agg [A3 (Mj s).2.1,A3 (Mj s).2.2]]):=by
 refine Ae [.cell 2 29,.cell 3 73] [0] Tryz.func30 Tryz.ntmps30 (fun d=>?_)
 refine Z24 ?_;refine P1 ?_;refine A2 [0,2,3] ?_;refine Z2 ?_;refine A9 Tryz.call66 (c66 s hs _) ?_;refine Z12 ?_;refine AE4 ?_;refine A2 [2,3,4,5] ?_;refine Z30 ?_;refine A2 [2,3,4,5,15] ?_
 refine A4 (fun ht15=>?_) (fun ht15=>?_)
 ·have e:Mj s=(l8,(Bi s).2.1,((Bi s).2.2:Int)):=if_pos ht15
  refine Fj [0,0,1,7] [2] [.q 2 [] [],.s [] (some 0) [] []] (fun _=>Hp) (fun _=>[.cells 29 [B0 false,.nil,A3 0,Ac [],A3 0,A3 0,Ac [],.nil,A3 0],.cells 73 [A3 0,A3 0],.cells 73 [A3 (Bi s).2.1,A3 ((Bi s).2.2:Nat)]]) Ak (by kernel_rfl) rfl rfl (fun _=>rfl) ?_
  apply Y.q
  ·intro B hT hF
   refine D.build (places:=#[(0,1),(1,1),(2,6),(8,1)]) jU (fun w=>by simp) jZ ?_;exact Z56
  case hTF=>decide
  refine AMa ?_;refine Er (tn:=[2])  ?_;refine AIg ?_;refine zv ?_;exact AHz
 have e0:¬((Bi s).2.1 != 0)=true:=by rw [ht15];simp
 have hz:(Bi s).2.1=0:=by simpa using ht15
 have hle:=s8 hz
 have hlen:=sj hz
 have hpos:0<(Bi s).1.length:=hle.pos
 have hl5:(Bi s).1.length≤500000:=by omega
 have f1:(s1Q (Bi s).1).i<(Bi s).1.length:=ln hle hpos
 have f2:(r1Q (Bi s).1).2.i<(Bi s).1.length∧(r1Q (Bi s).1).1.cols.length≤12:=lq hle (r:=(q0Q,s1Q (Bi s).1)) f1 (show ([]:List Str).length≤12 by decide)
 have f3:(r2Q (Bi s).1).2.i<(Bi s).1.length∧(r2Q (Bi s).1).1.cols.length≤12:=lr hle hl5 f2.1 f2.2
 have f4:(r3Q (Bi s).1).2.i<(Bi s).1.length∧(r3Q (Bi s).1).1.cols.length≤12:=ls hle f3.1 f3.2
 have f5:(s4Q (Bi s).1).i<(Bi s).1.length:=ln hle f4.1
 have hp:Mj s=sq (Bi s).1:=if_neg e0
 refine Qj ?_;refine Ou (places:=#[(0,1),(1,1),(2,2)]) jU (fun w=>by simp) jZ ?_;refine R.box ?_;refine A5 ?_;refine A2 [2,3,6] ?_;refine Ez ?_;refine Ou (places:=#[(0,1),(1,1),(2,6),(8,1)]) jU (fun w=>by simp) jZ ?_;refine R.wk 21 _ ANg ?_;refine Z14 ?_;refine A2 [2,3,6,7] ?_;refine Ez ?_;refine H5 4 1 1 ?_;refine A5 ?_
 refine Tu (n:=3) (x:=prq (Bi s).1 (s1Q (Bi s).1)) Tryz.call68 (c68 (Bi s).1 ⟨0,0,0⟩ gx (oid Hp.length 3) _ (by rw [Ax];rfl) hpos (by omega)) ?_
 refine AEf ?_
 refine H3 (up':=Hp) (own':=[.cells 29 [B0 false,.nil,A3 0,Ac [],A3 0,A3 0,Ac [],.nil,A3 0],.cells 73 [A3 0,A3 0],.cells 73 [A3 (Bi s).2.1,A3 ((Bi s).2.2:Nat)],prq (Bi s).1 (r1Q (Bi s).1).2,qo true (r1Q (Bi s).1).1]) Tryz.call69 ((c69 (Bi s).1 (s1Q (Bi s).1) q0Q (oid Hp.length 3) (oid Hp.length 4) _ Yu (by rw [Ax];rfl) (by rw [Ax];rfl) f1 hle hl5 (by decide)).mono fun r H' e=>⟨e.1,e.2.trans (by rw [Dm,Dm];rfl)⟩) rfl (fun h=>h) ?_
 refine AEf ?_
 refine H3 (up':=Hp) (own':=[.cells 29 [B0 false,.nil,A3 0,Ac [],A3 0,A3 0,Ac [],.nil,A3 0],.cells 73 [A3 0,A3 0],.cells 73 [A3 (Bi s).2.1,A3 ((Bi s).2.2:Nat)],prq (Bi s).1 (r2Q (Bi s).1).2,qo true (r2Q (Bi s).1).1]) Tryz.call70 ((c70 (Bi s).1 (r1Q (Bi s).1).2 (r1Q (Bi s).1).1 (oid Hp.length 3) (oid Hp.length 4) _ Yu (by rw [Ax];rfl) (by rw [Ax];rfl) f2.1 hle hl5 f2.2).mono fun r H' e=>⟨e.1,e.2.trans (by rw [Dm,Dm];rfl)⟩) rfl (fun h=>h) ?_
 refine AEf ?_
 refine H3 (up':=Hp) (own':=[.cells 29 [B0 false,.nil,A3 0,Ac [],A3 0,A3 0,Ac [],.nil,A3 0],.cells 73 [A3 0,A3 0],.cells 73 [A3 (Bi s).2.1,A3 ((Bi s).2.2:Nat)],prq (Bi s).1 (r3Q (Bi s).1).2,qo true (r3Q (Bi s).1).1]) Tryz.call71 ((c71 (Bi s).1 (r2Q (Bi s).1).2 (r2Q (Bi s).1).1 (oid Hp.length 3) (oid Hp.length 4) _ Yu (by rw [Ax];rfl) (by rw [Ax];rfl) f3.1 hle hl5 f3.2).mono fun r H' e=>⟨e.1,e.2.trans (by rw [Dm,Dm];rfl)⟩) rfl (fun h=>h) ?_
 refine AEf ?_
 refine Tu (n:=3) (x:=prq (Bi s).1 (s4Q (Bi s).1)) Tryz.call68 (c68 (Bi s).1 (r3Q (Bi s).1).2 [59] (oid Hp.length 3) _ (by rw [Ax];rfl) f4.1 (by omega)) ?_
 refine A2 [2,3,6,7] ?_;refine K9 ?_;refine W.draw [0,1,3,7,0,16,48,112,255,511,1023,2047] 8 Ak (by kernel_rfl) ?_;refine W3 ?_;refine Z8 ?_;refine Z90 ?_
 refine A5 (h:=Ah ((s4Q (Bi s).1).i) (Id (Af (Bi s).1 (s4Q (Bi s).1).i)) (fun _=>Mf f5)) (hr:=?_)
 refine Z12 ?_;refine A2 [2,3,6,7,43] ?_
 refine A4 (fun ht43=>?_) (fun ht43=>?_)
 ·have e5:s5Q (Bi s).1=J8 (Bi s).1 8 (s4Q (Bi s).1):=if_pos ht43
  refine Z52 ?_
  refine Tu (n:=3) (x:=prq (Bi s).1 (J8 (Bi s).1 8 (s4Q (Bi s).1))) Tryz.call72 (c72 (Bi s).1 (s4Q (Bi s).1) 8 (oid Hp.length 3) _ (by rw [Ax];rfl) f5) ?_
  refine A2 [2,3,6,7] ?_;refine H4 ?_;refine Z7 ?_;refine Z58 ?_;refine A2 [2,3,6,7,51] ?_
  refine A4 (fun ht51=>?_) (fun ht51=>?_)
  ·rw [←e5] at ht51 ⊢
   have e:Mj s=(l8,(s5Q (Bi s).1).code,(s5Q (Bi s).1).at_):=by rw [hp];exact if_pos ht51
   refine AMb ?_
   apply Y.q
   ·intro B hT hF
    exact AKw
   case hTF=>decide
   refine Z91 ?_;refine AIg ?_;refine zv ?_;exact AHz
  rw [←e5] at ht51
  have e:Mj s=((r3Q (Bi s).1).1,0,0):=by rw [hp];exact if_neg (by show ¬(((s5Q (Bi s).1).code != 0)=true);rw [ht51];simp)
  refine Qj ?_;refine Z21 ?_;refine Gs ?_;exact AKl
 have e5:s5Q (Bi s).1=s4Q (Bi s).1:=if_neg (by rw [ht43];simp)
 refine ji ?_;refine Z58 ?_;refine A2 [2,3,6,7,51] ?_
 refine A4 (fun ht51=>?_) (fun ht51=>?_)
 ·rw [←e5] at ht51 ⊢
  have e:Mj s=(l8,(s5Q (Bi s).1).code,(s5Q (Bi s).1).at_):=by rw [hp];exact if_pos ht51
  refine AMb ?_
  apply Y.q
  ·intro B hT hF
   exact AKw
  case hTF=>decide
  refine Z91 ?_;refine AIg ?_;refine zv ?_;exact AHz
 rw [←e5] at ht51
 have e:Mj s=((r3Q (Bi s).1).1,0,0):=by rw [hp];exact if_neg (by show ¬(((s5Q (Bi s).1).code != 0)=true);rw [ht51];simp)
 refine Qj ?_;refine Z21 ?_;refine Gs ?_;exact AKl

structure QW (q:Qry):Prop where
 ok:okE 61 q.whr
 size:sizeE q.whr≤1048576
 rng:Dq Ge q.whr=true
 len:q.cols.length≤1048576
 names:∀s∈q.cols,s.length≤1048576
def noN (s:Str):Bool := !(Dy s)
def Yv (ks:List Str):Int:=if ks.any noN then (ks.findIdx noN:Int) else -1
theorem ACu {ks:List Str} {i:Nat} (h:i<ks.length) (hn:noN ks[i]=true) (hp:∀(j:Nat) (y:Str),j<i→ks[j]? = some y→¬noN y=true):(i:Int)=Yv ks:=by
 unfold Yv
 rw [if_pos (Fi.2 ⟨_,Bf h,hn⟩)]
 congr 1
 refine (n5 h |>.2 ⟨hn,fun j hj=>?_⟩).symm
 have:=hp j (ks[j]'(by omega)) hj (Ab (by omega))
 simpa using this
theorem pz {ks:List Str} (hp:∀(j:Nat) (y:Str),ks[j]? = some y→¬noN y=true):(-1:Int)=Yv ks:=by
 unfold Yv
 rw [if_neg]
 intro h
 obtain ⟨y,hy,hn⟩:=Fi.1 h
 obtain ⟨j,hj⟩:=C6 hy
 exact hp j y hj hn
theorem xi (ks:List Str):decide (0≤Yv ks)=ks.any noN:=by
 unfold Yv
 cases ks.any noN<;>simp
theorem ACv {α:Type} {p:α→Bool} (l:List α):(!(l.any fun s => !(p s)))=l.all p:=by
 induction l with
 | nil=>rfl
 | cons a r ih=>rw [List.any_cons,List.all_cons,←ih];cases p a<;>simp
theorem AG3 {q:Qry} (h:((((q.all != ((q.cols.length:Int)==0)) || decide ((12:Int)<(q.cols.length:Int))) || decide (q.lim < -1)) || decide ((100000:Int)<q.lim))=true):Lk q=false:=if_pos h
theorem AG4 {q:Qry} (h:((((q.all != ((q.cols.length:Int)==0)) || decide ((12:Int)<(q.cols.length:Int))) || decide (q.lim < -1)) || decide ((100000:Int)<q.lim))=false):Lk q=((q.cols.all Dy)&&(!(Lj q) || Fs q.whr)):=if_neg (by rw [h];simp)
theorem AG5 {q:Qry} (h:((((q.all != ((q.cols.length:Int)==0)) || decide ((12:Int)<(q.cols.length:Int))) || decide (q.lim < -1)) || decide ((100000:Int)<q.lim))=false):Lk q=(!(q.cols.any noN)&&(!(Lj q) || Au q.whr)):=by rw [AG4 h,←ACv,Ga];rfl
def T5 (q:Qry):Bool:=if decide ((20:Int)<(q.cols.length:Int)) || Pb q.whr then true else q.cols.any fun s=>decide ((100:Int)<(s.length:Int))
theorem AG6 {q:Qry} (h:(decide ((20:Int)<(q.cols.length:Int)) || Pb q.whr)=true):T5 q=true:=if_pos h
theorem AG7 {q:Qry} (h:(decide ((20:Int)<(q.cols.length:Int)) || Pb q.whr)=false) {s:Str} (hs:s∈q.cols) (hn:decide ((100:Int)<(s.length:Int))=true):T5 q=true:=by
 unfold T5
 rw [if_neg (by rw [h];simp)]
 exact Fi.2 ⟨s,hs,hn⟩
theorem AG8 {q:Qry} (h:(decide ((20:Int)<(q.cols.length:Int)) || Pb q.whr)=false) (hn:∀s∈q.cols,decide ((100:Int)<(s.length:Int))=false):T5 q=false:=by
 unfold T5
 rw [if_neg (by rw [h];simp),K5]
 intro e
 obtain ⟨s,hs,h2⟩:=Fi.1 e
 rw [hn s hs] at h2;cases h2
theorem q8 {α:Type} {l:List α} {P:α→Prop} {i:Nat} (h:i<l.length) (hx:∀y∈l.take i,P y) (hr:P l[i]):∀y∈l.take (i+1),P y:=by
 intro y hy
 rw [Kl h,E4] at hy
 rcases hy with hy|hy
 ·exact hx y hy
 rw [Bo] at hy;subst hy;exact hr
theorem xj {α:Type} {l:List α} {P:α→Prop} {i:Nat} (h:l.length≤i) (hx:∀y∈l.take i,P y):∀y∈l,P y:=by rwa [Ej h] at hx
theorem AQh (s:Str) (hs:s.length≤1048576) (Hp:List AObj):AFun Tryz.prog 104 [Ac s] Hp (B0 (noN s)):=by
 refine Ae [.tmp 2] [0] Tryz.func104 Tryz.ntmps104 (fun d=>?_)
 refine Z41 ?_;refine Z2 ?_;exact ALu

theorem ANh (ks:List Str) (hkl:ks.length≤1048576) (hks:∀s∈ks,s.length≤1048576) (Hp:List AObj):AFun Tryz.prog 106 [Fq ks,.fn (.func 104) [] []] Hp (A3 (Yv ks)):=by
 refine Ae [.tmp 4] [0,1] Tryz.func106 Tryz.ntmps106 (fun d=>?_)
 refine fk ?_
 refine Bg (α:=Nat) (fun x=>⟨19,A6 0 (Fq ks) (A6 1 (.fn (.func 104) [] []) (A6 7 (A3 ks.length) (A6 8 (A3 (x:Nat)) (fun _=>.any)))),Hp,[],[],none⟩) (fun x=>x≤ks.length∧∀(j:Nat) (y:Str),j<x→ks[j]? = some y→¬noN y=true) (fun x=>ks.length-x) (0) (by simp) (Bl (by simp)) rfl (fun x hx=>?_)
 refine f9 ?_
 refine Co (fun ht9=>?_) (fun ht9=>?_)
 ·have hlt:x<ks.length:=by simpa using ht9
  refine fm ?_
  refine A5 (h:=Ah (x) (Ac ks[x]) (fun _=>B7 hlt)) (hr:=?_)
  refine A5 ?_;refine Na Tryz.call104 (AQh ks[x] (hks _ (Bf hlt)) _) ?_;refine fw ?_
  refine A4 (fun ht16=>?_) (fun ht16=>?_)
  ·refine j5 ?_;refine Z51 ?_;exact Aa (Ai A7) ⟨by rw [ACu hlt ht16 hx.2],rfl⟩
  refine Z68 ?_;exact AKq
 refine Z27 ?_;refine Z48 ?_;exact Aa (Ai A7) ⟨by rw [pz (P5 (by simp at ht9;omega) hx.2)],rfl⟩

theorem AQi (ks:List Str) (hkl:ks.length≤1048576) (hks:∀s∈ks,s.length≤1048576) (Hp:List AObj):AFun Tryz.prog 58 [Fq ks,.fn (.func 104) [] []] Hp (B0 (ks.any noN)):=by
 refine Ae [.tmp 4] [0,1] Tryz.func58 Tryz.ntmps58 (fun d=>?_)
 refine fu ?_;refine A9 Tryz.call106 (ANh ks hkl hks _) ?_;refine Z0 ?_;refine Z13 ?_;exact Aa (Ai A7) ⟨by rw [←xi];try rfl,rfl⟩

theorem c61 (q:Qry) (h:QW q) (Hp:List AObj):AFun Tryz.prog 61 [Rq q] Hp (B0 (Lj q)):=by
 refine Ae [.tmp 2] [0] Tryz.func61 Tryz.ntmps61 (fun d=>?_)
 refine Z97 ?_;refine AE3 ?_;refine R.wk 5 _ Sq ?_;refine A9 Tryz.call109 (AJ8 61 q.whr h.ok Av _) ?_;exact Z96

theorem c57 (q:Qry) (h:QW q) (Hp:List AObj):AFun Tryz.prog 57 [Rq q] Hp (B0 (Lk q)):=by
 refine Ae [.tmp 2] [0] Tryz.func57 Tryz.ntmps57 (fun d=>?_)
 refine Z97 ?_;refine Z7 ?_;refine Z58 ?_;refine Z85 ?_;refine fj ?_;refine Z36 ?_;refine Z53 ?_;refine A2 [1,25] ?_
 refine A4 (fun ht25=>?_) (fun ht25=>?_)
 ·rw [An] at ht25
  have e:=AG3 ht25
  refine Z42 ?_;refine Ck ?_;exact Aa (Ai A7) ⟨by rw [e]<;>rfl,rfl⟩
 rw [An] at ht25
 have e:=AG5 ht25
 refine Ni ?_;refine A9 Tryz.call58 (AQi q.cols h.len h.names _) ?_;refine Qf ?_;refine C1 Tryz.call61 (fun hB=>c61 q h _) ?_;refine Qi ?_;refine C1 Tryz.call96 (fun hB=>c96 61 q.whr h.ok (by decide) _) ?_;refine Cp ?_;refine Z65 ?_;exact Aa (Ai A7) ⟨by rw [e]<;>rfl,rfl⟩

theorem c8 (q:Qry) (Hp:List AObj):AFun Tryz.prog 8 [Rq q] Hp (B0 (T5 q)):=by
 refine Ae [.tmp 2] [0] Tryz.func8 Tryz.ntmps8 (fun d=>?_)
 refine Z97 ?_;refine fq ?_;refine Z6 ?_;refine C1 Tryz.call31 (fun hB=>c31 q.whr _) ?_;refine A5 ?_;refine A2 [1,12] ?_
 refine A4 (fun ht12=>?_) (fun ht12=>?_)
 ·rw [An] at ht12
  have e:=AG6 ht12
  refine Z42 ?_;refine Ck ?_;exact AIi
 rw [An] at ht12
 have hl20:q.cols.length≤20:=by
  simp only [E3,decide_eq_false_iff_not] at ht12
  omega
 refine Qh ?_;refine A2 [1,3] ?_
 refine Bg (α:=Nat) (fun x=>⟨27,A6 1 (.ro (qoC false q)) (A6 3 (A3 (x:Nat)) (fun _=>.any)),Hp,[],[],none⟩) (fun x=>x≤q.cols.length∧∀s∈q.cols.take x,decide ((100:Int)<(s.length:Int))=false) (fun x=>q.cols.length-x) (0) ⟨Aq _,fun s hs=>by simp at hs⟩ (Bl (by simp)) rfl (fun x hx=>?_)
 refine fq ?_;refine A2 [1,3,17] ?_
 refine A4 (fun ht17=>?_) (fun ht17=>?_)
 ·have hlt:x<q.cols.length:=by simpa using ht17
  refine vj ?_
  refine A5 (h:=Ah (x) (Ac q.cols[x]) (fun _=>B7 hlt)) (hr:=?_)
  refine Z12 ?_;refine A2 [1,3,26] ?_
  refine A4 (fun ht26=>?_) (fun ht26=>?_)
  ·have e:=AG7 ht12 (Bf hlt) ht26
   refine Z42 ?_;refine Z51 ?_;exact AIi
  refine jc ?_;refine A2 [1,3] ?_;exact Bm (x+1) ⟨hlt,q8 hlt hx.2 ht26⟩ (by omega) (Ds rfl)
 have hxe:q.cols.length≤x:=by simpa using ht17
 have e:=AG8 ht12 (xj hxe hx.2)
 refine Sc ?_;refine Z42 ?_;exact AIi

theorem ANi {q:Qry} (h:T5 q=false) (hg:Dq Ge q.whr=true):QW q:=by
 unfold T5 at h
 split at h
 ·cases h
 rename_i h1
 simp only [Cx,decide_eq_true_eq,not_or,Tk] at h1
 have hs:=rx h1.2
 refine ⟨hs.ok,by have:=hs.size;omega,hg,by omega,fun s hs=>?_⟩
 rw [K5] at h
 have:¬((100:Int)<(s.length:Int)):=fun e=>h (Fi.2 ⟨s,hs,by simpa using e⟩)
 omega
abbrev Ur (r:Rs):AV:=.tup [Bn r.1,A3 r.2]
abbrev th (l:List Int):AV:=.slice false 1 (l.map A3)
abbrev Yw (c:List Col) (l:List Val):AV:=.agg [Ar c,F4 l]
theorem AQj (e:Int) (Hp:List AObj):AFun Tryz.prog 171 [A3 e] Hp (Ur (Dd e)):=by
 refine Ae [.cell 2 24,.tmp 3] [0] Tryz.func171 Tryz.ntmps171 (fun d=>?_)
 refine jd ?_;refine A2 [0,2] ?_;refine AIe ?_;refine A5 ?_;refine X7 ?_;exact Aa (B5 (B4 jA jS) A7)

theorem AQk (n e:Int) (Hp:List AObj):AFun Tryz.prog 263 [A3 n,A3 e] Hp (Ur (I3 (n,e))):=by
 refine Ae [.cell 4 24,.tmp 5] [0,1] Tryz.func263 Tryz.ntmps263 (fun d=>?_)
 refine jd ?_;refine A2 [0,1,4] ?_;refine Z7 ?_;refine A2 [0,1,4,7] ?_
 refine A4 (fun ht7=>?_) (fun ht7=>?_)
 ·have hw:I3 (n,e)=Dd e:=if_pos ht7
  refine Z2 ?_;refine Z43 ?_;refine Z45 ?_;refine Ck ?_;exact AMc
 have hw:I3 (n,e)=(⟨1,n,[]⟩,0):=if_neg (by rw [ht7];simp)
 refine Qj ?_;refine A9 Tryz.call252 (AIs _ _) ?_;refine Z45 ?_;exact AMc

theorem lu {vs:List Val} {ks:List Int} (hl:ks.length≤vs.length) {x:Nat} (hk:x<ks.length) (hx:Dk vs ks=Dk (vs.drop x) (ks.drop x)):Dk vs ks=((vs[x].kind==ks[x])&&Dk (vs.drop (x+1)) (ks.drop (x+1))):=by
 rw [hx,Ig hk,Ig (show x<vs.length by omega),Dk]
theorem ACw (vs:List Val) (ks:List Int) (hks:ks.length≤vs.length) (hk2:ks.length≤1048576) (Hp:List AObj):AFun Tryz.prog 262 [F4 vs,th ks] Hp (B0 (Dk vs ks)):=by
 refine Ae [.tmp 4] [0,1] Tryz.func262 Tryz.ntmps262 (fun d=>?_)
 refine Z37 ?_;refine Z30 ?_;refine A2 [0,7,8,9] ?_
 refine Bg (α:=Nat) (fun x=>⟨22,A6 0 (F4 vs) (A6 7 (th ks) (A6 8 (A3 (ks.length:Nat)) (A6 9 (A3 (x:Nat)) (fun _=>.any)))),Hp,[],[],none⟩) (fun x=>x≤ks.length∧Dk vs ks=Dk (vs.drop x) (ks.drop x)) (fun x=>ks.length-x) (0) ⟨Aq _,rfl⟩ (Bl (by simp)) rfl (fun x hx=>?_)
 refine Z2 ?_;refine A2 [0,7,8,9,10] ?_
 refine Co (fun ht10=>?_) (fun ht10=>?_)
 ·have hlt:x<ks.length:=by simpa using ht10
  have hls:x<vs.length:=by omega
  have hst:=lu hks hlt hx.2
  refine Qg ?_
  refine A5 (h:=Ah (x) (A3 ks[x]) (fun _=>B7 hlt)) (hr:=?_)
  refine Z12 ?_;refine A2 [0,5,6,7,8,9] ?_;refine Z1 ?_
  refine A5 (h:=Ah (x) (Bn vs[x]) (fun _=>B7 hls)) (hr:=?_)
  refine Z58 ?_;refine A2 [0,7,8,9,20] ?_
  refine A4 (fun ht20=>?_) (fun ht20=>?_)
  ·have hm:Dk vs ks=false:=by rw [hst];simp only [bne_iff_ne,ne_eq] at ht20;simp [ht20]
   exact AEe
  have hn:Dk vs ks=Dk (vs.drop (x+1)) (ks.drop (x+1)):=by rw [hst];simp only [bne_eq_false_iff_eq] at ht20;simp [ht20]
  refine Z68 ?_;refine A2 [0,7,8,9] ?_;exact AL3
 have hxe:ks.length≤x:=by simpa using ht10
 have hm:Dk vs ks=true:=by rw [hx.2,mw hxe];cases vs.drop x<;>rfl
 refine Z27 ?_;exact Z92

theorem AQl (t:Str) (c:Int) (Hp:List AObj):AFun Tryz.prog 284 [Ac t,A3 c] Hp (.tup [B0 (I7 t c).1,B0 (I7 t c).2]):=by
 refine Ae [.tmp 4,.tmp 5] [0,1] Tryz.func284 Tryz.ntmps284 (fun d=>?_)
 refine fg ?_;refine Z31 ?_;refine A2 [1,6] ?_;refine W0 ?_;refine A2 [1,6,7] ?_
 refine A4 (fun ht7=>?_) (fun ht7=>?_)
 ·exact v9
 refine Z1 ?_;refine A2 [1,6,11] ?_
 refine A4 (fun ht11=>?_) (fun ht11=>?_)
 ·exact v9
 refine Z1 ?_;refine A2 [1,6,15] ?_
 refine A4 (fun ht15=>?_) (fun ht15=>?_)
 ·exact v9
 refine Z1 ?_;refine A2 [1,6,19] ?_
 refine A4 (fun ht19=>?_) (fun ht19=>?_)
 ·exact v9
 refine Z1 ?_;refine A2 [1,6,23] ?_
 refine A4 (fun ht23=>?_) (fun ht23=>?_)
 ·exact v9
 refine Z1 ?_;refine A2 [1,27] ?_
 refine A4 (fun ht27=>?_) (fun ht27=>?_)
 ·exact v9
 refine Z20 ?_;refine ff ?_;exact AMd

theorem ANj (a b:Int) (Hp:List AObj):AFun Tryz.prog 288 [A3 a,A3 b] Hp (.tup [A3 (No a b).1,A3 (No a b).2]):=by
 refine Ae [.tmp 4,.tmp 5] [0,1] Tryz.func288 Tryz.ntmps288 (fun d=>?_)
 refine fg ?_;refine Z1 ?_
 refine A5 (h:=Q.sub) (hr:=?_)
 refine A5 ?_;refine A2 [0,1,6] ?_;refine Z7 ?_;refine R.xor ?_;refine Z0 ?_;refine R.xor ?_;refine R.and ?_;refine A5 ?_;refine A2 [6,17] ?_
 refine A4 (fun ht17=>?_) (fun ht17=>?_)
 ·have hm:No a b=(0,4):=if_pos ht17
  exact ALh
 have hm:No a b=(IntKind.i64.wrap (a-b),0):=if_neg (by rw [ht17];simp)
 refine Rb ?_;exact AI6

theorem AQm (a b:Int) (Hp:List AObj):AFun Tryz.prog 308 [A3 a,A3 b] Hp (.tup [A3 (pg a b).1,A3 (pg a b).2]):=by
 refine Ae [.tmp 4,.tmp 5] [0,1] Tryz.func308 Tryz.ntmps308 (fun d=>?_)
 refine fg ?_;refine Z1 ?_
 refine A5 (h:=Q.add) (hr:=?_)
 refine A5 ?_;refine A2 [0,1,6] ?_;refine Z7 ?_;refine R.xor ?_;refine Z0 ?_;refine R.xor ?_;refine R.and ?_;refine A5 ?_;refine A2 [6,17] ?_
 refine A4 (fun ht17=>?_) (fun ht17=>?_)
 ·have hm:pg a b=(0,4):=if_pos ht17
  exact ALh
 have hm:pg a b=(IntKind.i64.wrap (a+b),0):=if_neg (by rw [ht17];simp)
 refine Rb ?_;exact AI6

theorem AQn (a:Int) (Hp:List AObj):AFun Tryz.prog 264 [A3 a] Hp (.tup [A3 (No 0 a).1,A3 (No 0 a).2]):=by
 refine Ae [.tmp 2,.tmp 3] [0] Tryz.func264 Tryz.ntmps264 (fun d=>?_)
 refine Z1 ?_;refine A2 [0] ?_;refine Z2 ?_;refine A9 Tryz.call288 (ANj _ _ _) ?_;refine Z58 ?_;refine Z60 ?_;exact Aa (B5 A7 A7)

theorem ANk (a:Int) (Hp:List AObj):AFun Tryz.prog 327 [A3 a] Hp (AAn (Vh a)):=by
 refine Ae [.tmp 2] [0] Tryz.func327 Tryz.ntmps327 (fun d=>?_)
 refine Z41 ?_;refine Z7 ?_;refine A2 [0,4] ?_
 refine A4 (fun ht4=>?_) (fun ht4=>?_)
 ·have hm:Vh a=IntKind.u64.wrap (0-IntKind.u64.wrap a):=if_pos ht4
  refine Z23 ?_;refine Z4 ?_;exact Z18
 have hm:Vh a=IntKind.u64.wrap a:=if_neg (by rw [ht4];simp)
 refine Rb ?_;exact ALm

theorem AJu (n:Int):0≤IntKind.u64.wrap n∧IntKind.u64.wrap n<18446744073709551616:=by rw [IntKind.wrap_u64];omega
theorem ACx (a:Int):0≤Vh a∧Vh a<18446744073709551616:=by
 unfold Vh
 split<;>exact AJu _
theorem AQo (x y:Int) (hx:0≤x∧x<18446744073709551616) (hy:0≤y∧y<18446744073709551616) (Hp:List AObj):AFun Tryz.prog 326 [AAn x,AAn y] Hp (.tup [AAn (x*y / 18446744073709551616),AAn (x*y % 18446744073709551616)]):=by
 obtain ⟨m,rfl⟩:=mt hx.1
 obtain ⟨n,rfl⟩:=mt hy.1
 refine Lw (xs:=[.int .u64 m,.int .u64 n]) (v:=.tuple #[.int .u64 ((m*n / 18446744073709551616:Nat):Int),.int .u64 ((m*n % 18446744073709551616:Nat):Int)]) (fun G w=>N9 rfl (fun i y u hy hu=>?_)) (fun w hg=>?_)
 ·match i with
  | 0=>simp at hy hu;subst hy;subst hu;exact .v _ _
  | 1=>simp at hy hu;subst hy;subst hu;exact .v _ _
  | i+2=>simp at hy
 refine (Any.bits_Mul64 Tryz.lays264 m n (by omega) (by omega) w).mono ?_
 rintro e w' ⟨rfl,rfl⟩
 exact ⟨rfl,Go.RowKit.Below.refl _ _⟩
theorem AQp (s t:Str) (Hp:List AObj):AFun Tryz.prog 307 [Ac s,Ac t] Hp (A3 (Lib.compareBytes s t)):=by
 refine Lw (xs:=[sv s,sv t]) (v:=.int .i64 (Lib.compareBytes s t)) (fun G w=>.v _ _) (fun w hg=>?_)
 refine (Any.strings_Compare Tryz.lays106 ⟨s.toArray⟩ ⟨t.toArray⟩ w).mono ?_
 rintro e w' ⟨rfl,rfl⟩
 exact ⟨rfl,Go.RowKit.Below.refl _ _⟩
theorem AQq (a b:Int) (Hp:List AObj):AFun Tryz.prog 309 [A3 a,A3 b] Hp (.tup [A3 (Yd a b).1,A3 (Yd a b).2]):=by
 refine Ae [.tmp 4,.tmp 5] [0,1] Tryz.func309 Tryz.ntmps309 (fun d=>?_)
 refine fg ?_;refine Z2 ?_;refine A9 Tryz.call327 (ANk _ _) ?_;refine A5 ?_;refine A9 Tryz.call327 (ANk _ _) ?_;refine A9 Tryz.call326 (AQo _ _ (ACx a) (ACx b) _) ?_;refine Z75 ?_;refine A2 [0,1,6,7] ?_;refine Z23 ?_;refine Z0 ?_;refine A2 [6,7,8] ?_;refine Z2 ?_;refine A2 [6,7,8,9] ?_;refine Z31 ?_;refine A2 [6,7,8,9,23] ?_
 refine A4 (fun ht23=>?_) (fun ht23=>?_)
 ·refine Z52 ?_
  refine A5 (h:=Q.add) (hr:=?_)
  refine A5 ?_;refine A2 [6,7,8,9] ?_;refine H4 ?_;refine je ?_;refine X8 ?_;refine A2 [7,8,26] ?_
  refine A4 (fun ht26=>?_) (fun ht26=>?_)
  ·refine ff ?_;refine Z5 ?_
   exact Aa (B5 A7 A7) ⟨by
    have w1:IntKind.u64.wrap 9223372036854775808=9223372036854775808:=rfl
    simp_all [Yd]
    try first|(rw [if_pos ht26];simp;done)|(rw [if_neg (by omega)];simp;done),rfl⟩
  refine Z1 ?_;refine A2 [7,34] ?_
  refine A4 (fun ht34=>?_) (fun ht34=>?_)
  ·refine Z1 ?_;refine Z12 ?_;refine Z10 ?_;refine Z5 ?_
   exact Aa (B5 A7 A7) ⟨by
    have w1:IntKind.u64.wrap 9223372036854775808=9223372036854775808:=rfl
    simp_all [Yd]
    try first|(rw [if_pos ht26];simp;done)|(rw [if_neg (by omega)];simp;done),rfl⟩
  refine Z20 ?_;refine AE9 ?_
  exact Aa (B5 A7 A7) ⟨by
   have w1:IntKind.u64.wrap 9223372036854775808=9223372036854775808:=rfl
   simp_all [Yd]
   try first|(rw [if_pos ht26];simp;done)|(rw [if_neg (by omega)];simp;done),rfl⟩
 refine vj ?_;refine X8 ?_;refine A2 [7,8,26] ?_
 refine A4 (fun ht26=>?_) (fun ht26=>?_)
 ·refine ff ?_;refine Z5 ?_
  exact Aa (B5 A7 A7) ⟨by
   have w1:IntKind.u64.wrap 9223372036854775808=9223372036854775808:=rfl
   simp_all [Yd]
   try first|(rw [if_pos ht26];simp;done)|(rw [if_neg (by omega)];simp;done),rfl⟩
 refine Z1 ?_;refine A2 [7,34] ?_
 refine A4 (fun ht34=>?_) (fun ht34=>?_)
 ·refine Z1 ?_;refine Z12 ?_;refine Z10 ?_;refine Z5 ?_
  exact Aa (B5 A7 A7) ⟨by
   have w1:IntKind.u64.wrap 9223372036854775808=9223372036854775808:=rfl
   simp_all [Yd]
   try first|(rw [if_pos ht26];simp;done)|(rw [if_neg (by omega)];simp;done),rfl⟩
 refine Z20 ?_;refine AE9 ?_
 exact Aa (B5 A7 A7) ⟨by
  have w1:IntKind.u64.wrap 9223372036854775808=9223372036854775808:=rfl
  simp_all [Yd]
  try first|(rw [if_pos ht26];simp;done)|(rw [if_neg (by omega)];simp;done),rfl⟩

theorem AQr (a b:Int) (Hp:List AObj):AFun Tryz.prog 310 [A3 a,A3 b] Hp (.tup [A3 (ph a b).1,A3 (ph a b).2]):=by
 refine Ae [.tmp 4,.tmp 5] [0,1] Tryz.func310 Tryz.ntmps310 (fun d=>?_)
 refine fg ?_;refine je ?_;refine A2 [0,1,6] ?_
 refine A4 (fun ht6=>?_) (fun ht6=>?_)
 ·refine ff ?_;exact AL6
 refine fp ?_;refine Z0 ?_;refine A2 [0,1,9] ?_
 refine A4 (fun ht9=>?_) (fun ht9=>?_)
 ·refine ff ?_;exact AL6
 refine Z20 ?_;refine Z1 ?_
 refine A5 (h:=Q.quo (h0:=fun _=>by simpa using ht6)) (hr:=?_)
 refine Z0 ?_;refine Z10 ?_;exact Aa (B5 A7 A7) ⟨by simp_all [ph]<;>(rw [if_neg (by rintro ⟨rfl,rfl⟩;simp_all)];exact ⟨rfl,rfl⟩),rfl⟩

theorem xk {a b:Int} (ha : -9223372036854775808≤a∧a≤9223372036854775807):IntKind.i64.wrap (a.tmod b)=a.tmod b:=by
 have h1:(a.tmod b).natAbs≤a.natAbs:=by rw [Int.natAbs_tmod];exact Nat.mod_le _ _
 rw [IntKind.wrap_i64]
 rcases Int.le_total 0 a with h|h
 ·have:=Int.tmod_nonneg b h
  omega
 have h2:=Int.tmod_nonneg b (show 0 ≤ -a by omega)
 rw [Int.neg_tmod] at h2
 omega
theorem AQs (a b:Int) (ha : -9223372036854775808≤a∧a≤9223372036854775807) (Hp:List AObj):AFun Tryz.prog 311 [A3 a,A3 b] Hp (.tup [A3 (ag a b).1,A3 (ag a b).2]):=by
 refine Ae [.tmp 4,.tmp 5] [0,1] Tryz.func311 Tryz.ntmps311 (fun d=>?_)
 refine fg ?_;refine Z31 ?_;refine A2 [0,1,6] ?_;refine W0 ?_;refine A2 [0,1,6,7] ?_
 refine A4 (fun ht7=>?_) (fun ht7=>?_)
 ·have hm:ag a b=(0,5):=if_pos ht7
  refine ff ?_;exact ALi
 refine Z1 ?_;refine A2 [0,1,9] ?_
 refine A4 (fun ht9=>?_) (fun ht9=>?_)
 ·have hm:ag a b=(0,0):=by unfold ag;rw [if_neg (by rw [ht7];simp),if_pos ht9]
  refine ff ?_;exact ALi
 have hm:ag a b=(a.tmod b,0):=by unfold ag;rw [if_neg (by rw [ht7];simp),if_neg (by rw [ht9];simp),xk ha]
 refine Z20 ?_;refine Z1 ?_
 refine A5 (h:=Q.rem (h0:=fun _=>by simpa using ht7)) (hr:=?_)
 refine Z0 ?_;exact AI6

theorem ANl (a:Int) (Hp:List AObj):AFun Tryz.prog 323 [A3 a] Hp (B0 false):=by
 refine Ae [.tmp 2] [0] Tryz.func323 Tryz.ntmps323 (fun d=>?_)
 refine Z41 ?_;refine Z23 ?_;exact ALq

theorem ANm (a:Int) (Hp:List AObj):AFun Tryz.prog 324 [A3 a] Hp (B0 false):=by
 refine Ae [.tmp 2] [0] Tryz.func324 Tryz.ntmps324 (fun d=>?_)
 refine Z41 ?_;refine Z23 ?_;exact ALq

theorem AQt (a b:Int) (Hp:List AObj):AFun Tryz.prog 305 [A3 a,A3 b] Hp (A3 (Ob a b)):=by
 refine Ae [.tmp 4] [0,1] Tryz.func305 Tryz.ntmps305 (fun d=>?_)
 refine Z37 ?_;refine Z2 ?_;refine A9 Tryz.call323 (ANl _ _) ?_;refine A5 ?_;refine Zs ?_;refine Z2 ?_;refine A9 Tryz.call323 (ANl _ _) ?_;refine A5 ?_;refine A2 [0,1,5,6] ?_;refine Z31 ?_;refine A2 [0,1,6,11] ?_
 refine A4 (fun ht11=>?_) (fun ht11=>?_)
 ·cases ht11
 refine Qh ?_;refine A2 [0,1,13] ?_
 refine A4 (fun ht13=>?_) (fun ht13=>?_)
 ·cases ht13
 refine jh ?_;refine A2 [0,1,16] ?_
 refine A4 (fun ht16=>?_) (fun ht16=>?_)
 ·have hm:Ob a b = -1:=if_pos ht16
  exact j8
 refine jh ?_;refine A2 [19] ?_
 refine A4 (fun ht19=>?_) (fun ht19=>?_)
 ·have hm:Ob a b=1:=by unfold Ob;rw [if_neg (by rw [ht16];simp),if_pos ht19]
  exact j8
 have hm:Ob a b=0:=by unfold Ob;rw [if_neg (by rw [ht16];simp),if_neg (by rw [ht19];simp)]
 refine Z3 ?_;exact Z92

theorem AQu (a b:Int) (Hp:List AObj):AFun Tryz.prog 306 [A3 a,A3 b] Hp (A3 (Ob a b)):=by
 refine Ae [.tmp 4] [0,1] Tryz.func306 Tryz.ntmps306 (fun d=>?_)
 refine Z37 ?_;refine Z2 ?_;refine A9 Tryz.call324 (ANm _ _) ?_;refine A5 ?_;refine Zs ?_;refine Z2 ?_;refine A9 Tryz.call324 (ANm _ _) ?_;refine A5 ?_;refine A2 [0,1,5,6] ?_;refine Z31 ?_;refine A2 [0,1,6,11] ?_
 refine A4 (fun ht11=>?_) (fun ht11=>?_)
 ·cases ht11
 refine Qh ?_;refine A2 [0,1,13] ?_
 refine A4 (fun ht13=>?_) (fun ht13=>?_)
 ·cases ht13
 refine jh ?_;refine A2 [0,1,16] ?_
 refine A4 (fun ht16=>?_) (fun ht16=>?_)
 ·have hm:Ob a b = -1:=if_pos ht16
  exact j8
 refine jh ?_;refine A2 [19] ?_
 refine A4 (fun ht19=>?_) (fun ht19=>?_)
 ·have hm:Ob a b=1:=by unfold Ob;rw [if_neg (by rw [ht16];simp),if_pos ht19]
  exact j8
 have hm:Ob a b=0:=by unfold Ob;rw [if_neg (by rw [ht16];simp),if_neg (by rw [ht19];simp)]
 refine Z3 ?_;exact Z92

theorem ACy {l:List Int} {x:Nat} (h:x<l.length) (hx:orI l=orI (l.drop x)):orI l=if l[x] != 0 then l[x] else orI (l.drop (x+1)):=by rw [hx,Ig h,orI]
theorem AQv (l:List Int) (hl:l.length≤1048576) (Hp:List AObj):AFun Tryz.prog 304 [th l] Hp (A3 (orI l)):=by
 refine Ae [.tmp 2] [0] Tryz.func304 Tryz.ntmps304 (fun d=>?_)
 refine Z41 ?_;refine Z2 ?_;refine Mn ?_;refine Z30 ?_;refine A2 [3,6,7,8] ?_
 refine Bg (α:=Nat) (fun x=>⟨18,A6 3 (A3 0) (A6 6 (th l) (A6 7 (A3 (l.length:Nat)) (A6 8 (A3 (x:Nat)) (fun _=>.any)))),Hp,[],[],none⟩) (fun x=>x≤l.length∧orI l=orI (l.drop x)) (fun x=>l.length-x) (0) ⟨Aq _,rfl⟩ (Bl (by simp)) rfl (fun x hx=>?_)
 refine Z2 ?_;refine A2 [3,6,7,8,9] ?_
 refine Co (fun ht9=>?_) (fun ht9=>?_)
 ·have hlt:x<l.length:=by simpa using ht9
  have hst:=ACy hlt hx.2
  refine Z77 ?_
  refine A5 (h:=Ah (x) (A3 l[x]) (fun _=>B7 hlt)) (hr:=?_)
  refine Z0 ?_;refine A2 [3,5,6,7,8] ?_;refine Z15 ?_;refine A2 [3,5,6,7,8,14] ?_
  refine A4 (fun ht14=>?_) (fun ht14=>?_)
  ·have hm:orI l=l[x]:=by rw [hst,if_pos ht14]
   refine Z1 ?_;refine Z4 ?_;exact X6
  have hn:orI l=orI (l.drop (x+1)):=by rw [hst,if_neg (by rw [ht14];simp)]
  refine Z68 ?_;refine A2 [3,6,7,8] ?_;exact AL3
 have hxe:l.length≤x:=by simpa using ht9
 have hm:orI l=0:=by rw [hx.2,mw hxe];rfl
 refine Z27 ?_;refine Z1 ?_;exact ALm

theorem AQw (a b:Val) (Hp:List AObj):AFun Tryz.prog 285 [Bn a,Bn b] Hp (A3 (kz a b)):=by
 refine Ae [.tmp 4] [0,1] Tryz.func285 Tryz.ntmps285 (fun d=>?_)
 refine Z15 ?_;refine Jb ?_;refine Z31 ?_;refine A9 Tryz.call93 (c93 a _) ?_;refine Qf ?_;refine C1 Tryz.call93 (fun hB=>c93 b _) ?_;refine Z53 ?_;refine A2 [2,3,12] ?_
 refine A4 (fun ht12=>?_) (fun ht12=>?_)
 ·have hm:kz a b=0:=if_pos ht12
  exact j8
 have hm:kz a b=orI [Ob a.kind b.kind,Ob a.n b.n,Lib.compareBytes a.s b.s]:=if_neg (by rw [ht12];simp)
 refine Z3 ?_;refine Ea [0,1,0,4,15,0,32,0,128,511,0,1024,0,4096,16383,32767,65535,131071] 14 Ak (by kernel_rfl) ?_;refine W3 ?_;refine Dx Tryz.call305 (AQt _ _ _) ?_;refine W3 ?_;refine Dx Tryz.call306 (AQu _ _ _) ?_;refine Z8 ?_;refine Z90 ?_;refine A9 Tryz.call307 (AQp _ _ _) ?_;refine Sd ?_;refine A9 Tryz.call304 (AQv [Ob a.kind b.kind,Ob a.n b.n,Lib.compareBytes a.s b.s] (by simp) _) ?_;refine A5 ?_;refine Z13 ?_;exact vq

theorem AQx (t:Str) (a b:Int) (ha : -9223372036854775808≤a∧a≤9223372036854775807) (Hp:List AObj):AFun Tryz.prog 287 [Ac t,A3 a,A3 b] Hp (Ur (I3 (Jg t a b))):=by
 refine Ae [.cell 6 24,.tmp 7] [0,1,2] Tryz.func287 Tryz.ntmps287 (fun d=>?_)
 refine jd ?_;refine A2 [0,1,2,6] ?_;refine Z31 ?_;refine A2 [1,2,6,8] ?_;refine W0 ?_;refine A2 [1,2,6,8,9] ?_
 refine A4 (fun ht9=>?_) (fun ht9=>?_)
 ·refine Z1 ?_;refine A9 Tryz.call308 (AQm _ _ _) ?_;exact AEl
 refine Z1 ?_;refine A2 [1,2,6,8,19] ?_
 refine A4 (fun ht19=>?_) (fun ht19=>?_)
 ·refine Z1 ?_;refine A9 Tryz.call288 (ANj _ _ _) ?_;exact AEl
 refine Z1 ?_;refine A2 [1,2,6,8,29] ?_
 refine A4 (fun ht29=>?_) (fun ht29=>?_)
 ·refine Z1 ?_;refine A9 Tryz.call309 (AQq _ _ _) ?_;exact AEl
 refine Z1 ?_;refine A2 [1,2,6,39] ?_
 refine A4 (fun ht39=>?_) (fun ht39=>?_)
 ·refine Z1 ?_;refine A9 Tryz.call310 (AQr _ _ _) ?_;exact AEl
 refine Z20 ?_;refine Z1 ?_;refine A9 Tryz.call311 (AQs _ _ ha _) ?_;refine AEb ?_;refine Z79 ?_;exact AMe

theorem AQy (a b:Val) (fa:Fine a) (fb:Fine b) (Hp:List AObj):AFun Tryz.prog 286 [.slice false 3 [Bn a,Bn b]] Hp (Ur (Pe a b)):=by
 refine Ae [.cell 2 24,.tmp 3] [0] Tryz.func286 Tryz.ntmps286 (fun d=>?_)
 refine jd ?_;refine A2 [0,2] ?_;refine Qg ?_;refine ey jU jS jZ ?_;refine A9 Tryz.call262 (ACw [a,b] [2,2] (by simp) (by simp) _) ?_;refine Z0 ?_;refine A2 [0,2,4] ?_
 refine A4 (fun ht4=>?_) (fun ht4=>?_)
 ·have hm:Pe a b=Dd 10:=if_pos ht4
  refine Zr ?_;refine X7 ?_;exact Z19
 have hla:=fa.len
 have hlb:=fb.len
 refine Ea [0,1,3,7,15,0,32,96,224,480,1023,2047,4095] 10 Ak (by kernel_rfl) ?_;refine As ?_
 refine As (h:=Ah (0) (Bn a) (fun _=>show ([Bn a,Bn b]:List AV)[0]? = some (Bn a) from rfl)) (hr:=?_)
 refine W3 ?_
 refine As (h:=Ah (1) (Bn b) (fun _=>show ([Bn a,Bn b]:List AV)[1]? = some (Bn b) from rfl)) (hr:=?_)
 refine Z33 ?_;refine Gq ?_
 refine A5 (h:=Tt (h1:=fun _=>by omega) (h2:=fun _=>by omega)) (hr:=?_)
 refine Z0 ?_;refine A2 [0,2,12] ?_
 refine A4 (fun ht12=>?_) (fun ht12=>?_)
 ·have hm:Pe a b=Dd 3:=by unfold Pe;rw [if_neg (by rw [ht4];simp),if_pos ht12]
  refine Zr ?_;refine X7 ?_;exact Z19
 have hm:Pe a b=(af (a.s++b.s),0):=by unfold Pe;rw [if_neg (by rw [ht4];simp),if_neg (by rw [ht12];simp)]
 refine Z20 ?_;refine Ea [0,1,3,7,0,16,48,112,255,511,1023,2047] 8 Ak (by kernel_rfl) ?_;refine As ?_
 refine As (h:=Ah (0) (Bn a) (fun _=>show ([Bn a,Bn b]:List AV)[0]? = some (Bn a) from rfl)) (hr:=?_)
 refine Z33 ?_
 refine As (h:=Ah (1) (Bn b) (fun _=>show ([Bn a,Bn b]:List AV)[1]? = some (Bn b) from rfl)) (hr:=?_)
 refine Z90 ?_
 refine A5 (h:=Q.sadd (hl:=fun _=>by omega)) (hr:=?_)
 refine A9 Tryz.call275 (w4 _ _) ?_;refine X7 ?_;exact AAk

theorem AQz (t:Str) (a b:Val) (fa:Fine a) (fb:Fine b) (Hp:List AObj):AFun Tryz.prog 261 [Ac t,.slice false 3 [Bn a,Bn b]] Hp (Ur (Mv t a b)):=by
 refine Ae [.cell 4 24,.tmp 5] [0,1] Tryz.func261 Tryz.ntmps261 (fun d=>?_)
 refine jd ?_;refine A2 [0,1,4] ?_;refine K9 ?_;refine Ea [0,0,2,6,0,16,48,126,255,511,1023,1023,2047,8191] 13 Ak (by kernel_rfl) ?_;refine Z8 ?_
 refine As (h:=Ah (0) (Bn a) (fun _=>show ([Bn a,Bn b]:List AV)[0]? = some (Bn a) from rfl)) (hr:=?_)
 refine Z8 ?_
 refine As (h:=Ah (1) (Bn b) (fun _=>show ([Bn a,Bn b]:List AV)[1]? = some (Bn b) from rfl)) (hr:=?_)
 refine As ?_;refine Dx Tryz.call285 (AQw _ _ _) ?_;refine Dx Tryz.call284 (AQl _ _ _) ?_;refine Z8 ?_;refine Z90 ?_;refine A5 ?_;refine A2 [0,1,4,6,7] ?_;refine Z2 ?_;refine A2 [0,1,4,6,20] ?_
 refine A4 (fun ht20=>?_) (fun ht20=>?_)
 ·refine K9 ?_;refine Ea [0,1,3,7,0,16,48,112,255] 8 Ak (by kernel_rfl) ?_;refine As ?_
  refine As (h:=Ah (0) (Bn a) (fun _=>show ([Bn a,Bn b]:List AV)[0]? = some (Bn a) from rfl)) (hr:=?_)
  refine Z33 ?_
  refine As (h:=Ah (1) (Bn b) (fun _=>show ([Bn a,Bn b]:List AV)[1]? = some (Bn b) from rfl)) (hr:=?_)
  refine Z90 ?_;refine A5 ?_;refine A2 [4,6,29] ?_
  refine A4 (fun ht29=>?_) (fun ht29=>?_)
  ·have hm:Mv t a b=Dd 10:=by unfold Mv;rw [if_pos ht20,if_pos ht29]
   refine Zr ?_;refine Z45 ?_;refine Ck ?_;exact Z25
  have hm:Mv t a b=(J4 (I7 t (kz a b)).1,0):=by unfold Mv;rw [if_pos ht20,if_neg (by rw [ht29];simp)]
  refine Qj ?_;refine A9 Tryz.call178 (g9 _ _) ?_;exact vd
 refine ji ?_;refine A2 [0,1,4,36] ?_
 refine A4 (fun ht36=>?_) (fun ht36=>?_)
 ·have hm:Mv t a b=Pe a b:=by unfold Mv;rw [if_neg (by rw [ht20];simp),if_pos ht36]
  refine Z2 ?_;refine A9 Tryz.call286 (AQy a b fa fb _) ?_;refine Z0 ?_;exact vd
 refine Qh ?_;refine ey jU jS jZ ?_;refine A9 Tryz.call262 (ACw [a,b] [1,1] (by simp) (by simp) _) ?_;refine A5 ?_;refine A2 [0,1,4,44] ?_
 refine A4 (fun ht44=>?_) (fun ht44=>?_)
 ·have hm:Mv t a b=Dd 10:=by unfold Mv;rw [if_neg (by rw [ht20];simp),if_neg (by rw [ht36];simp),if_pos ht44]
  refine Zr ?_;exact vd
 have hm:Mv t a b=I3 (Jg t a.n b.n):=by unfold Mv;rw [if_neg (by rw [ht20];simp),if_neg (by rw [ht36];simp),if_neg (by rw [ht44];simp)]
 refine Z3 ?_;refine Ea [0,0,2,6,14,0,32,96,224,511,1023,1023,4095,8191] 12 Ak (by kernel_rfl) ?_;refine Z8 ?_
 refine As (h:=Ah (0) (Bn a) (fun _=>show ([Bn a,Bn b]:List AV)[0]? = some (Bn a) from rfl)) (hr:=?_)
 refine Z33 ?_
 refine As (h:=Ah (1) (Bn b) (fun _=>show ([Bn a,Bn b]:List AV)[1]? = some (Bn b) from rfl)) (hr:=?_)
 refine Z8 ?_;refine Dx Tryz.call287 (AQx _ _ _ ⟨fa.lo,fa.hi⟩ _) ?_;refine Z90 ?_;exact Z54

theorem AJv (s:Str) (n:Int):∃k:Nat,(if (0:Int)<(if (s.length:Int)<n then (s.length:Int) else n) then (if (s.length:Int)<n then (s.length:Int) else n) else 0)=(k:Int)∧k≤s.length∧k=(max 0 (min n s.length)).toNat:=by
 refine ⟨(max 0 (min n s.length)).toNat,?_,?_,rfl⟩<;>repeat' split
 all_goals omega
theorem AR0 (t s:Str) (n:Int) (hs:s.length≤1048576) (Hp:List AObj):AFun Tryz.prog 266 [Ac t,Ac s,A3 n] Hp (Bn (Pg t s n)):=by
 refine Ae [.cell 6 24] [0,1,2] Tryz.func266 Tryz.ntmps266 (fun d=>?_)
 refine AEd ?_;refine Z15 ?_;refine R.minI ?_;refine R.maxI ?_
 obtain ⟨k,hk,hks,hke⟩:=AJv s n
 simp only [hk]
 refine A5 ?_;refine A2 [0,1,6,7] ?_;refine Z7 ?_;refine A2 [1,6,7,14] ?_
 refine A4 (fun ht14=>?_) (fun ht14=>?_)
 ·have hm:Pg t s n=af (s.take k):=by unfold Pg;rw [if_pos ht14,←hke]
  refine Z1 ?_
  refine A5 (h:=L9 k (fun _=>Aq _) (fun _=>hks)) (hr:=?_)
  refine A9 Tryz.call275 (w4 _ _) ?_;refine Gs ?_;refine ve ?_;exact AMf
 have hm:Pg t s n=af (s.drop (s.length-k)):=by unfold Pg;rw [if_neg (by rw [ht14];simp),←hke]
 refine jg ?_
 refine A5 (h:=Q.sub64 (h1:=fun _=>by omega) (h2:=fun _=>by omega)) (hr:=?_)
 refine A5 (h:=Q.scutL (s.length-k) (fun _=>show s.length-k≤s.length by omega) (fun _=>Aj _)) (hr:=?_)
 refine A9 Tryz.call275 (w4 _ _) ?_;refine Gs ?_;refine Z76 ?_;exact AMf

theorem AR1 (t:Str) (v:Val) (h:Fine v) (Hp:List AObj):AFun Tryz.prog 265 [Ac t,Bn v] Hp (Ur (J7 t v)):=by
 have hlen:=h.len
 refine Ae [.cell 4 24,.tmp 5] [0,1] Tryz.func265 Tryz.ntmps265 (fun d=>?_)
 refine Z2 ?_;refine Z46 ?_;refine A2 [0,3,4] ?_;refine je ?_;refine X8 ?_;refine A2 [0,3,4,6] ?_
 refine A4 (fun ht6=>?_) (fun ht6=>?_)
 ·have hm:J7 t v=(af (Lib.itoa v.n),0):=if_pos ht6
  refine Z1 ?_;refine A9 Tryz.call289 (AMu _ h.lo h.hi _) ?_;refine A9 Tryz.call275 (w4 _ _) ?_;exact Z95
 refine Z15 ?_;refine X8 ?_;refine A2 [0,3,4,18] ?_
 refine A4 (fun ht18=>?_) (fun ht18=>?_)
 ·have hm:J7 t v=(⟨1,v.s.length,[]⟩,0):=by unfold J7;rw [if_neg (by rw [ht6];simp),if_pos ht18]
  refine Z15 ?_;refine A9 Tryz.call252 (AIs _ _) ?_;exact Z95
 refine Z15 ?_;refine X8 ?_;refine A2 [3,4,30] ?_
 refine A4 (fun ht30=>?_) (fun ht30=>?_)
 ·have hm:J7 t v=I3 (Cq v.s):=by unfold J7;rw [if_neg (by rw [ht6];simp),if_neg (by rw [ht18];simp),if_pos ht30]
  refine Z1 ?_;refine A9 Tryz.call251 (AMt v.s (by omega) _) ?_;refine AEb ?_;exact Z95
 have hm:J7 t v=Dd 10:=by unfold J7;rw [if_neg (by rw [ht6];simp),if_neg (by rw [ht18];simp),if_neg (by rw [ht30];simp)]
 refine Z20 ?_;refine Zr ?_;exact Z54

theorem AG9 {vs:List Val} (h:0<vs.length):vs.getD 0 noV=vs[0]:=by rw [Cc,Ab h];rfl
/-- As many values as a node asks for. -/
structure ArgsOk (o:Int) (vs:List Val):Prop where
 two:o=5→∃a b,vs=[a,b]
 one:o=3∨o=4→vs.length=1
 call:o=6→vs.length=1∨∃a b,vs=[a,b]
 fine:∀v∈vs,Fine v
theorem AR2 (e:Expr) (vs:List Val) (h:ArgsOk e.op vs) (Hp:List AObj):AFun Tryz.prog 241 [A8 e,F4 vs] Hp (Ur (B1 e.op e.text vs)):=by
 refine Ae [.cell 4 24,.tmp 5] [0,1] Tryz.func241 Tryz.ntmps241 (fun d=>?_)
 refine Z2 ?_;refine Z46 ?_;refine A2 [1,2,4] ?_;refine Z16 ?_;refine Z23 ?_;refine A2 [1,2,4,6] ?_
 refine A4 (fun ht6=>?_) (fun ht6=>?_)
 ·obtain ⟨a,b,rfl⟩:=h.two (by simpa using ht6)
  have hm:B1 e.op e.text [a,b]=Mv e.text a b:=if_pos ht6
  refine Z15 ?_;refine A9 Tryz.call261 (AQz e.text a b (h.fine a (by simp)) (h.fine b (by simp)) _) ?_;refine Z0 ?_;exact Z95
 refine vl ?_;refine G.buildSl jU jS jZ ?_
 refine C1 Tryz.call262 (C:=((e.op==3)==true)) (fun hB=>ACw vs [1] (by have:=h.one (.inl (by simpa using hB));simp [this]) (by simp) _) ?_
 refine Z0 ?_;refine A2 [1,2,4,16] ?_
 refine A4 (fun ht16=>?_) (fun ht16=>?_)
 ·have hm0:((e.op==3)&&Dk vs [1])=true:=ht16
  have hop:e.op=3:=by simp only [Ao,beq_iff_eq] at hm0;exact hm0.1
  have hln:=h.one (.inl hop)
  have hg0:(vs.map Bn)[0]? = some (Bn (vs.getD 0 noV)):=by rw [AG9 (by omega)];exact B7 (by omega)
  have hm:B1 e.op e.text vs=I3 (No 0 (vs.getD 0 noV).n):=by unfold B1;rw [if_neg (by rw [ht6];simp),if_pos ht16]
  refine Z2 ?_
  refine A5 (h:=Ah (0) (Bn (vs.getD 0 noV)) (fun _=>hg0)) (hr:=?_)
  refine Z0 ?_;refine A9 Tryz.call264 (AQn _ _) ?_;refine AEb ?_;exact Z95
 refine vl ?_;refine G.buildSl jU jS jZ ?_
 refine C1 Tryz.call262 (C:=((e.op==4)==true)) (fun hB=>ACw vs [3] (by have:=h.one (.inr (by simpa using hB));simp [this]) (by simp) _) ?_
 refine Z0 ?_;refine A2 [1,2,4,35] ?_
 refine A4 (fun ht35=>?_) (fun ht35=>?_)
 ·have hm0:((e.op==4)&&Dk vs [3])=true:=ht35
  have hop:e.op=4:=by simp only [Ao,beq_iff_eq] at hm0;exact hm0.1
  have hln:=h.one (.inr hop)
  have hg0:(vs.map Bn)[0]? = some (Bn (vs.getD 0 noV)):=by rw [AG9 (by omega)];exact B7 (by omega)
  have hm:B1 e.op e.text vs=(J4 ((vs.getD 0 noV).n==0),0):=by unfold B1;rw [if_neg (by rw [ht6];simp),if_neg (by rw [ht16];simp),if_pos ht35]
  refine Z2 ?_
  refine A5 (h:=Ah (0) (Bn (vs.getD 0 noV)) (fun _=>hg0)) (hr:=?_)
  refine Z12 ?_;refine A9 Tryz.call178 (g9 _ _) ?_;exact Z95
 refine Z23 ?_;refine A2 [1,2,4,50] ?_
 refine A4 (fun ht50=>?_) (fun ht50=>?_)
 ·have hm:B1 e.op e.text vs=Dd 10:=by unfold B1;rw [if_neg (by rw [ht6];simp),if_neg (by rw [ht16];simp),if_neg (by rw [ht35];simp),if_pos ht50]
  refine Zr ?_;exact Z95
 have hop:e.op=6:=by simpa using ht50
 have hcl:=h.call hop
 refine Z23 ?_;refine A2 [1,2,4,57] ?_
 refine A4 (fun ht57=>?_) (fun ht57=>?_)
 ·rw [An] at ht57
  have hln:vs.length=1:=by have:=ht57;simp only [beq_iff_eq] at this;omega
  have hg0:(vs.map Bn)[0]? = some (Bn (vs.getD 0 noV)):=by rw [AG9 (by omega)];exact B7 (by omega)
  have hf0:Fine (vs.getD 0 noV):=by rw [AG9 (by omega)];exact h.fine _ (Bf _)
  have hm:B1 e.op e.text vs=J7 e.text (vs.getD 0 noV):=by unfold B1;rw [if_neg (by rw [ht6];simp),if_neg (by rw [ht16];simp),if_neg (by rw [ht35];simp),if_neg (by rw [ht50];simp),if_pos ht57]
  refine Ea [0,1,0,4,12,31,63,63,255,511] 8 Ak (by kernel_rfl) ?_;refine Z33 ?_
  refine As (h:=Ah (0) (Bn (vs.getD 0 noV)) (fun _=>hg0)) (hr:=?_)
  refine As ?_;refine Dx Tryz.call265 (AR1 _ _ hf0 _) ?_;refine Z90 ?_;exact Z95
 rw [An] at ht57
 obtain ⟨a,b,rfl⟩:∃a b,vs=[a,b]:=by
  rcases hcl with h1|h1
  ·exfalso
   have:=ht57
   rw [h1] at this
   simp at this
  exact h1
 refine Z2 ?_;refine ey jU jS jZ ?_;refine A9 Tryz.call262 (ACw [a,b] [2,1] (by simp) (by simp) _) ?_;refine Z0 ?_;refine A2 [1,2,4,69] ?_
 refine A4 (fun ht69=>?_) (fun ht69=>?_)
 ·have hm:B1 e.op e.text [a,b]=Dd 10:=by unfold B1;rw [if_neg (by rw [ht6];simp),if_neg (by rw [ht16];simp),if_neg (by rw [ht35];simp),if_neg (by rw [ht50];simp),if_neg (by rw [ht57];simp),if_pos ht69]
  refine Zr ?_;exact Z95
 have hm:B1 e.op e.text [a,b]=(Pg e.text a.s b.n,0):=by unfold B1;rw [if_neg (by rw [ht6];simp),if_neg (by rw [ht16];simp),if_neg (by rw [ht35];simp),if_neg (by rw [ht50];simp),if_neg (by rw [ht57];simp),if_neg (by rw [ht69];simp)];rfl
 refine Z20 ?_;refine Ea [0,1,0,4,12,28,0,64,192,448,1023,2047,4095] 10 Ak (by kernel_rfl) ?_;refine Z33 ?_
 refine As (h:=Ah (0) (Bn a) (fun _=>show ([Bn a,Bn b]:List AV)[0]? = some (Bn a) from rfl)) (hr:=?_)
 refine Z33 ?_
 refine As (h:=Ah (1) (Bn b) (fun _=>show ([Bn a,Bn b]:List AV)[1]? = some (Bn b) from rfl)) (hr:=?_)
 refine Z90 ?_
 refine A9 Tryz.call266 (AR0 e.text a.s b.n (by have:=(h.fine a (by simp)).len;omega) _) ?_
 exact Z54

theorem Qc (a b:Val):((a.kind==b.kind&&a.n==b.n)&&a.s==b.s)=(a==b):=by
 obtain ⟨k,n,s⟩:=a
 obtain ⟨k',n',s'⟩:=b
 by_cases h:(⟨k,n,s⟩:Val)=⟨k',n',s'⟩
 ·injection h with h1 h2 h3
  subst h1;subst h2;subst h3
  simp
 have:((⟨k,n,s⟩:Val)==⟨k',n',s'⟩)=false:=by simpa using h
 rw [this]
 simp only [yx,beq_eq_false_iff_ne]
 by_cases h1:k=k'
 ·by_cases h2:n=n'
  ·right
   rintro rfl
   exact h (by rw [h1,h2])
  exact .inl (.inr h2)
 exact .inl (.inl h1)
/-- What eval answers for a tree, over any heap. -/
abbrev Kv (c:List Col) (l:List Val) (e:Expr) (r:Rs):Prop:=∀Hp,AFun Tryz.prog 172 [Yw c l,A8 e] Hp (Ur r)
theorem ANn (c:List Col) (l:List Val) (x:Expr) (r:Rs) (h:Kv c l x r) (Hp:List AObj):AFun Tryz.prog 240 [Yw c l,A8 x] Hp (Ur (B9 r)):=by
 refine Ae [.cell 4 24,.tmp 5] [0,1] Tryz.func240 Tryz.ntmps240 (fun d=>?_)
 refine Z1 ?_;refine AEn ?_;refine Z1 ?_;refine A9 Tryz.call172 (h _) ?_;refine Ra ?_;refine A2 [4,6,7] ?_;refine Z30 ?_;refine Z73 ?_;refine Z36 ?_;refine Z53 ?_;refine A2 [4,6,7,25] ?_
 refine A4 (fun ht25=>?_) (fun ht25=>?_)
 ·have hm:B9 r=Dd 10:=if_pos ht25
  refine Zr ?_;exact vd
 have hm:B9 r=r:=if_neg (by rw [ht25];simp)
 refine Ni ?_;exact Z54

theorem ANo (c:List Col) (l:List Val) (x k0 k1:Expr) (s:Val) (ra rb:Rs) (h0:(x.kids.map A8)[0]? = some (A8 k0)) (h1:(x.kids.map A8)[1]? = some (A8 k1)) (ha:Kv c l k0 ra) (hb:Kv c l k1 rb) (Hp:List AObj):AFun Tryz.prog 216 [Yw c l,A8 x,Bn s] Hp (Ur (Is s ra rb)):=by
 refine Ae [.cell 6 24,.tmp 7] [0,1,2] Tryz.func216 Tryz.ntmps216 (fun d=>?_)
 refine Z15 ?_;refine Z46 ?_;refine A2 [3,4,5,6] ?_;refine Fj [0,0,2,6,14,31,63,127,127,0,767,2047] [9,10] [.q 9 [] [],.s [8] (some 0) [] [1],.s [] (some 1) [0] []] (fun _=>Hp) (fun B=>if B 0=true then [.cells 24 [A3 0,A3 0,Ac []],(if B 1=true then .cells 24 [A3 (B9 ra).1.kind,A3 (B9 ra).1.n,Ac (B9 ra).1.s] else .cells 24 [A3 0,A3 0,Ac []]:AObj)] else [.cells 24 [A3 0,A3 0,Ac []]]) Ak (by kernel_rfl) rfl rfl (fun _=>rfl) ?_
 apply Y.q
 ·intro B hT hF
  refine Z33 ?_
  refine As (h:=Ah (0) (A8 k0) (fun _=>h0)) (hr:=?_)
  refine As ?_;exact ALl
 case hTF=>decide
 refine Z66 ?_;refine AKo ?_;refine A2 [3,4,5,6,8,9] ?_;refine Z30 ?_;refine Z6 ?_
 refine Cp (h:=R6 g0 (fun w=>Ko (B9 ra).1.kind (B9 ra).1.n s.kind s.n (B9 ra).1.s s.s w)) (hr:=?_)
 refine A5 ?_;refine A2 [3,4,5,6,8,9,26] ?_
 refine A4 (fun ht26=>?_) (fun ht26=>?_)
 ·rw [Qc] at ht26
  have hm:Is s ra rb=B9 ra:=if_pos ht26
  refine Z1 ?_;refine Z79 ?_;exact Z25
 rw [Qc] at ht26
 refine Z3 ?_;refine Fj [0,0,2,6,14,31,63,127,127,0,767,2047] [9,10] [.q 9 [] [],.s [10] (some 0) [] [1],.s [] (some 1) [0] []] (fun _=>Hp) (fun B=>if B 0=true then [.cells 24 [A3 0,A3 0,Ac []],.cells 24 [A3 (B9 ra).1.kind,A3 (B9 ra).1.n,Ac (B9 ra).1.s],(if B 1=true then .cells 24 [A3 (B9 rb).1.kind,A3 (B9 rb).1.n,Ac (B9 rb).1.s] else .cells 24 [A3 0,A3 0,Ac []]:AObj)] else [.cells 24 [A3 0,A3 0,Ac []],.cells 24 [A3 (B9 ra).1.kind,A3 (B9 ra).1.n,Ac (B9 ra).1.s]]) Ak (by kernel_rfl) rfl rfl (fun _=>rfl) ?_
 apply Y.q
 ·intro B hT hF
  refine Z33 ?_
  refine As (h:=Ah (1) (A8 k1) (fun _=>h1)) (hr:=?_)
  refine As ?_;refine Dx Tryz.call240 (ANn c l k1 rb hb _) ?_;exact AE8
 case hTF=>decide
 refine Y.alloc (zs:=[A3 0,A3 0,Ac []]) (n:=2) (u:=Hp.length) Tryz.zeroValue24 (fun B hT hF hB=>⟨rfl,by simp [hB],by simp [upd,hB,hF 1 (by simp)],rfl⟩) ?_;refine Y.storeOwnT (u:=Hp.length) (n:=2) (t':=24) (cs:=[A3 0,A3 0,Ac []]) (cs':=[A3 (B9 rb).1.kind,A3 (B9 rb).1.n,Ac (B9 rb).1.s]) Tryz.sizeOf24 (fun B hT hF hB=>⟨rfl,by simp [hT 0 (by simp),hB],by simp [upd,hT 0 (by simp),hB],rfl⟩) ?_;refine Er (tn:=[9,10]) (O:=[.cells 24 [A3 0,A3 0,Ac []],.cells 24 [A3 (B9 ra).1.kind,A3 (B9 ra).1.n,Ac (B9 ra).1.s],.cells 24 [A3 (B9 rb).1.kind,A3 (B9 rb).1.n,Ac (B9 rb).1.s]]) ?_;refine A5 ?_;refine A2 [5,6,8,9,10] ?_;refine Z30 ?_;refine Z6 ?_
 refine Cp (h:=R6 g0 (fun w=>Ko (B9 rb).1.kind (B9 rb).1.n s.kind s.n (B9 rb).1.s s.s w)) (hr:=?_)
 refine Z36 ?_;refine Z53 ?_;refine A2 [6,8,9,10,49] ?_
 refine A4 (fun ht49=>?_) (fun ht49=>?_)
 ·rw [Qc] at ht49
  have hm:Is s ra rb=B9 rb:=by unfold Is;rw [if_neg (by rw [ht26];simp),if_pos ht49]
  refine Z1 ?_;refine Z79 ?_;exact Z25
 rw [Qc] at ht49
 have hm:Is s ra rb=((B9 ra).1,0):=by unfold Is;rw [if_neg (by rw [ht26];simp),if_neg (by rw [ht49];simp)]
 refine Qj ?_;exact AL1

theorem AR3 (c:List Col) (l:List Val) (x k0 k1 k2:Expr) (ra rb d2:Rs) (h0:(x.kids.map A8)[0]? = some (A8 k0)) (h1:(x.text==C8)=false→(x.kids.map A8)[1]? = some (A8 k1)) (h2:(x.text==ifW)=true→(x.kids.map A8)[2]? = some (A8 k2)) (ha:Kv c l k0 ra) (hb:(x.text==C8)=false→Kv c l k1 rb) (hd:(x.text==ifW)=true→Kv c l k2 d2) (Hp:List AObj):AFun Tryz.prog 217 [Yw c l,A8 x] Hp (Ur (Fa x.text ra rb d2)):=by
 refine Ae [.cell 4 24,.tmp 5] [0,1] Tryz.func217 Tryz.ntmps217 (fun d=>?_)
 refine Z1 ?_;refine AEn ?_;refine Z30 ?_;refine A2 [2,3,4,12] ?_
 refine A4 (fun ht12=>?_) (fun ht12=>?_)
 ·have hni:(x.text==C8)=false:=by
   have e:x.text=ifW:=by simpa [ifW] using ht12
   rw [e];rfl
  have hc:Fa x.text ra rb d2=(if (B9 ra).2 != 0 then Dd (B9 ra).2 else if (B9 ra).1==J4 true then rb else d2):=if_pos ht12
  refine Fj [0,0,2,6,14,31,63,127,127,0,767,2047] [9,10] [.q 9 [] [],.s [6] (some 0) [] [1],.s [] (some 1) [0] []] (fun _=>Hp) (fun B=>if B 0=true then [.cells 24 [A3 0,A3 0,Ac []],(if B 1=true then .cells 24 [A3 (B9 ra).1.kind,A3 (B9 ra).1.n,Ac (B9 ra).1.s] else .cells 24 [A3 0,A3 0,Ac []]:AObj)] else [.cells 24 [A3 0,A3 0,Ac []]]) Ak (by kernel_rfl) rfl rfl (fun _=>rfl) ?_
  apply Y.q
  ·intro B hT hF
   refine Z33 ?_
   refine As (h:=Ah (0) (A8 k0) (fun _=>h0)) (hr:=?_)
   refine As ?_;exact ALl
  case hTF=>decide
  refine Z66 ?_;refine AKo ?_;refine A2 [2,3,4,6,7] ?_;refine je ?_;refine A2 [2,3,4,6,7,22] ?_
  refine A4 (fun ht22=>?_) (fun ht22=>?_)
  ·have hm:Fa x.text ra rb d2=Dd (B9 ra).2:=by rw [hc,if_pos ht22]
   refine Z2 ?_;refine Z43 ?_;refine Z45 ?_;refine Z5 ?_;exact Z25
  refine Ea [0,0,3,7] 2 Ak (by kernel_rfl) ?_;refine As ?_;refine Dx Tryz.call178 (g9 true _) ?_;refine Gq ?_
  refine A5 (h:=R6 g0 (fun w=>Ko (B9 ra).1.kind (B9 ra).1.n 3 1 (B9 ra).1.s [] w)) (hr:=?_)
  refine A5 ?_;refine A2 [2,3,4,29] ?_
  refine A4 (fun ht29=>?_) (fun ht29=>?_)
  ·rw [Qc (B9 ra).1 ⟨3,1,[]⟩] at ht29
   have ht29b:((B9 ra).1==J4 true)=true:=ht29
   have hm:Fa x.text ra rb d2=rb:=by rw [hc,if_neg (by rw [ht22];simp),if_pos ht29b]
   refine AI4 ?_
   refine As (h:=Ah (1) (A8 k1) (fun _=>h1 hni)) (hr:=?_)
   refine As ?_;refine Dx Tryz.call172 (hb hni _) ?_;refine Z90 ?_;refine Z45 ?_;refine Z5 ?_;exact Z25
  rw [Qc (B9 ra).1 ⟨3,1,[]⟩] at ht29
  have hm:Fa x.text ra rb d2=d2:=by rw [hc,if_neg (by rw [ht22];simp),if_neg (by show ¬((B9 ra).1==⟨3,1,[]⟩)=true;rw [ht29];simp)]
  refine Z20 ?_;refine AI4 ?_
  refine As (h:=Ah (2) (A8 k2) (fun _=>h2 ht12)) (hr:=?_)
  refine As ?_;refine Dx Tryz.call172 (hd ht12 _) ?_;refine Z90 ?_;exact vd
 have hc:Fa x.text ra rb d2=(if ra.2 != 0 then Dd ra.2 else if x.text==C8 then (J4 (ra.1.kind==0),0) else if ra.1.kind != 0 then (ra.1,0) else rb):=if_neg (by show ¬(x.text==ifW)=true;rw [show (x.text==ifW)=false from ht12];simp)
 refine Z3 ?_;refine Fj [0,0,2,6,14,31,63,127,127,0,767,2047] [9,10] [.q 9 [] [],.s [8] (some 0) [] [1],.s [] (some 1) [0] []] (fun _=>Hp) (fun B=>if B 0=true then [.cells 24 [A3 0,A3 0,Ac []],(if B 1=true then .cells 24 [A3 ra.1.kind,A3 ra.1.n,Ac ra.1.s] else .cells 24 [A3 0,A3 0,Ac []]:AObj)] else [.cells 24 [A3 0,A3 0,Ac []]]) Ak (by kernel_rfl) rfl rfl (fun _=>rfl) ?_
 apply Y.q
 ·intro B hT hF
  refine Z33 ?_
  refine As (h:=Ah (0) (A8 k0) (fun _=>h0)) (hr:=?_)
  refine As ?_;refine Dx Tryz.call172 (ha _) ?_;exact AE8
 case hTF=>decide
 refine AMg ?_;refine Y.storeOwnT (u:=Hp.length) (n:=1) (t':=24) (cs:=[A3 0,A3 0,Ac []]) (cs':=[A3 ra.1.kind,A3 ra.1.n,Ac ra.1.s]) Tryz.sizeOf24 (fun B hT hF hB=>⟨rfl,by simp [hT 0 (by simp),hB],by simp [upd,hT 0 (by simp),hB],rfl⟩) ?_;refine Er (tn:=[9,10]) (O:=[.cells 24 [A3 0,A3 0,Ac []],.cells 24 [A3 ra.1.kind,A3 ra.1.n,Ac ra.1.s]]) ?_;refine A5 ?_;refine A2 [2,3,4,8,9] ?_;refine je ?_;refine A2 [2,3,4,8,9,58] ?_
 refine A4 (fun ht58=>?_) (fun ht58=>?_)
 ·have hm:Fa x.text ra rb d2=Dd ra.2:=by rw [hc,if_pos ht58]
  refine Z2 ?_;refine Z43 ?_;exact Z95
 refine Z23 ?_;refine A2 [2,3,4,8,65] ?_
 refine A4 (fun ht65=>?_) (fun ht65=>?_)
 ·have hm:Fa x.text ra rb d2=(J4 (ra.1.kind==0),0):=by rw [hc,if_neg (by rw [ht58];simp),if_pos (show (x.text==C8)=true from ht65)]
  refine Z15 ?_;refine A9 Tryz.call178 (g9 _ _) ?_;exact Z95
 refine Z23 ?_;refine A2 [2,3,4,8,73] ?_
 refine A4 (fun ht73=>?_) (fun ht73=>?_)
 ·have hm:Fa x.text ra rb d2=(ra.1,0):=by rw [hc,if_neg (by rw [ht58];simp),if_neg (by show ¬(x.text==C8)=true;rw [show (x.text==C8)=false from ht65];simp),if_pos ht73]
  refine Z2 ?_;exact Z95
 have hm:Fa x.text ra rb d2=rb:=by rw [hc,if_neg (by rw [ht58];simp),if_neg (by show ¬(x.text==C8)=true;rw [show (x.text==C8)=false from ht65];simp),if_neg (by rw [ht73];simp)]
 refine Z20 ?_;refine AI4 ?_
 refine As (h:=Ah (1) (A8 k1) (fun _=>h1 ht65)) (hr:=?_)
 refine As ?_;refine Dx Tryz.call172 (hb ht65 _) ?_;refine Z90 ?_;exact Z54

/-- The first fault of those that were asked. -/
structure AllAt (f:Expr→Rs) (k:List Expr) (x:Nat):Prop where
 le:x≤k.length
 ok:∀(j:Nat) (y:Expr),j<x→k[j]? = some y→((f y).2 != 0)=false
theorem AllAt.bad {f:Expr→Rs} {k:List Expr} {x:Nat} (h:AllAt f k x) (hx:x<k.length) (hb:((f k[x]).2 != 0)=true) (g:List Val→Rs):Mh g (k.map f)=Dd (f k[x]).2:=by
 unfold Mh
 have:(k.map f).find? (fun q=>q.2 != 0)=some ((k.map f)[x]'(by simpa using hx)):=g8 (by simpa using hx) (by simpa using hb) (fun j y hj hy=>by
  rw [C5,E7] at hy
  obtain ⟨z,hz,rfl⟩:=hy
  exact h.ok j z hj hz)
 rw [this]
 simp
theorem AllAt.all {f:Expr→Rs} {k:List Expr} {x:Nat} (h:AllAt f k x) (hx:k.length≤x) (g:List Val→Rs):Mh g (k.map f)=if (k.take x).any (fun y=>(f y).1.kind==0) then (noV,0) else g ((k.take x).map fun y=>(f y).1):=by
 unfold Mh
 have:(k.map f).find? (fun q=>q.2 != 0)=none:=U1 (fun j y hy=>by
  rw [C5,E7] at hy
  obtain ⟨z,hz,rfl⟩:=hy
  exact h.ok j z (by have:=(Ad.1 hz).1;omega) hz)
 rw [this,Ej hx]
 simp only [List.any_map,Jo]
 rfl
theorem AllAt.next {f:Expr→Rs} {k:List Expr} {x:Nat} (h:AllAt f k x) (hx:x<k.length) (hb:((f k[x]).2 != 0)=false):AllAt f k (x+1):=⟨hx,D3 hx h.ok hb⟩
theorem ACz (f:Expr→Bool) (k:List Expr) {x:Nat} (h:x<k.length):(k.take (x+1)).any f=((k.take x).any f || f k[x]):=by rw [Kl h,List.any_append];simp
theorem xl (f:Expr→Val) (l:List Expr) {x:Nat} (h:x<l.length):((l.take x).map f).map Bn++[Bn (f l[x])]=((l.take (x+1)).map f).map Bn:=by rw [Kl h,Bj,Bj];rfl
theorem lv {n k:Nat} {own:Bool} {l:List Val}:Low n (.slice own k (l.map Bn)):=low_slice.2 fun y hy=>by
 obtain ⟨z,_,rfl⟩:=C3.1 hy
 simp [or_imp,forall_and]
theorem AR4 (c:List Col) (l:List Val) (e:Expr) (hk:e.kids.length≤1048576) (hev:∀y∈e.kids,Kv c l y (Bw c l y)) (hargs:((∀y∈e.kids,(Bw c l y).2=0)→ArgsOk e.op (e.kids.map fun y=>(Bw c l y).1))) (Hp:List AObj):AFun Tryz.prog 218 [Yw c l,A8 e] Hp (Ur (Mh (B1 e.op e.text) (e.kids.map (Bw c l)))):=by
 refine Ae [.cell 4 24,.tmp 5] [0,1] Tryz.func218 Tryz.ntmps218 (fun d=>?_)
 refine Z1 ?_;refine AEn ?_;refine Z2 ?_;refine A2 [2,3,4,6] ?_;refine Ez ?_;refine P0 6 3 ?_;refine A5 ?_;refine A2 [2,3,4,6,7] ?_;refine Z88 ?_;refine A2 [2,3,4,6,7,13,14,15] ?_
 refine Bg (α:=Nat) (fun x=>⟨49,A6 2 (.ro [Ar c,F4 l]) (A6 3 (.ro (El e)) (A6 4 (.ptr (oid Hp.length 0) 0) (A6 6 (.slice true 3 (((e.kids.take x).map fun y=>(Bw c l y).1).map Bn)) (A6 7 (B0 ((e.kids.take x).any fun y=>(Bw c l y).1.kind==0)) (A6 13 (.slice false 6 (e.kids.map A8)) (A6 14 (A3 (e.kids.length:Nat)) (A6 15 (A3 (x:Nat)) (fun _=>.any)))))))),Hp,[.cells 24 [A3 0,A3 0,Ac []]],[],none⟩) (fun x=>AllAt (Bw c l) e.kids x) (fun x=>e.kids.length-x) (0) ⟨Aq _,fun j y h=>by omega⟩ (Bl (by simp)) rfl (fun x hx=>?_)
 refine Z2 ?_;refine A2 [2,3,4,6,7,13,14,15,16] ?_
 refine Co (fun ht16=>?_) (fun ht16=>?_)
 ·have hlt:x<e.kids.length:=by simpa using ht16
  refine Z77 ?_
  refine A5 (h:=Ah (x) (A8 e.kids[x]) (fun _=>B7 hlt)) (hr:=?_)
  refine Qe ?_;refine A2 [2,3,4,6,7,9,13,14,15] ?_;refine Z1 ?_;refine A9 Tryz.call172 (hev _ (Bf hlt) _) ?_;refine Ra ?_;refine A2 [2,3,4,6,7,10,11,13,14,15] ?_;refine Z7 ?_;refine A2 [2,3,4,6,7,10,11,13,14,15,26] ?_
  refine A4 (fun ht26=>?_) (fun ht26=>?_)
  ·have hm:=hx.bad hlt ht26 (B1 e.op e.text)
   refine Z2 ?_;refine Z43 ?_;refine Z45 ?_;refine Ck ?_;refine Z26 ?_;exact Z25
  refine Ni ?_;refine X8 ?_;refine A2 [2,3,4,6,7,10,13,14,15] ?_;refine fe ?_;refine Z71 ?_
  refine Ek jU Tryz.type24 ?_ ?_ ?_
  ·simp only [An,C0,B2,Bz,Tryz.t24];omega
  ·simp only [An,C0,B2,Bz,Tryz.t24];omega
  refine I0 ?_;refine A2 [2,3,4,6,7,13,14,15] ?_;refine R9 ?_;refine A2 [2,3,4,6,7,13,14,15] ?_;refine Bm (x+1) (hx.next hlt ht26) (by omega) ?_
  simp only [show Tryz.t24.size=3 from rfl,ACz _ _ hlt]
  have hvs:((e.kids.take x).map fun y=>(Bw c l y).1).map Bn++[.agg [.v (.int .i64 (Bw c l e.kids[x]).1.kind),.v (.int .i64 (Bw c l e.kids[x]).1.n),.v (sv (Bw c l e.kids[x]).1.s)]]=((e.kids.take (x+1)).map fun y=>(Bw c l y).1).map Bn:=xl _ _ hlt
  simp only [hvs]
  exact D0 (own:=[.cells 24 [A3 0,A3 0,Ac []]]) (fun _=>.refl _) (by repeat (first|exact Bc|refine Bb (by first|exact D5|exact lv|exact sr|(simp [or_imp,forall_and,oid]<;>omega)) ?_)) (by intro y hy;rw [Bo.1 hy];intro z hz;simp only [B3,E6,or_false] at hz;rcases hz with rfl|rfl|rfl<;>simp) (by simp)
 have hxe:e.kids.length≤x:=by simpa using ht16
 have ha:=hx.all hxe (B1 e.op e.text)
 have htk:e.kids.take x=e.kids:=Ej hxe
 have h00:∀y∈e.kids,(Bw c l y).2=0:=fun y hy=>by
  obtain ⟨j,hj⟩:=C6 hy
  have:=hx.ok j y (by have:=(Ad.1 hj).1;omega) hj
  simpa using this
 have hao:=hargs h00
 rw [←htk] at hao
 refine Z27 ?_;refine Z31 ?_;refine A2 [3,4,6,42] ?_
 refine A4 (fun ht42=>?_) (fun ht42=>?_)
 ·have hm:Mh (B1 e.op e.text) (e.kids.map (Bw c l))=(noV,0):=by rw [ha,if_pos ht42]
  refine AIe ?_;exact vd
 have hm:Mh (B1 e.op e.text) (e.kids.map (Bw c l))=B1 e.op e.text ((e.kids.take x).map fun y=>(Bw c l y).1):=by rw [ha,if_neg (by rw [ht42];simp)]
 refine Ni ?_;refine A9 Tryz.call241 (AR2 e _ hao _) ?_;refine Z0 ?_;exact Z54

theorem co {e:Expr} (h:Es e=true):(e.op=5→e.kids.length=2)∧(e.op=3∨e.op=4→e.kids.length=1)∧(e.op=6→Cf e.text=(e.kids.length:Int))∧(e.op=1∨e.op=2∨e.op=3∨e.op=4∨e.op=5∨e.op=6):=by
 cases Lg h with
 | val v hp h0=>simp [Nn,Expr.op]
 | name t ht=>simp [Cu,Expr.op]
 | neg a=>simp [Kq,Expr.op,Expr.kids]
 | no a=>simp [Kq,Expr.op,Expr.kids]
 | bin t a b ht=>simp [Lp,Expr.op,Expr.kids]
 | call t k ht=>simpa [Expr.op,Expr.kids,Expr.text] using ht
theorem Hq {k:List Expr} {i:Nat} (h:i<k.length):(k.map A8)[i]? = some (A8 (k.getD i Av))∧k.getD i Av∈k∧∀(f:Expr→Rs) (d:Rs),(k.map f).getD i d=f (k.getD i Av):=by
 have e:k.getD i Av=k[i]:=by rw [Cc,Ab h];rfl
 rw [e]
 refine ⟨by simp [h],Bf h,fun f d=>?_⟩
 rw [Cc,C5,Ab h]
 rfl
theorem gz {c:List Col} {l:List Val} {e:Expr} (h1:(e.op==1)=false) (h2:(e.op==2)=false) (h3:((e.op==5)&&(e.text==orW))=false) (h4:((e.op==5)&&(e.text==gt))=false) (h5:((e.op==6)&&(((e.text==ifW) || (e.text==Ul)) || (e.text==C8)))=false):Bw c l e=Mh (B1 e.op e.text) (e.kids.map (Bw c l)):=by
 rw [Bw,Mu]
 unfold K3
 rw [h1,h2,h3,h4,h5]
 rfl
theorem AGa {c:List Col} {l:List Val} (hf:∀v∈l,Fine v) {e:Expr} (hnd:Dq Es e=true) (hrg:Dq Ge e=true) (hv:Dq Mw e=true) (h5:((e.op==6)&&(((e.text==ifW) || (e.text==Ul)) || (e.text==C8)))=false):ArgsOk e.op (e.kids.map fun y=>(Bw c l y).1):=by
 rw [Ip,Ao] at hnd hrg hv
 obtain ⟨k5,k34,k6,_⟩:=co hnd.1
 refine ⟨fun h=>?_,fun h=>by rw [An];exact k34 h,fun h=>?_,fun v hv'=>?_⟩
 ·obtain ⟨a,b,e⟩:=Q9 (k5 h)
  rw [e]
  exact ⟨_,_,rfl⟩
 ·rw [An]
  rw [h] at h5
  simp only [beq_self_eq_true,Qz,E3,beq_eq_false_iff_ne] at h5
  rcases Nr (k6 h) with ⟨_,h⟩|⟨_,h⟩|⟨_,h⟩|⟨e,_⟩|⟨e,_⟩|⟨_,h⟩|⟨_,h⟩|⟨e,_⟩
  ·exact .inl h
  ·exact .inl h
  ·exact .inl h
  ·exact absurd e h5.2
  ·exact absurd e h5.1.2
  ·obtain ⟨a,b,e⟩:=Q9 h
   rw [e]
   exact .inr ⟨_,_,rfl⟩
  ·obtain ⟨a,b,e⟩:=Q9 h
   rw [e]
   exact .inr ⟨_,_,rfl⟩
  exact absurd e h5.1.1
 obtain ⟨y,hy,rfl⟩:=C3.1 hv'
 exact Un hf y ((Ff _ _).1 hv.2 y hy) ((Ff _ _).1 hrg.2 y hy)
theorem Vn (a b d:Rs):Fa C8 a b d=Fa C8 a (noV,0) (noV,0):=by
 unfold Fa
 rw [show (C8==ifW)=false from rfl,show (C8==C8)=true from rfl]
 rfl
theorem q9 {t:Str} (h:(t==ifW)=false) (a b d d':Rs):Fa t a b d=Fa t a b d':=by
 unfold Fa
 rw [h]
 rfl
theorem lw {t:Str} (h:(t==C8)=true) (a b b' d d':Rs):Fa t a b d=Fa t a b' d':=by
 have e:t=C8:=by simpa using h
 subst e
 rw [Vn,Vn a b' d']
theorem xm {t:Str} {k:List Expr} {f:Expr→Rs} {a:Rs} (h1:(t==C8)=false→1<k.length) (h2:(t==ifW)=true→2<k.length):Fa t a ((k.map f).getD 1 (noV,0)) ((k.map f).getD 2 (noV,0))=Fa t a (f (k.getD 1 Av)) (f (k.getD 2 Av)):=by
 cases hn:t==C8 with
 | true=>exact lw hn _ _ _ _ _
 | false =>
  rw [(Hq (h1 hn)).2.2]
  cases hi:t==ifW with
  | true=>rw [(Hq (h2 hi)).2.2]
  | false=>exact q9 hi _ _ _ _
theorem AR5 (c:List Col) (l:List Val) (hc:OkCols c) (hl:l.length=c.length) (hf:∀v∈l,Fine v):∀(n:Nat) (e:Expr),okE n e→Dq Es e=true→Dq Ge e=true→Dq Mw e=true→Kv c l e (Bw c l e):=by
 intro n
 induction n with
 | zero=>exact fun e h=>h.elim
 | succ n ih =>
 intro e hok hnd hrg hvo Hp
 have hnd0:=hnd
 have hrg0:=hrg
 have hvo0:=hvo
 rw [Ip,Ao] at hnd0 hrg0 hvo0
 have hev:∀y∈e.kids,Kv c l y (Bw c l y):=fun y hy=>ih y (hok.2.2 y hy) ((Ff _ _).1 hnd0.2 y hy) ((Ff _ _).1 hrg0.2 y hy) ((Ff _ _).1 hvo0.2 y hy)
 obtain ⟨k5,k34,k6,_⟩:=co hnd0.1
 have hev0:Bw c l e=K3 B1 c l e.op e.text e.val (e.kids.map (Bw c l)):=Mu _ _ _ _
 refine Ae [.cell 4 24,.tmp 5] [0,1] Tryz.func172 Tryz.ntmps172 (fun d=>?_)
 refine Z1 ?_;refine AEn ?_;refine Z16 ?_;refine Z23 ?_;refine A2 [2,3,4,7] ?_
 refine A4 (fun ht7=>?_) (fun ht7=>?_)
 ·have hm:Bw c l e=(e.val,0):=by rw [hev0];unfold K3;rw [if_pos ht7]
  refine Z1 ?_;exact Z95
 refine Z23 ?_;refine A2 [2,3,4,13] ?_
 refine A4 (fun ht13=>?_) (fun ht13=>?_)
 ·have hm0:Bw c l e=Pf c l e.text:=by rw [hev0];unfold K3;rw [if_neg (by rw [ht7];simp),if_pos ht13]
  refine Z23 ?_;refine A9 Tryz.call60 (c60 c hc e.text _) ?_;refine A5 ?_;refine A2 [2,4,6] ?_;refine Z7 ?_;refine A2 [2,4,6,23] ?_
  refine A4 (fun ht23=>?_) (fun ht23=>?_)
  ·have hm:Bw c l e=Dd 9:=by rw [hm0];exact if_pos (by simpa using ht23)
   refine Zr ?_;refine Z45 ?_;refine Ck ?_;exact Z19
  have hneg:¬(Ay e.text c<0):=by simpa using ht23
  obtain ⟨j,hj,hjc⟩:=Gi hneg
  have hjl:j<l.length:=by omega
  have hm:Bw c l e=(l[j],0):=by
   rw [hm0]
   unfold Pf
   rw [if_neg hneg,hj,Int.toNat_natCast,Cc,Ab hjl]
   rfl
  rw [hj]
  refine Rb ?_
  refine A5 (h:=Ah (j) (Bn l[j]) (fun _=>B7 hjl)) (hr:=?_)
  refine A5 ?_;exact Z95
 refine Z23 ?_;refine X8 ?_;refine A2 [2,3,4,32] ?_
 refine A4 (fun ht32=>?_) (fun ht32=>?_)
 ·have h32:((e.op==5)&&(e.text==orW))=true:=ht32
  have hop:e.op=5:=by simp only [Ao,beq_iff_eq] at h32;exact h32.1
  have hkl:=k5 hop
  have hm:Bw c l e=Is (J4 true) (Bw c l (e.kids.getD 0 Av)) (Bw c l (e.kids.getD 1 Av)):=by rw [hev0];unfold K3;rw [if_neg (by rw [ht7];simp),if_neg (by rw [ht13];simp),if_pos h32,(Hq (by omega)).2.2,(Hq (by omega)).2.2]
  refine Ea [0,0,0,7,15,15,63,127] 6 Ak (by kernel_rfl) ?_;refine Z8 ?_;refine Dx Tryz.call178 (g9 _ _) ?_;refine Dx Tryz.call216 (ANo c l e (e.kids.getD 0 Av) (e.kids.getD 1 Av) (J4 true) _ _ (Hq (by omega)).1 (Hq (by omega)).1 (hev _ (Hq (by omega)).2.1) (hev _ (Hq (by omega)).2.1) _) ?_;refine Z90 ?_;exact Z95
 have h32:((e.op==5)&&(e.text==orW))=false:=ht32
 refine Z23 ?_;refine X8 ?_;refine A2 [2,3,4,47] ?_
 refine A4 (fun ht47=>?_) (fun ht47=>?_)
 ·have h47:((e.op==5)&&(e.text==gt))=true:=ht47
  have hop:e.op=5:=by simp only [Ao,beq_iff_eq] at h47;exact h47.1
  have hkl:=k5 hop
  have hm:Bw c l e=Is (J4 false) (Bw c l (e.kids.getD 0 Av)) (Bw c l (e.kids.getD 1 Av)):=by rw [hev0];unfold K3;rw [if_neg (by rw [ht7];simp),if_neg (by rw [ht13];simp),if_neg (by rw [h32];simp),if_pos h47,(Hq (by omega)).2.2,(Hq (by omega)).2.2]
  refine Ea [0,0,0,7,15,15,63,127] 6 Ak (by kernel_rfl) ?_;refine Z8 ?_;refine Dx Tryz.call178 (g9 _ _) ?_;refine Dx Tryz.call216 (ANo c l e (e.kids.getD 0 Av) (e.kids.getD 1 Av) (J4 false) _ _ (Hq (by omega)).1 (Hq (by omega)).1 (hev _ (Hq (by omega)).2.1) (hev _ (Hq (by omega)).2.1) _) ?_;refine Z90 ?_;exact Z95
 have h47:((e.op==5)&&(e.text==gt))=false:=ht47
 refine Z23 ?_;refine Qi ?_;refine Qi ?_;refine Z6 ?_;refine X8 ?_;refine A2 [2,3,4,62] ?_
 refine A4 (fun ht62=>?_) (fun ht62=>?_)
 ·have h62:((e.op==6)&&(((e.text==ifW) || (e.text==Ul)) || (e.text==C8)))=true:=ht62
  obtain ⟨hkl,hl1,hl2⟩:0<e.kids.length∧((e.text==C8)=false→1<e.kids.length)∧((e.text==ifW)=true→2<e.kids.length):=by
   have h:=h62
   simp only [Ao,Cx,beq_iff_eq] at h
   have ha:=k6 h.1
   rcases h.2 with (h1|h1)|h1
   ·rw [h1] at ha ⊢
    have:e.kids.length=3:=by
     have:Cf ifW=3:=by kernel_rfl
     omega
    exact ⟨by omega,fun _=>by omega,fun _=>by omega⟩
   ·rw [h1] at ha ⊢
    have:e.kids.length=2:=by
     have:Cf Ul=2:=by kernel_rfl
     omega
    exact ⟨by omega,fun _=>by omega,fun h=>absurd h (by decide)⟩
   rw [h1] at ha ⊢
   have:e.kids.length=1:=by
    have:Cf C8=1:=by kernel_rfl
    omega
   exact ⟨by omega,fun h=>absurd h (by decide),fun h=>absurd h (by decide)⟩
  have hm:Bw c l e=Fa e.text (Bw c l (e.kids.getD 0 Av)) (Bw c l (e.kids.getD 1 Av)) (Bw c l (e.kids.getD 2 Av)):=by
   rw [hev0]
   unfold K3
   rw [if_neg (by rw [ht7];simp),if_neg (by rw [ht13];simp),if_neg (by rw [h32];simp),if_neg (by rw [h47];simp),if_pos h62,(Hq hkl).2.2]
   exact xm hl1 hl2
  refine Z1 ?_;refine A9 Tryz.call217 (AR3 c l e (e.kids.getD 0 Av) (e.kids.getD 1 Av) (e.kids.getD 2 Av) _ _ _ (Hq (by omega)).1 (fun h=>(Hq (hl1 h)).1) (fun h=>(Hq (hl2 h)).1) (hev _ (Hq (by omega)).2.1) (fun h=>hev _ (Hq (hl1 h)).2.1) (fun h=>hev _ (Hq (hl2 h)).2.1) _) ?_;refine Z0 ?_;exact Z95
 have h62:((e.op==6)&&(((e.text==ifW) || (e.text==Ul)) || (e.text==C8)))=false:=ht62
 have hm:=gz (c:=c) (l:=l) ht7 ht13 h32 h47 h62
 refine Z20 ?_;refine Z1 ?_;refine A9 Tryz.call218 (AR4 c l e hok.2.1 hev (fun _=>AGa hf hnd hrg hvo h62) _) ?_;refine Z0 ?_;exact Z54

def Pn (l:List Val):Bool:=decide ((50:Int)<(l.length:Int)) || l.any fun v=>decide ((400:Int)<(v.s.length:Int))
theorem c45 (l:List Val) (Hp:List AObj):AFun Tryz.prog 45 [F4 l] Hp (B0 (Pn l)):=by
 refine Ae [.tmp 2] [0] Tryz.func45 Tryz.ntmps45 (fun d=>?_)
 refine jf ?_;refine A2 [0,6] ?_
 refine A4 (fun ht6=>?_) (fun ht6=>?_)
 ·rw [An] at ht6
  have hm:Pn l=true:=by unfold Pn;rw [ht6];rfl
  exact AA1
 rw [An] at ht6
 have hl50:l.length≤50:=by simp at ht6;omega
 refine Qh ?_;refine Mn ?_
 refine Bg (α:=Nat) (fun x=>⟨20,A6 0 (F4 l) (A6 3 (A3 (x:Nat)) (fun _=>.any)),Hp,[],[],none⟩) (fun x=>x≤l.length∧∀(j:Nat) (v:Val),j<x→l[j]? = some v→decide ((400:Int)<(v.s.length:Int))=false) (fun x=>l.length-x) (0) ⟨Aq _,fun j v h=>by omega⟩ (Bl (by simp)) rfl (fun x hx=>?_)
 refine Z88 ?_;refine A2 [0,3,10] ?_
 refine A4 (fun ht10=>?_) (fun ht10=>?_)
 ·have hlt:x<l.length:=by simpa using ht10
  refine Tx ?_;refine Z1 ?_
  refine A5 (h:=Ah (x) (Bn l[x]) (fun _=>B7 hlt)) (hr:=?_)
  refine Z58 ?_;refine A2 [0,3,19] ?_
  refine A4 (fun ht19=>?_) (fun ht19=>?_)
  ·have hm:Pn l=true:=by unfold Pn;rw [Cx];exact .inr (Fi.2 ⟨l[x],Bf hlt,ht19⟩)
   refine Z42 ?_;exact X6
  refine Z20 ?_;refine Z52 ?_
  refine A5 (h:=Tt (h1:=fun _=>by omega) (h2:=fun _=>by omega)) (hr:=?_)
  refine A5 ?_;refine Mn ?_;exact AKx
 have hxe:l.length≤x:=by simpa using ht10
 have hm:Pn l=false:=by
  unfold Pn
  rw [ht6,F1,If]
  intro v hv
  obtain ⟨j,hj⟩:=C6 hv
  have:=hx.2 j v (by have:=(Ad.1 hj).1;omega) hj
  rw [this]
  simp
 exact AEh

structure RowAt (c:List Col) (l:List Val) (x:Nat):Prop where
 le:x≤l.length
 ok:∀(i:Nat) (v:Val) (y:Col),i<x→l[i]? = some v→c[i]? = some y→Ec v=true∧(v.kind=0∨v.kind=y.kind)
theorem RowAt.next {c:List Col} {l:List Val} {x:Nat} (h:RowAt c l x) (hl:x<l.length) (hc:x<c.length) (hb:((!(Ec l[x])) || ((l[x].kind != 0)&&(l[x].kind != c[x].kind)))=false):RowAt c l (x+1):=⟨hl,fun i v y hi hv hy=>by
 rcases Bp i x with h'|h'
 ·exact h.ok i v y h' hv hy
 have e:i=x:=by omega
 subst e
 rw [Ab hl] at hv
 rw [Ab hc] at hy
 injection hv with hv
 injection hy with hy
 subst hv
 subst hy
 simp only [E3,Oe,yx,bne_eq_false_iff_eq] at hb
 exact ⟨hb.1,hb.2⟩⟩
theorem RowAt.bad {c:List Col} {l:List Val} {x:Nat} (hl:x<l.length) (hc:x<c.length) (hb:((!(Ec l[x])) || ((l[x].kind != 0)&&(l[x].kind != c[x].kind)))=true):F9 c l=false:=by
 cases h:F9 c l with
 | false=>rfl
 | true =>
  obtain ⟨h1,h2⟩:=(row_iff.1 h).2.2 x l[x] c[x] (Ab hl) (Ab hc)
  rw [h1] at hb
  simp only [Hw,F1,Ao,bne_iff_ne] at hb
  omega
theorem c47 (c:List Col) (hc:OkCols c) (l:List Val) (hll:l.length≤1048576) (Hp:List AObj):AFun Tryz.prog 47 [Ar c,F4 l] Hp (B0 (F9 c l)):=by
 refine Ae [.tmp 4] [0,1] Tryz.func47 Tryz.ntmps47 (fun d=>?_)
 refine Z37 ?_;refine Z31 ?_;refine A9 Tryz.call50 (c50 c hc _) ?_;refine Z85 ?_;refine Z53 ?_;refine A2 [0,1,16] ?_
 refine A4 (fun ht16=>?_) (fun ht16=>?_)
 ·have hm:F9 c l=false:=by
   simp only [An,Cx,K6,bne_iff_ne,ne_eq] at ht16
   unfold F9
   rcases ht16 with h|h
   ·rw [h];rfl
   rw [show (l.length==c.length)=false by simpa using (show l.length≠c.length by omega)];simp
  exact j8
 have hcl:Io c=true∧l.length=c.length:=by
  simp only [An,E3,Oe,bne_eq_false_iff_eq] at ht16
  exact ⟨ht16.1,by omega⟩
 refine jh ?_;refine A2 [0,17,18,19] ?_
 refine Bg (α:=Nat) (fun x=>⟨43,A6 0 (Ar c) (A6 17 (F4 l) (A6 18 (A3 (l.length:Nat)) (A6 19 (A3 (x:Nat)) (fun _=>.any)))),Hp,[],[],none⟩) (fun x=>RowAt c l x) (fun x=>l.length-x) (0) ⟨Aq _,fun i v y h=>by omega⟩ (Bl (by simp)) rfl (fun x hx=>?_)
 refine Z2 ?_;refine A2 [0,17,18,19,20] ?_
 refine Co (fun ht20=>?_) (fun ht20=>?_)
 ·have hlt:x<l.length:=by simpa using ht20
  have hlc:x<c.length:=by omega
  refine Qg ?_
  refine A5 (h:=Ah (x) (Bn l[x]) (fun _=>B7 hlt)) (hr:=?_)
  refine ja ?_;refine A2 [0,5,6,17,18,19] ?_;refine Ea [0,1,3,7,15,31,63,127,255,511,255,255,3327,7423,15615,32767,65535,131071] 15 Ak (by kernel_rfl) ?_;refine As ?_;refine Dx Tryz.call93 (c93 _ _) ?_;refine Z8 ?_;refine Z86 ?_;refine Z86 ?_;refine Z86 ?_;refine Z86 ?_
  refine H.go (h:=Ah (x) (C2 c[x]) (fun _=>B7 hlc)) (hr:=?_)
  refine Z86 ?_;refine Gq ?_;refine fl ?_;refine A2 [0,17,18,19,41] ?_
  refine A4 (fun ht41=>?_) (fun ht41=>?_)
  ·have hm:=RowAt.bad hlt hlc ht41
   exact AEe
  refine Z68 ?_;refine A2 [0,17,18,19] ?_;refine Bm (x+1) (hx.next hlt hlc ht41) (by omega) ?_
  exact D0 (own:=[]) (fun _=>.refl _) (by repeat (first|exact Bc|refine Bb (by first|exact lv|exact low_cols|(simp [or_imp,forall_and];done)) ?_)) (by simp) (by simp)
 have hxe:l.length≤x:=by simpa using ht20
 have hm:F9 c l=true:=row_iff.2 ⟨by rw [←Lz];exact hcl.1,hcl.2,fun i v y hv hy=>hx.ok i v y (by have:=(Ad.1 hv).1;omega) hv hy⟩
 refine Z27 ?_;exact Z92

theorem AD0 {e:Expr} (h:Es e=true):Mw e=true:=by
 unfold Mw
 cases Lg h with
 | val v hp h0=>simpa [Nn,Expr.op,Expr.val] using hp
 | name t ht=>rfl
 | neg a=>rfl
 | no a=>rfl
 | bin t a b ht=>rfl
 | call t k ht=>rfl
mutual
theorem tj:∀e:Expr,Dq Es e=true→Dq Mw e=true
 | .mk o t v k,h=>by
  rw [Dq,Ao] at h ⊢
  exact ⟨AD0 h.1,lx k h.2⟩
theorem lx:∀k:List Expr,Mr Es k=true→Mr Mw k=true
  | [],_=>rfl
  | e::r,h=>by
    rw [Mr,Ao] at h ⊢
    exact ⟨tj e h.1,lx r h.2⟩
 end
theorem AD1 {c:List Col} {l:List Val} (h:F9 c l=true) (hr:∀v∈l, -9223372036854775808≤v.n∧v.n≤9223372036854775807):∀v∈l,Fine v:=fun v hv=>by
 obtain ⟨i,hi⟩:=C6 hv
 obtain ⟨_,h2,h3⟩:=row_iff.1 h
 have hil:=(Ad.1 hi).1
 exact ⟨(h3 i v _ hi (Ab (show i<c.length by omega))).1,(hr v hv).1,(hr v hv).2⟩
theorem AJw (n:Nat) (x:Expr) (hok:okE n x) (hn:n≤1048576) (hrg:Dq Ge x=true) (c:List Col) (hc:OkCols c) (l:List Val) (hll:l.length≤1048576) (hlr:∀v∈l, -9223372036854775808≤v.n∧v.n≤9223372036854775807) (Hp:List AObj):AFun Tryz.prog 138 [A8 x,Ar c,F4 l] Hp (Ur (Br x c l)):=by
 refine Ae [.cell 6 24,.tmp 7] [0,1,2] Tryz.func138 Tryz.ntmps138 (fun d=>?_)
 refine Z2 ?_;refine zx ?_;refine Z31 ?_;refine A9 Tryz.call96 (c96 n x hok hn _) ?_;refine Z36 ?_;refine C1 Tryz.call47 (fun hB=>c47 c hc l hll _) ?_;refine Z53 ?_;refine A2 [1,2,3,6,16] ?_
 refine A4 (fun ht16=>?_) (fun ht16=>?_)
 ·have hm:Br x c l=Dd 1:=if_pos ht16
  refine Zr ?_;refine Z79 ?_;exact Z25
 have hm:Br x c l=Bw c l x:=if_neg (by rw [ht16];simp)
 have hrr:Au x=true∧F9 c l=true:=by simpa using ht16
 obtain ⟨hr,hrow⟩:=hrr
 refine Ni ?_;refine jk ?_;refine A5 ?_;refine A9 Tryz.call172 (AR5 c l hc (row_iff.1 hrow).2.1 (AD1 hrow hlr) n x hok (M0 hr) hrg (tj x (M0 hr)) _) ?_;refine Z0 ?_;exact AL1

theorem xn {x:Expr} {c:List Col} {l:List Val} (hk:(Ft x c).2=0) (hrow:F9 c l=true):KOk (Ft x c).1 (Br x c l):=by
 obtain ⟨h1,h2,h3⟩:=l6 hk
 rw [h3] at hk ⊢
 rw [AFl h1 hrow]
 exact sm hrow (sizeE x) x (Aj _) (M0 h1) hk
theorem AD2 {l:List Val} (h:Pn l=false):l.length≤1048576:=by
 unfold Pn at h
 simp only [E3,decide_eq_false_iff_not] at h
 omega
/-! SoundJoins: one behind the other, in one. -/
/-! image: rows forth and back. -/
/-- image.reckon. -/
def Be (c:List Col) (row:List Val):List Expr→List Val×Int
 | []=>([],0)
 | x::r=>if (Br x c row).2 != 0 then ([],(Br x c row).2) else if (Be c row r).2 != 0 then ([],(Be c row r).2) else ((Br x c row).1::(Be c row r).1,0)
theorem Rr {c:List Col} {row:List Val}:∀{l:List Expr},(∀(j:Nat) (y:Expr),l[j]? = some y→((Br y c row).2 != 0)=false)→Be c row l=(l.map (fun e=>(Br e c row).1),0)
 | [],_=>rfl
 | x::r,h=>by
  rw [Be,Rr (l:=r) (fun j y hy=>h (j+1) y hy),if_neg (by rw [h 0 x rfl];simp),if_neg (by simp)]
  rfl
theorem Rt {c:List Col} {row:List Val}:∀{l:List Expr} {x:Nat} {y:Expr},(∀(j:Nat) (z:Expr),j<x→l[j]? = some z→((Br z c row).2 != 0)=false)→l[x]? = some y→((Br y c row).2 != 0)=true→Be c row l=([],(Br y c row).2)
 | [],_,_,_,h,_=>by simp at h
 | a::r,0,y,_,h,h1=>by
  have:a=y:=by simpa using h
  subst this
  rw [Be,if_pos h1]
 | a::r,x+1,y,h0,h,h1=>by
  rw [Be,if_neg (by rw [h0 0 a (by omega) rfl];simp),Rt (l:=r) (x:=x) (fun j z hj hz=>h0 (j+1) z (by omega) hz) (by simpa using h) h1,if_pos h1]
theorem xp {e:Expr} (h:Es e=true):Mw e=true:=by
 unfold Mw
 rw [kc] at h
 cases hk:(e.op==1) with
 | false=>rfl
 | true =>
  show Ec e.val=true
  have e1:e.op=1:=by simpa using hk
  cases e with
  | mk o t v k =>
   have e1:o=1:=e1
   subst e1
   rw [Y9] at h
   simp at h
   exact h.1.1.1
mutual
theorem lz:∀e:Expr,Dq Es e=true→Dq Mw e=true
 | .mk o t v k,h=>by
  rw [Ip,Ao] at h ⊢
  exact ⟨xp h.1,cp k h.2⟩
theorem cp:∀k:List Expr,Mr Es k=true→Mr Mw k=true
 | [],_=>rfl
 | e::r,h=>by
  rw [Mr,Ao] at h ⊢
  exact ⟨lz e h.1,cp r h.2⟩
end
theorem AD3 {x:Expr} {c:List Col} {row:List Val} (hf:∀v∈row,Fine v) (hr:Dq Ge x=true):Fine (Br x c row).1:=by
 show Fine (Sr B1 x c row).1
 unfold Sr
 split
 ·exact Np
 rename_i h
 simp only [Cx,K6,not_or,dg] at h
 exact Un hf x (lz x (Ns (by rw [←Ga];exact h.1))) hr
theorem Vo {c:List Col} {row:List Val} (hf:∀v∈row,Fine v):∀{l:List Expr},(∀e∈l,Dq Ge e=true)→∀v∈(Be c row l).1,Fine v
 | [],_,v,h=>by cases h
 | x::r,hr,v,h=>by
  rw [Be] at h
  split at h
  ·cases h
  split at h
  ·cases h
  rcases B3.1 h with rfl|h
  ·exact AD3 hf (hr x Gw)
  exact Vo hf (fun e he=>hr e (.tail _ he)) v h
theorem Ru {c:List Col} {row:List Val}:∀{l:List Expr},(Be c row l).2=0→(Be c row l).1.length=l.length
 | [],_=>rfl
 | x::r,h=>by
  rw [Be] at h ⊢
  split at h
  ·rename_i h1
   rw [show (Br x c row).2=0 from h] at h1
   cases h1
  rename_i h1
  rw [if_neg h1]
  split at h
  ·rename_i h2
   rw [show (Be c row r).2=0 from h] at h2
   cases h2
  rename_i h2
  rw [if_neg h2]
  simp only [B2]
  rw [Ru (l:=r) (by simpa using h2)]
/-- What is not taken. -/
def Fb (take:List Str) (c:List Col) (row:List Val):List Val:=((c.zip row).filter fun p => !take.contains p.1.name).map (·.2)
theorem Yx:∀{c:List Col} {row:List Val} {x:Nat} (hc:x<c.length) (hr:x<row.length),(c.take (x+1)).zip row=(c.take x).zip row++[(c[x],row[x])]
 | y::c,v::row,0,_,_=>by simp
 | y::c,v::row,x+1,hc,hr=>by
  simp only [List.take_succ_cons,List.zip_cons_cons,E9,List.getElem_cons_succ]
  rw [Yx (by simpa using hc) (by simpa using hr)]
 | [],_,_,hc,_=>by simp at hc
 | _::_,[],_,_,hr=>by simp at hr
theorem AGb {take:List Str} {c:List Col} {row:List Val} {x:Nat} (hc:x<c.length) (hr:x<row.length) (h:take.contains c[x].name=false):Fb take (c.take (x+1)) row=Fb take (c.take x) row++[row[x]]:=by
 unfold Fb
 have hb:(fun p:Col×Val => !take.contains p.1.name) (c[x],row[x])=true:=by show (!take.contains c[x].name)=true;rw [h];rfl
 rw [Yx hc hr,Og,Bj,List.filter_cons_of_pos (p:=fun p:Col×Val => !take.contains p.1.name) hb]
 rfl
theorem AD4 {take:List Str} {c:List Col} {row:List Val} {x:Nat} (hc:x<c.length) (hr:x<row.length) (h:take.contains c[x].name=true):Fb take (c.take (x+1)) row=Fb take (c.take x) row:=by
 unfold Fb
 have hb:¬(fun p:Col×Val => !take.contains p.1.name) (c[x],row[x])=true:=by show ¬(!take.contains c[x].name)=true;rw [h];simp
 rw [Yx hc hr,Og,Bj,List.filter_cons_of_neg (p:=fun p:Col×Val => !take.contains p.1.name) hb]
 simp
theorem T6 {take:List Str}:∀{c:List Col} {row:List Val},row.length=c.length→(Fb take c row).length=(Di c take).length
 | [],[],_=>rfl
 | y::c,v::row,h=>by
  have ih:=T6 (take:=take) (c:=c) (row:=row) (by simpa using h)
  unfold Fb Di at ih ⊢
  rw [List.zip_cons_cons,Hh,Hh]
  cases hc:take.contains y.name<;>simp [hc] at ih ⊢<;>exact ih
 | [],_::_,h=>by simp at h
 | _::_,[],h=>by simp at h
theorem AD5 {take:List Str} {c:List Col} {row:List Val} {v:Val} (h:v∈Fb take c row):v∈row:=by
 unfold Fb at h
 obtain ⟨p,hp,rfl⟩:=C3.1 h
 exact (List.of_mem_zip (W5.1 hp).1).2
/-- image.forth. -/
def E1 (c:List Col) (m:Mov) (row:List Val):List Val×Int:=if (Be c row m.ahead).2 != 0 then ([],(Be c row m.ahead).2) else (Fb m.take c row++(Be c row m.ahead).1,0)
/-- The row behind k moves. -/
def fwM (c:List Col) (l:List Mov) (row:List Val):Nat→List Val×Int
 | 0=>(row,0)
 | k+1=>if (fwM c l row k).2 != 0 then ([],(fwM c l row k).2) else match l[k]? with
  | none=>fwM c l row k
  | some m=>E1 (colsAt c l k) m (fwM c l row k).1
/-- image.Forth. -/
def Gu (c:List Col) (l:List Mov) (row:List Val):List Val×Int:=if ((Cg c l).2 != 0) || !F9 c row then ([],1) else fwM c l row l.length
/-- A row that may be walked: as long as its columns are many, its values fine. -/
structure RowI (c:List Col) (row:List Val):Prop where
 len:row.length=c.length
 fine:∀v∈row,Fine v
theorem m0 {c:List Col} {row:List Val} (h:F9 c row=true) (hr:∀v∈row, -9223372036854775808≤v.n∧v.n≤9223372036854775807):RowI c row:=by
 unfold F9 at h
 simp only [Ao,beq_iff_eq,Az] at h
 refine ⟨h.1.2,fun v hv=>⟨?_,(hr v hv).1,(hr v hv).2⟩⟩
 obtain ⟨j,hj,rfl⟩:=To hv
 have hj2:j<c.length:=by omega
 have:=h.2 (row[j],c[j]) (Aw (i:=j) (by rw [N0];exact ⟨Ab hj,Ab hj2⟩))
 exact this.1
theorem Us {c:List Col} {m:Mov} {row:List Val} (ht:(C9 c m).2=0) (hm:I8 m=true) (hg:∀e∈m.ahead,Dq Ge e=true) (h:RowI c row) (hf:(E1 c m row).2=0):RowI (C9 c m).1 (E1 c m row).1:=by
 unfold E1 at hf ⊢
 split at hf
 ·rename_i h1
  rw [show (Be c row m.ahead).2=0 from hf] at h1
  cases h1
 rename_i h1
 rw [if_neg h1]
 have hl:=Ru (c:=c) (row:=row) (l:=m.ahead) (by simpa using h1)
 refine ⟨?_,fun v hv=>?_⟩
 ·rw [(Sz ht).1,At,At,T6 h.len,hl,Ji,(I4 (Qa hm)).1]
 rcases E4.1 hv with h2|h2
 ·exact h.fine v (AD5 h2)
 exact Vo h.fine hg v h2
theorem T7 {c:List Col} {l:List Mov} {row:List Val} {k:Nat} {m:Mov} (hk:l[k]? = some m) (h:(fwM c l row k).2=0):fwM c l row (k+1)=E1 (colsAt c l k) m (fwM c l row k).1:=by
 rw [fwM,if_neg (by rw [h];simp),hk]
theorem Yy {c:List Col} {l:List Mov} {row:List Val} {k:Nat} (h:(fwM c l row k).2≠0):∀n,k<n→fwM c l row n=([],(fwM c l row k).2)
 | 0,hn=>by omega
 | n+1,hn=>by
  by_cases hk:k=n
  ·subst hk
   rw [fwM,if_pos (by simpa using h)]
  rw [fwM,Yy h n (by omega),if_pos (by simpa using h)]
theorem qb {c:List Col} {m:Mov} {row:List Val} (h:(E1 c m row).2≠0):(E1 c m row).1=[]:=by
 unfold E1 at h ⊢
 split
 ·rfl
 rename_i h1
 rw [if_neg h1] at h
 exact absurd rfl h
/-- A failing move ends it. -/
theorem AGc {c:List Col} {l:List Mov} {row:List Val} {k:Nat} {m:Mov} (hk:l[k]? = some m) (h:(fwM c l row k).2=0) (hb:(E1 (colsAt c l k) m (fwM c l row k).1).2≠0):fwM c l row l.length=([],(E1 (colsAt c l k) m (fwM c l row k).1).2):=by
 have e:=T7 hk h
 have hl:=(Ad.1 hk).1
 by_cases h1:k+1=l.length
 ·rw [←h1,e]
  exact Pv (qb hb) rfl
 have:=Yy (c:=c) (l:=l) (row:=row) (k:=k+1) (by rw [e];exact hb) l.length (by omega)
 rw [this,e]
theorem Jm {n k:Nat} {o:Bool} {l:List Val}:Low n (.slice o k (l.map Bn)):=by simp [or_imp,forall_and]
theorem Qd {n k:Nat} {o:Bool} {l:List Val} {v:Val}:Low n (.slice o k (l.map Bn++[Bn v])):=by simp [or_imp,forall_and]
theorem m8 {l:List Val} (h:∀v∈l,Fine v):∀v∈l, -9223372036854775808≤v.n∧v.n≤9223372036854775807:=fun v hv=>⟨(h v hv).lo,(h v hv).hi⟩
theorem cq {c:List Col} {row:List Val}:∀{l:List Expr},(Be c row l).1.length≤l.length
 | []=>Aj _
 | x::r=>by
  rw [Be]
  repeat' split
  ·exact Aq _
  ·exact Aq _
  have:=cq (c:=c) (row:=row) (l:=r)
  simp only [B2]
  omega
theorem tm {take:List Str} {c:List Col} {row:List Val}:(Fb take c row).length≤c.length:=by
 unfold Fb
 rw [An]
 refine Hu (dq _ _) ?_
 rw [List.length_zip]
 omega
theorem c48 (l:List Val) (hl:l.length≤1048576) (Hp:List AObj):AFun Tryz.prog 48 [F4 l] Hp (F4 l):=by
 refine Ae [.tmp 2] [0] Tryz.func48 Tryz.ntmps48 (fun d=>?_)
 refine Z41 ?_;refine Z31 ?_
 refine R.eqlNil jU (by kernel_rfl) (fun b hb=>?_)
 refine A2 [0,4] ?_
 refine A4 (fun ht4=>?_) (fun ht4=>?_)
 ·have hl0:l=[]:=by simpa using hb ht4
  subst hl0
  refine Z2 ?_;refine Md 2 3 false ?_;refine Z4 ?_;exact ALo
 refine Z3 ?_;refine Z40 ?_;refine A5 ?_
 refine Ek jU Tryz.type24 ?_ ?_ ?_
 ·simp [Tryz.t24];omega
 ·simp [Tryz.t24];omega
 refine I0 ?_;exact ALt

theorem c94 (c:List Col) (hc:OkCols c) (row:List Val) (hf:∀v∈row,Fine v) (hrl:row.length≤1048576) (l:List Expr) (h:OkEs l) (Hp:List AObj):AFun Tryz.prog 94 [Cm l,Ar c,F4 row] Hp (.tup [F4 (Be c row l).1,A3 (Be c row l).2]):=by
 refine Ae [.tmp 6,.tmp 7] [0,1,2] Tryz.func94 Tryz.ntmps94 (fun d=>?_)
 refine Z1 ?_;refine Zu ?_;refine Z2 ?_;refine A2 [0,1,2,8] ?_;refine Z62 ?_
 have hlen:=h.len
 refine P0 8 3 ?_;refine Z12 ?_;refine AAj ?_
 refine Bg (α:=Nat) (fun x=>⟨35,A6 1 (Ar c) (A6 2 (F4 row) (A6 8 (.slice true 3 (((l.take x).map fun e=>(Br e c row).1).map Bn)) (A6 13 (Cm l) (A6 14 (A3 (l.length:Nat)) (A6 15 (A3 (x:Nat)) (fun _=>.any)))))),Hp,[],[],none⟩) (fun x=>x≤l.length∧∀(j:Nat) (y:Expr),j<x→l[j]? = some y→((Br y c row).2 != 0)=false) (fun x=>l.length-x) (0) ⟨Aq _,fun j y h=>by omega⟩ (Bl (by simp)) rfl (fun x hx=>?_)
 refine Z2 ?_;refine A2 [1,2,8,13,14,15,16] ?_
 refine Co (fun ht16=>?_) (fun ht16=>?_)
 ·have hlt:x<l.length:=by simpa using ht16
  refine Z77 ?_
  refine A5 (h:=Ah (x) (A8 l[x]) (fun _=>B7 hlt)) (hr:=?_)
  refine Qe ?_;refine A2 [1,2,8,10,13,14,15] ?_;refine Z15 ?_;refine A9 Tryz.call138 (AJw 61 l[x] (h.ok _ (Bf hlt)) (by decide) (h.rng _ (Bf hlt)) c hc row hrl (m8 hf) _) ?_;refine Ra ?_;refine A2 [1,2,8,11,12,13,14,15] ?_;refine Z7 ?_;refine A2 [1,2,8,11,12,13,14,15,27] ?_
  refine A4 (fun ht27=>?_) (fun ht27=>?_)
  ·have hm:=Rt hx.2 (Ab hlt) ht27
   refine Z1 ?_;refine Md 6 3 false ?_;refine nn ?_;refine Z26 ?_;exact Z32
  refine Z3 ?_;refine fe ?_;refine Z71 ?_
  refine Ek jU Tryz.type24 ?_ ?_ ?_
  ·simp only [An,C0,At,B2,Bz,Tryz.t24];omega
  ·simp only [An,C0,At,B2,Bz,Tryz.t24];omega
  refine I0 ?_;refine AAj ?_;refine R9 ?_;refine ALg ?_
  rw [Mz hlt,Bj,Bk,Dr]
  exact D0 (own:=[]) (fun _=>.refl _) (by repeat (first|exact Bc|refine Bb (by first|exact Eg|exact Jm|exact Qd|exact Iw|exact Ef|exact Ia|exact Low.ro _ Ny|(simp [or_imp,forall_and];done)) ?_)) (by simp) (by simp)
 have hxe:l.length≤x:=by simpa using ht16
 have hm:=Rr (c:=c) (row:=row) fun j y hy=>hx.2 j y (by have:=(Ad.1 hy).1;omega) hy
 rw [Ej hxe]
 refine Z27 ?_;refine Z15 ?_;refine Z17 ?_;exact Aa (B5 A7 A7) ⟨by rw [hm],rfl⟩ (hlow:=by simpa using (Jm (n:=Hp.length) (k:=3) (o:=false) (l:=l.map fun e=>(Br e c row).1)))

theorem c49 (c:List Col) (hc:OkCols c) (m:Mov) (h:OkMov m) (row:List Val) (hf:∀v∈row,Fine v) (hl:row.length=c.length) (Hp:List AObj):AFun Tryz.prog 49 [Ar c,Ie m,F4 row] Hp (.tup [F4 (E1 c m row).1,A3 (E1 c m row).2]):=by
 have hcl:=hc.len
 have hrk:=cq (c:=c) (row:=row) (l:=m.ahead)
 have hal:=h.ahead.len
 refine Ae [.tmp 6,.tmp 7] [0,1,2] Tryz.func49 Tryz.ntmps49 (fun d=>?_)
 refine Z15 ?_;refine A2 [0,2,4] ?_;refine Z23 ?_;refine A9 Tryz.call94 (c94 c hc row hf (by omega) m.ahead h.ahead _) ?_;refine Z75 ?_;refine A2 [0,2,4,8,9] ?_;refine Z7 ?_;refine A2 [0,2,4,8,9,22] ?_
 refine A4 (fun ht22=>?_) (fun ht22=>?_)
 ·have hm:E1 c m row=([],(Be c row m.ahead).2):=if_pos ht22
  refine Z1 ?_;refine Md 6 3 false ?_;refine Z94 ?_;exact Z32
 have hm:E1 c m row=(Fb m.take c row++(Be c row m.ahead).1,0):=if_neg (by rw [ht22];simp)
 refine Qj ?_;refine A2 [0,2,4,8,10] ?_;refine Z62 ?_;refine P0 10 3 ?_;refine Z12 ?_;refine A2 [2,4,8,10,24,25,26] ?_
 refine Bg (α:=Nat) (fun x=>⟨48,A6 2 (F4 row) (A6 4 (.ro (Nv m)) (A6 8 (F4 (Be c row m.ahead).1) (A6 10 (.slice true 3 ((Fb m.take (c.take x) row).map Bn)) (A6 24 (Ar c) (A6 25 (A3 (c.length:Nat)) (A6 26 (A3 (x:Nat)) (fun _=>.any))))))),Hp,[],[],none⟩) (fun x=>x≤c.length) (fun x=>c.length-x) (0) (Aq _) (Bl (by simp [Fb])) rfl (fun x hx=>?_)
 refine Z2 ?_;refine A2 [2,4,8,10,24,25,26,27] ?_
 refine Co (fun ht27=>?_) (fun ht27=>?_)
 ·have hlt:x<c.length:=by simpa using ht27
  have hxr:x<row.length:=by omega
  have hkl:=tm (take:=m.take) (c:=c.take x) (row:=row)
  rw [C0] at hkl
  refine Qg ?_
  refine A5 (h:=Ah (x) (C2 c[x]) (fun _=>B7 hlt)) (hr:=?_)
  refine ja ?_;refine A2 [2,4,8,10,11,12,24,25,26] ?_;refine Z23 ?_;refine A9 Tryz.call95 (c95 m.take c[x].name h.takes _) ?_;refine A5 ?_;refine A2 [2,4,8,10,11,24,25,26,36] ?_
  refine A4 (fun ht36=>?_) (fun ht36=>?_)
  ·have hk:=AGb hlt hxr (by simpa using ht36)
   refine fe ?_;refine Z0 ?_
   refine A5 (h:=Ah (x) (Bn row[x]) (fun _=>B7 hxr)) (hr:=?_)
   refine Z71 ?_
   refine Ek jU Tryz.type24 ?_ ?_ ?_
   ·simp only [An,C0,At,B2,Bz,Tryz.t24];omega
   ·simp only [An,C0,At,B2,Bz,Tryz.t24];omega
   refine I0 ?_;refine A2 [2,4,8,10,24,25,26] ?_;refine R9 ?_;refine A2 [2,4,8,10,24,25,26] ?_;refine AAf ?_
   simp only [hk,Bj,Bk,Dr]
   exact D0 (own:=[]) (fun _=>.refl _) (by repeat (first|exact Bc|refine Bb (by first|exact Eg|exact Jm|exact Qd|exact Iw|exact Ef|exact Ia|exact Low.ro _ Ny|(simp [or_imp,forall_and];done)) ?_)) (by simp) (by simp)
  have hk:=AD4 hlt hxr (by simpa using ht36)
  refine Z68 ?_;refine A2 [2,4,8,10,24,25,26] ?_;refine AAf ?_
  simp only [hk,Bj,Bk,Dr]
  exact D0 (own:=[]) (fun _=>.refl _) (by repeat (first|exact Bc|refine Bb (by first|exact Eg|exact Jm|exact Qd|exact Iw|exact Ef|exact Ia|exact Low.ro _ Ny|(simp [or_imp,forall_and];done)) ?_)) (by simp) (by simp)
 have hxe:c.length≤x:=by simpa using ht27
 rw [Ej hxe]
 have hkl:=tm (take:=m.take) (c:=c) (row:=row)
 refine Z27 ?_;refine Ez ?_;refine R.moveT ?_;refine A5 ?_
 refine Ek jU Tryz.type24 ?_ ?_ ?_
 ·simp only [An,C0,At,B2,Bz,Tryz.t24];omega
 ·simp only [An,C0,At,B2,Bz,Tryz.t24];omega
 refine I0 ?_;refine Z94 ?_;exact Aa (B5 A7 A7) ⟨by rw [hm,←Bj]<;>rfl,rfl⟩ (hlow:=by rw [←Bj];simpa using (Jm (n:=Hp.length) (k:=3) (o:=false) (l:=Fb m.take c row++(Be c row m.ahead).1)))

/-- What a card says of rows. -/
structure RW (l:List Row):Prop where
 len:l.length≤1048576
 each:∀x∈l,x.l.length≤1048576∧∀v∈x.l, -9223372036854775808≤v.n∧v.n≤9223372036854775807
def Qv (l:List Row):Bool:=decide ((60:Int)<(l.length:Int)) || l.any fun x=>Pn x.l
theorem cr {α:Type} {a b:List α} (h:a.length=b.length) (hp:∀(j:Nat) (y:α),j<a.length→a[j]? = some y→b[j]? = some y):a=b:=Qt h fun j y hj hy=>hp j y (by omega) hy
theorem c19 (l:List Row) (Hp:List AObj):AFun Tryz.prog 19 [Hc l] Hp (B0 (Qv l)):=by
 refine Ae [.tmp 2] [0] Tryz.func19 Tryz.ntmps19 (fun d=>?_)
 refine jf ?_;refine A2 [0,6] ?_
 refine A4 (fun ht6=>?_) (fun ht6=>?_)
 ·rw [An] at ht6
  have hm:Qv l=true:=by unfold Qv;rw [ht6];rfl
  exact AA1
 rw [An] at ht6
 have hl50:l.length≤60:=by simp at ht6;omega
 refine Qh ?_;refine Mn ?_
 refine Bg (α:=Nat) (fun x=>⟨19,A6 0 (Hc l) (A6 3 (A3 (x:Nat)) (fun _=>.any)),Hp,[],[],none⟩) (fun x=>x≤l.length∧∀(j:Nat) (v:Row),j<x→l[j]? = some v→Pn v.l=false) (fun x=>l.length-x) (0) ⟨Aq _,fun j v h=>by omega⟩ (Bl (by simp)) rfl (fun x hx=>?_)
 refine Z88 ?_;refine A2 [0,3,10] ?_
 refine A4 (fun ht10=>?_) (fun ht10=>?_)
 ·have hlt:x<l.length:=by simpa using ht10
  refine Tx ?_;refine Z1 ?_
  refine A5 (h:=Ah (x) (Eb l[x]) (fun _=>B7 hlt)) (hr:=?_)
  refine Z0 ?_;refine A9 Tryz.call45 (c45 l[x].l _) ?_;refine A2 [0,3,18] ?_
  refine A4 (fun ht18=>?_) (fun ht18=>?_)
  ·have hm:Qv l=true:=by unfold Qv;rw [Cx];exact .inr (Fi.2 ⟨l[x],Bf hlt,ht18⟩)
   refine Z42 ?_;exact X6
  refine Z20 ?_;refine Z52 ?_
  refine A5 (h:=Tt (h1:=fun _=>by omega) (h2:=fun _=>by omega)) (hr:=?_)
  refine A5 ?_;refine Mn ?_;refine Bm (x+1) ⟨hlt,D3 hlt hx.2 ht18⟩ (by omega) ?_;exact Ds (by simp)
 have hxe:l.length≤x:=by simpa using ht10
 have hm:Qv l=false:=by
  unfold Qv
  rw [ht6,F1,If]
  intro v hv
  obtain ⟨j,hj⟩:=C6 hv
  have:=hx.2 j v (by have:=(Ad.1 hj).1;omega) hj
  rw [this]
  simp
 exact AEh

theorem c56 (a b:List Val) (ha:a.length≤1048576) (Hp:List AObj):AFun Tryz.prog 56 [F4 a,F4 b] Hp (B0 (decide (a=b))):=by
 refine Ae [.tmp 4] [0,1] Tryz.func56 Tryz.ntmps56 (fun d=>?_)
 refine Z37 ?_;refine fq ?_;refine A2 [0,1,10] ?_
 refine A4 (fun ht10=>?_) (fun ht10=>?_)
 ·have hm:decide (a=b)=false:=by rw [decide_eq_false];rintro rfl;simp at ht10
  exact j8
 have hlen:a.length=b.length:=by have:=ht10;simp at this;omega
 refine Qh ?_;refine Zs ?_
 refine Bg (α:=Nat) (fun x=>⟨26,A6 0 (F4 a) (A6 1 (F4 b) (A6 5 (A3 (x:Nat)) (fun _=>.any))),Hp,[],[],none⟩) (fun x=>x≤a.length∧∀(j:Nat) (y:Val),j<x→a[j]? = some y→b[j]? = some y) (fun x=>a.length-x) (0) ⟨Aq _,fun j y h=>by omega⟩ (Bl (by simp)) rfl (fun x hx=>?_)
 refine Z88 ?_;refine A2 [0,1,5,14] ?_
 refine A4 (fun ht14=>?_) (fun ht14=>?_)
 ·have hlt:x<a.length:=by simpa using ht14
  have hlb:x<b.length:=by omega
  refine Tx ?_;refine W.draw [0,0,3,7,0,0,48,112,255] 8 Ak (by kernel_rfl) ?_;refine Z8 ?_
  refine As (h:=Ah (x) (Bn a[x]) (fun _=>B7 hlt)) (hr:=?_)
  refine Z33 ?_
  refine As (h:=Ah (x) (Bn b[x]) (fun _=>B7 hlb)) (hr:=?_)
  refine As ?_;refine Gq ?_
  refine A5 (h:=Q.neqAgg g0 (Ko a[x].kind a[x].n b[x].kind b[x].n a[x].s b[x].s)) (hr:=?_)
  refine A2 [0,1,5,25] ?_
  refine A4 (fun ht25=>?_) (fun ht25=>?_)
  ·rw [ri] at ht25
   have hm:decide (a=b)=false:=by
    rw [decide_eq_false]
    rintro rfl
    simp at ht25
   exact AEe
  rw [ri] at ht25
  have heq:a[x]=b[x]:=by simpa using ht25
  refine jc ?_;refine Zs ?_
  exact Bm (x+1) ⟨hlt,Ld (p:=fun j y=>b[j]? = some y) hlt hx.2 (by rw [Ab hlb,heq])⟩ (by omega) (Ds rfl)
 have hxe:a.length≤x:=by simpa using ht14
 have hm:decide (a=b)=true:=decide_eq_true (cr hlen fun j y hj hy=>hx.2 j y (by omega) hy)
 refine Sc ?_;exact Z92

theorem c24 (a b:List Row) (ha:a.length≤1048576) (he:∀x∈a,x.l.length≤1048576) (Hp:List AObj):AFun Tryz.prog 24 [Hc a,Hc b] Hp (B0 (decide (a=b))):=by
 refine Ae [.tmp 4] [0,1] Tryz.func24 Tryz.ntmps24 (fun d=>?_)
 refine Z37 ?_;refine fq ?_;refine A2 [0,1,10] ?_
 refine A4 (fun ht10=>?_) (fun ht10=>?_)
 ·have hm:decide (a=b)=false:=by rw [decide_eq_false];rintro rfl;simp at ht10
  exact j8
 have hlen:a.length=b.length:=by have:=ht10;simp at this;omega
 refine Qh ?_;refine Zs ?_
 refine Bg (α:=Nat) (fun x=>⟨42,A6 0 (Hc a) (A6 1 (Hc b) (A6 5 (A3 (x:Nat)) (fun _=>.any))),Hp,[],[],none⟩) (fun x=>x≤a.length∧∀(j:Nat) (y:Row),j<x→a[j]? = some y→b[j]? = some y) (fun x=>a.length-x) (0) ⟨Aq _,fun j y h=>by omega⟩ (Bl (by simp)) rfl (fun x hx=>?_)
 refine Z88 ?_;refine A2 [0,1,5,14] ?_
 refine A4 (fun ht14=>?_) (fun ht14=>?_)
 ·have hlt:x<a.length:=by simpa using ht14
  have hlb:x<b.length:=by omega
  refine Tx ?_;refine W.draw [0,0,3,7,15,0,0,96,224,480,1023,2047,4095,4095,16383,32767,65535,4095,4095,397311,921599,1970175,4194303,8388607,16777215] 22 Ak (by kernel_rfl) ?_;refine Z8 ?_
  refine As (h:=Ah (x) (Eb a[x]) (fun _=>B7 hlt)) (hr:=?_)
  refine W3 ?_
  refine As (h:=Ah (x) (Eb b[x]) (fun _=>B7 hlb)) (hr:=?_)
  refine W3 ?_;refine Z86 ?_
  refine H.go (h:=Ah (x) (Eb a[x]) (fun _=>B7 hlt)) (hr:=?_)
  refine Z86 ?_;refine Z86 ?_
  refine H.go (h:=Ah (x) (Eb b[x]) (fun _=>B7 hlb)) (hr:=?_)
  refine Z86 ?_;refine Gq ?_;refine C1 Tryz.call56 (fun hB=>c56 a[x].l b[x].l (he _ (Bf hlt)) _) ?_;refine Z53 ?_;refine A2 [0,1,5,41] ?_
  refine A4 (fun ht41=>?_) (fun ht41=>?_)
  ·rw [rj] at ht41
   have hm:decide (a=b)=false:=by
    rw [decide_eq_false]
    rintro rfl
    simp at ht41
   exact AEe
  rw [rj] at ht41
  have heq:a[x]=b[x]:=by simpa using ht41
  refine jc ?_;refine Zs ?_
  exact Bm (x+1) ⟨hlt,Ld (p:=fun j y=>b[j]? = some y) hlt hx.2 (by rw [Ab hlb,heq])⟩ (by omega) (Ds rfl)
 have hxe:a.length≤x:=by simpa using ht14
 have hm:decide (a=b)=true:=decide_eq_true (cr hlen fun j y hj hy=>hx.2 j y (by omega) hy)
 refine Sc ?_;exact Z92

theorem ANp (n:Nat) (x:Expr) (hok:okE n x) (hn:n≤1048576) (hrg:Dq Ge x=true) (c:List Col) (hc:OkCols c) (l:List Val) (hll:l.length≤1048576) (hlr:∀v∈l, -9223372036854775808≤v.n∧v.n≤9223372036854775807) (Hp:List AObj):AFun Tryz.prog 142 [A8 x,Ar c,F4 l] Hp (.tup [B0 (Yk (Br x c l)),A3 (Sw (Br x c l))]):=by
 refine Ae [.tmp 6,.tmp 7] [0,1,2] Tryz.func142 Tryz.ntmps142 (fun d=>?_)
 refine Z15 ?_;refine A2 [1,2,3] ?_;refine Z15 ?_;refine A9 Tryz.call138 (AJw n x hok hn hrg c hc l hll hlr _) ?_;refine Ra ?_;refine A2 [8,9] ?_;refine Z30 ?_;refine Z73 ?_;refine Z36 ?_;refine Z53 ?_;refine A2 [8,9,28] ?_
 refine A4 (fun ht28=>?_) (fun ht28=>?_)
 ·have hm:Sw (Br x c l)=10:=if_pos ht28
  refine Z52 ?_;refine A2 [8,9] ?_;refine H4 ?_;refine ALp ?_;refine H.go ?_;refine H.call Tryz.call178 (fun hB=>g9 true _) ?_
  refine H.go (h:=R6 g0 (fun w=>Ko (Br x c l).1.kind (Br x c l).1.n 3 1 (Br x c l).1.s [] w)) (hr:=?_)
  refine Z33 ?_;refine Gq ?_;exact AL0
 have hm:Sw (Br x c l)=(Br x c l).2:=if_neg (by rw [ht28];simp)
 refine Z3 ?_;refine ALp ?_;refine H.go ?_;refine H.call Tryz.call178 (fun hB=>g9 true _) ?_
 refine H.go (h:=R6 g0 (fun w=>Ko (Br x c l).1.kind (Br x c l).1.n 3 1 (Br x c l).1.s [] w)) (hr:=?_)
 refine Z33 ?_;refine Gq ?_;exact AL0

theorem AR6 (q:Qry) (h:QW q) (c:List Col) (hc:OkCols c) (l:List Val) (hll:l.length≤1048576) (hlr:∀v∈l, -9223372036854775808≤v.n∧v.n≤9223372036854775807) (Hp:List AObj):AFun Tryz.prog 103 [Rq q,Ar c,F4 l] Hp (.tup [B0 (Ca q c l).1,A3 (Ca q c l).2]):=by
 refine Ae [.tmp 6,.tmp 7] [0,1,2] Tryz.func103 Tryz.ntmps103 (fun d=>?_)
 refine Z15 ?_;refine A2 [1,2,3] ?_;refine Z7 ?_;refine A9 Tryz.call47 (c47 c hc l hll _) ?_;refine A5 ?_;refine A2 [1,2,3,11] ?_
 refine A4 (fun ht11=>?_) (fun ht11=>?_)
 ·have hm:Ca q c l=(false,1):=by unfold Ca;rw [if_pos ht11]
  refine Z1 ?_;refine Z17 ?_;exact Z32
 refine Qh ?_;refine A9 Tryz.call61 (c61 q h _) ?_;refine A5 ?_;refine A2 [1,2,3,14] ?_
 refine A4 (fun ht14=>?_) (fun ht14=>?_)
 ·have hm:Ca q c l=(true,0):=by unfold Ca;rw [if_neg (by rw [ht11];simp),if_pos ht14]
  refine Z1 ?_;refine Z17 ?_;exact Z32
 have hm:Ca q c l=(Yk (Br q.whr c l),Sw (Br q.whr c l)):=by unfold Ca;rw [if_neg (by rw [ht11];simp),if_neg (by rw [ht14];simp)]
 refine jg ?_;refine A9 Tryz.call142 (ANp 61 q.whr h.ok (by decide) h.rng c hc l hll hlr _) ?_;refine Z58 ?_;exact ALb

def AGd (c:List Col) (s:Str):Bool:=decide (Ay s c<0)
def Yz (p:Str→Bool) (ks:List Str):Int:=if ks.any p then (ks.findIdx p:Int) else -1
theorem AD6 {p:Str→Bool} {ks:List Str} {i:Nat} (h:i<ks.length) (hn:p ks[i]=true) (hp:∀(j:Nat) (y:Str),j<i→ks[j]? = some y→¬p y=true):(i:Int)=Yz p ks:=by
 unfold Yz
 rw [if_pos (Fi.2 ⟨_,Bf h,hn⟩)]
 congr 1
 refine (n5 h |>.2 ⟨hn,fun j hj=>?_⟩).symm
 have:=hp j (ks[j]'(by omega)) hj (Ab (by omega))
 simpa using this
theorem qc {p:Str→Bool} {ks:List Str} (hp:∀(j:Nat) (y:Str),ks[j]? = some y→¬p y=true):(-1:Int)=Yz p ks:=by
 unfold Yz
 rw [if_neg]
 intro h
 obtain ⟨y,hy,hn⟩:=Fi.1 h
 obtain ⟨j,hj⟩:=C6 hy
 exact hp j y hj hn
theorem xq (p:Str→Bool) (ks:List Str):decide (0≤Yz p ks)=ks.any p:=by
 unfold Yz
 cases ks.any p<;>simp
theorem c59 (c:List Col) (hc:OkCols c) (s:Str) (Hp:List AObj):AFun Tryz.prog 59 [Ac s,.ro [Ar c]] Hp (B0 (AGd c s)):=by
 refine Ae [.tmp 3] [0,1] Tryz.func59 Tryz.ntmps59 (fun d=>?_)
 refine fu ?_;refine A9 Tryz.call60 (c60 c hc s _) ?_;refine Z0 ?_;refine A2 [3] ?_;refine G5 ?_;exact AAb

theorem AR7 (c:List Col) (hc:OkCols c) (ks:List Str) (hkl:ks.length≤1048576) (Hp:List AObj):AFun Tryz.prog 106 [Fq ks,.fn (.func 59) [] [.ro [Ar c]]] Hp (A3 (Yz (AGd c) ks)):=by
 refine Ae [.tmp 4] [0,1] Tryz.func106 Tryz.ntmps106 (fun d=>?_)
 refine fk ?_
 refine Bg (α:=Nat) (fun x=>⟨19,A6 0 (Fq ks) (A6 1 (.fn (.func 59) [] [.ro [Ar c]]) (A6 7 (A3 ks.length) (A6 8 (A3 (x:Nat)) (fun _=>.any)))),Hp,[],[],none⟩) (fun x=>x≤ks.length∧∀(j:Nat) (y:Str),j<x→ks[j]? = some y→¬AGd c y=true) (fun x=>ks.length-x) (0) (by simp) (Bl (by simp)) rfl (fun x hx=>?_)
 refine f9 ?_
 refine Co (fun ht9=>?_) (fun ht9=>?_)
 ·have hlt:x<ks.length:=by simpa using ht9
  refine fm ?_
  refine A5 (h:=Ah (x) (Ac ks[x]) (fun _=>B7 hlt)) (hr:=?_)
  refine A5 ?_;refine Na Tryz.call59 (c59 c hc ks[x] _) ?_;refine fw ?_
  refine A4 (fun ht16=>?_) (fun ht16=>?_)
  ·refine j5 ?_;refine Z51 ?_;exact Aa (Ai A7) ⟨by rw [AD6 hlt ht16 hx.2],rfl⟩
  refine Z68 ?_;exact AKq
 refine Z27 ?_;refine Z48 ?_;exact Aa (Ai A7) ⟨by rw [qc (P5 (by simp at ht9;omega) hx.2)],rfl⟩

theorem AR8 (c:List Col) (hc:OkCols c) (ks:List Str) (hkl:ks.length≤1048576) (Hp:List AObj):AFun Tryz.prog 58 [Fq ks,.fn (.func 59) [] [.ro [Ar c]]] Hp (B0 (ks.any (AGd c))):=by
 refine Ae [.tmp 4] [0,1] Tryz.func58 Tryz.ntmps58 (fun d=>?_)
 refine fu ?_;refine A9 Tryz.call106 (AR7 c hc ks hkl _) ?_;refine Z0 ?_;refine Z13 ?_;exact Aa (Ai A7) ⟨by rw [←xq];try rfl,rfl⟩

theorem c25 (q:Qry) (h:QW q) (c:List Col) (hc:OkCols c) (Hp:List AObj):AFun Tryz.prog 25 [Rq q,Ar c] Hp (A3 (De q c)):=by
 refine Ae [.tmp 4] [0,1] Tryz.func25 Tryz.ntmps25 (fun d=>?_)
 refine Z15 ?_;refine Jb ?_;refine Z31 ?_;refine A9 Tryz.call57 (c57 q h _) ?_;refine Qf ?_;refine C1 Tryz.call50 (C:=(((!(Lk q))==false))) (fun hB=>c50 c hc _) ?_;refine Z53 ?_;refine A2 [2,3,14] ?_
 refine A4 (fun ht14=>?_) (fun ht14=>?_)
 ·have hm:De q c=1:=if_pos ht14
  exact AEm
 refine ji ?_;refine Il ?_;refine A9 Tryz.call58 (AR8 c hc q.cols h.len _) ?_;refine A2 [2,3,18] ?_
 refine A4 (fun ht18=>?_) (fun ht18=>?_)
 ·have hm:De q c=9:=by unfold De;rw [if_neg (by rw [ht14];simp)];exact if_pos ht18
  exact AEm
 have ht18b:¬(q.cols.any fun s=>decide (Ay s c<0))=true:=fun e=>Bool.false_ne_true (ht18.symm.trans e)
 refine Qh ?_;refine A9 Tryz.call61 (c61 q h _) ?_;refine A5 ?_;refine A2 [2,3,21] ?_
 refine A4 (fun ht21=>?_) (fun ht21=>?_)
 ·have hm:De q c=0:=by unfold De;rw [if_neg (by rw [ht14];simp),if_neg ht18b,if_pos ht21]
  exact AEm
 have hm0:De q c=if (Ft q.whr c).2 != 0 then (Ft q.whr c).2 else if !Qu q.whr c 3 then 10 else 0:=by unfold De;rw [if_neg (by rw [ht14];simp),if_neg ht18b,if_neg (by rw [ht21];simp)]
 refine jh ?_;refine A9 Tryz.call62 (c62 61 q.whr h.ok (by decide) c hc _) ?_;refine Z75 ?_;refine A2 [2,3,6] ?_;refine Z1 ?_;refine A2 [2,3,6,30] ?_
 refine A4 (fun ht30=>?_) (fun ht30=>?_)
 ·have hm:De q c=(Ft q.whr c).2:=by rw [hm0,if_pos ht30]
  refine j5 ?_;exact Z44
 refine jh ?_;refine A9 Tryz.call63 (c63 61 q.whr h.ok (by decide) c hc 3 _) ?_;refine A5 ?_;refine A2 [36] ?_
 refine A4 (fun ht36=>?_) (fun ht36=>?_)
 ·have hm:De q c=10:=by rw [hm0,if_neg (by rw [ht30];simp),if_pos ht36]
  exact AEm
 have hm:De q c=0:=by rw [hm0,if_neg (by rw [ht30];simp),if_neg (by rw [ht36];simp)]
 refine Z3 ?_;refine Z48 ?_;exact AAi

abbrev qd (r:Row):List AV:=[A3 r.key,F4 r.l]
theorem RW.at {rows:List Row} (h:RW rows) {k:Nat} (hk:k<rows.length):rows[k].l.length≤1048576∧∀v∈rows[k].l, -9223372036854775808≤v.n∧v.n≤9223372036854775807:=h.each _ (Bf hk)
theorem c54 (q:Qry) (c:List Col) (rows:List Row) (Hp:List AObj):AFun Tryz.prog 54 [Rq q,Ar c,Hc rows] Hp (.fn (.func 102) [] [.ro [Hc rows],.ro (qoC false q),.ro [Ar c]]):=by
 refine Ae [.tmp 6] [0,1,2] Tryz.func54 Tryz.ntmps54 (fun d=>?_)
 refine Z23 ?_;refine A2 [3,4,5] ?_;refine vi ?_;refine Z76 ?_;exact Aa (Ai A7) ⟨rfl,rfl⟩ (hlow:=by simp [or_imp,forall_and];exact fun a _=>Am _ a)

theorem AR9 (l:Nat) (q:Qry) (h:QW q) (c:List Col) (hc:OkCols c) (rows:List Row) (hw:RW rows) (U:Nat→List AObj) (N:Nat→Prop) (Z:List AObj→Prop) (hlen:∀k,(U k).length=(U 0).length) (hll:l<(U 0).length)
  (hlw:∀k,∀x∈U k,ObjLow (U 0).length x) (h0:N 0) (hn:∀k y,rows[k]? = some y→N k→(Ca q c y.l).2=0→(Ca q c y.l).1=false→N (k+1)∧U (k+1)=U k)
  (he:∀k y X,rows[k]? = some y→N k→(Ca q c y.l).2≠0→AYield Tryz.prog l [.agg [A3 0,.nil],A3 (Ca q c y.l).2] (U k++X) (fun b H'=>∃V,H'=V++X∧V.length=(U 0).length∧(∀x∈V,ObjLow (U 0).length x)∧Z V))
  (hy:∀k y X,rows[k]? = some y→N k→(Ca q c y.l).2=0→(Ca q c y.l).1=true→AYield Tryz.prog l [Eb y,A3 0] (U k++X) (fun b H'=>(b=true∧N (k+1)∧H'=U (k+1)++X)∨(b=false∧∃V,H'=V++X∧V.length=(U 0).length∧(∀x∈V,ObjLow (U 0).length x)∧Z V)))
  (hR:N rows.length→Z (U rows.length)):ACall Tryz.prog 102 [.yield l,.ro [Hc rows],.ro (qoC false q),.ro [Ar c]] (U 0) (fun _ H'=>Z H'):=by
 refine Ae [] [0,1,2,3] Tryz.func102 Tryz.ntmps102 (fun d=>?_)
 refine Z15 ?_;refine A2 [0,2,3,9,10,11] ?_
 refine Bg (α:=Nat) (fun x=>⟨37,A6 0 (.yield l) (A6 2 (.ro (qoC false q)) (A6 3 (.ro [Ar c]) (A6 9 (Hc rows) (A6 10 (A3 rows.length) (A6 11 (A3 (x:Nat)) (fun _=>.any)))))),U x,[],[],none⟩) (fun x=>x≤rows.length∧N x) (fun x=>rows.length-x) (0) ⟨Aq _,h0⟩ (Bl (by simp)) rfl (fun x hx=>?_)
 refine Z2 ?_;refine A2 [0,2,3,9,10,11,12] ?_
 refine Co (fun ht12=>?_) (fun ht12=>?_)
 ·have hlt:x<rows.length:=by simpa using ht12
  have hwl:=hw.len
  refine Z77 ?_
  refine A5 (h:=Ah (x) (Eb rows[x]) (fun _=>B7 hlt)) (hr:=?_)
  refine Qe ?_;refine A2 [0,2,3,6,9,10,11] ?_;refine Z23 ?_;refine A9 Tryz.call103 (AR6 q h c hc rows[x].l (hw.at hlt).1 (hw.at hlt).2 _) ?_;refine Z75 ?_;refine A2 [0,2,3,6,7,8,9,10,11] ?_;refine Z7 ?_;refine A2 [0,2,3,6,7,8,9,10,11,24] ?_
  refine A4 (fun ht24=>?_) (fun ht24=>?_)
  ·refine Z93 ?_;refine A5 ?_
   refine R.yield (l:=l) (args:=[.agg [A3 0,.nil],A3 (Ca q c rows[x].l).2]) (he x rows[x] _ (Ab hlt) hx.2 (by simpa using ht24)) ?_
   rintro b V O hV ⟨W,h2,h3,h4,h5⟩
   obtain ⟨rfl,rfl⟩:=K7 h2 (by rw [hV,hlen x,h3])
   refine ⟨fun _=>by rw [h3];exact h4,fun o ho=>(by cases ho),?_⟩
   refine j7 ?_;exact AIc
  refine Ni ?_;refine Z6 ?_
  refine G.yield (l:=l) (C:=((Ca q c rows[x].l).1==true)) (args:=[Eb rows[x],A3 0]) (fun hC=>hy x rows[x] _ (Ab hlt) hx.2 (by simpa using ht24) (by simpa using hC)) ?_
  intro b V O hV hb hb0
  have hVO:O=[AObj.cells 58 (qd rows[x])]∧(((Ca q c rows[x].l).1=false∧N (x+1)∧V=U (x+1))∨((Ca q c rows[x].l).1=true∧b=true∧N (x+1)∧V=U (x+1))∨((Ca q c rows[x].l).1=true∧b=false∧V.length=(U 0).length∧(∀y∈V,ObjLow (U 0).length y)∧Z V)):=by
   cases hcn:(Ca q c rows[x].l).1 with
   | false =>
    obtain ⟨h1,h2⟩:=hb0 (by rw [hcn];rfl)
    obtain ⟨h3,h4⟩:=hn x _ (Ab hlt) hx.2 (by simpa using ht24) hcn
    exact ⟨h2,.inl ⟨rfl,h3,h1.trans h4.symm⟩⟩
   | true =>
    rcases hb (by rw [hcn];rfl) with ⟨h1,h3,h2⟩|⟨h1,W,h2,h3,h4,h5⟩
    ·have h6:=K7 h2 (by rw [hV,hlen x,hlen (x+1)])
     exact ⟨h6.2,.inr (.inl ⟨rfl,h1,h3,h6.1⟩)⟩
    obtain ⟨rfl,rfl⟩:=K7 h2 (by rw [hV,hlen x,h3])
    exact ⟨rfl,.inr (.inr ⟨rfl,h1,h3,h4,h5⟩)⟩
  obtain ⟨rfl,hVO⟩:=hVO
  have hVl:V.length=(U 0).length:=by rw [hV,hlen x]
  have hVw:∀y∈V,ObjLow (U 0).length y:=by
   rcases hVO with ⟨_,_,rfl⟩|⟨_,_,_,rfl⟩|⟨_,_,_,h,_⟩
   ·exact hlw _
   ·exact hlw _
   exact h
  refine ⟨fun _=>by rw [hVl];exact hVw,fun o ho=>(by cases ho),?_⟩
  refine Z53 ?_;refine A2 [0,2,3,9,10,11,35] ?_
  refine A4 (fun ht35=>?_) (fun ht35=>?_)
  ·have hRV:Z V:=by
    rcases hVO with ⟨h1,_⟩|⟨h1,h2,_⟩|⟨_,_,_,_,h5⟩
    ·rw [h1] at ht35;simp at ht35
    ·rw [h1,h2] at ht35;simp at ht35
    exact h5
   refine G5 ?_;refine Z26 ?_;exact Aa .nores (hp:=hRV)
  have hVn:N (x+1)∧V=U (x+1):=by
   rcases hVO with ⟨_,h2,h3⟩|⟨_,_,h2,h3⟩|⟨h1,h2,_⟩
   ·exact ⟨h2,h3⟩
   ·exact ⟨h2,h3⟩
   rw [h1,h2] at ht35;simp at ht35
  obtain ⟨hN,rfl⟩:=hVn
  refine Z68 ?_;refine A2 [0,2,3,9,10,11] ?_;refine AEq ?_
  exact D0 (own:=[]) (fun _=>.refl _) (by repeat (first|exact Bc|refine Bb (by first|(simp [or_imp,forall_and];done)|(simp [or_imp,forall_and];exact fun a _=>Am _ a)|(have:=hlen (x+1);simp;omega)) ?_)) (by simp) (by simp)
 have hxe:x=rows.length:=by have:=hx.1;simp at ht12;omega
 exact AI3

/-! What rewrite.turn, Forth, Back answer. -/
structure Pln where
 trees:List Expr
 whr:Expr
 lim:Int
def Po:Pln:=⟨[],Av,0⟩
abbrev xt (p:Pln):List AV:=[Cm p.trees,A3 p.whr.op,Ac p.whr.text,A3 p.whr.val.kind,A3 p.whr.val.n,Ac p.whr.val.s,Cm p.whr.kids,A3 p.lim]
abbrev m9 (p:Pln):AV:=.agg (xt p)
def Kg (c:List Col) (l:List Expr) (s:Str):Expr:=l.getD (Ay s c).toNat Av
def Iy (q:Qry) (c:List Col) (l:List Expr):List Expr:=if q.all then l else q.cols.map (Kg c l)
def Lm (q:Qry) (c:List Col) (l:List Expr):Pln×Int:=
 if q.whr.op==0 then (⟨Iy q c l,Av,q.lim⟩,0) else if (Cr q.whr c l).2 != 0 then (Po,(Cr q.whr c l).2) else (⟨Iy q c l,(Cr q.whr c l).1,q.lim⟩,0)
def Eo (q:Qry) (c:List Col) (l:List Mov):Pln×Int:=
 if (Dw c l).2 != 0 then (Po,1) else if De q (Dw c l).1 != 0 then (Po,De q (Dw c l).1) else if (Eh c l).2 != 0 then (Po,(Eh c l).2) else Lm q (Dw c l).1 (Eh c l).1
theorem ANq {q:Qry} {c:List Col} {l:List Expr} (h:(q.whr.op==0)=true):Lm q c l=(⟨Iy q c l,Av,q.lim⟩,0):=if_pos h
theorem ANr {q:Qry} {c:List Col} {l:List Expr} (h:(q.whr.op==0)=false) (h2:((Cr q.whr c l).2 != 0)=true):Lm q c l=(Po,(Cr q.whr c l).2):=by
 unfold Lm;rw [if_neg (by rw [h];simp),if_pos h2]
theorem ANs {q:Qry} {c:List Col} {l:List Expr} (h:(q.whr.op==0)=false) (h2:((Cr q.whr c l).2 != 0)=false):Lm q c l=(⟨Iy q c l,(Cr q.whr c l).1,q.lim⟩,0):=by
 unfold Lm;rw [if_neg (by rw [h];simp),if_neg (by rw [h2];simp)]
theorem xu {q:Qry} {c:List Col} {l:List Expr} (h:q.all=true):Iy q c l=l:=by unfold Iy;rw [h];rfl
theorem qe {q:Qry} {c:List Col} {l:List Expr} (h:q.all=false):Iy q c l=q.cols.map (Kg c l):=by unfold Iy;rw [h];rfl
theorem AGe:Le (.agg [.nil,A3 0,Ac [],A3 0,A3 0,Ac [],.nil,A3 0]) (m9 Po):=.agg _ _ rfl (by simp [Po,Av];repeat' (first|rfl|apply And.intro)) fun i y y' h h'=>by
 rcases i with _|_|_|_|_|_|_|_|i<;>simp at h h'<;>subst h<;>subst h'
 ·exact .inr ⟨rfl,_,rfl⟩
 ·exact .inl rfl
 ·exact .inl rfl
 ·exact .inl rfl
 ·exact .inl rfl
 ·exact .inl rfl
 ·exact .inr ⟨rfl,_,rfl⟩
 exact .inl rfl
/-! What rewrite.Run answers. -/
def Vp (p:Pln) (c:List Col) (l:List Val):Bool×Int:=if p.whr.op==0 then (true,0) else (Yk (Br p.whr c l),Sw (Br p.whr c l))
def Kh (p:Pln) (c:List Col) (l:List Val):Bool×Int:=if F9 c l then Vp p c l else (false,1)
def M2 (p:Pln) (c:List Col) (x:Row):Row×Int:=if (Be c x.l p.trees).2 != 0 then (⟨0,[]⟩,(Be c x.l p.trees).2) else (⟨x.key,(Be c x.l p.trees).1⟩,0)
def T8 (p:Pln) (c:List Col) (x:Row):Bool:=((Kh p c x.l).2==0)&&(Kh p c x.l).1
def stP (p:Pln) (c:List Col) (x:Row):Bool×Int:=if T8 p c x then (true,(M2 p c x).2) else Kh p c x.l
def Ml (p:Pln) (c:List Col) (x:Row):Row:=(M2 p c x).1
/-- Rows one behind the other, till one is wrong, or there are n. -/
def Kw (h:Row→Bool×Int) (g:Row→Row) (n:Int):List Row→List Row→List Row×Int
 | [],o=>(o,0)
 | x::r,o=>if (h x).2 != 0 then ([],(h x).2) else if (h x).1 then (if ((o.length+1:Nat):Int)==n then (o++[g x],0) else Kw h g n r (o++[g x])) else Kw h g n r o
def Pp (p:Pln) (c:List Col):Bool:=(!(Io c) || p.trees.any E0) || ((p.whr.op != 0)&&E0 p.whr)
def ai (p:Pln) (c:List Col) (rows:List Row):List Row×Int:=if Pp p c then ([],1) else if p.lim==0 then ([],0) else Kw (stP p c) (Ml p c) p.lim rows []
def Ln (h:Row→Bool×Int) (g:Row→Row) (rows:List Row) (k:Nat):List Row:=((rows.take k).filter fun x=>(h x).1).map g
section
variable {h:Row→Bool×Int} {g:Row→Row} {n:Int} {rows:List Row} {k:Nat} {y:Row}
theorem ct (hk:rows[k]? = some y) (hf:(h y).1=false):Ln h g rows (k+1)=Ln h g rows k:=by
 unfold Ln
 rw [N3,hk,Og]
 simp [Hh,hf]
theorem Wi (hk:rows[k]? = some y) (hf:(h y).1=true):Ln h g rows (k+1)=Ln h g rows k++[g y]:=by
 unfold Ln
 rw [N3,hk,Og]
 simp [Hh,hf]
theorem ma (k:Nat):(Ln h g rows k).length≤rows.length:=by
 unfold Ln
 rw [An]
 exact AMh
theorem T9 (hk:rows[k]? = some y):rows.drop k=y::rows.drop (k+1):=by
 obtain ⟨h1,h2⟩:=Ad.1 hk
 rw [Ig h1,h2]
variable (h g n rows)
def NSt (k:Nat):Prop:=Kw h g n rows []=Kw h g n (rows.drop k) (Ln h g rows k)
variable {h g n rows}
theorem AGf (hk:rows[k]? = some y) (hN:NSt h g n rows k) (he:(h y).2≠0):Kw h g n rows []=([],(h y).2):=by
 rw [hN,T9 hk,Kw,if_pos (by simpa using he)]
theorem AD7 (hk:rows[k]? = some y) (hN:NSt h g n rows k) (he:(h y).2=0) (hf:(h y).1=false):NSt h g n rows (k+1):=by
 unfold NSt
 rw [hN,T9 hk,Kw,if_neg (by rw [he];simp),if_neg (by rw [hf];simp),ct hk hf]
theorem AJx (hk:rows[k]? = some y) (hN:NSt h g n rows k) (he:(h y).2=0) (hf:(h y).1=true) (hl:(((Ln h g rows k).length+1:Nat):Int)≠n):NSt h g n rows (k+1):=by
 unfold NSt
 rw [hN,T9 hk,Kw,if_neg (by rw [he];simp),if_pos hf,if_neg (by simpa using hl),Wi hk hf]
theorem AGg (hk:rows[k]? = some y) (hN:NSt h g n rows k) (he:(h y).2=0) (hf:(h y).1=true) (hl:(((Ln h g rows k).length+1:Nat):Int)=n):Kw h g n rows []=(Ln h g rows (k+1),0):=by
 rw [hN,T9 hk,Kw,if_neg (by rw [he];simp),if_pos hf,if_pos (by simpa using hl),Wi hk hf]
theorem AGh (hN:NSt h g n rows rows.length):Kw h g n rows []=(Ln h g rows rows.length,0):=by
 rw [hN,dj,Kw]
theorem ANt:NSt h g n rows 0:=rfl
end
/-- query.Run's rows are such ones. -/
theorem Za {q:Qry} {c:List Col}:∀r o:List Row,Mk q c r o=Kw (fun x=>Ca q c x.l) (K4 q c) q.lim r o
 | [],o=>rfl
 | x::r,o=>by
  rw [Mk,Kw,Za r o,Za r (o++[K4 q c x])]
/-- What a plan must be, to be run. -/
structure PW (p:Pln):Prop where
 ok:okE 61 p.whr
 rng:Dq Ge p.whr=true
 tok:∀e∈p.trees,okE 61 e
 trng:∀e∈p.trees,Dq Ge e=true
 len:p.trees.length≤1048576
theorem AHp {p:Pln} {c:List Col} {x:Row} (h:T8 p c x=true):stP p c x=(true,(M2 p c x).2):=if_pos h
theorem AHq {p:Pln} {c:List Col} {x:Row} (h:T8 p c x=false):stP p c x=Kh p c x.l:=if_neg (by rw [h];simp)
def Qw (c:List Col) (x:Row) (s:Str):Val:=x.l.getD (Ay s c).toNat noV
theorem AD8 {q:Qry} {c:List Col} {x:Row} (h:q.all=true):K4 q c x=x:=by unfold K4;rw [h];rfl
theorem xv {q:Qry} {c:List Col} {x:Row} (h:q.all=false):K4 q c x=⟨x.key,q.cols.map (Qw c x)⟩:=by unfold K4;rw [h];rfl
theorem tq {c:List Col} {s:Str} (h:¬Ay s c<0):∃j:Nat,Ay s c=(j:Int)∧j<c.length:=Gi h
theorem c55 (q:Qry) (h:QW q) (c:List Col) (hc:OkCols c) (x:Row) (hx:x.l.length≤1048576) (hr:c.length=x.l.length) (hn:∀s∈q.cols,¬Ay s c<0) (Hp:List AObj):AFun Tryz.prog 55 [Rq q,Ar c,Eb x] Hp (Eb (K4 q c x)):=by
 refine Ae [.cell 6 58] [0,1,2] Tryz.func55 Tryz.ntmps55 (fun d=>?_)
 refine Z1 ?_;refine P1 ?_;refine A2 [1,3,5,6] ?_;refine AI8 ?_;refine Z14 ?_;refine A2 [1,3,5,6,7] ?_;refine Z7 ?_;refine A2 [1,3,5,6,7,14] ?_
 refine A4 (fun ht14=>?_) (fun ht14=>?_)
 ·refine Z1 ?_;refine A9 Tryz.call48 (c48 x.l hx _) ?_;refine A5 ?_;refine Gs ?_;refine A2 [6,7] ?_;refine Vy ?_;refine ve ?_;exact Aa (Ai (B4 jA jS)) ⟨by rw [AD8 ht14],rfl⟩ (hlow:=by simp [or_imp,forall_and])
 refine Z3 ?_;refine Z62 ?_;refine H5 1 1 3 ?_;refine Z58 ?_;refine A2 [1,5,6,7,21,22,23] ?_
 refine Bg (α:=Nat) (fun i=>⟨41,A6 1 (Ar c) (A6 5 (.ro (qd x)) (A6 6 (.ptr (oid Hp.length 0) 0) (A6 7 (.ptr (oid Hp.length 1) 0) (A6 21 (Fq q.cols) (A6 22 (A3 (q.cols.length:Nat)) (A6 23 (A3 (i:Nat)) (fun _=>.any))))))),Hp,[.cells 58 [A3 0,.nil],.cells 58 [A3 x.key,.slice true 3 (((q.cols.take i).map (Qw c x)).map Bn)]],[],none⟩) (fun i=>i≤q.cols.length) (fun i=>q.cols.length-i) (0) (Aq _) (Bl (by simp)) rfl (fun i hi=>?_)
 refine Z2 ?_;refine A2 [1,5,6,7,21,22,23,24] ?_
 refine Co (fun ht24=>?_) (fun ht24=>?_)
 ·have hlt:i<q.cols.length:=by simpa using ht24
  have hkl:=h.len
  obtain ⟨j,hj,hjc⟩:=tq (hn _ (Bf hlt))
  have hk:0≤Ay q.cols[i] c∧(Ay q.cols[i] c).toNat<x.l.length:=by omega
  have hget:(x.l.map Bn)[(Ay q.cols[i] c).toNat]? = some (Bn (Qw c x q.cols[i])):=by
   rw [C5,Ab hk.2]
   unfold Qw
   rw [Cc,Ab hk.2]
   rfl
  refine Z77 ?_
  refine A5 (h:=Ah (i) (Ac q.cols[i]) (fun _=>B7 hlt)) (hr:=?_)
  refine Z0 ?_;refine A2 [1,5,6,7,9,21,22,23] ?_;refine Tw [0,1,0,4,0,0,48,124,252,508,1023,2047,4095] [1] [.q 1 [] [0],.s [28] (some 0) [] [],.q 8 [] []] (fun _=>Hp) (fun B=>[.cells 58 [A3 0,.nil],.cells 58 (if B 0=true then [A3 x.key,.slice false 3 (((q.cols.take i).map (Qw c x)).map Bn)] else [A3 x.key,.slice true 3 (((q.cols.take i).map (Qw c x)).map Bn)])]) Ak (by kernel_rfl) rfl rfl (fun _=>rfl) ?_
  apply Y.q
  ·intro B hT hF
   exact Z56
  case hTF=>decide
  refine Y.loadOwnT (u:=Hp.length) (n:=1) (t':=58) (cs:=[A3 x.key,.slice true 3 (((q.cols.take i).map (Qw c x)).map Bn)]) (cs':=[A3 x.key,.slice false 3 (((q.cols.take i).map (Qw c x)).map Bn)]) Tryz.isAgg54 (fun B hB=>⟨rfl,by simp only [hB];rfl,by simp [upd],rfl⟩) ?_
  apply Y.q
  ·intro B hT hF
   refine W3 ?_;refine Dx Tryz.call60 (c60 c hc q.cols[i] _) ?_
   refine As (h:=Ah ((Ay q.cols[i] c).toNat) (Bn (Qw c x q.cols[i])) (fun _=>hget)) (hr:=?_)
   exact v8
  case hTF=>decide
  refine Er (tn:=[1]) (O:=[.cells 58 [A3 0,.nil],.cells 58 [A3 x.key,.slice false 3 (((q.cols.take i).map (Qw c x)).map Bn)]]) ?_
  refine Ek jU Tryz.type24 ?_ ?_ ?_
  ·simp only [An,C0,B2,Bz,Tryz.t24];omega
  ·simp only [An,C0,B2,Bz,Tryz.t24];omega
  refine AEi ?_;refine A2 [1,5,6,7,21,22,23] ?_;refine R9 ?_;refine A2 [1,5,6,7,21,22,23] ?_;refine Bm (i+1) hlt (by omega) ?_;exact Ds (by rw [Ss hlt,Bj];rfl)
 have hxe:q.cols.length≤i:=by simpa using ht24
 refine Z27 ?_;refine Vy ?_;refine Z76 ?_;exact Aa (Ai (B4 jA jS)) ⟨by rw [xv ht14,Ej hxe],rfl⟩ (hlow:=by simp [or_imp,forall_and];intro y hy;obtain ⟨s,_,rfl⟩:=C3.1 (N1 hy);simp [or_imp,forall_and])

end Go.SX.Nb
namespace Go.SX
variable [GI:GlobInv]
open Classical
section
variable {P:Program} {d:Nat} {st:St} {dst:Option Tmp} {ty:TypeId} {pos:String} {aft:Array Edge} {gd:Option (Nat×Bool)}
variable {sz:Nat} {fr:Nat→AV} {up own own':List AObj} {dfs:List Nat} {rnd:Option Nat} {Q:St→Prop} {ops:Array Oper} {rest:List Oper} {s:Nat}
theorem OpV.le {o:Oper} {st:St} {y y':AV} (h:OpV P d o st y) (hl:Le y y'):OpV P d o st y':=fun G a w hrel Q' =>
 J9 (fun a w ⟨G',v,e,r,k,hrep⟩=>⟨G',v,e,r,k,hrep.le hl⟩) (h G a w hrel Q')
variable {l0:List Oper} {E:List Oper→(Nat→AV)→Prop} {kd:Nat}
end
end Go.SX
namespace Go.SX
variable [GI:GlobInv]
open Classical
section
variable {P:Program} {d:Nat} {st:St} {ty:TypeId} {pos:String} {aft:Array Edge} {gd:Option (Nat×Bool)} {ats:Array TypeId}
variable {sz:Nat} {fr:Nat→AV} {up own own':List AObj} {dfs:List Nat} {rnd:Option Nat} {Q:St→Prop} {ops:Array Oper} {rest:List Oper} {s:Nat}
/-- A struct that is built, whose nil slices are taken as empty ones. -/
theorem R.buildLe {t:TypeId} {fs:Array Field} {places:Array (Nat×Nat)} {parts:List (Nat×Operand)} {z:Value} {zs cs:List AV} {ys:List (Nat×AV)} (y':AV) (hle:Le (.agg cs) y') (hu:P.underlying t=some (.struct fs))
  (hpl:∀w,(fs.mapM (m:=Sem) fun f=>do Pure.pure (f.offset,←Go.sizeOf f.type)).run P w=.ok places w) (hz:∀w,(zeroValue t).run P w=.ok z w) (hr:ARun P d ops rest ⟨sz,A6 s y' fr,up,own,dfs,rnd⟩ Q)
  (hzs:z.cells.toList.map En=zs:=by exact sL0) (hone:zs.all AV.one=true:=by exact sL2) (hys:(parts.map fun p=>(p.1,B6 fr p.2))=ys:=by exact sL0)
  (hf:L7 (fun i=>places[i]?) zs ys=some cs:=by simp [L7,go_sem]<;>rfl) (hs:Nat.blt s sz=true:=by rfl):
  ARun P d ops (⟨some s,.build t parts.toArray,ty,pos,aft,none⟩::rest) ⟨sz,fr,up,own,dfs,rnd⟩ Q:=by
 subst hys
 exact V0 rfl rfl hs (OpV.le (OpV.build hu hpl hz hzs.symm hone hf) hle) hr
end
end Go.SX
