/- On the way (part 10). -/
import Derived.Shelf.Strconv.AtoiAll
import Derived.Lib.ItoaLen
import Derived.Test.YtdjhkihdmiednaaGreatDoorLoadCallsCardSaidPart9
set_option linter.all false
namespace Go.SX.Nb
open Go Go.SX Go.Proofs Go.RowKit
variable [ErrAt]
set_option maxRecDepth 4000
theorem t2 (s:Str) (hs:s.length≤1048576) (Hp:List AObj):AFun Tryz.prog 183 [A8 s] Hp (.tup [A3 (Nx s),.any]):=by
 refine AFun.libAny (xs:=[sv s]) (n:=.int .i64 (Nx s)) (fun w hg=>?_)
 have hz:(⟨s.toArray⟩:ByteArray).size≤1048576:=by simpa [ByteArray.size] using hs
 unfold Nx
 rcases h:Lib.atoiAll s with v|_|_
 ·refine (Any.strconv_Atoi_ok Tryz.lays172 ⟨s.toArray⟩ (by omega) v h w).mono ?_
  rintro e w' ⟨rfl,hb⟩
  refine ⟨_,rfl,?_⟩
  rcases hb with rfl|⟨t,rfl⟩
  ·exact Below.refl _ _
  exact Lib.bytesWorld_below _ _ _
 ·refine (Any.strconv_Atoi_syntax Tryz.lays172 ⟨s.toArray⟩ (by omega) h _ w (Tc hg) (.inr ⟨_,_,rfl⟩)).mono ?_
  rintro e w' ⟨N,rfl,_,_,hb⟩
  exact ⟨_,rfl,hb⟩
 refine (Any.strconv_Atoi_range Tryz.lays172 ⟨s.toArray⟩ (by omega) h _ w (Jq hg) (.inr ⟨_,_,rfl⟩)).mono ?_
 rintro e w' ⟨N,rfl,_,_,hb⟩
 exact ⟨_,rfl,hb⟩
theorem c58 (n:Int) (h0 : -9223372036854775808≤n) (h1:n≤9223372036854775807) (Hp:List AObj):AFun Tryz.prog 58 [A3 n] Hp (A8 (Lib.itoa n)):=by
 refine Ht (xs:=[.int .i64 n]) (v:=sv (Lib.itoa n)) (fun G w=>.v _ _) (fun w hg=>?_)
 refine (Any.strconv_Itoa Tryz.lays171 n h0 h1 w (V2 hg)).mono ?_
 rintro e w' ⟨rfl,k,os,rfl⟩
 exact ⟨rfl,Pa _ _ _⟩
end Go.SX.Nb
namespace Go.SX.Nb
open Go Go.SX Go.Proofs
variable [ErrAt]
set_option maxRecDepth 4000
theorem na {l:List Tok} {s:Str} {S:QS} (h:isQ l s S=true):(Ae l S.i).kind≠0:=by
 unfold isQ at h
 simp only [B1,Fg,beq_iff_eq] at h
 rcases h.1.2 with e|e<;>rw [e]<;>decide
theorem H5 {l:List Tok} (hl:TokEnd l) {s:Str} {S:QS} (hi:S.i<l.length) (h:isQ l s S=true):(D5 S).i<l.length:=hl.step hi (na h)
theorem M8 (l:List Tok) (e:Int) (S:QS):(Fy l e S).i=S.i:=by unfold Fy;split<;>rfl
theorem W5 {l:List Tok} (hl:TokEnd l) {s:Str} {S:QS} (hi:S.i<l.length):(M6 l s S).i<l.length:=by
 unfold M6
 split
 ·rename_i h;exact H5 hl hi h
 rw [M8];exact hi
theorem Iz {l:List Tok} (hl:TokEnd l) {q:Qry} {S:QS} (hi:S.i<l.length) (hc:q.cols.length≤12):S.i≤(En l (q,S)).2.i∧(En l (q,S)).2.i<l.length∧(En l (q,S)).1.cols.length≤12:=by
 unfold En
 split
 ·exact ⟨Ah _,hi,hc⟩
 split
 ·exact ou
 split
 ·exact ou
 rename_i h1 h2 h3
 have hk:(Ae l S.i).kind≠0:=by
  have:(Ae l S.i).kind=1:=by simpa using h2
  rw [this];decide
 refine ⟨Hq _,hl.step hi hk,?_⟩
 simp only [beq_iff_eq] at h3
 rw [Am,Ow]
 simp only at h3 ⊢
 omega
/-- Where the loop of names stands. -/
structure QNames (l:List Tok) (r0 r:Qry×QS):Prop where
 lt:r.2.i<l.length
 cols:r.1.cols.length≤12
 fuel:∃n,Hh l l.length r0=Hh l n r∧l.length-r.2.i≤n
theorem QNames.start {l:List Tok} {r:Qry×QS} (h1:r.2.i<l.length) (h2:r.1.cols.length≤12):QNames l r r:=⟨h1,h2,l.length,rfl,by omega⟩
theorem QNames.on {l:List Tok} (hl:TokEnd l) {r0 r:Qry×QS} (h:QNames l r0 r) (hq:isQ l [44] r.2=true):QNames l r0 (En l (r.1,D5 r.2))∧r.2.i+1≤(En l (r.1,D5 r.2)).2.i:=by
 obtain ⟨n,e,hn⟩:=h.fuel
 have hlt:=H5 hl h.lt hq
 obtain ⟨f1,f2,f3⟩:=Iz hl (q:=r.1) hlt h.cols
 have h1:=h.lt
 refine ⟨⟨f2,f3,n-1,?_,?_⟩,f1⟩
 ·rw [e]
  obtain ⟨m,rfl⟩:∃m,n=m+1:=⟨n-1,by omega⟩
  rw [Hh,if_pos hq]
  rfl
 have:r.2.i+1≤(En l (r.1,D5 r.2)).2.i:=f1
 omega
theorem QNames.out {l:List Tok} {r0 r:Qry×QS} (h:QNames l r0 r) (hq:isQ l [44] r.2=false):Hh l l.length r0=r:=by
 obtain ⟨n,e,_⟩:=h.fuel
 rw [e]
 cases n with
 | zero=>rfl
 | succ n=>rw [Hh,if_neg (by rw [hq];simp)]
theorem qA {Hp:List AObj} {o ox:Nat} {A B:AObj} (hl:o<Hp.length) (hne:ox≠o):((Hp.set o A).set ox B)[o]? = some A:=by rw [Cd hne];simp [hl]
theorem qB {Hp:List AObj} {o ox:Nat} {A B:AObj} (hl:ox<Hp.length):((Hp.set o A).set ox B)[ox]? = some B:=by simp [hl]
theorem gq {Hp:List AObj} {o ox:Nat} {A A' B:AObj} (hne:ox≠o):((Hp.set o A).set ox B).set o A'=(Hp.set o A').set ox B:=by rw [Ij _ _ hne,Ba]
theorem t4 {Hp:List AObj} {o ox m:Nat} {A A' B B':AObj} (hl:o<Hp.length) (hlx:ox<Hp.length) (hne:ox≠o) (hA:ObjLow m A') (hB:ObjLow m B') (h:∀x∈(Hp.set o A).set ox B,ObjLow m x):∀x∈(Hp.set o A').set ox B',ObjLow m x:=by
 intro x hx
 obtain ⟨i,hi⟩:=Cc hx
 by_cases h1:i=ox
 ·subst h1
  rw [qB hlx] at hi
  injection hi with hi
  subst hi
  exact hB
 by_cases h2:i=o
 ·subst h2
  rw [qA hl hne] at hi
  injection hi with hi
  subst hi
  exact hA
 refine h x (Ax (i:=i) ?_)
 rw [Cd (Ne.symm h1),Cd (Ne.symm h2)] at hi ⊢
 exact hi
/-- A call that turns the parser and the query. -/
theorem Zh {d:Nat} {ops:Array Oper} {rest:List Oper} {sz s:Nat} {fr:Nat→AV} {Hp:List AObj} {rnd:Option Nat} {Q:St→Prop} {ty:TypeId} {pos:String} {aft:Array Edge} {g:FuncId} {xs:List Operand} {ats:Array TypeId} {args:List AV} {l:List Tok} {S S':QS} {q q':Qry} {o oq:Nat}
  (hcall:∀args w,(callFunc g args).run Tryz.prog w=.ok (.enter g args) w) (hl:o<Hp.length) (hlq:oq<Hp.length) (hne:oq≠o)
  (h:ACall Tryz.prog g args ((Hp.set o (prq l S)).set oq (qo true q)++[]) (fun r H'=>r=Nz∧H'=(((Hp.set o (prq l S)).set oq (qo true q)++[]).set o (prq l S')).set oq (qo true q')))
  (hr:ARun Tryz.prog d ops rest ⟨sz,Aa s Nz fr,(Hp.set o (prq l S')).set oq (qo true q'),[],[],rnd⟩ Q)
  (ha:xs.map (B6 fr)=args:=by simp only [go_sem,↓reduceIte,Nat.reduceEqDiff,Nat.reduceAdd]<;>rfl) (hs:Nat.blt s sz=true:=by rfl):
  ARun Tryz.prog d ops (⟨some s,.call ⟨.value (.func g),xs.toArray,ats⟩,ty,pos,aft,none⟩::rest) ⟨sz,fr,(Hp.set o (prq l S)).set oq (qo true q),[],[],rnd⟩ Q:=by
 refine R.callX (up':=(Hp.set o (prq l S')).set oq (qo true q')) (own':=[]) hcall (h.mono fun r H' e=>⟨e.1,e.2.trans ?_⟩) (by simp) (fun hlow=>?_) hr (by simp) ha hs
 ·rw [Hw,Hw,gq hne,Ba]
 exact t4 hl hlq hne Fs gm hlow
theorem nb (b:Bool) (q:Qry):AObj.cells 40 [Aj b,.slice true 1 (q.cols.map A8),A3 q.whr.op,A8 q.whr.text,A3 q.whr.val.kind,A3 q.whr.val.n,A8 q.whr.val.s,.slice false 6 (q.whr.kids.map Aq),A3 q.lim]=qo true (I4 b q):=rfl
theorem qd {l:List Tok} {q:Qry} {S:QS} (h:isQ l [42] S=true):Ix l (q,S)=(I4 true q,D5 S):=if_pos h
theorem qe {l:List Tok} {q:Qry} {S:QS} (h:isQ l [42] S=false):Ix l (q,S)=Hh l l.length (En l (I4 false q,S)):=if_neg (by show ¬(isQ l [42] S=true);rw [h];simp)
theorem t6 (l:List Tok) (S:QS) (q:Qry) (o oq:Nat) (Hp:List AObj) (hne:oq≠o) (ho:Hp[o]? = some (prq l S)) (hoq:Hp[oq]? = some (qo true q)) (hi:S.i<l.length) (hl:TokEnd l) (hll:l.length≤500000) (hc12:q.cols.length≤12):ACall Tryz.prog 131 [.ptr o 0,.ptr oq 0] Hp (fun r H'=>r=Nz∧H'=(Hp.set o (prq l (Ix l (q,S)).2)).set oq (qo true (Ix l (q,S)).1)):=by
 have hlo:=(Ac.1 ho).1
 have hlq:=(Ac.1 hoq).1
 refine Ai [] [0,1] Tryz.func131 Tryz.ntmps131 (fun d=>?_)
 refine Z7 ?_;refine Bf Tryz.call180 ho (by simp) Fs (gn l S [42] o _ (An ho) hi (by omega)) ?_;refine Z0 ?_
 refine Di jS (by rw [Cd (Ne.symm hne)];exact hoq) ?_ ?_
 ·simp
 refine A2 [0,1] ?_;refine Z16 ?_
 refine A4 (h:=Bp (qB hlq)) (hr:=?_)
 refine A2 [0,1,12] ?_
 refine A6 (fun ht12=>?_) (fun ht12=>?_)
 ·have hq:isQ l [42] S=true:=ht12
  have e:=qd (q:=q) hq
  rw [Ql hq,hq]
  refine Z28 ?_;exact A9 .nores (hp:=⟨rfl,by rw [e];rfl⟩)
 have hq:isQ l [42] S=false:=ht12
 have e:=qe (q:=q) hq
 rw [Qm hq,hq]
 rw [nb]
 refine Z5 ?_;refine Df ?_
 have f0:=Iz hl (q:=I4 false q) hi hc12
 refine Z0 ?_
 refine Zh Tryz.call181 hlo hlq hne (qc l S (I4 false q) o oq _ hne (An (qA hlo hne)) (An (qB hlq)) hi (by omega) (by show q.cols.length≤_;omega)) ?_
 refine A2 [0,1] ?_
 refine C8 (α:=Qry×QS) (fun r=>⟨21,Aa 0 (.ptr o 0) (Aa 1 (.ptr oq 0) (fun _=>.any)),(Hp.set o (prq l r.2)).set oq (qo true r.1),[],[],none⟩) (fun r=>QNames l (En l (I4 false q,S)) r) (fun r=>l.length-r.2.i) (En l (I4 false q,S)) (.start f0.2.1 f0.2.2) (Es _) rfl (fun r hr=>?_)
 refine Z19 ?_;refine Bf Tryz.call180 (qA hlo hne) (by simp) Fs (gn l r.2 [44] o _ (An (qA hlo hne)) hr.lt (by omega)) ?_;refine A2 [0,1,17] ?_
 refine A6 (fun ht17=>?_) (fun ht17=>?_)
 ·have hq1:isQ l [44] r.2=true:=ht17
  have hlt1:=H5 hl hr.lt hq1
  have hon:=hr.on hl hq1
  rw [Ql hq1,gq hne]
  refine Z5 ?_;refine Gy ?_;refine Z41 ?_
  refine Zh Tryz.call181 hlo hlq hne (qc l (D5 r.2) r.1 o oq _ hne (An (qA hlo hne)) (An (qB hlq)) hlt1 (by omega) (by have:=hr.cols;omega)) ?_
  refine A2 [0,1] ?_;refine F8 ?_
  refine C0 (En l (r.1,D5 r.2)) hon.1 (by have:=hr.lt;have:=hon.2;omega) (Cm rfl)
 have hq1:isQ l [44] r.2=false:=ht17
 have hout:=hr.out hq1
 rw [Qm hq1,gq hne]
 refine Z29 ?_;refine K.lpE ?_;exact L2 .nores (hp:=⟨rfl,by rw [e,hout]⟩)

theorem jy {l:List Tok} {q:Qry} {S:QS} (h:isQ l K1 S=false):Gw l (q,S)=(q,S):=if_neg (by show ¬(isQ l K1 S=true);rw [h];simp)
theorem jz {l:List Tok} {q:Qry} {S:QS} (h:isQ l K1 S=true) (h2:((atM l (S.i+1)).2.2.1 != 0)=true):Gw l (q,S)=(q,⟨S.i+1,(atM l (S.i+1)).2.2.1,(atM l (S.i+1)).2.2.2⟩):=by
 unfold Gw
 rw [if_pos (by exact h),if_pos (by exact h2)]
theorem k6 {l:List Tok} {q:Qry} {S:QS} {k:Nat} (h:isQ l K1 S=true) (h2:((atM l (S.i+1)).2.2.1 != 0)=false) (hk:(atM l (S.i+1)).2.1=(k:Int)):Gw l (q,S)=(⟨q.all,q.cols,(atM l (S.i+1)).1,q.lim⟩,⟨k,S.code,S.at_⟩):=by
 unfold Gw
 rw [if_pos (by exact h),if_neg (by show ¬_=true;rw [h2];simp),hk]
 rfl
theorem k7 {l:List Tok} {q:Qry} {S:QS} (h:isQ l Iy S=false):Fq l (q,S)=(q,S):=if_neg (by show ¬(isQ l Iy S=true);rw [h];simp)
theorem k8 {l:List Tok} {q:Qry} {S:QS} (h:isQ l Iy S=true) (h2:((Ae l (S.i+1)).kind != 3)=true):Fq l (q,S)=(q,Fy l 8 (D5 S)):=by
 unfold Fq
 rw [if_pos (by exact h),if_pos (by exact h2)]
theorem k9 {l:List Tok} {q:Qry} {S:QS} (h:isQ l Iy S=true) (h2:((Ae l (S.i+1)).kind != 3)=false) (h3:decide ((100000:Int)<Nx (Ae l (S.i+1)).text)=true):Fq l (q,S)=(q,Fy l 3 (D5 S)):=by
 unfold Fq
 rw [if_pos (by exact h),if_neg (by show ¬_=true;rw [h2];simp),if_pos (by exact h3)]
theorem ka {l:List Tok} {q:Qry} {S:QS} (h:isQ l Iy S=true) (h2:((Ae l (S.i+1)).kind != 3)=false) (h3:decide ((100000:Int)<Nx (Ae l (S.i+1)).text)=false):Fq l (q,S)=(⟨q.all,q.cols,q.whr,Nx (Ae l (S.i+1)).text⟩,D5 (D5 S)):=by
 unfold Fq
 rw [if_pos (by exact h),if_neg (by show ¬_=true;rw [h2];simp),if_neg (by show ¬_=true;rw [h3];simp)]
theorem H6 {Hp:List AObj} {o:Nat} {A:AObj} (hl:o<Hp.length):(Hp.set o A)[o]? = some A:=by simp [hl]
theorem bx {Hp:List AObj} {o oq:Nat} {A B:AObj} (hne:oq≠o) (hoq:Hp[oq]? = some B):(Hp.set o A)[oq]? = some B:=by rw [Cd (Ne.symm hne)];exact hoq
theorem t7 (l:List Tok) (S:QS) (q:Qry) (o oq:Nat) (Hp:List AObj) (hne:oq≠o) (ho:Hp[o]? = some (prq l S)) (hoq:Hp[oq]? = some (qo true q)) (hi:S.i<l.length) (hl:TokEnd l) (hll:l.length≤500000) (hc12:q.cols.length≤12):ACall Tryz.prog 132 [.ptr o 0,.ptr oq 0] Hp (fun r H'=>r=Nz∧H'=(Hp.set o (prq l (Gw l (q,S)).2)).set oq (qo true (Gw l (q,S)).1)):=by
 have hlo:=(Ac.1 ho).1
 have hlq:=(Ac.1 hoq).1
 refine Ai [] [0,1] Tryz.func132 Tryz.ntmps132 (fun d=>?_)
 refine Z19 ?_;refine Bf Tryz.call180 ho (by simp) Fs (gn l S K1 o _ (An ho) hi (by omega)) ?_;refine im ?_
 refine A6 (fun ht9=>?_) (fun ht9=>?_)
 ·have hq:isQ l K1 S=false:=by simpa using ht9
  have e:=jy (q:=q) hq
  rw [Qm hq,Bv ho]
  refine Dg ?_;exact Z9
 have hq:isQ l K1 S=true:=by simpa using ht9
 have hi1:S.i+1<l.length:=H5 hl hi hq
 rw [Ql hq]
 refine Z5 ?_;refine F7 [0,1,3,7,0,16,48,112,255,511,1023,1023,1023,0,0,26623,61439,131071] [] [.q 13 [] [],.s [4] none [] [],.s [6] none [] [],.s [4] none [] [],.q 1 [] [],.s [6] none [] []] (fun _=>Hp.set o (prq l (D5 S))) (fun _=>[]) Av (by kernel_rfl) rfl rfl (fun _=>rfl) ?_
 apply Y.q
 ·intro B hT hF
  refine Z34 ?_
  refine Bb (h:=Bp (H6 hlo)) (hr:=?_)
  refine Z34 ?_
  refine Bb (h:=Bp (H6 hlo)) (hr:=?_)
  refine D.call Tryz.call182 (su l (S.i+1) hi1 hl hll (fun n Dv h1 h2=>br hl (by omega) n Dv h1 h2) _) ?_;exact Z99
 case hTF=>decide
 refine Y.allocP Tryz.zeroValue38 ?_;refine Y.allocP Tryz.zeroValue67 ?_;refine Y.storeP Tryz.sizeOf38 ?_
 apply Y.q
 ·intro B hT hF
  exact Z37
 case hTF=>decide
 refine Y.storeP Tryz.sizeOf67 ?_;refine Et (tn:=[])  ?_;refine A2 [0,1,4,5,6] ?_;refine Z30 ?_;refine A2 [0,1,4,5,6,25] ?_
 refine A6 (fun ht25=>?_) (fun ht25=>?_)
 ·have e:=jz (q:=q) hq ht25
  refine Z21 ?_
  refine Di jS (H6 hlo) ?_ ?_
  ·simp
  refine A2 [] ?_;refine Dg ?_;exact Z9
 obtain ⟨k,hk,hkl⟩:=Zb hl (by omega) hi1 (by simpa using ht25)
 have e:=k6 (q:=q) hq ht25 hk
 rw [hk]
 refine Z5 ?_;refine Z41 ?_;refine Z66 ?_
 refine Di jS (bx hne hoq) ?_ ?_
 ·intro z hz
  simp only [Bt,Fh,or_false] at hz
  rcases hz with rfl|rfl|rfl|rfl|rfl|rfl
  all_goals first|exact Fe|simp
 refine Z0 ?_
 refine Di jS (qA hlo hne) ?_ ?_
 ·simp
 exact Z38

theorem t8 (l:List Tok) (S:QS) (q:Qry) (o oq:Nat) (Hp:List AObj) (hne:oq≠o) (ho:Hp[o]? = some (prq l S)) (hoq:Hp[oq]? = some (qo true q)) (hi:S.i<l.length) (hl:TokEnd l) (hll:l.length≤500000) (hc12:q.cols.length≤12):ACall Tryz.prog 133 [.ptr o 0,.ptr oq 0] Hp (fun r H'=>r=Nz∧H'=(Hp.set o (prq l (Fq l (q,S)).2)).set oq (qo true (Fq l (q,S)).1)):=by
 have hlo:=(Ac.1 ho).1
 have hlq:=(Ac.1 hoq).1
 refine Ai [] [0,1] Tryz.func133 Tryz.ntmps133 (fun d=>?_)
 refine Z19 ?_;refine Bf Tryz.call180 ho (by simp) Fs (gn l S Iy o _ (An ho) hi (by omega)) ?_;refine im ?_
 refine A6 (fun ht9=>?_) (fun ht9=>?_)
 ·have hq:isQ l Iy S=false:=by simpa using ht9
  have e:=k7 (q:=q) hq
  rw [Qm hq,Bv ho]
  refine Dg ?_;exact Z9
 have hq:isQ l Iy S=true:=by simpa using ht9
 have hi1:S.i+1<l.length:=H5 hl hi hq
 rw [Ql hq]
 refine Z5 ?_;refine F7 [0,1,3,7,0,16,48,112,255,511,0,2047] [] [.q 10 [] [],.s [4] none [] [],.s [4] none [] []] (fun _=>Hp.set o (prq l (D5 S))) (fun _=>[]) Av (by kernel_rfl) rfl rfl (fun _=>rfl) ?_
 apply Y.q
 ·intro B hT hF
  refine Z34 ?_
  refine Bb (h:=Bp (H6 hlo)) (hr:=?_)
  refine Z34 ?_
  refine Bb (h:=Bp (H6 hlo)) (hr:=?_)
  refine Bb (h:=Ay ((S.i+1)) (Ga (Ae l (S.i+1))) (fun _=>Iw hi1)) (hr:=?_)
  exact Z37
 case hTF=>decide
 refine ls ?_;refine Et (tn:=[])  ?_;refine A2 [0,1,4] ?_;refine Z1 ?_;refine Ab Tryz.call183 (t2 (Ae l (S.i+1)).text (hl.text _) _) ?_;refine Z33 ?_;refine A2 [0,1,4,5] ?_;refine Z14 ?_;refine Z21 ?_;refine A2 [0,1,5,26] ?_
 refine A6 (fun ht26=>?_) (fun ht26=>?_)
 ·have e:=k8 (q:=q) hq ht26
  refine Z2 ?_;refine Bf Tryz.call134 (H6 hlo) (by simp) Fs (bw l (D5 S) 8 o _ (An (H6 hlo)) hi1) ?_;refine A2 [] ?_;refine Dg ?_;refine K.blR ?_;exact Z9
 refine Z16 ?_;refine A2 [0,1,5,32] ?_
 refine A6 (fun ht32=>?_) (fun ht32=>?_)
 ·have e:=k9 (q:=q) hq ht26 ht32
  refine Z2 ?_;refine Bf Tryz.call134 (H6 hlo) (by simp) Fs (bw l (D5 S) 3 o _ (An (H6 hlo)) hi1) ?_;refine A2 [] ?_;refine Dg ?_;refine K.blR ?_;exact Z9
 have e:=ka (q:=q) hq ht26 ht32
 refine Z55 ?_;refine Z21 ?_
 refine Di jS (bx hne hoq) ?_ ?_
 ·simp
 refine A2 [0] ?_;refine Z58 ?_
 refine A4 (h:=Bp (qA hlo hne)) (hr:=?_)
 refine A4 (h:=Q.add64 (h2:=fun _=>by rw [show (D5 S).i=S.i+1 from rfl];omega)) (hr:=?_)
 refine Z0 ?_
 refine Di jS (qA hlo hne) ?_ ?_
 ·simp
 exact Z38

theorem O0 {l:List Tok} (hl:TokEnd l):∀(n:Nat) (r:Qry×QS),r.2.i<l.length→r.1.cols.length≤12→(Hh l n r).2.i<l.length∧(Hh l n r).1.cols.length≤12
 | 0,r,h1,h2=>⟨h1,h2⟩
 | n+1,r,h1,h2=>by
  rw [Hh]
  split
  ·rename_i hq
   obtain ⟨_,f2,f3⟩:=Iz hl (q:=r.1) (H5 hl h1 hq) h2
   exact O0 hl n _ f2 f3
  exact ⟨h1,h2⟩
theorem W6 {l:List Tok} (hl:TokEnd l) {r:Qry×QS} (h1:r.2.i<l.length) (h2:r.1.cols.length≤12):(Ix l r).2.i<l.length∧(Ix l r).1.cols.length≤12:=by
 unfold Ix
 split
 ·rename_i hq;exact ⟨H5 hl h1 hq,h2⟩
 obtain ⟨_,f2,f3⟩:=Iz hl (q:=I4 false r.1) h1 h2
 exact O0 hl _ _ f2 f3
theorem W7 {l:List Tok} (hl:TokEnd l) (hll:l.length≤500000) {r:Qry×QS} (h1:r.2.i<l.length) (h2:r.1.cols.length≤12):(Gw l r).2.i<l.length∧(Gw l r).1.cols.length≤12:=by
 unfold Gw
 split
 ·rename_i hq
  have hi1:r.2.i+1<l.length:=H5 hl h1 hq
  split
  ·exact ⟨hi1,h2⟩
  rename_i h
  obtain ⟨k,hk,hkl⟩:=Zb hl (by omega) hi1 (by simpa using h)
  refine ⟨?_,h2⟩
  show (atM l (r.2.i+1)).2.1.toNat<_
  rw [hk,Int.toNat_natCast]
  exact hkl
 exact ⟨h1,h2⟩
theorem W8 {l:List Tok} (hl:TokEnd l) {r:Qry×QS} (h1:r.2.i<l.length) (h2:r.1.cols.length≤12):(Fq l r).2.i<l.length∧(Fq l r).1.cols.length≤12:=by
 unfold Fq
 split
 ·rename_i hq
  have hi1:(D5 r.2).i<l.length:=H5 hl h1 hq
  split
  ·exact ⟨by rw [M8];exact hi1,h2⟩
  split
  ·exact ⟨by rw [M8];exact hi1,h2⟩
  rename_i h _
  have hk:(Ae l (D5 r.2).i).kind≠0:=by
   have:(Ae l (r.2.i+1)).kind=3:=by simpa using h
   show (Ae l (r.2.i+1)).kind≠0
   rw [this];decide
  exact ⟨hl.step hi1 hk,h2⟩
 exact ⟨h1,h2⟩
def q0Q:Qry:=⟨false,[],Cb, -1⟩
def s1Q (l:List Tok):QS:=M6 l Tw ⟨0,0,0⟩
def r1Q (l:List Tok):Qry×QS:=Ix l (q0Q,s1Q l)
def r2Q (l:List Tok):Qry×QS:=Gw l (r1Q l)
def r3Q (l:List Tok):Qry×QS:=Fq l (r2Q l)
def s4Q (l:List Tok):QS:=M6 l [59] (r3Q l).2
def s5Q (l:List Tok):QS:=pz l (s4Q l)
theorem qf:Le (.agg [Aj false,.nil,A3 0,A8 [],A3 0,A3 0,A8 [],.nil,A3 (-1)]) (.agg [Aj false,.nil,A3 0,A8 [],A3 0,A3 0,A8 [],.slice false 6 [],A3 (-1)]):=by
 refine .agg _ _ rfl (by simp [AV.one,Value.oneCell',sv]) fun i y y' h1 h2=>?_
 match i with
 | 0=>simp at h1 h2;subst h1;subst h2;exact .inl rfl
 | 1=>simp at h1 h2;subst h1;subst h2;exact .inl rfl
 | 2=>simp at h1 h2;subst h1;subst h2;exact .inl rfl
 | 3=>simp at h1 h2;subst h1;subst h2;exact .inl rfl
 | 4=>simp at h1 h2;subst h1;subst h2;exact .inl rfl
 | 5=>simp at h1 h2;subst h1;subst h2;exact .inl rfl
 | 6=>simp at h1 h2;subst h1;subst h2;exact .inl rfl
 | 7=>simp at h1 h2;subst h1;subst h2;exact .inr ⟨rfl,6,rfl⟩
 | 8=>simp at h1 h2;subst h1;subst h2;exact .inl rfl
 | i+9=>simp at h1
abbrev Tx (q:Qry):AV:=.agg (qoC false q)
theorem kb {n:Nat} {q:Qry}:Low n (Tx q):=by
 have h:∀z∈qoC false q,Low n z:=gm (n:=n) (own:=false) (q:=q)
 simpa using h
theorem Qn {n:Nat}:oid n 4≠oid n 3:=by unfold oid;omega
theorem c6 (s:Str) (hs:s.length≤1048576) (Hp:List AObj):AFun Tryz.prog 92 [A8 s] Hp (.tup [Tx (I5 s).1,.agg [A3 (I5 s).2.1,A3 (I5 s).2.2]]):=by
 refine Ai [.cell 2 40,.cell 3 67] [0] Tryz.func92 Tryz.ntmps92 (fun d=>?_)
 refine Z18 ?_;refine I1 jZ ?_;refine Tb ?_;refine Z2 ?_;refine Ab Tryz.call129 (rz s hs _) ?_;refine Z6 ?_;refine Z90 ?_;refine Fu ?_;refine X9 ?_;refine Z30 ?_;refine A2 [2,3,4,5,15] ?_
 refine A6 (fun ht15=>?_) (fun ht15=>?_)
 ·have e:I5 s=(Hi,(B4 s).2.1,((B4 s).2.2:Int)):=if_pos ht15
  refine F7 [0,0,1,7] [2] [.q 2 [] [],.s [] (some 0) [] []] (fun _=>Hp) (fun _=>[.cells 40 [Aj false,.nil,A3 0,A8 [],A3 0,A3 0,A8 [],.nil,A3 0],.cells 67 [A3 0,A3 0],.cells 67 [A3 (B4 s).2.1,A3 ((B4 s).2.2:Nat)]]) Av (by kernel_rfl) rfl rfl (fun _=>rfl) ?_
  apply Y.q
  ·intro B hT hF
   refine D.build (places:=#[(0,1),(1,1),(2,6),(8,1)]) jU (fun w=>by simp) jZ ?_;exact Z37
  case hTF=>decide
  refine ov ?_;refine Et (tn:=[2])  ?_;refine m0 ?_;refine dz ?_;exact Z71
 have e0:¬((B4 s).2.1 != 0)=true:=by rw [ht15];simp
 have hz:(B4 s).2.1=0:=by simpa using ht15
 have hle:=jd hz
 have hlen:=jq hz
 have hpos:0<(B4 s).1.length:=hle.pos
 have hl5:(B4 s).1.length≤500000:=by omega
 have f1:(s1Q (B4 s).1).i<(B4 s).1.length:=W5 hle hpos
 have f2:(r1Q (B4 s).1).2.i<(B4 s).1.length∧(r1Q (B4 s).1).1.cols.length≤12:=W6 hle (r:=(q0Q,s1Q (B4 s).1)) f1 (show ([]:List Str).length≤12 by decide)
 have f3:(r2Q (B4 s).1).2.i<(B4 s).1.length∧(r2Q (B4 s).1).1.cols.length≤12:=W7 hle hl5 f2.1 f2.2
 have f4:(r3Q (B4 s).1).2.i<(B4 s).1.length∧(r3Q (B4 s).1).1.cols.length≤12:=W8 hle f3.1 f3.2
 have f5:(s4Q (B4 s).1).i<(B4 s).1.length:=W5 hle f4.1
 have hp:I5 s=Ze (B4 s).1:=if_neg e0
 refine Z73 ?_;refine Jk (places:=#[(0,1),(1,1),(2,2)]) jU (fun w=>by simp) jZ ?_;refine R.box ?_;refine A4 ?_;refine A2 [2,3,6] ?_;refine Z79 ?_;refine R.wk 21 _ qf ?_;refine Z8 ?_;refine A2 [2,3,6,7] ?_;refine Df ?_;refine Mp 4 1 1 ?_;refine A4 ?_
 refine Jl (n:=3) (x:=prq (B4 s).1 (s1Q (B4 s).1)) Tryz.call130 (qb (B4 s).1 ⟨0,0,0⟩ Tw (oid Hp.length 3) _ (by rw [Bk];rfl) hpos (by omega)) ?_
 refine ik ?_
 refine R.callX (up':=Hp) (own':=[.cells 40 [Aj false,.nil,A3 0,A8 [],A3 0,A3 0,A8 [],.nil,A3 0],.cells 67 [A3 0,A3 0],.cells 67 [A3 (B4 s).2.1,A3 ((B4 s).2.2:Nat)],prq (B4 s).1 (r1Q (B4 s).1).2,qo true (r1Q (B4 s).1).1]) Tryz.call131 ((t6 (B4 s).1 (s1Q (B4 s).1) q0Q (oid Hp.length 3) (oid Hp.length 4) _ Qn (by rw [Bk];rfl) (by rw [Bk];rfl) f1 hle hl5 (by decide)).mono fun r H' e=>⟨e.1,e.2.trans (by rw [Ei,Ei];rfl)⟩) rfl (fun h=>h) ?_
 refine ik ?_
 refine R.callX (up':=Hp) (own':=[.cells 40 [Aj false,.nil,A3 0,A8 [],A3 0,A3 0,A8 [],.nil,A3 0],.cells 67 [A3 0,A3 0],.cells 67 [A3 (B4 s).2.1,A3 ((B4 s).2.2:Nat)],prq (B4 s).1 (r2Q (B4 s).1).2,qo true (r2Q (B4 s).1).1]) Tryz.call132 ((t7 (B4 s).1 (r1Q (B4 s).1).2 (r1Q (B4 s).1).1 (oid Hp.length 3) (oid Hp.length 4) _ Qn (by rw [Bk];rfl) (by rw [Bk];rfl) f2.1 hle hl5 f2.2).mono fun r H' e=>⟨e.1,e.2.trans (by rw [Ei,Ei];rfl)⟩) rfl (fun h=>h) ?_
 refine ik ?_
 refine R.callX (up':=Hp) (own':=[.cells 40 [Aj false,.nil,A3 0,A8 [],A3 0,A3 0,A8 [],.nil,A3 0],.cells 67 [A3 0,A3 0],.cells 67 [A3 (B4 s).2.1,A3 ((B4 s).2.2:Nat)],prq (B4 s).1 (r3Q (B4 s).1).2,qo true (r3Q (B4 s).1).1]) Tryz.call133 ((t8 (B4 s).1 (r2Q (B4 s).1).2 (r2Q (B4 s).1).1 (oid Hp.length 3) (oid Hp.length 4) _ Qn (by rw [Bk];rfl) (by rw [Bk];rfl) f3.1 hle hl5 f3.2).mono fun r H' e=>⟨e.1,e.2.trans (by rw [Ei,Ei];rfl)⟩) rfl (fun h=>h) ?_
 refine ik ?_
 refine Jl (n:=3) (x:=prq (B4 s).1 (s4Q (B4 s).1)) Tryz.call130 (qb (B4 s).1 (r3Q (B4 s).1).2 [59] (oid Hp.length 3) _ (by rw [Bk];rfl) f4.1 (by omega)) ?_
 refine A2 [2,3,6,7] ?_;refine W.seq ?_;refine W.draw [0,1,3,7,0,16,48,112,255,511,1023,2047] 8 Av (by kernel_rfl) ?_;refine Z11 ?_;refine Z11 ?_;refine Z11 ?_;refine Z11 ?_;refine In ?_
 refine A4 (h:=Ay ((s4Q (B4 s).1).i) (Ga (Ae (B4 s).1 (s4Q (B4 s).1).i)) (fun _=>Iw f5)) (hr:=?_)
 refine Z6 ?_;refine A2 [2,3,6,7,43] ?_
 refine A6 (fun ht43=>?_) (fun ht43=>?_)
 ·have e5:s5Q (B4 s).1=Fy (B4 s).1 8 (s4Q (B4 s).1):=if_pos ht43
  refine Z27 ?_
  refine Jl (n:=3) (x:=prq (B4 s).1 (Fy (B4 s).1 8 (s4Q (B4 s).1))) Tryz.call134 (bw (B4 s).1 (s4Q (B4 s).1) 8 (oid Hp.length 3) _ (by rw [Bk];rfl) f5) ?_
  refine A2 [2,3,6,7] ?_;refine G6 ?_;refine Z36 ?_;refine Z0 ?_;refine A2 [2,3,6,7,51] ?_
  refine A6 (fun ht51=>?_) (fun ht51=>?_)
  ·rw [←e5] at ht51 ⊢
   have e:I5 s=(Hi,(s5Q (B4 s).1).code,(s5Q (B4 s).1).at_):=by rw [hp];exact if_pos ht51
   refine ow ?_
   apply Y.q
   ·intro B hT hF
    exact nr
   case hTF=>decide
   refine Z49 ?_;refine m0 ?_;refine dz ?_;exact Z71
  rw [←e5] at ht51
  have e:I5 s=((r3Q (B4 s).1).1,0,0):=by rw [hp];exact if_neg (by show ¬(((s5Q (B4 s).1).code != 0)=true);rw [ht51];simp)
  refine Z73 ?_;refine Z87 ?_;refine Fu ?_;exact Z65
 have e5:s5Q (B4 s).1=s4Q (B4 s).1:=if_neg (by rw [ht43];simp)
 refine Z5 ?_;refine Z36 ?_;refine Z0 ?_;refine A2 [2,3,6,7,51] ?_
 refine A6 (fun ht51=>?_) (fun ht51=>?_)
 ·rw [←e5] at ht51 ⊢
  have e:I5 s=(Hi,(s5Q (B4 s).1).code,(s5Q (B4 s).1).at_):=by rw [hp];exact if_pos ht51
  refine ow ?_
  apply Y.q
  ·intro B hT hF
   exact nr
  case hTF=>decide
  refine Z49 ?_;refine m0 ?_;refine dz ?_;exact Z71
 rw [←e5] at ht51
 have e:I5 s=((r3Q (B4 s).1).1,0,0):=by rw [hp];exact if_neg (by show ¬(((s5Q (B4 s).1).code != 0)=true);rw [ht51];simp)
 refine Z73 ?_;refine Z87 ?_;refine Fu ?_;exact Z65

set_option maxRecDepth 8000
/-! How long a print is. -/
set_option maxRecDepth 4000
structure QW (q:Qry):Prop where
 ok:okE 61 q.whr
 size:sizeE q.whr≤1048576
 rng:bj sc q.whr=true
 len:q.cols.length≤1048576
 names:∀s∈q.cols,s.length≤1048576
def noN (s:Str):Bool := !(Ew s)
def Qo (ks:List Str):Int:=if ks.any noN then (ks.findIdx noN:Int) else -1
theorem gr {ks:List Str} {i:Nat} (h:i<ks.length) (hn:noN ks[i]=true) (hp:∀(j:Nat) (y:Str),j<i→ks[j]? = some y→¬noN y=true):(i:Int)=Qo ks:=by
 unfold Qo
 rw [if_pos (S8.2 ⟨_,C7 h,hn⟩)]
 congr 1
 refine (List.findIdx_eq h |>.2 ⟨hn,fun j hj=>?_⟩).symm
 have:=hp j (ks[j]'(by omega)) hj (Ad (by omega))
 simpa using this
theorem Y4 {ks:List Str} (hp:∀(j:Nat) (y:Str),ks[j]? = some y→¬noN y=true):(-1:Int)=Qo ks:=by
 unfold Qo
 rw [if_neg]
 intro h
 obtain ⟨y,hy,hn⟩:=S8.1 h
 obtain ⟨j,hj⟩:=Cc hy
 exact hp j y hj hn
theorem c8 (ks:List Str):decide (0≤Qo ks)=ks.any noN:=by
 unfold Qo
 cases ks.any noN<;>simp
theorem gt {α:Type} {p:α→Bool} (l:List α):(!(l.any fun s => !(p s)))=l.all p:=by
 induction l with
 | nil=>rfl
 | cons a r ih=>rw [List.any_cons,List.all_cons,←ih];cases p a<;>simp
theorem kc {q:Qry} (h:((((q.all != ((q.cols.length:Int)==0)) || decide ((12:Int)<(q.cols.length:Int))) || decide (q.lim < -1)) || decide ((100000:Int)<q.lim))=true):Qe q=false:=if_pos h
theorem ke {q:Qry} (h:((((q.all != ((q.cols.length:Int)==0)) || decide ((12:Int)<(q.cols.length:Int))) || decide (q.lim < -1)) || decide ((100000:Int)<q.lim))=false):Qe q=((q.cols.all Ew)&&(!(W4 q) || Ke q.whr)):=if_neg (by rw [h];simp)
theorem kg {q:Qry} (h:((((q.all != ((q.cols.length:Int)==0)) || decide ((12:Int)<(q.cols.length:Int))) || decide (q.lim < -1)) || decide ((100000:Int)<q.lim))=false):Qe q=(!(q.cols.any noN)&&(!(W4 q) || Do q.whr)):=by rw [ke h,←gt,Tr];rfl
theorem ta (s:Str) (hs:s.length≤1048576) (Hp:List AObj):AFun Tryz.prog 112 [A8 s] Hp (Aj (noN s)):=by
 refine Ai [.tmp 2] [0] Tryz.func112 Tryz.ntmps112 (fun d=>?_)
 refine Z31 ?_;refine Z2 ?_;refine Ab Tryz.call113 (mc s hs _) ?_;exact X3

theorem tc (ks:List Str) (hkl:ks.length≤1048576) (hks:∀s∈ks,s.length≤1048576) (Hp:List AObj):AFun Tryz.prog 160 [Fv ks,.fn (.func 112) [] []] Hp (A3 (Qo ks)):=by
 refine Ai [.tmp 4] [0,1] Tryz.func160 Tryz.ntmps160 (fun d=>?_)
 refine Z39 ?_;refine Z30 ?_;refine A2 [0,1,7,8] ?_
 refine C8 (α:=Nat) (fun x=>⟨19,Aa 0 (Fv ks) (Aa 1 (.fn (.func 112) [] []) (Aa 7 (A3 ks.length) (Aa 8 (A3 (x:Nat)) (fun _=>.any)))),Hp,[],[],none⟩) (fun x=>x≤ks.length∧∀(j:Nat) (y:Str),j<x→ks[j]? = some y→¬noN y=true) (fun x=>ks.length-x) (0) (by simp) (C1 (by simp)) rfl (fun x hx=>?_)
 refine Z2 ?_;refine A2 [0,1,7,8,9] ?_
 refine Fl (fun ht9=>?_) (fun ht9=>?_)
 ·have hlt:x<ks.length:=by simpa using ht9
  refine Z14 ?_;refine Z1 ?_;refine A2 [0,1,5,7,8] ?_;refine Z16 ?_
  refine A4 (h:=Ay (x) (A8 ks[x]) (fun _=>Bg hlt)) (hr:=?_)
  refine A4 ?_;refine R.callV Tryz.call112 (ta ks[x] (hks _ (C7 hlt)) _) ?_;refine A2 [0,1,5,7,8,16] ?_
  refine A6 (fun ht16=>?_) (fun ht16=>?_)
  ·refine Z1 ?_;refine Z13 ?_;refine Z61 ?_;exact A9 (Af A7) ⟨by rw [gr hlt ht16 hx.2],rfl⟩
  refine Uz ?_;refine A2 [0,1,7,8] ?_;exact C0 (x+1) ⟨hlt,G8 hlt hx.2 (by rw [ht16];simp)⟩ (by omega) (Cm rfl)
 refine Z23 ?_;refine Z68 ?_;exact A9 (Af A7) ⟨by rw [Y4 (Ib (by simp at ht9;omega) hx.2)],rfl⟩

theorem td (ks:List Str) (hkl:ks.length≤1048576) (hks:∀s∈ks,s.length≤1048576) (Hp:List AObj):AFun Tryz.prog 111 [Fv ks,.fn (.func 112) [] []] Hp (Aj (ks.any noN)):=by
 refine Ai [.tmp 4] [0,1] Tryz.func111 Tryz.ntmps111 (fun d=>?_)
 refine Z39 ?_;refine Z1 ?_;refine Ab Tryz.call160 (tc ks hkl hks _) ?_;refine Uv ?_;exact A9 (Af A7) ⟨by rw [←c8];try rfl,rfl⟩

theorem c84 (q:Qry) (h:QW q) (Hp:List AObj):AFun Tryz.prog 84 [Tx q] Hp (Aj (W4 q)):=by
 refine Ai [.tmp 2] [0] Tryz.func84 Tryz.ntmps84 (fun d=>?_)
 refine Z83 ?_;refine Z54 ?_;refine R.wk 5 _ M5 ?_;refine Ab Tryz.call98 (c98 61 q.whr h.ok Cb _) ?_;exact X3

theorem c82 (q:Qry) (h:QW q) (Hp:List AObj):AFun Tryz.prog 82 [Tx q] Hp (Aj (Qe q)):=by
 refine Ai [.tmp 2] [0] Tryz.func82 Tryz.ntmps82 (fun d=>?_)
 refine Z83 ?_;refine Z36 ?_;refine Z0 ?_;refine Z24 ?_;refine Qy ?_;refine Z15 ?_;refine Z57 ?_;refine A2 [1,25] ?_
 refine A6 (fun ht25=>?_) (fun ht25=>?_)
 ·rw [Bs] at ht25
  have e:=kc ht25
  refine ap ?_;exact A9 (Af A7) ⟨by rw [e]<;>rfl,rfl⟩
 rw [Bs] at ht25
 have e:=kg ht25
 refine Z5 ?_;refine Z1 ?_;refine Ab Tryz.call111 (td q.cols h.len h.names _) ?_;refine Z88 ?_;refine Bh Tryz.call84 (fun hB=>c84 q h _) ?_;refine Z3 ?_;refine Z3 ?_;refine Bh Tryz.call100 (fun hB=>pl 61 q.whr h.ok (by decide) _) ?_;refine B9 ?_;refine Z64 ?_;exact A9 (Af A7) ⟨by rw [e]<;>rfl,rfl⟩

set_option maxRecDepth 8000
/-! The document's kinds of trees are infer's. -/
/-! Moves: what mig.Right, sound.* and the document's layers 18, 19 answer. -/
/-! Columns behind moves. -/
set_option maxRecDepth 4000
/-! The same moves. -/
theorem c97 (a b:List Str) (ha:a.length≤1048576) (Hp:List AObj):AFun Tryz.prog 97 [Fv a,Fv b] Hp (Aj (decide (a=b))):=by
 refine Ai [.tmp 4] [0,1] Tryz.func97 Tryz.ntmps97 (fun d=>?_)
 refine Z39 ?_;refine ij ?_
 refine A6 (fun ht10=>?_) (fun ht10=>?_)
 ·refine Z68 ?_;refine Dn ?_;exact A9 (Af A7) ⟨by rw [pc (by simpa using ht10)],rfl⟩
 refine Z5 ?_;refine Z30 ?_;refine A2 [0,1,12,13] ?_
 refine C8 (α:=Nat) (fun x=>⟨26,Aa 0 (Fv a) (Aa 1 (Fv b) (Aa 12 (A3 (a.length:Nat)) (Aa 13 (A3 (x:Nat)) (fun _=>.any)))),Hp,[],[],none⟩) (fun x=>x≤a.length∧∀(j:Nat) (y:Str),j<x→a[j]? = some y→b[j]? = some y) (fun x=>a.length-x) (0) (by simp) (C1 (by simp)) rfl (fun x hx=>?_)
 refine Z2 ?_;refine A2 [0,1,12,13,14] ?_
 refine Fl (fun ht14=>?_) (fun ht14=>?_)
 ·have hlt:x<a.length:=by simpa using ht14
  have hlb:x<b.length:=by have:=ma ht10;omega
  refine Z14 ?_;refine Z1 ?_;refine A2 [0,1,5,12,13] ?_;refine W.draw [0,0,3,7,0,0,48,112,255] 8 Av (by kernel_rfl) ?_;refine Z11 ?_
  refine Bb (h:=Ay (x) (A8 a[x]) (fun _=>Bg hlt)) (hr:=?_)
  refine Z34 ?_
  refine Bb (h:=Ay (x) (A8 b[x]) (fun _=>Bg hlb)) (hr:=?_)
  refine Uu ?_;refine A4 ?_;refine A2 [0,1,12,13,24] ?_
  refine A6 (fun ht24=>?_) (fun ht24=>?_)
  ·refine Z68 ?_;refine Z61 ?_;exact A9 (Af A7) ⟨by rw [rc hlt hlb (by simpa using ht24)],rfl⟩
  refine Uz ?_;refine A2 [0,1,12,13] ?_
  exact C0 (x+1) ⟨hlt,L5 (p:=fun j y=>b[j]? = some y) hlt hx.2 (by rw [Ad hlb];simpa using (Eq.symm (by simpa using ht24):b[x]=a[x]))⟩ (by omega) (Cm rfl)
 have hxe:a.length≤x:=by simpa using ht14
 refine Z23 ?_;refine Z68 ?_;exact A9 (Af A7) ⟨by rw [pg (by simpa using ht10) (Ms hxe hx.2)],rfl⟩

theorem tg (l:List Val) (hl:l.length≤1048576) (Hp:List AObj):AFun Tryz.prog 50 [Ia l,Ia l] Hp (Aj true):=by
 refine Ai [.tmp 4] [0,1] Tryz.func50 Tryz.ntmps50 (fun d=>?_)
 refine Z39 ?_;refine ij ?_
 refine A6 (fun ht10=>?_) (fun ht10=>?_)
 ·simp at ht10
 refine Z82 ?_;refine Ta ?_
 refine C8 (α:=Nat) (fun x=>⟨26,Aa 0 (Ia l) (Aa 1 (Ia l) (Aa 5 (A3 (x:Nat)) (fun _=>.any))),Hp,[],[],none⟩) (fun x=>x≤l.length) (fun x=>l.length-x) (0) (Aw _) (C1 (by simp)) rfl (fun x hx=>?_)
 refine Z36 ?_;refine A2 [0,1,5,14] ?_
 refine A6 (fun ht14=>?_) (fun ht14=>?_)
 ·have hlt:x<l.length:=by simpa using ht14
  refine ob ?_;refine Z11 ?_
  refine Bb (h:=Ay (x) (Fo l[x]) (fun _=>Bg hlt)) (hr:=?_)
  refine Z34 ?_
  refine Bb (h:=Ay (x) (Fo l[x]) (fun _=>Bg hlt)) (hr:=?_)
  refine Uu ?_
  refine A4 (h:=Q.neqAgg eo (Ls l[x].kind l[x].n l[x].kind l[x].n l[x].s l[x].s)) (hr:=?_)
  refine A2 [0,1,5,25] ?_
  refine A6 (fun ht25=>?_) (fun ht25=>?_)
  ·simp at ht25
  refine Z77 ?_;exact nt
 refine Z59 ?_;exact lq

theorem th (q:Qry) (h:QW q) (Hp:List AObj):AFun Tryz.prog 49 [Tx q,Tx q] Hp (Aj true):=by
 refine Ai [.tmp 4] [0,1] Tryz.func49 Tryz.ntmps49 (fun d=>?_)
 refine al ?_;refine Z21 ?_;refine Z24 ?_;refine Z52 ?_;refine Bh Tryz.call78 (fun hB=>c78 q.cols q.cols h.len _) ?_;refine Z24 ?_;refine Bh Tryz.call69 (fun hB=>c69 61 q.whr h.ok q.whr _) ?_;exact o6

theorem tj (q:Qry) (h:QW q) (Hp:List AObj):AFun Tryz.prog 62 [Tx q,Tx q] Hp (Aj true):=by
 refine Ai [.tmp 4] [0,1] Tryz.func62 Tryz.ntmps62 (fun d=>?_)
 refine al ?_;refine Z21 ?_;refine Z24 ?_;refine Z52 ?_;refine Bh Tryz.call97 (fun hB=>c97 q.cols q.cols h.len _) ?_;refine Z24 ?_;refine Bh Tryz.call98 (fun hB=>c98 61 q.whr h.ok q.whr _) ?_;exact o6

/-- What the walks ask of a call. -/
structure CW (c:Cal):Prop where
 q:QW c.q
 wr:c.wr.length≤1048576
 each:∀w∈c.wr,w.l.length≤1048576
theorem qg (c:Cal) (h:CW c) (Hp:List AObj):AFun Tryz.prog 25 [Bz c,Bz c] Hp (Aj true):=by
 refine Ai [.tmp 4] [0,1] Tryz.func25 Tryz.ntmps25 (fun d=>?_)
 refine al ?_;refine Z36 ?_;refine Z24 ?_;refine Z52 ?_;refine Z3 ?_;refine Z52 ?_;refine Bh Tryz.call49 (fun hB=>th c.q h.q _) ?_;refine Z52 ?_;refine Z52 ?_;refine Z52 ?_;refine Z57 ?_;refine A2 [2,3,55] ?_
 refine A6 (fun ht55=>?_) (fun ht55=>?_)
 ·simp at ht55
 refine Z82 ?_;refine A2 [2,3,5] ?_
 refine C8 (α:=Nat) (fun x=>⟨107,Aa 2 (.ro (Gx c)) (Aa 3 (.ro (Gx c)) (Aa 5 (A3 (x:Nat)) (fun _=>.any))),Hp,[],[],none⟩) (fun x=>x≤c.wr.length) (fun x=>c.wr.length-x) (0) (Aw _) (C1 (by simp)) rfl (fun x hx=>?_)
 refine X4 ?_;refine A2 [2,3,5,60] ?_
 refine A6 (fun ht60=>?_) (fun ht60=>?_)
 ·have hlt:x<c.wr.length:=by simpa using ht60
  have hwl:=h.wr
  refine Z51 ?_;refine Hf [0,1,0,7,15,31,0,64,0,448,960,1984,4095,8191,16383,32767,16383,131071,262143,524287,16383,1064959,16383,7356415,15745023,32522239,67108863,134217727,268435455,536870911,1073741823,536870911,4294967295,8589934591,17179869183,536870911,34896609279,536870911,241055039487,515932946431,1065688760319,2199023255551,4398046511103,8796093022207] 41 Av (by kernel_rfl) ?_;refine Z34 ?_
  refine Bb (h:=Ay (x) (wrA c.wr[x]) (fun _=>Bg hlt)) (hr:=?_)
  refine Z11 ?_;refine Z34 ?_
  refine Bb (h:=Ay (x) (wrA c.wr[x]) (fun _=>Bg hlt)) (hr:=?_)
  refine Z11 ?_;refine Z11 ?_;refine Uw ?_
  refine H.go (h:=Ay (x) (wrA c.wr[x]) (fun _=>Bg hlt)) (hr:=?_)
  refine Z62 ?_;refine Uw ?_
  refine H.go (h:=Ay (x) (wrA c.wr[x]) (fun _=>Bg hlt)) (hr:=?_)
  refine Uw ?_;refine Z11 ?_;refine Uw ?_
  refine H.go (h:=Ay (x) (wrA c.wr[x]) (fun _=>Bg hlt)) (hr:=?_)
  refine Z62 ?_;refine Uw ?_
  refine H.go (h:=Ay (x) (wrA c.wr[x]) (fun _=>Bg hlt)) (hr:=?_)
  refine Z62 ?_;refine In ?_;refine Bh Tryz.call50 (fun hB=>tg c.wr[x].l (h.each _ (C7 hlt)) _) ?_;refine Z57 ?_;refine A2 [2,3,5,106] ?_
  refine A6 (fun ht106=>?_) (fun ht106=>?_)
  ·simp at ht106
  refine Z77 ?_;refine A2 [2,3,5] ?_;exact m6
 refine Z59 ?_;exact lq

theorem c9s (l:List Cal) (hl:l.length≤1048576) (hw:∀c∈l,CW c) (Hp:List AObj):AFun Tryz.prog 9 [Qg l,Qg l] Hp (Aj true):=by
 refine Ai [.tmp 4] [0,1] Tryz.func9 Tryz.ntmps9 (fun d=>?_)
 refine Z39 ?_;refine ij ?_
 refine A6 (fun ht10=>?_) (fun ht10=>?_)
 ·simp at ht10
 refine Z82 ?_;refine Ta ?_
 refine C8 (α:=Nat) (fun x=>⟨27,Aa 0 (Qg l) (Aa 1 (Qg l) (Aa 5 (A3 (x:Nat)) (fun _=>.any))),Hp,[],[],none⟩) (fun x=>x≤l.length) (fun x=>l.length-x) (0) (Aw _) (C1 (by simp)) rfl (fun x hx=>?_)
 refine Z36 ?_;refine A2 [0,1,5,14] ?_
 refine A6 (fun ht14=>?_) (fun ht14=>?_)
 ·have hlt:x<l.length:=by simpa using ht14
  refine Z51 ?_;refine Hf [0,0,3,7,0,0,48,112,255,511] 8 Av (by kernel_rfl) ?_;refine Z11 ?_
  refine Bb (h:=Ay (x) (Bz l[x]) (fun _=>Bg hlt)) (hr:=?_)
  refine Z34 ?_
  refine Bb (h:=Ay (x) (Bz l[x]) (fun _=>Bg hlt)) (hr:=?_)
  refine Uu ?_;refine Ab Tryz.call25 (qg l[x] (hw _ (C7 hlt)) _) ?_;refine A4 ?_;refine A2 [0,1,5,26] ?_
  refine A6 (fun ht26=>?_) (fun ht26=>?_)
  ·simp at ht26
  refine Z77 ?_;exact nt
 refine Z59 ?_;exact lq

theorem ki {k:Int} (h:¬(k<1∨9≤k)):(cmdL.map A8)[k.toNat]? = some (A8 (Ey k)):=by
 unfold Ey
 rw [if_neg h,C4,Dw,Ad (show k.toNat<cmdL.length by show _<9;omega)]
 rfl
theorem tk (s:Str) (hs:s.length<4294967281) (ha:∀b∈s,b.toNat<128) (Hp:List AObj):AFun Tryz.prog 217 [A8 s,A8 [44,93]] Hp (A3 (Lib.indexAny s [44,93])):=by
 refine Ht (xs:=[sv s,sv [44,93]]) (v:=.int .i64 (Lib.indexAny s [44,93])) (fun G w=>.v _ _) (fun w hg=>?_)
 refine (Any.strings_IndexAny_laid Tryz.lays153 (by kernel_rfl) ⟨s.toArray⟩ ⟨([44,93]:Str).toArray⟩ w (by simpa [ByteArray.size] using hs) (by decide) (fun j b hb=>ha b (Ax (by simpa using hb))) (fun j b hb=>?_)).mono ?_
 ·have:b∈([44,93]:Str):=Ax (by simpa using hb)
  rcases Bt.1 this with rfl|this
  ·decide
  rw [Cn.1 this];decide
 rintro e w' ⟨rfl,hb⟩
 exact ⟨rfl,hb⟩
theorem c52 (k:Int) (Hp:List AObj):AFun Tryz.prog 52 [A3 k] Hp (A8 (Ey k)):=by
 refine Ai [.tmp 2] [0] Tryz.func52 Tryz.ntmps52 (fun d=>?_)
 refine Z31 ?_;refine Df ?_;refine Ab Tryz.call79 (bt ▸ c79 q9 [32] (by decide) (by decide) _) ?_;refine A4 ?_;refine Ki ?_;refine Z30 ?_;refine Z3 ?_;refine Uy ?_;refine A2 [0,3,12] ?_
 refine A6 (fun ht12=>?_) (fun ht12=>?_)
 ·have hk:k<1∨9≤k:=by simpa [cmdL] using ht12
  have hm:Ey k=[]:=if_pos hk
  refine ap ?_;exact A9 (Af A7) ⟨by rw [hm]<;>rfl,rfl⟩
 have hk:¬(k<1∨9≤k):=by simp [cmdL] at ht12;omega
 refine Z5 ?_;refine Z1 ?_
 refine A4 (h:=Ay (k.toNat) (A8 (Ey k)) (fun _=>ki hk) (hn:=fun _=>by omega)) (hr:=?_)
 exact X3

theorem c53 (v:Int) (Hp:List AObj):AFun Tryz.prog 53 [A3 v] Hp (A8 (Ez v)):=by
 refine Ai [.tmp 2] [0] Tryz.func53 Tryz.ntmps53 (fun d=>?_)
 refine Z31 ?_;refine Z7 ?_;refine A2 [4] ?_
 refine A6 (fun ht4=>?_) (fun ht4=>?_)
 ·refine ap ?_;exact A9 (Af A7) ⟨by unfold Ez;rw [if_pos ht4]<;>rfl,rfl⟩
 refine Z5 ?_;refine Z45 ?_;exact A9 (Af A7) ⟨by unfold Ez;rw [if_neg (by rw [ht4];simp)]<;>rfl,rfl⟩

theorem c9 {l:List Val} {x:Nat} (h:x<l.length):(((l.take (x+1)).map At).map A8)=((l.take x).map At).map A8++[A8 (At l[x])]:=by
 rw [Qd h,Dy]
 rfl
theorem ca {n k:Nat} {o:Bool} {l:List Str}:Low n (.slice o k (l.map A8)):=low_slice.2 fun y hy=>by
 obtain ⟨s,_,rfl⟩:=E2.1 hy
 simp
theorem cb {n k:Nat} {o:Bool} {l:List Str} {s:Str}:Low n (.slice o k (l.map A8++[A8 s])):=by
 have:=ca (n:=n) (k:=k) (o:=o) (l:=l++[s])
 rwa [Dy] at this
theorem c81 (l:List Val) (hl:l.length≤1048576) (hr:∀v∈l,j1 v.n) (hj:(Lib.join (l.map At) [44]).length≤140737488355328) (Hp:List AObj):AFun Tryz.prog 81 [Ia l] Hp (A8 (F0 l)):=by
 refine Ai [.tmp 2] [0] Tryz.func81 Tryz.ntmps81 (fun d=>?_)
 refine Z31 ?_;refine Z2 ?_;refine Ki ?_;refine Z53 ?_;refine L8 3 1 true ?_;refine Z6 ?_;refine A2 [3,6,7,8] ?_
 refine C8 (α:=Nat) (fun x=>⟨22,Aa 3 (.slice true 1 (((l.take x).map At).map A8)) (Aa 6 (Ia l) (Aa 7 (A3 l.length) (Aa 8 (A3 (x:Nat)) (fun _=>.any)))),Hp,[],[],none⟩) (fun x=>x≤l.length) (fun x=>l.length-x) (0) (Aw _) (C1 (by simp)) rfl (fun x hx=>?_)
 refine Z2 ?_;refine A2 [3,6,7,8,9] ?_
 refine Fl (fun ht9=>?_) (fun ht9=>?_)
 ·have hlt:x<l.length:=by simpa using ht9
  refine Ut ?_
  refine A4 (h:=Ay (x) (Fo l[x]) (fun _=>Bg hlt)) (hr:=?_)
  refine X5 ?_;refine A2 [3,5,6,7,8] ?_;refine Z56 ?_;refine A4 ?_;refine Ab Tryz.call56 (c56 l[x] (hr _ (C7 hlt)) _) ?_;refine O5 ?_
  refine F6 jU Tryz.type9 ?_ ?_ ?_
  ·simp only [Bs,Gt,Ar,Bd,Tryz.t9];omega
  ·simp only [Bs,Gt,Ar,Bd,Tryz.t9];omega
  refine G5 ?_;refine A2 [3,6,7,8] ?_;refine X8 ?_;refine lu ?_
  rw [c9 hlt]
  exact Dj (own:=[]) (fun _=>.refl _) (by repeat (first|exact Bx|refine Bw (by first|exact cb|exact S5|(simp [or_imp,forall_and];done)) ?_)) (by simp) (by simp)
 have hxe:l.take x=l:=E3 (by simp at ht9;omega)
 rw [hxe]
 refine Z23 ?_;refine Z2 ?_
 refine Ab Tryz.call83 (c83 (l.map At) [44] (by rw [Bs];omega) hj _) ?_
 refine Z6 ?_;refine Z4 ?_;exact A9 (Af A7) ⟨by unfold F0;rfl,rfl⟩

theorem W9 {l:List Wr} {x:Nat} (h:x<l.length):(l.take (x+1)).flatMap wrS=(l.take x).flatMap wrS++wrS l[x]:=by
 rw [K8 h,List.flatMap_append]
 simp
/-- What the lines of writes ask. -/
structure WW (w:Wr):Prop where
 key : -9223372036854775808≤w.key∧w.key≤9223372036854775807
 len:w.l.length≤1048576
 rng:∀v∈w.l,j1 v.n
 join:(Lib.join (w.l.map At) [44]).length≤140737488355328
 klen:(Lib.itoa w.key).length≤100
theorem c54 (l:List Wr) (hl:l.length≤1) (hw:∀w∈l,WW w) (Hp:List AObj):AFun Tryz.prog 54 [Qf l] Hp (A8 (Gf l)):=by
 refine Ai [.tmp 2] [0] Tryz.func54 Tryz.ntmps54 (fun d=>?_)
 refine Z31 ?_;refine Z2 ?_;refine Ki ?_;refine Z30 ?_;refine A2 [3,6,7,8] ?_
 refine C8 (α:=Nat) (fun x=>⟨30,Aa 3 (A8 ((l.take x).flatMap wrS)) (Aa 6 (Qf l) (Aa 7 (A3 l.length) (Aa 8 (A3 (x:Nat)) (fun _=>.any)))),Hp,[],[],none⟩) (fun x=>x≤l.length) (fun x=>l.length-x) (0) (Aw _) (C1 (by simp)) rfl (fun x hx=>?_)
 refine Z2 ?_;refine A2 [3,6,7,8,9] ?_
 refine Fl (fun ht9=>?_) (fun ht9=>?_)
 ·have hlt:x<l.length:=by simpa using ht9
  have hx2:=hw _ (C7 hlt)
  have hk1:=hx2.klen
  have hv1:(F0 l[x].l).length≤140737488355338:=by have:=hx2.join;unfold F0;simp only [Am,Ar,Bd];omega
  have hx0:x=0:=by omega
  have hp0:((l.take x).flatMap wrS).length=0:=by rw [hx0];rfl
  refine Ut ?_
  refine A4 (h:=Ay (x) (wrA l[x]) (fun _=>Bg hlt)) (hr:=?_)
  refine X5 ?_;refine A2 [3,5,6,7,8] ?_;refine Z16 ?_;refine Ab Tryz.call80 (c80 l[x].key hx2.key.1 hx2.key.2 _) ?_
  refine A4 (h:=Dz (hl:=fun _=>by simp only [Am,Ar,Bd];omega)) (hr:=?_)
  refine A4 (h:=Dz (hl:=fun _=>by simp only [Am,Ar,Bd];omega)) (hr:=?_)
  refine A4 (h:=Dz (hl:=fun _=>by simp only [Am,Ar,Bd];omega)) (hr:=?_)
  refine A4 ?_;refine A2 [3,5,6,7,8] ?_;refine Z1 ?_;refine A2 [3,5,6,7,8,20] ?_
  refine A6 (fun ht20=>?_) (fun ht20=>?_)
  ·have hS:wrS l[x]=([32]++Lib.itoa l[x].key++[32])++Qi:=by unfold wrS;rw [if_pos ht20]
   refine Z27 ?_
   refine A4 (h:=Dz (hl:=fun _=>by simp only [Am,Ar,Bd];omega)) (hr:=?_)
   refine A4 ?_;refine A2 [3,6,7,8] ?_;refine X8 ?_;refine lu ?_
   rw [W9 hlt,hS,←Br]
   exact Dj (own:=[]) (fun _=>.refl _) (by repeat (first|exact Bx|refine Bw (by first|exact Kf|(simp [or_imp,forall_and];done)) ?_)) (by simp) (by simp)
  have hS:wrS l[x]=([32]++Lib.itoa l[x].key++[32])++F0 l[x].l:=by unfold wrS;rw [if_neg (by rw [ht20];simp)]
  refine Z58 ?_;refine Ab Tryz.call81 (c81 l[x].l hx2.len hx2.rng hx2.join _) ?_
  refine A4 (h:=Dz (hl:=fun _=>by simp only [Am,Ar,Bd];omega)) (hr:=?_)
  refine A4 ?_;refine A2 [3,6,7,8] ?_;refine X8 ?_;refine lu ?_
  rw [W9 hlt,hS,←Br]
  exact Dj (own:=[]) (fun _=>.refl _) (by repeat (first|exact Bx|refine Bw (by first|exact Kf|(simp [or_imp,forall_and];done)) ?_)) (by simp) (by simp)
 have hxe:l.take x=l:=E3 (by simp at ht9;omega)
 refine Z23 ?_;refine Z1 ?_;refine Z4 ?_;exact A9 (Af A7) ⟨by rw [hxe]<;>rfl,rfl⟩

theorem c28 (l:List Wr) (hl:l.length≤100) (hd:∀w∈l,w.drop=true→w.l=[]) (hp:∀w∈l,w.l.length≤1048576∧∀v∈w.l,E0 v=true) (Hp:List AObj):AFun Tryz.prog 28 [Qf l] Hp (Aj true):=by
 refine Ai [.tmp 2] [0] Tryz.func28 Tryz.ntmps28 (fun d=>?_)
 refine Z31 ?_;refine Z30 ?_;refine A2 [0,7,8,9] ?_
 refine C8 (α:=Nat) (fun x=>⟨36,Aa 0 (Qf l) (Aa 7 (Qf l) (Aa 8 (A3 l.length) (Aa 9 (A3 (x:Nat)) (fun _=>.any)))),Hp,[],[],none⟩) (fun x=>x≤l.length) (fun x=>l.length-x) (0) (Aw _) (C1 (by simp)) rfl (fun x hx=>?_)
 refine Z2 ?_;refine A2 [0,7,8,9,10] ?_
 refine Fl (fun ht10=>?_) (fun ht10=>?_)
 ·have hlt:x<l.length:=by simpa using ht10
  have hx2:=hp _ (C7 hlt)
  have hx3:=hx2.1
  refine Ut ?_
  refine A4 (h:=Ay (x) (wrA l[x]) (fun _=>Bg hlt)) (hr:=?_)
  refine X5 ?_;refine A2 [0,4,7,8,9] ?_;refine Z30 ?_;refine Z3 ?_;refine Uy ?_;refine A2 [0,4,7,8,9,20] ?_
  refine A6 (fun ht20=>?_) (fun ht20=>?_)
  ·have hdr:l[x].drop=true:=by simp at ht20;exact ht20.1
   rw [hd _ (C7 hlt) hdr] at ht20
   simp at ht20
  refine Z5 ?_;refine Z21 ?_;refine A2 [0,7,8,9,22,23,24] ?_
  refine C8 (α:=Nat) (fun y=>⟨36,Aa 0 (Qf l) (Aa 7 (Qf l) (Aa 8 (A3 l.length) (Aa 9 (A3 (x:Nat)) (Aa 22 (Ia l[x].l) (Aa 23 (A3 l[x].l.length) (Aa 24 (A3 (y:Nat)) (fun _=>.any))))))),Hp,[.cells 60 (wrC l[x])],[],none⟩) (fun y=>y≤l[x].l.length) (fun y=>l[x].l.length-y) (0) (Aw _) (C1 (by simp)) rfl (fun y hy=>?_)
  refine Z2 ?_;refine A2 [0,7,8,9,22,23,24,25] ?_
  refine Fl (fun ht25=>?_) (fun ht25=>?_)
  ·have hlt2:y<l[x].l.length:=by simpa using ht25
   refine Ut ?_
   refine A4 (h:=Ay (y) (Fo l[x].l[y]) (fun _=>Bg hlt2)) (hr:=?_)
   refine X5 ?_;refine A2 [0,6,7,8,9,22,23,24] ?_;refine Z2 ?_;refine Ab Tryz.call51 (c51 l[x].l[y] _) ?_;refine A4 ?_;refine A2 [0,7,8,9,22,23,24,30] ?_
   refine A6 (fun ht30=>?_) (fun ht30=>?_)
   ·rw [hx2.2 _ (C7 hlt2)] at ht30
    simp at ht30
   refine Uz ?_;refine A2 [0,7,8,9,22,23,24] ?_;refine C0 (y+1) hlt2 (by omega) ?_
   exact Dj (own:=[.cells 60 (wrC l[x])]) (fun _=>.refl _) (by repeat (first|exact Bx|refine Bw (by first|exact Kf|exact S5|(simp [or_imp,forall_and];done)) ?_)) (by simp [ObjLow,or_imp,forall_and]) (by simp)
  refine K.lpE ?_;refine X8 ?_;refine A2 [0,7,8,9] ?_;refine el ?_
  exact Dj (own:=[]) (fun _=>.refl _) (by repeat (first|exact Bx|refine Bw (by first|exact Kf|(simp [or_imp,forall_and];done)) ?_)) (by simp) (by simp)
 refine Z23 ?_;refine Z21 ?_;refine Z4 ?_;exact A9 (Af A7) ⟨by simp;omega,rfl⟩

theorem tm (s p:Str) (Hp:List AObj):AFun Tryz.prog 177 [A8 s,A8 p] Hp (Aj (Lib.hasPrefix s p)):=by
 refine Ai [.tmp 4] [0,1] Tryz.func177 Tryz.ntmps177 (fun d=>?_)
 refine Z39 ?_;refine Z21 ?_;refine Qy ?_
 refine B9 (h:=Gv (p.length) (fun _=>Aw _) (fun hB=>by simp at hB;omega)) (hr:=?_)
 refine Z3 ?_;refine Uv ?_;exact A9 (Af A7) ⟨by rw [←Lib.hasPrefix_of_take];simp,rfl⟩

def R7 (s p:Str):Str:=if Lib.hasPrefix s p then s.drop p.length else s
theorem tq (s p:Str) (Hp:List AObj):AFun Tryz.prog 173 [A8 s,A8 p] Hp (.tup [A8 (R7 s p),Aj (Lib.hasPrefix s p)]):=by
 refine Ai [.tmp 4,.tmp 5] [0,1] Tryz.func173 Tryz.ntmps173 (fun d=>?_)
 refine ec ?_;refine Z7 ?_;refine Ab Tryz.call177 (tm s p _) ?_;refine im ?_
 refine A6 (fun ht9=>?_) (fun ht9=>?_)
 ·have hf:Lib.hasPrefix s p=false:=by simpa using ht9
  have hm:R7 s p=s:=if_neg (by rw [hf];simp)
  refine Z16 ?_;refine A2 [4,5] ?_;refine Z28 ?_;exact oy
 have hf:Lib.hasPrefix s p=true:=by simpa using ht9
 have hm:R7 s p=s.drop p.length:=if_pos hf
 have hl:p.length≤s.length:=by
  have h9:=hf
  rw [←Lib.hasPrefix_of_take] at h9
  simp only [B1,decide_eq_true_eq] at h9
  exact h9.1
 refine Z5 ?_;refine Z16 ?_
 refine A4 (h:=I0 (p.length) (fun _=>hl) (fun _=>Ah _)) (hr:=?_)
 refine Z0 ?_;refine Z91 ?_;exact oy

theorem gu (s p:Str) (Hp:List AObj):AFun Tryz.prog 125 [A8 s,A8 p] Hp (.tup [A8 (R7 s p),Aj (Lib.hasPrefix s p)]):=by
 refine Ai [.tmp 4,.tmp 5] [0,1] Tryz.func125 Tryz.ntmps125 (fun d=>?_)
 refine ec ?_;refine Z1 ?_;refine Ab Tryz.call173 (tq s p _) ?_;refine Z66 ?_;refine Z91 ?_;exact A9 (Cr A7 A7) ⟨rfl,rfl⟩

theorem tr {x t:Str} {i:Nat} (h1:1≤i) (h2:i≤x.length):(39::(x++39::t))[i]? = some (x.getD (i-1) 0):=by
 obtain ⟨j,rfl⟩:∃j,i=j+1:=⟨i-1,by omega⟩
 rw [Ii,Cx (by omega),Nat.add_sub_cancel,Dw,Ad (by omega)]
 rfl
theorem qh {x t:Str}:(39::(x++39::t))[x.length+1]? = some 39:=by
 rw [Ii,Cp (Ah _),Sm]
 rfl
theorem nc {x t:Str}:(39::(x++39::t))[x.length+2]? = t[0]? := by
 rw [Ii,Cp (by omega),show x.length+1-x.length=1 by omega]
 rfl
theorem Ty {s:Str} {i:Nat} {b:UInt8} (h:s[i]? = some b):s.getD i 0=b:=by rw [Dw,h];rfl
theorem Ol {s:Str} {i:Nat} (h:i<s.length):s[i]? = some (s.getD i 0):=by rw [Dw,Ad h];rfl
theorem tt (x t:Str) (hx:∀b∈x,b≠39) (ht:∀b r,t=b::r→b≠39) (hlen:x.length+t.length≤1048576) (Hp:List AObj):AFun Tryz.prog 218 [A8 (39::(x++39::t))] Hp (A3 ((x.length+2:Nat):Int)):=by
 refine Ai [.tmp 2] [0] Tryz.func218 Tryz.ntmps218 (fun d=>?_)
 refine Z31 ?_;refine Z53 ?_
 have hsl:(39::(x++39::t)).length=x.length+t.length+2:=by simp;omega
 generalize hS:(39::(x++39::t))=s0 at hsl ⊢
 refine A4 ?_;refine Ki ?_
 refine C8 (α:=Nat) (fun i=>⟨32,Aa 0 (A8 s0) (Aa 3 (A3 (i:Nat)) (fun _=>.any)),Hp,[],[],none⟩) (fun i=>1≤i∧i≤x.length+1) (fun i=>x.length+2-i) (1) ⟨Ah _,by omega⟩ (C1 (by simp)) rfl (fun i hi=>?_)
 refine Z36 ?_;refine A2 [0,3,7] ?_
 refine A6 (fun ht7=>?_) (fun ht7=>?_)
 ·refine Z51 ?_;refine Z7 ?_
  refine A4 (h:=E9 (i) (s0.getD i 0) (fun _=>Ol (by omega))) (hr:=?_)
  refine A4 ?_;refine A2 [0,3,13] ?_
  refine A6 (fun ht13=>?_) (fun ht13=>?_)
  ·have hi3:i≤x.length:=by
    rcases B0 x.length i with h9|h9
    ·have e9:i=x.length+1:=by omega
     rw [e9,←hS,Ty qh] at ht13
     simp at ht13
    exact h9
   refine Z29 ?_;refine K.blE ?_;refine G6 ?_;refine Z58 ?_;refine Ki ?_;exact C0 (i+1) ⟨by omega,by omega⟩ (by omega) (Cm rfl)
  have hi3:i=x.length+1:=by
   rcases B0 x.length i with h9|h9
   ·omega
   rw [←hS,Ty (tr hi.1 h9)] at ht13
   have h8:=hx (x.getD (i-1) 0) (by rw [Dw,Ad (show i-1<x.length by omega)];exact C7 _)
   exact absurd (Fi.1 (show (x.getD (i-1) 0).toNat=(39:UInt8).toNat by have h5:(39:UInt8).toNat=39:=rfl;rw [h5];have h6:=bne_eq_false_iff_eq.1 ht13;omega)) h8
  refine Z5 ?_;refine Z36 ?_;refine Qy ?_
  refine B9 (h:=E9 (i+1) (s0.getD (i+1) 0) (fun hB=>Ol (by simp at hB;omega))) (hr:=?_)
  refine Z57 ?_;refine A2 [0,3,25] ?_
  refine A6 (fun ht25=>?_) (fun ht25=>?_)
  ·exfalso
   simp only [B1,decide_eq_true_eq] at ht25
   subst hi3
   rw [←hS] at ht25
   cases t with
   | nil=>simp at hsl ht25<;>omega
   | cons b r =>
    rw [Ty (nc (x:=x) (t:=b::r) |>.trans rfl)] at ht25
    have h7:=ht b r rfl
    exact absurd (Fi.1 (show b.toNat=(39:UInt8).toNat by have h5:(39:UInt8).toNat=39:=rfl;rw [h5];have:=ht25.2;simp at this;omega)) h7
  refine Z5 ?_;refine Z16 ?_;refine Z4 ?_;refine Z61 ?_;exact A9 (Af A7) ⟨by rw [hi3]<;>rfl,rfl⟩
 simp at ht7
 omega

theorem cc {v:Val} (hv:GoodV v) {t:Str}:Lib.hasPrefix (At v++t) [39]=(v.kind==2):=by
 rw [←hv.quot]
 have:=hv.ne
 cases hp:At v with
 | nil=>exact absurd hp this
 | cons b r=>rfl
theorem nd {v:Val} (hv:GoodV v) {t:Str}:Lib.hasPrefix (At v++t) [93]=false:=by
 have:=hv.ne
 cases hp:At v with
 | nil=>exact absurd hp this
 | cons b r =>
  have h:=(hv.bytes b (by rw [hp];exact Ef)).2.2.2
  show (((93:UInt8)==b)&&_)=false
  rw [show ((93:UInt8)==b)=false by rw [beq_eq_false_iff_ne];exact fun e=>h e.symm]
  rfl
/-- What may stand behind a value. -/
structure TailOk (t:Str):Prop where
 head:∃b r,t=b::r∧(b=44∨b=93)
 ascii:∀b∈t,b.toNat<128
 len:t.length≤100000
theorem qi {v:Val} (hv:GoodV v) (hk:(v.kind==2)=true) {t:Str} (hT:TailOk t) (Hp:List AObj):AFun Tryz.prog 218 [A8 (At v++t)] Hp (A3 ((At v).length:Int)):=by
 obtain ⟨h1,h2⟩:=hv.text hk
 have hl:=hv.len
 have hl2:=hT.len
 have hp:(At v).length=v.s.length+2:=by rw [h2];simp
 obtain ⟨b,r,e,hb⟩:=hT.head
 have:=tt v.s t h1 (fun b' r' e'=>by rw [e] at e';injection e' with e1 _;rw [←e1];rcases hb with rfl|rfl<;>decide) (by omega) Hp
 rw [show (39::(v.s++39::t))=At v++t by rw [h2];simp,←hp] at this
 exact this
theorem Tz:∀{l:List Val},(∀v∈l,GoodV v)→l.length≤1000→TailOk (Cw l)∧(Cw l).length≤11*l.length+1
 | [],_,_=>⟨⟨⟨93,[],rfl,.inr rfl⟩,fun b hb=>by rw [Cn.1 hb];decide,by decide⟩,by decide⟩
 | v::l,hg,hl=>by
  simp only [Ar] at hl ⊢
  have hv:=hg v Ef
  obtain ⟨ih,hi⟩:=Tz (l:=l) (fun x hx=>hg x (Hy _ hx)) (by omega)
  have hvl:=hv.len
  have he:(Cw (v::l)).length=1+(At v).length+(Cw l).length:=by rw [Cw];simp;omega
  refine ⟨⟨⟨44,At v++Cw l,by rw [Cw];simp,.inl rfl⟩,fun b hb=>?_,by omega⟩,by omega⟩
  rw [Cw] at hb
  rcases D6.1 hb with hb|hb
  ·rcases D6.1 hb with hb|hb
   ·rw [Cn.1 hb];decide
   exact (hv.bytes b hb).1
  exact ih.ascii b hb
theorem cd {l:List Val}:(Cw l).getD 0 0=if l=[] then 93 else 44:=by
 cases l with
 | nil=>rfl
 | cons v r=>rw [Cw];rfl
theorem Om {l:List Val}:0<(Cw l).length:=by
 cases l with
 | nil=>decide
 | cons v r=>rw [Cw];simp
theorem ce {l:List Val} {i:Nat} (h:i<l.length):(Cw (l.drop i)).drop 1=At l[i]++Cw (l.drop (i+1)):=by
 rw [Sb h,Cw]
 rfl
theorem cf {n k:Nat} {o:Bool} {l:List Val} {v:Val}:Low n (.slice o k (l.map Fo++[Fo v])):=by simp [or_imp,forall_and]
theorem tw (v:Val) (hv:GoodV v) (t:Str) (hT:TailOk t) (Hp:List AObj):AFun Tryz.prog 178 [A8 (At v++t)] Hp (.tup [Fo v,A8 t,Aj true]):=by
 refine Ai [.cell 2 35,.tmp 3,.tmp 4] [0] Tryz.func178 Tryz.ntmps178 (fun d=>?_)
 refine Z18 ?_;refine Z0 ?_;refine A2 [0,2] ?_;refine Df ?_
 have hvl:=hv.len
 have htl:=hT.len
 have hasc:∀b∈At v++t,b.toNat<128:=fun b hb=>(D6.1 hb).elim (fun h=>(hv.bytes b h).1) (hT.ascii b)
 refine A4 ?_
 refine Ab Tryz.call217 (tk (At v++t) (by rw [Am];omega) hasc _) ?_
 rw [jx (fun b hb=>(hv.bytes b hb).2.2) hT.head]
 refine A4 ?_;refine A2 [0,2,5] ?_
 refine Jo ⟨30,Aa 0 (A8 (At v++t)) (Aa 2 (.ptr (oid Hp.length 0) 0) (Aa 5 (A3 ((At v).length:Int)) (fun _=>.any))),Hp,[.cells 35 [A3 0,A3 0,A8 []]],[],none⟩ ?_ ?_
 ·refine Z2 ?_;refine Ab Tryz.call127 (iu (At v++t) [39] _) ?_;refine A2 [0,2,5,11] ?_
  refine A6 (fun ht11=>?_) (fun ht11=>?_)
  ·refine Z27 ?_
   refine Ab Tryz.call218 (qi hv (by rw [←cc hv (t:=t)];exact ht11) hT _) ?_
   refine A4 ?_;refine A2 [0,2,5] ?_;refine K.thJ ?_;exact C1 rfl
  refine F9 [0,2,5] ?_;refine G4 ?_;refine K.thJ ?_;exact C1 rfl
 refine Z7 ?_;refine A2 [0,2,5,15] ?_
 refine A6 (fun ht15=>?_) (fun ht15=>?_)
 ·simp at ht15
  omega
 refine Z5 ?_;refine Z1 ?_
 refine A4 (h:=Gv ((At v).length) (fun _=>Aw _) (fun _=>by rw [Am];omega)) (hr:=?_)
 rw [List.take_left]
 refine Ab Tryz.call94 (c94 (At v) (by omega) _) ?_
 rw [hv.read]
 refine X6 ?_;refine A2 [0,2,5,6,7] ?_;refine F7 [0,0,0,6,0,16,1,79,255] [6] [.q 6 [] [],.s [] (some 0) [] [],.q 1 [0] []] (fun _=>Hp) (fun B=>[.cells 35 (if B 0=true then [A3 v.kind,A3 v.n,A8 v.s] else [A3 0,A3 0,A8 []]),.cells 35 [A3 v.kind,A3 v.n,A8 v.s]]) Av (by kernel_rfl) rfl rfl (fun _=>rfl) ?_
 apply Y.q
 ·intro B hT hF
  refine Z34 ?_
  refine Bb (h:=I0 ((At v).length) (fun _=>by rw [Am];omega) (fun _=>Ah _)) (hr:=?_)
  exact Z60
 case hTF=>decide
 refine L1 (u:=Hp.length) (n:=0) (t':=35) (cs:=[A3 0,A3 0,A8 []]) (cs':=[A3 v.kind,A3 v.n,A8 v.s]) Tryz.sizeOf35 (fun B hB=>⟨rfl,by simp only [hB];rfl,by simp [upd],rfl⟩) ?_
 apply Y.q
 ·intro B hT hF
  exact Z37
 case hTF=>decide
 refine Et (tn:=[6]) (O:=[.cells 35 [A3 v.kind,A3 v.n,A8 v.s],.cells 35 [A3 v.kind,A3 v.n,A8 v.s]]) ?_;refine A4 ?_;refine A2 [2,3,4] ?_;refine Dg ?_;exact A9 (Mn (B3 jA jS) A7 A7) ⟨by rw [Wh]<;>rfl,rfl⟩

theorem cut_one {b:UInt8} {r:Str}:R7 (b::r) [b]=r∧Lib.hasPrefix (b::r) [b]=true:=by
 have h:Lib.hasPrefix (b::r) [b]=true:=by
  show ((b==b)&&Lib.hasPrefix r [])=true
  cases r<;>simp [Lib.hasPrefix]
 exact ⟨by unfold R7;rw [if_pos h];rfl,h⟩
theorem qj (Hp:List AObj):AFun Tryz.prog 128 [A8 (F0 [])] Hp (.tup [Ia [],A8 [],Aj true]):=by
 refine Ai [.tmp 2,.tmp 3,.tmp 4] [0] Tryz.func128 Tryz.ntmps128 (fun d=>?_)
 refine Z16 ?_;refine A2 [0] ?_;refine Df ?_
 rw [bu]
 refine A4 ?_;refine Ab Tryz.call125 (gu [91,93] [91] _) ?_
 rw [cut_one.1,cut_one.2]
 refine Z33 ?_;refine A2 [0,5] ?_;refine Z7 ?_;refine A2 [0,18] ?_
 refine A6 (fun ht18=>?_) (fun ht18=>?_)
 ·simp at ht18
 refine Z82 ?_;refine Ab Tryz.call125 (gu [93] [93] _) ?_
 rw [cut_one.1,cut_one.2]
 refine Z33 ?_;refine A2 [0,6,7] ?_;refine Z2 ?_;refine A2 [0,6,24] ?_
 refine A6 (fun ht24=>?_) (fun ht24=>?_)
 ·refine Z1 ?_;refine L8 2 3 false ?_;refine Z0 ?_;refine A2 [2,3,4] ?_;refine Z28 ?_;exact A9 (Mn A7 A7 A7)
 simp at ht24

theorem tx (l:List Val) (hn:l≠[]) (hg:∀v∈l,GoodV v) (hl:l.length≤1000) (Hp:List AObj):AFun Tryz.prog 128 [A8 (F0 l)] Hp (.tup [Ia l,A8 [],Aj true]):=by
 refine Ai [.tmp 2,.tmp 3,.tmp 4] [0] Tryz.func128 Tryz.ntmps128 (fun d=>?_)
 refine Z16 ?_;refine A2 [0] ?_;refine Df ?_
 have e0:F0 l=91::(Cw l).drop 1:=by
  cases l with
  | nil=>exact absurd rfl hn
  | cons v r=>rw [Lg];rfl
 rw [e0]
 refine A4 ?_;refine Ab Tryz.call125 (gu (91::(Cw l).drop 1) [91] _) ?_
 rw [cut_one.1,cut_one.2]
 refine Z33 ?_;refine A2 [0,5] ?_;refine Z7 ?_;refine A2 [0,18] ?_
 refine A6 (fun ht18=>?_) (fun ht18=>?_)
 ·simp at ht18
 refine Z82 ?_;refine Ab Tryz.call125 (gu ((Cw l).drop 1) [93] _) ?_
 have e1:Lib.hasPrefix ((Cw l).drop 1) [93]=false:=by
  cases l with
  | nil=>exact absurd rfl hn
  | cons v r=>exact nd (hg v Ef)
 have e2:R7 ((Cw l).drop 1) [93]=(Cw l).drop 1:=if_neg (by rw [e1];simp)
 rw [e1,e2]
 refine Z33 ?_;refine A2 [0,6,7] ?_;refine Z2 ?_;refine A2 [0,6,24] ?_
 refine A6 (fun ht24=>?_) (fun ht24=>?_)
 ·simp at ht24
 refine Z73 ?_;refine L8 8 3 true ?_;refine A2 [0,8] ?_
 refine C8 (α:=Nat) (fun x=>⟨50,Aa 0 (A8 ((Cw (l.drop x)).drop 1)) (Aa 8 (.slice true 3 ((l.take x).map Fo)) (fun _=>.any)),Hp,[],[],none⟩) (fun x=>x<l.length) (fun x=>l.length-x) (0) (List.length_pos_iff.2 hn) (C1 (by simp)) rfl (fun x hx=>?_)
 refine ea ?_
 have hT:=Tz (l:=l.drop (x+1)) (fun v hv=>hg v (Li hv)) (by rw [Ep];omega)
 rw [ce hx]
 refine A4 ?_;refine Ab Tryz.call178 (tw l[x] (hg _ (C7 hx)) (Cw (l.drop (x+1))) hT.1 _) ?_;refine Z66 ?_;refine Z8 ?_;refine Z0 ?_;refine A2 [8,9,10,11] ?_;refine Z30 ?_;refine Uy ?_;refine A2 [8,9,10,37] ?_
 refine A6 (fun ht37=>?_) (fun ht37=>?_)
 ·have h9:=Om (l:=l.drop (x+1))
  simp at ht37
  rw [ht37] at h9
  simp at h9
 refine Z5 ?_;refine Df ?_;refine R.moveT ?_;refine Z74 ?_
 refine F6 jU Tryz.type35 ?_ ?_ ?_
 ·simp only [Bs,Gt,Ar,Bd,Tryz.t35];omega
 ·simp only [Bs,Gt,Ar,Bd,Tryz.t35];omega
 refine G5 ?_;refine A2 [8,10] ?_;refine Z19 ?_
 refine A4 (h:=E9 0 ((Cw (l.drop (x+1))).getD 0 0) (fun _=>Ol Om)) (hr:=?_)
 refine A4 ?_;refine A2 [8,10,44] ?_
 refine A6 (fun ht44=>?_) (fun ht44=>?_)
 ·have hxe:l.drop (x+1)=[]:=by
   by_cases h:l.drop (x+1)=[]
   ·exact h
   rw [cd,if_neg h] at ht44
   simp at ht44
  have hxm:(l.take x).map Fo++[Fo l[x]]=l.map Fo:=by rw [←Qd hx,E3 (Sc.1 hxe)]
  refine Hf [0,0,2,1,15,31] 4 Av (by kernel_rfl) ?_;refine Z11 ?_
  refine Bb (h:=I0 1 (fun _=>Om) (fun _=>Ah _)) (hr:=?_)
  refine Uu ?_;refine Z0 ?_;refine A2 [2,3,4] ?_;refine Z28 ?_;refine eh ?_;exact A9 (Mn A7 A7 A7) ⟨by rw [hxe,hxm]<;>rfl,rfl⟩ (hlow:=by simp [or_imp,forall_and]<;>exact fun y hy=>by obtain ⟨v,_,rfl⟩:=E2.1 (K4 hy);simp)
 have hlt:x+1<l.length:=by
  rcases B0 (x+1) l.length with h|h
  ·exact h
  rw [List.drop_eq_nil_of_le h] at ht44
  simp [Cw] at ht44
 refine Z5 ?_;refine Z27 ?_
 refine A4 (h:=I0 1 (fun _=>Om) (fun _=>Ah _)) (hr:=?_)
 refine A4 ?_;refine A2 [0,8] ?_;refine F8 ?_;refine el ?_
 rw [Qd (by omega)]
 exact Dj (own:=[]) (fun _=>.refl _) (by repeat (first|exact Bx|refine Bw (by first|exact cf|(simp [or_imp,forall_and];done)) ?_)) (by simp) (by simp)

theorem Zi {v x:Int} (hv:v=0∨v=1) (hx:x=0∨x=1) {t:Str}:Lib.hasPrefix ([32]++Ez v++t) ([32]++Ez x)=(x==v):=by
 rcases hv with rfl|rfl<;>rcases hx with rfl|rfl<;>cases t<;>rfl
theorem On {v:Int}:(Ez v).length=3:=by unfold Ez;split<;>rfl
theorem kj {v:Int} (hv:v=0∨v=1) {t:Str}:R7 (32::(Ez v++t)) (32::Ez v)=t:=by
 show R7 ([32]++Ez v++t) ([32]++Ez v)=t
 unfold R7
 rw [Zi hv hv,if_pos (by simp),Wh]
theorem c90 (v:Int) (hv:v=0∨v=1) (t:Str) (ht:t.length≤100000) (Hp:List AObj):AFun Tryz.prog 90 [A8 ([32]++Ez v++t)] Hp (.tup [A3 v,A8 t,Aj true]):=by
 refine Ai [.tmp 2,.tmp 3,.tmp 4] [0] Tryz.func90 Tryz.ntmps90 (fun d=>?_)
 refine Z16 ?_;refine A2 [0] ?_;refine Z19 ?_;refine A2 [0,5] ?_
 refine C8 (α:=Nat) (fun x=>⟨23,Aa 0 (A8 ([32]++Ez v++t)) (Aa 5 (A3 (x:Nat)) (fun _=>.any)),Hp,[],[],none⟩) (fun x=>(x:Int)≤v) (fun x=>2-x) (0) (by omega) (C1 (by simp)) rfl (fun x hx=>?_)
 refine Z7 ?_;refine A2 [0,5,9] ?_
 refine A6 (fun ht9=>?_) (fun ht9=>?_)
 ·refine T9 ?_;refine Ab Tryz.call53 (c53 x _) ?_
  refine A4 (h:=Dz (hl:=fun _=>by have:=On (v:=(x:Int));simp only [Am,Ar,Bd];omega)) (hr:=?_)
  refine Ab Tryz.call125 (gu ([32]++Ez v++t) ([32]++Ez x) _) ?_
  rw [Zi hv (by omega)]
  refine Z33 ?_;refine A2 [0,5,6,7] ?_;refine Z2 ?_;refine A2 [0,5,6,20] ?_
  refine A6 (fun ht20=>?_) (fun ht20=>?_)
  ·have hxv:(x:Int)=v:=by simpa using ht20
   rw [hxv,kj hv]
   refine Z1 ?_;refine Z6 ?_;refine A2 [2,3,4] ?_;refine Z40 ?_;refine Z42 ?_;exact A9 (Mn A7 A7 A7)
  have hxv:¬(x:Int)=v:=by simpa using ht20
  refine Z77 ?_;refine A2 [0,5] ?_;exact C0 (x+1) (by omega) (by omega) (Cm rfl)
 simp at ht9
 omega

/-- What is drawn of a write. -/
structure WrOk (w:Wr):Prop where
 key:0≤w.key∧w.key<12
 good:∀v∈w.l,GoodV v
 len:w.l.length≤1000
 drop:w.drop=true→w.l=[]
def Ee (w:Wr):Str:=if w.drop then Qi else F0 w.l
theorem S7 {l:List Val}:∃r,F0 l=91::r:=⟨_,rfl⟩
theorem cg {w:Wr}:Lib.hasPrefix (Ee w) (Qi++[32])=false:=by
 unfold Ee
 cases h:w.drop
 ·obtain ⟨r,e⟩:=S7 (l:=w.l)
  rw [if_neg (by simp),e]
  rfl
 rfl
theorem Y5 {w:Wr}:(Ee w==[100,114,111,112] || Lib.hasPrefix (Ee w) (Qi++[32]))=w.drop:=by
 rw [cg,Bool.or_false]
 unfold Ee
 cases h:w.drop
 ·obtain ⟨r,e⟩:=S7 (l:=w.l)
  simp [e]
 rfl
theorem Zj:(List.range 12).all (fun u=>decide ((Lib.itoa ((u:Nat):Int)).length≤2)&&decide ((32:UInt8)∉Lib.itoa ((u:Nat):Int)))=true:=by kernel_rfl
theorem Kh {n:Int} (h:0≤n∧n<12):(Lib.itoa n).length≤2:=by
 obtain ⟨u,rfl⟩:∃u:Nat,n=(u:Int):=⟨n.toNat,by omega⟩
 have:u<12:=by omega
 have:=Ap.1 Zj u (Dm.2 this)
 simp only [B1,decide_eq_true_eq] at this
 exact this.1
theorem nf {n:Int} (h:0≤n∧n<12):(32:UInt8)∉Lib.itoa n:=by
 obtain ⟨u,rfl⟩:∃u:Nat,n=(u:Int):=⟨n.toNat,by omega⟩
 have:u<12:=by omega
 have:=Ap.1 Zj u (Dm.2 this)
 simp only [B1,decide_eq_true_eq] at this
 exact this.2
theorem Wa {l:List Val} (hg:∀v∈l,GoodV v) (hl:l.length≤1000):(F0 l).length≤11003:=by
 cases l with
 | nil=>decide
 | cons v r =>
  have:=(Tz (l:=v::r) hg hl).2
  have e:(F0 (v::r)).length=(Cw (v::r)).length:=by rw [Lg,Cw];simp
  simp only [Ar] at hl this
  omega
theorem km {w:Wr}:Lib.trimPrefix (Gf [w]) [32]=Lib.itoa w.key++32::Ee w:=by
 have e:Gf [w]=32::(Lib.itoa w.key++32::Ee w):=by
  unfold Gf wrS Ee
  simp
 rw [e]
 unfold Lib.trimPrefix
 have h:=(cut_one (b:=32) (r:=Lib.itoa w.key++32::Ee w)).2
 rw [if_pos h]
 rfl
theorem wr_head {w:Wr}:(Gf [w])[0]? = some 32∧Gf [w]≠[]:=by
 have e:Gf [w]=32::(Lib.itoa w.key++32::Ee w):=by
  unfold Gf wrS Ee
  simp
 rw [e]
 exact ⟨rfl,by simp⟩
theorem U0 {w:Wr} (h:WrOk w):(Ee w).length≤11003∧(Gf [w]).length≤11010:=by
 have h1:=Kh h.key
 have h2:=Wa h.good h.len
 have h3:(Ee w).length≤11003:=by
  unfold Ee
  split
  ·decide
  exact h2
 have e:Gf [w]=32::(Lib.itoa w.key++32::Ee w):=by
  unfold Gf wrS Ee
  simp
 refine ⟨h3,?_⟩
 rw [e]
 simp only [Ar,Am]
 omega
theorem ql (l:List Val) (hg:∀v∈l,GoodV v) (hl:l.length≤1000) (Hp:List AObj):AFun Tryz.prog 128 [A8 (F0 l)] Hp (.tup [Ia l,A8 [],Aj true]):=by
 by_cases hn:l=[]
 ·subst hn
  exact qj _
 exact tx l hn hg hl _
theorem c91 (w:Wr) (h:WrOk w) (Hp:List AObj):AFun Tryz.prog 91 [A8 (Gf [w])] Hp (.tup [Qf [w],Aj true]):=by
 refine Ai [.tmp 2,.tmp 3] [0] Tryz.func91 Tryz.ntmps91 (fun d=>?_)
 refine Z1 ?_;refine A2 [0] ?_;refine Z2 ?_;refine L8 4 3 true ?_;refine A2 [0,4] ?_;refine W.seq ?_
 refine C8 (α:=Nat) (fun x=>⟨71,Aa 0 (A8 (Gf ([w].drop x))) (Aa 4 (.slice true 3 (([w].take x).map wrA)) (fun _=>.any)),Hp,[],[],none⟩) (fun x=>x≤1) (fun x=>1-x) (0) (by omega) (C1 (by simp)) rfl (fun x hx=>?_)
 refine Z7 ?_;refine A2 [0,4,12] ?_
 refine A6 (fun ht12=>?_) (fun ht12=>?_)
 ·have hlt:x<1:=by
   rcases B0 x 1 with h9|h9
   ·exact h9
   have:x=1:=by omega
   subst this
   simp [Gf] at ht12
  refine Z5 ?_;refine ea ?_
  have hx0:x=0:=by omega
  subst hx0
  simp only [Ov,List.take_zero]
  have hk1:=Kh h.key
  have hk2:=U0 h
  refine A4 ?_;refine Ab Tryz.call93 (c93 (Gf [w]) [32] _) ?_
  rw [km]
  refine Ab Tryz.call60 (c60 (Lib.itoa w.key++32::Ee w) [32] (by simp only [Ar,Am];omega) _) ?_
  rw [gj (nf h.key)]
  refine Z0 ?_;refine Z33 ?_;refine A2 [0,4,5,6,7] ?_;refine Z2 ?_;refine Ab Tryz.call126 (mg (Lib.itoa w.key) (by omega) _) ?_
  rw [Zg (by have:=h.key;omega) (by have:=h.key;omega)]
  refine Z33 ?_;refine A2 [0,4,6,7,8,9] ?_;refine Z30 ?_;refine B9 ?_
  refine B9 (h:=E9 0 32 (fun _=>wr_head.1)) (hr:=?_)
  refine B9 ?_;refine Z15 ?_;refine A4 ?_;refine A2 [4,6,8,35] ?_
  refine A6 (fun ht35=>?_) (fun ht35=>?_)
  ·simp at ht35
  refine Z73 ?_;refine I6 (wrA ⟨w.key,false,[]⟩) li (places:=#[(0,1),(1,1),(2,1)]) jU (fun w=>by simp) Tryz.zeroValue60 ?_;refine Z8 ?_;refine A2 [4,6,10] ?_;refine Z30 ?_;refine B9 ?_;refine Bh Tryz.call127 (fun hB=>iu (Ee w) (Qi++[32]) _) ?_;refine Z0 ?_;refine Fu ?_;refine A2 [4,6,10] ?_;refine Df ?_
  rw [Y5]
  refine Z0 ?_;refine A2 [4,6,10,46] ?_
  refine A6 (fun ht46=>?_) (fun ht46=>?_)
  ·have hr:Ee w=Qi:=if_pos ht46
   rw [hr]
   clear hr
   have hl:=h.drop ht46
   obtain ⟨key,drop,l⟩:=w
   simp only at hl ht46
   subst hl
   subst ht46
   refine Z27 ?_
   refine A4 (h:=I0 4 (fun _=>by decide) (fun _=>Ah _)) (hr:=?_)
   refine A4 ?_;refine A2 [0,4,10] ?_;refine G6 ?_;refine Z56 ?_;refine Z74 ?_
   refine F6 jU Tryz.type60 ?_ ?_ ?_
   ·simp [Tryz.t60]<;>omega
   ·simp [Tryz.t60]<;>omega
   refine G5 ?_;refine A2 [0,4] ?_;refine F8 ?_;refine C0 1 (by omega) (by omega) ?_
   exact Dj (own:=[]) (fun _=>.refl _) (by repeat (first|exact Bx|refine Bw (by first|exact Kf|(simp [or_imp,forall_and];done)) ?_)) (by simp) (by simp)
  have hr:Ee w=F0 w.l:=if_neg (by rw [ht46];simp)
  rw [hr]
  refine Z2 ?_;refine Ab Tryz.call128 (ql w.l h.good h.len _) ?_;refine io ?_;refine Z0 ?_;refine A2 [0,4,7,10] ?_;refine Z1 ?_;refine A2 [0,4,10,57] ?_
  refine A6 (fun ht57=>?_) (fun ht57=>?_)
  ·simp at ht57
  refine Z5 ?_;refine Z56 ?_;refine Z74 ?_
  refine F6 jU Tryz.type60 ?_ ?_ ?_
  ·simp [Tryz.t60]<;>omega
  ·simp [Tryz.t60]<;>omega
  refine G5 ?_;refine A2 [0,4] ?_;refine F8 ?_;refine C0 1 (by omega) (by omega) ?_
  exact Dj (own:=[]) (fun _=>.refl _) (by repeat (first|exact Bx|refine Bw (by first|exact Kf|(simp [or_imp,forall_and];done)) ?_)) (by simp) (by simp)
 have hxe:x=1:=by
  rcases B0 x 1 with h9|h9
  ·have:x=0:=by omega
   subst this
   simp [wr_head.2] at ht12
  omega
 subst hxe
 refine Z59 ?_;refine Z1 ?_;refine Z6 ?_;refine X7 ?_;refine Z6 ?_;refine Z20 ?_;exact A9 (Cr A7 A7) ⟨by simp,rfl⟩ (hlow:=by simp [or_imp,forall_and])

theorem U1 {s:Str}:Lib.trimPrefix (32::s) [32]=s:=by
 unfold Lib.trimPrefix
 rw [if_pos (cut_one (b:=32) (r:=s)).2]
 rfl
theorem c95 (n:Int) (h:0≤n∧n<12) (Hp:List AObj):AFun Tryz.prog 95 [A8 (32::Lib.itoa n),A3 0] Hp (.tup [A3 n,Aj true]):=by
 refine Ai [.tmp 4,.tmp 5] [0,1] Tryz.func95 Tryz.ntmps95 (fun d=>?_)
 refine ec ?_;refine Z2 ?_;refine Ab Tryz.call93 (c93 (32::Lib.itoa n) [32] _) ?_
 rw [U1]
 refine Ab Tryz.call126 (mg (Lib.itoa n) (by have:=Kh h;omega) _) ?_
 rw [Zg (by omega) (by omega)]
 refine Z33 ?_;refine A2 [0,1,6,7] ?_;refine aq ?_;refine Bh Tryz.call127 (fun hB=>iu (32::Lib.itoa n) [32] _) ?_;refine Qy ?_;refine Z15 ?_;refine Z6 ?_;refine Z91 ?_;exact A9 (Cr A7 A7) ⟨by rw [cut_one.2];simp;omega,rfl⟩

def selS:Str:=[115,101,108,101,99,116,32,42,59]
theorem cj:I5 selS=(R6,0,0):=by kernel_rfl
theorem ck:Qe R6=true:=by kernel_rfl
theorem gv:W4 R6=false:=by kernel_rfl
theorem U2:QW R6:=⟨M2 (by decide),by decide,by kernel_rfl,by decide,by intro s hs;cases hs⟩
theorem tz (Hp:List AObj):AFun Tryz.prog 55 [Tx R6] Hp (.tup [A8 selS,A3 0]):=by
 refine Ai [.tmp 2,.tmp 3] [0] Tryz.func55 Tryz.ntmps55 (fun d=>?_)
 refine Z16 ?_;refine A2 [1] ?_;refine Z19 ?_;refine Ab Tryz.call82 (ck ▸ c82 R6 U2 _) ?_;refine A4 ?_;refine A2 [1,9] ?_
 refine A6 (fun ht9=>?_) (fun ht9=>?_)
 ·simp at ht9
 refine Z73 ?_;refine A2 [1,4] ?_;refine Z30 ?_;refine A2 [1,4,12] ?_
 refine A6 (fun ht12=>?_) (fun ht12=>?_)
 ·cases ht12
 refine Z82 ?_;refine Ab Tryz.call84 (gv ▸ c84 R6 U2 _) ?_;refine A2 [1,4,18] ?_
 refine A6 (fun ht18=>?_) (fun ht18=>?_)
 ·cases ht18
 refine Z5 ?_;refine Z30 ?_;refine A2 [1,4,34] ?_
 refine A6 (fun ht34=>?_) (fun ht34=>?_)
 ·cases ht34
 refine Z5 ?_;refine Z30 ?_;refine A2 [4] ?_;refine Z16 ?_;refine A2 [4,45] ?_
 refine A6 (fun ht45=>?_) (fun ht45=>?_)
 ·simp at ht45
 refine Z5 ?_;refine Z16 ?_;refine Z20 ?_;exact A9 (Cr A7 A7)

def Ff (c:Cal):Str:=
 if c.kind=1 then [32]++Ez c.ver++Gf c.wr
 else if c.kind=2 then [32]++Ez c.ver++[32]++selS
 else if c.kind=3 then [32]++At ⟨2,0,c.text.take 200⟩
 else if c.kind=5 then [32]++Lib.itoa c.n
 else []
def Cj (c:Cal):Str:=Ey c.kind++Ff c
theorem Wb {k:Int}:(Ey k).length≤10:=by
 unfold Ey
 split
 ·decide
 rename_i h
 have:=Ap.1 (show (List.range 9).all (fun i=>decide ((cmdL.getD i []).length≤10))=true by kernel_rfl) k.toNat (Dm.2 (by omega))
 simpa using this
theorem Lh {t:Str}:At ⟨2,0,t.take 200⟩=[39]++Ch (t.take 200)++[39]:=by
 have hp:E0 ⟨2,0,t.take 200⟩=true:=by
  unfold E0
  simp
  omega
 unfold At
 rw [hp]
 show [39]++Lib.replaceAll (t.take 200) [39] [39,39]++[39]=_
 rw [Jz]
theorem Qp {t:Str}:(At ⟨2,0,t.take 200⟩).length≤402:=by
 have h:(t.take 200).length≤200:=by rw [Gt];omega
 have h3:=Lz (t.take 200)
 rw [Lh]
 simp only [Am,Ar,Bd]
 omega
/-- What the printer asks of a call. -/
structure LC (c:Cal):Prop where
 kind:c.kind=1∨c.kind=2∨c.kind=3∨c.kind=5∨c.kind=6
 one:c.wr.length≤1
 ww:∀w∈c.wr,WW w
 wl:(Gf c.wr).length≤11010
 n:0≤c.n∧c.n<12
 q:c.kind=2→c.q=R6
theorem c29 (c:Cal) (h:LC c) (Hp:List AObj):AFun Tryz.prog 29 [Bz c] Hp (A8 (Cj c)):=by
 refine Ai [.tmp 2] [0] Tryz.func29 Tryz.ntmps29 (fun d=>?_)
 refine Z83 ?_;refine Z1 ?_;refine Ab Tryz.call52 (c52 c.kind _) ?_;refine A4 ?_;refine A2 [1,3] ?_;refine Z53 ?_
 have hw:=Wb (k:=c.kind)
 have hv:=On (v:=c.ver)
 have hl:=h.wl
 have ht:=Qp (t:=c.text)
 have hn:=Kh h.n
 have hs:selS.length=9:=rfl
 refine Z0 ?_;refine A2 [1,3,10] ?_;refine Z97 ?_;refine A2 [1,3,10,11] ?_
 refine A6 (fun ht11=>?_) (fun ht11=>?_)
 ·have h1:c.kind=1:=by simpa using ht11
  refine W.drawQ0 [0,0,2,6,14,0,32,110,254,511,1023] 9 Av (by kernel_rfl) ?_;refine Z34 ?_;refine D.call Tryz.call53 (c53 c.ver _) ?_
  refine Bb (h:=Dz (hl:=fun _=>by simp only [Am,Ar,Bd];omega)) (hr:=?_)
  refine Z11 ?_;refine D.call Tryz.call54 (c54 c.wr h.one h.ww _) ?_
  refine Bb (h:=Dz (hl:=fun _=>by simp only [Am,Ar,Bd];omega)) (hr:=?_)
  refine In ?_
  refine A4 (h:=Dz (hl:=fun _=>by simp only [Am,Ar,Bd];omega)) (hr:=?_)
  exact il
 have h1:¬c.kind=1:=by simpa using ht11
 refine Z1 ?_;refine A2 [1,3,10,23] ?_
 refine A6 (fun ht23=>?_) (fun ht23=>?_)
 ·have h2:c.kind=2:=by simpa using ht23
  refine Z1 ?_
  rw [h.q h2]
  refine Ab Tryz.call55 (tz _) ?_;refine Z33 ?_;refine A2 [1,3,4] ?_;refine Z58 ?_;refine Ab Tryz.call53 (c53 c.ver _) ?_
  refine A4 (h:=Dz (hl:=fun _=>by simp only [Am,Ar,Bd];omega)) (hr:=?_)
  refine A4 (h:=Dz (hl:=fun _=>by simp only [Am,Ar,Bd];omega)) (hr:=?_)
  refine A4 ?_
  refine A4 (h:=Dz (hl:=fun _=>by simp only [Am,Ar,Bd];omega)) (hr:=?_)
  refine A4 (h:=Dz (hl:=fun _=>by simp only [Am,Ar,Bd];omega)) (hr:=?_)
  exact il
 have h2:¬c.kind=2:=by simpa using ht23
 refine Z1 ?_;refine A2 [1,3,10,40] ?_
 refine A6 (fun ht40=>?_) (fun ht40=>?_)
 ·have h3:c.kind=3:=by simpa using ht40
  refine Z58 ?_;refine Ab Tryz.call57 (c57 c.text _) ?_;refine Ab Tryz.call56 (c56 ⟨2,0,c.text.take 200⟩ (show j1 0 from ⟨by decide,by decide⟩) _) ?_
  refine A4 (h:=Dz (hl:=fun _=>by simp only [Am,Ar,Bd];omega)) (hr:=?_)
  refine A4 (h:=Dz (hl:=fun _=>by simp only [Am,Ar,Bd];omega)) (hr:=?_)
  exact il
 have h3:¬c.kind=3:=by simpa using ht40
 refine Z7 ?_;refine A2 [1,3,10,49] ?_
 refine A6 (fun ht49=>?_) (fun ht49=>?_)
 ·have h5:c.kind=5:=by simpa using ht49
  refine Z5 ?_
  refine A6 (fun ht49=>?_) (fun ht49=>?_)
  ·refine Z58 ?_
   refine Ab Tryz.call58 (c58 c.n (by have:=h.n;omega) (by have:=h.n;omega) _) ?_
   refine A4 (h:=Dz (hl:=fun _=>by simp only [Am,Ar,Bd];omega)) (hr:=?_)
   refine A4 (h:=Dz (hl:=fun _=>by simp only [Am,Ar,Bd];omega)) (hr:=?_)
   exact il
  exact absurd h5 (by simpa using ht49)
 have h5:¬c.kind=5:=by simpa using ht49
 refine Z41 ?_;refine A2 [1,3,10,49] ?_;refine G6 ?_
 refine A6 (fun ht49=>?_) (fun ht49=>?_)
 ·have h7:c.kind=7:=by simpa using ht49
  have:=h.kind
  omega
 refine Z1 ?_;refine A2 [1,3,58] ?_
 refine A6 (fun ht58=>?_) (fun ht58=>?_)
 ·have h8:c.kind=8:=by simpa using ht58
  have:=h.kind
  omega
 refine Z55 ?_;exact o7

def zk (k:Int):Cal:=⟨k,0,[],Hi,[],0,0⟩
theorem u1 (w:Wr) (h:WrOk w) (Hp:List AObj):AFun Tryz.prog 61 [Bz (zk 1),A8 ([32]++Ez 0++Gf [w])] Hp (.tup [Bz (Cs w),Aj true]):=by
 refine Ai [.cell 4 42,.tmp 5] [0,1] Tryz.func61 Tryz.ntmps61 (fun d=>?_)
 refine an ?_;refine Z90 ?_;refine dy ?_;refine Z7 ?_;refine Z95 ?_;refine dv ?_
 refine A6 (fun ht17=>?_) (fun ht17=>?_)
 ·refine Z5 ?_
  refine A6 (fun ht17=>?_) (fun ht17=>?_)
  ·refine Z19 ?_
   refine Ab Tryz.call90 (c90 0 (.inl rfl) (Gf [w]) (by have:=U0 h;omega) _) ?_
   refine io ?_;refine Z0 ?_;refine A2 [1,2,4,6] ?_;refine Z1 ?_;refine A2 [1,2,4,28] ?_
   refine A6 (fun ht28=>?_) (fun ht28=>?_)
   ·simp [zk] at ht28
   refine Z5 ?_;refine Z30 ?_;refine A2 [1,2,4,32] ?_
   refine A6 (fun ht32=>?_) (fun ht32=>?_)
   ·refine Z2 ?_;refine Ab Tryz.call91 (c91 w h _) ?_;refine Z66 ?_;refine Z47 ?_;refine A2 [2,4,6] ?_;refine Z1 ?_;refine Z47 ?_;refine A2 [4,5] ?_;refine Z28 ?_;refine Z10 ?_;exact m7
   simp [zk] at ht32
  simp [zk] at ht17
 simp [zk] at ht17

theorem u3 (v:Int) (hv:v=0∨v=1) (Hp:List AObj):AFun Tryz.prog 61 [Bz (zk 2),A8 ([32]++Ez v++(32::selS))] Hp (.tup [Bz (Cv v),Aj true]):=by
 refine Ai [.cell 4 42,.tmp 5] [0,1] Tryz.func61 Tryz.ntmps61 (fun d=>?_)
 refine an ?_;refine Z90 ?_;refine dy ?_;refine Z7 ?_;refine Z95 ?_;refine dv ?_
 refine A6 (fun ht17=>?_) (fun ht17=>?_)
 ·simp [zk] at ht17
 refine Z41 ?_;refine ic ?_
 refine A6 (fun ht17=>?_) (fun ht17=>?_)
 ·refine Z19 ?_;refine Ab Tryz.call90 (c90 v hv (32::selS) (by decide) _) ?_;refine io ?_;refine Z0 ?_;refine A2 [1,2,4,6] ?_;refine Z1 ?_;refine A2 [1,2,4,28] ?_
  refine A6 (fun ht28=>?_) (fun ht28=>?_)
  ·simp [zk] at ht28
  refine Z5 ?_;refine Z30 ?_;refine A2 [1,2,4,32] ?_
  refine A6 (fun ht32=>?_) (fun ht32=>?_)
  ·simp [zk] at ht32
  refine Z73 ?_;refine Ab Tryz.call93 (c93 (32::selS) [32] _) ?_
  rw [U1]
  refine Ab Tryz.call92 (c6 selS (by decide) _) ?_
  rw [cj]
  refine Z6 ?_;refine I1 jZ ?_;refine Z8 ?_;refine Fu ?_;refine A2 [2,4,7,8] ?_;refine Z1 ?_;refine Fu ?_;refine A2 [2,4,8] ?_;refine F7 [0,0,2,6,1,31] [4] [.q 4 [] [],.s [] (some 0) [] []] (fun _=>Hp) (fun B=>[.cells 42 (Gx (Cv v)),.cells 42 (if B 0=true then Gx (Cv v) else [A3 0,A3 0,.nil,Aj false,.nil,A3 0,A8 [],A3 0,A3 0,A8 [],.nil,A3 0,A8 [],A3 0,Cf 0]),.cells 40 [Aj true,Fv [],A3 0,A8 [],A3 0,A3 0,A8 [],.slice false 6 [],A3 (-1)],.cells 67 [A3 0,A3 0]]) Av (by kernel_rfl) rfl rfl (fun _=>rfl) ?_
  apply Y.q
  ·intro B hT hF
   exact Z99
  case hTF=>decide
  refine L1 (u:=Hp.length) (n:=1) (t':=42) (cs:=[A3 0,A3 0,.nil,Aj false,.nil,A3 0,A8 [],A3 0,A3 0,A8 [],.nil,A3 0,A8 [],A3 0,Cf 0]) (cs':=Gx (Cv v)) Tryz.sizeOf42 (fun B hB=>⟨rfl,by simp only [hB];rfl,by simp [upd],rfl⟩) ?_
  refine Et (tn:=[4]) (O:=[.cells 42 (Gx (Cv v)),.cells 42 (Gx (Cv v)),.cells 40 [Aj true,Fv [],A3 0,A8 [],A3 0,A3 0,A8 [],.slice false 6 [],A3 (-1)],.cells 67 [A3 0,A3 0]]) ?_;refine A4 ?_;refine A2 [4,5] ?_;exact Z93
 simp [zk] at ht17

theorem u4 (t:Str) (Hp:List AObj):AFun Tryz.prog 61 [Bz (zk 3),A8 (32::At ⟨2,0,t.take 200⟩)] Hp (.tup [Bz (B8 (t.take 200)),Aj true]):=by
 refine Ai [.cell 4 42,.tmp 5] [0,1] Tryz.func61 Tryz.ntmps61 (fun d=>?_)
 refine an ?_;refine Z90 ?_;refine dy ?_;refine Z7 ?_;refine Z95 ?_;refine dv ?_
 refine A6 (fun ht17=>?_) (fun ht17=>?_)
 ·simp [zk] at ht17
 refine Z41 ?_;refine ic ?_
 refine A6 (fun ht17=>?_) (fun ht17=>?_)
 ·simp [zk] at ht17
 refine Z1 ?_;refine A2 [1,2,4,6,16,53] ?_
 refine A6 (fun ht53=>?_) (fun ht53=>?_)
 ·refine Z2 ?_;refine Ab Tryz.call93 (c93 (32::At ⟨2,0,t.take 200⟩) [32] _) ?_
  rw [U1]
  refine Ab Tryz.call94 (c94 (At ⟨2,0,t.take 200⟩) (by have:=Qp (t:=t);omega) _) ?_
  rw [Lh,bq (by rw [Gt];omega)]
  refine X6 ?_;refine A2 [2,4,9,10] ?_;refine Z16 ?_;refine Fu ?_;refine A2 [2,4,9,10] ?_;refine F7 [0,0,2,6,14,30,62,126,15,511] [8] [.q 8 [] [],.s [] (some 0) [] []] (fun _=>Hp) (fun B=>[.cells 42 (Gx (B8 (t.take 200))),.cells 42 (if B 0=true then Gx (B8 (t.take 200)) else [A3 0,A3 0,.nil,Aj false,.nil,A3 0,A8 [],A3 0,A3 0,A8 [],.nil,A3 0,A8 [],A3 0,Cf 0]),.cells 35 [A3 2,A3 0,A8 (t.take 200)]]) Av (by kernel_rfl) rfl rfl (fun _=>rfl) ?_
  apply Y.q
  ·intro B hT hF
   refine Z11 ?_;refine Z11 ?_;refine Uw ?_;exact Z37
  case hTF=>decide
  refine L1 (u:=Hp.length) (n:=1) (t':=42) (cs:=[A3 0,A3 0,.nil,Aj false,.nil,A3 0,A8 [],A3 0,A3 0,A8 [],.nil,A3 0,A8 [],A3 0,Cf 0]) (cs':=Gx (B8 (t.take 200))) Tryz.sizeOf42 (fun B hB=>⟨rfl,by simp only [hB];rfl,by simp [upd],rfl⟩) ?_
  refine Et (tn:=[8]) (O:=[.cells 42 (Gx (B8 (t.take 200))),.cells 42 (Gx (B8 (t.take 200))),.cells 35 [A3 2,A3 0,A8 (t.take 200)]]) ?_;refine A4 ?_;refine A2 [4,5] ?_;exact Z93
 simp [zk] at ht53

theorem u5 (n:Int) (h:0≤n∧n<12) (Hp:List AObj):AFun Tryz.prog 61 [Bz (zk 5),A8 (32::Lib.itoa n)] Hp (.tup [Bz (Ds n),Aj true]):=by
 refine Ai [.cell 4 42,.tmp 5] [0,1] Tryz.func61 Tryz.ntmps61 (fun d=>?_)
 refine an ?_;refine Z90 ?_;refine dy ?_;refine Z7 ?_;refine Z95 ?_;refine dv ?_
 refine A6 (fun ht17=>?_) (fun ht17=>?_)
 ·simp [zk] at ht17
 refine Z41 ?_;refine ic ?_
 refine A6 (fun ht17=>?_) (fun ht17=>?_)
 ·simp [zk] at ht17
 refine Z1 ?_;refine A2 [1,2,4,6,16,53] ?_
 refine A6 (fun ht53=>?_) (fun ht53=>?_)
 ·simp [zk] at ht53
 refine Z1 ?_;refine A2 [1,2,4,6,16,72] ?_
 refine A6 (fun ht72=>?_) (fun ht72=>?_)
 ·refine Z27 ?_;refine Ab Tryz.call95 (c95 n h _) ?_;refine Z66 ?_;refine Z47 ?_;refine A2 [2,4,6] ?_;refine Z12 ?_;refine Z1 ?_;refine Z47 ?_;exact Z96
 simp [zk] at ht72

theorem u6  (Hp:List AObj):AFun Tryz.prog 61 [Bz (zk 6),A8 ([])] Hp (.tup [Bz (De),Aj true]):=by
 refine Ai [.cell 4 42,.tmp 5] [0,1] Tryz.func61 Tryz.ntmps61 (fun d=>?_)
 refine an ?_;refine Z90 ?_;refine dy ?_;refine Z7 ?_;refine Z95 ?_;refine dv ?_
 refine A6 (fun ht17=>?_) (fun ht17=>?_)
 ·simp [zk] at ht17
 refine Z41 ?_;refine ic ?_
 refine A6 (fun ht17=>?_) (fun ht17=>?_)
 ·simp [zk] at ht17
 refine Z1 ?_;refine A2 [1,2,4,6,16,53] ?_
 refine A6 (fun ht53=>?_) (fun ht53=>?_)
 ·simp [zk] at ht53
 refine Z1 ?_;refine A2 [1,2,4,6,16,72] ?_
 refine A6 (fun ht72=>?_) (fun ht72=>?_)
 ·simp [zk] at ht72
 refine Z1 ?_;refine A2 [1,2,4,6,16,80] ?_
 refine A6 (fun ht80=>?_) (fun ht80=>?_)
 ·simp [zk] at ht80
 refine Z1 ?_;refine A2 [1,2,4,6,88] ?_
 refine A6 (fun ht88=>?_) (fun ht88=>?_)
 ·simp [zk] at ht88
 refine Z55 ?_;refine Z1 ?_;refine Z47 ?_;exact Z96

theorem gw {a b:Int} (ha:1≤a∧a≤8) (hb:1≤b∧b≤8) (h:Ey a=Ey b):a=b:=by
 have hk:=Ap.1 (Ap.1 (show (List.range 8).all (fun i=>(List.range 8).all (fun j=>i==j || (cmdL.getD (i+1) [] != cmdL.getD (j+1) [])))=true by kernel_rfl) (a.toNat-1) (Dm.2 (by omega))) (b.toNat-1) (Dm.2 (by omega))
 unfold Ey at h
 rw [if_neg (by omega),if_neg (by omega)] at h
 rw [show a.toNat-1+1=a.toNat by omega,show b.toNat-1+1=b.toNat by omega,h] at hk
 simp at hk
 omega
theorem Zk {k:Int}:(32:UInt8)∉Ey k:=by
 unfold Ey
 split
 ·simp
 rename_i h
 have:=Ap.1 (show (List.range 9).all (fun i=>decide ((32:UInt8)∉cmdL.getD i []))=true by kernel_rfl) k.toNat (Dm.2 (by omega))
 simpa using this
theorem gx {c:Cal} (hT:Ff c=[]∨∃r,Ff c=32::r):(Lib.cut (Cj c) [32]).1=Ey c.kind:=by
 unfold Cj
 rcases hT with h|⟨r,h⟩<;>rw [h]
 ·rw [Hw,my Zk]
 rw [gj Zk]
theorem c30 (c b:Cal) (hk:1≤c.kind∧c.kind≤8) (hT:Ff c=[]∨∃r,Ff c=32::r) (hl:(Cj c).length≤100000) (h61:∀Hp,AFun Tryz.prog 61 [Bz (zk c.kind),A8 (Ff c)] Hp (.tup [Bz b,Aj true])) (h29:∀Hp,AFun Tryz.prog 29 [Bz b] Hp (A8 (Cj c))) (Hp:List AObj):AFun Tryz.prog 30 [A8 (Cj c)] Hp (.tup [Bz b,Aj true]):=by
 refine Ai [.cell 2 42,.tmp 3] [0] Tryz.func30 Tryz.ntmps30 (fun d=>?_)
 refine Z18 ?_;refine A4 ?_;refine A2 [0,2] ?_;refine Z2 ?_;refine Ab Tryz.call60 (c60 (Cj c) [32] (by omega) _) ?_
 rw [gx hT]
 refine Z0 ?_;refine Z33 ?_;refine A2 [0,2,4] ?_;refine Z19 ?_;refine A2 [0,2,4,7] ?_
 refine C8 (α:=Nat) (fun x=>⟨43,Aa 0 (A8 (Cj c)) (Aa 2 (.ptr (oid Hp.length 0) 0) (Aa 4 (A8 (Ey c.kind)) (Aa 7 (A3 (x:Nat)) (fun _=>.any)))),Hp,[.cells 42 [A3 0,A3 0,.nil,Aj false,.nil,A3 0,A8 [],A3 0,A3 0,A8 [],.nil,A3 0,A8 [],A3 0,Cf 0]],[],none⟩) (fun x=>1≤x∧(x:Int)≤c.kind) (fun x=>9-x) (1) ⟨Ah _,hk.1⟩ (C1 (by simp)) rfl (fun x hx=>?_)
 refine Z7 ?_;refine A2 [0,2,4,7,17] ?_
 refine A6 (fun ht17=>?_) (fun ht17=>?_)
 ·refine Z51 ?_;refine Z2 ?_;refine Ab Tryz.call52 (c52 x _) ?_;refine Z0 ?_;refine A2 [0,2,4,7,23] ?_
  refine A6 (fun ht23=>?_) (fun ht23=>?_)
  ·have hxk:(x:Int)=c.kind:=gw (by omega) hk (by simpa using ht23)
   rw [hxk]
   refine Z2 ?_;refine I6 (Bz (zk c.kind)) (show Le _ (Bz (zk c.kind)) from Hj (.inr ⟨rfl,rfl⟩)) (places:=#[(0,1),(1,1),(2,1),(3,9),(12,1),(13,1),(14,1)]) jU (fun w=>by simp) Tryz.zeroValue42 ?_;refine Z6 ?_
   refine A4 (h:=I0 ((Ey c.kind).length) (fun _=>by unfold Cj;rw [Am];omega) (fun _=>Ah _)) (hr:=?_)
   rw [show (Cj c).drop (Ey c.kind).length=Ff c by unfold Cj;rw [Wh]]
   refine Ab Tryz.call61 (h61 _) ?_;refine X6 ?_;refine A2 [0,2,8,9] ?_;refine F7 [0,0,2,6,14,6,62,126,31,511] [8] [.q 8 [] [],.s [] (some 0) [] []] (fun _=>Hp) (fun B=>[.cells 42 (if B 0=true then Gx b else [A3 0,A3 0,.nil,Aj false,.nil,A3 0,A8 [],A3 0,A3 0,A8 [],.nil,A3 0,A8 [],A3 0,Cf 0]),.cells 42 (Gx b)]) Av (by kernel_rfl) rfl rfl (fun _=>rfl) ?_
   apply Y.q
   ·intro B hT hF
    refine Z34 ?_;refine H.go ?_;refine H.call Tryz.call29 (fun hB=>h29 _) ?_;refine Z62 ?_;exact Z37
   case hTF=>decide
   refine L1 (u:=Hp.length) (n:=0) (t':=42) (cs:=[A3 0,A3 0,.nil,Aj false,.nil,A3 0,A8 [],A3 0,A3 0,A8 [],.nil,A3 0,A8 [],A3 0,Cf 0]) (cs':=Gx b) Tryz.sizeOf42 (fun B hB=>⟨rfl,by simp only [hB];rfl,by simp [upd],rfl⟩) ?_
   refine Et (tn:=[8]) (O:=[.cells 42 (Gx b),.cells 42 (Gx b)]) ?_;refine A4 ?_;refine Z20 ?_;refine Z61 ?_;exact A9 (Cr (B3 jA jS) A7) ⟨by simp,rfl⟩ (hlow:=by simp [or_imp,forall_and]<;>exact fun a _=>Au _ a)
  have hxk:¬(x:Int)=c.kind:=fun e=>by rw [e] at ht23;simp at ht23
  refine Z77 ?_;refine A2 [0,2,4,7] ?_
  exact C0 (x+1) ⟨by omega,by omega⟩ (by omega) (Dj (own:=[.cells 42 [A3 0,A3 0,.nil,Aj false,.nil,A3 0,A8 [],A3 0,A3 0,A8 [],.nil,A3 0,A8 [],A3 0,Cf 0]]) (fun _=>.refl _) (by repeat (first|exact Bx|refine Bw (by (simp [or_imp,forall_and,oid];done)) ?_)) (by simp [ObjLow,or_imp,forall_and]) (by simp))
 simp at ht17
 omega

theorem c31 (c:Cal) (t:Str) (hq:QW c.q) (ho:c.wr.length≤1) (hw:∀w∈c.wr,WW w) (Hp:List AObj):AFun Tryz.prog 31 [Bz ⟨c.kind,c.ver,c.wr,c.q,t,c.n,c.pat⟩,Bz c] Hp (Aj (t==c.text)):=by
 refine Ai [.tmp 4] [0,1] Tryz.func31 Tryz.ntmps31 (fun d=>?_)
 refine al ?_;refine Z36 ?_;refine Z24 ?_;refine Z52 ?_;refine Z3 ?_;refine Z52 ?_;refine Bh Tryz.call62 (fun hB=>tj c.q hq _) ?_;refine Z52 ?_;refine Z52 ?_;refine Z52 ?_;refine Z57 ?_;refine A2 [2,3,54] ?_
 refine A6 (fun ht54=>?_) (fun ht54=>?_)
 ·refine Z68 ?_;refine Dn ?_;exact oz
 refine Z5 ?_;refine Hf [0,1,3,0,8,31,63,127] 5 Av (by kernel_rfl) ?_;refine Z11 ?_;refine D.call Tryz.call54 (c54 c.wr ho hw _) ?_;refine Z11 ?_;refine In ?_;refine Ab Tryz.call54 (c54 c.wr ho hw _) ?_;refine Uv ?_;exact oz

theorem c11 (c b:Cal) (e:Bool) (hl:(Cj c).length≤100000) (h28:∀Hp,AFun Tryz.prog 28 [Qf c.wr] Hp (Aj true)) (h29:∀Hp,AFun Tryz.prog 29 [Bz c] Hp (A8 (Cj c))) (h30:∀Hp,AFun Tryz.prog 30 [A8 (Cj c)] Hp (.tup [Bz b,Aj true])) (h31:∀Hp,AFun Tryz.prog 31 [Bz b,Bz c] Hp (Aj e)) (Hp:List AObj):AFun Tryz.prog 11 [Bz c] Hp (Aj (e && !Lib.contains (Cj c) [10])):=by
 refine Ai [.tmp 2] [0] Tryz.func11 Tryz.ntmps11 (fun d=>?_)
 refine Z83 ?_;refine Z7 ?_;refine Ab Tryz.call28 (h28 _) ?_;refine A4 ?_;refine A2 [1,9] ?_
 refine A6 (fun ht9=>?_) (fun ht9=>?_)
 ·simp at ht9
 refine Z73 ?_;refine Ab Tryz.call29 (h29 _) ?_;refine A4 ?_;refine A2 [1,3] ?_;refine Z2 ?_;refine Ab Tryz.call30 (h30 _) ?_;refine X6 ?_;refine A2 [1,3,4,5] ?_;refine Z1 ?_;refine Z3 ?_;refine Bh Tryz.call31 (fun hB=>h31 _) ?_;refine Z88 ?_;refine Bh Tryz.call32 (fun hB=>c32 (Cj c) [10] (by omega) _) ?_;refine B9 ?_;refine Z64 ?_;exact A9 (Af A7) ⟨by simp<;>cases e<;>simp,rfl⟩

/-! Each call that is drawn is right. -/
theorem Hv:QW Hi:=⟨M2 (by decide),by decide,by kernel_rfl,by decide,by intro s hs;cases hs⟩
inductive OkCal (mv:Str):Cal→Prop
 | w (w:Wr) (h:WrOk w):OkCal mv (Cs w)
 | r (v:Int) (h:v=0∨v=1):OkCal mv (Cv v)
 | s:OkCal mv (B8 mv)
 | n (n:Int) (h:0≤n∧n<12):OkCal mv (Ds n)
 | k:OkCal mv De
theorem kn {l:List Val} (h:∀v∈l,GoodV v):(10:UInt8)∉F0 l:=by
 have ht:∀{r:List Val},(∀v∈r,GoodV v)→(10:UInt8)∉Cw r:=by
  intro r
  induction r with
  | nil=>intro _;decide
  | cons v r ih =>
   intro hr hm
   rw [Cw] at hm
   rcases D6.1 hm with hm|hm
   ·rcases D6.1 hm with hm|hm
    ·revert hm;decide
    exact ((hr v Ef).bytes _ hm).2.1 rfl
   exact ih (fun x hx=>hr x (Hy _ hx)) hm
 cases l with
 | nil=>decide
 | cons v r =>
  rw [Lg]
  intro hm
  rcases Bt.1 hm with hm|hm
  ·revert hm;decide
  rcases D6.1 hm with hm|hm
  ·exact ((h v Ef).bytes _ hm).2.1 rfl
  exact ht (fun x hx=>h x (Hy _ hx)) hm
theorem ng:(List.range 12).all (fun u=>decide ((10:UInt8)∉Lib.itoa ((u:Nat):Int)))=true:=by kernel_rfl
theorem Wc {n:Int} (h:0≤n∧n<12):(10:UInt8)∉Lib.itoa n:=by
 obtain ⟨u,rfl⟩:∃u:Nat,n=(u:Int):=⟨n.toNat,by omega⟩
 have:=Ap.1 ng u (Dm.2 (by omega))
 simpa using this
theorem ko {w:Wr} (h:WrOk w):(10:UInt8)∉Gf [w]:=by
 have e:Gf [w]=32::(Lib.itoa w.key++32::Ee w):=by
  unfold Gf wrS Ee
  simp
 rw [e]
 intro hm
 rcases Bt.1 hm with hm|hm
 ·revert hm;decide
 rcases D6.1 hm with hm|hm
 ·exact Wc h.key hm
 rcases Bt.1 hm with hm|hm
 ·revert hm;decide
 unfold Ee at hm
 split at hm
 ·revert hm;decide
 exact kn h.good hm
theorem qm {w:Wr} (h:WrOk w):WW w:=by
 have h1:=Kh h.key
 have h2:=Wa h.good h.len
 have h3:=h.key
 have h4:=h.len
 refine ⟨by omega,by omega,fun v hv=>(h.good v hv).rng,?_,by omega⟩
 have:(F0 w.l).length=(Lib.join (w.l.map At) [44]).length+2:=by unfold F0;simp only [Am,Ar,Bd];omega
 omega
theorem kp {w:Wr} (h:WrOk w):LC (Cs w):=⟨.inl rfl,Ah _,fun x hx=>by rw [Cn.1 hx];exact qm h,(U0 h).2,by simp [Cs],by simp [Cs]⟩
theorem kq (v:Int):LC (Cv v):=⟨by simp [Cv],by simp [Cv],by simp [Cv],by simp [Cv,Gf],by simp [Cv],fun _=>rfl⟩
theorem kr (t:Str):LC (B8 t):=⟨by simp [B8],by simp [B8],by simp [B8],by simp [B8,Gf],by simp [B8],by simp [B8]⟩
theorem kt {n:Int} (h:0≤n∧n<12):LC (Ds n):=⟨by simp [Ds],by simp [Ds],by simp [Ds],by simp [Ds,Gf],h,by simp [Ds]⟩
theorem lc_k:LC De:=⟨by simp [De],by simp [De],by simp [De],by simp [De,Gf],by simp [De],by simp [De]⟩
theorem U3 {w:Wr}:Ff (Cs w)=[32]++Ez 0++Gf [w]:=if_pos rfl
theorem U4 {v:Int}:Ff (Cv v)=[32]++Ez v++(32::selS):=by simp [Ff,Cv]
theorem N8 {t:Str}:Ff (B8 t)=32::At ⟨2,0,t.take 200⟩:=by simp [Ff,B8]
theorem U5 {n:Int}:Ff (Ds n)=32::Lib.itoa n:=by simp [Ff,Ds]
theorem Zl {c:Cal} (hw:(10:UInt8)∉Ey c.kind) (ht:(10:UInt8)∉Ff c):Lib.contains (Cj c) [10]=false:=by
 rw [Y3]
 unfold Cj
 simp [hw,ht]
theorem Qq {c:Cal} {n:Nat} (h:(Ff c).length≤n) (hn:n≤20000):(Cj c).length≤100000:=by
 have:=Wb (k:=c.kind)
 unfold Cj
 rw [Am]
 omega
theorem cl {t:Str}:Cj (B8 (t.take 200))=Cj (B8 t):=by
 unfold Cj
 rw [N8,N8,List.take_take]
 rfl
def Ev (t:Str):Bool:=(t.take 200==t) && !Lib.contains (Cj (B8 t)) [10]
theorem ku {w:Wr} (h:WrOk w) (Hp:List AObj):AFun Tryz.prog 11 [Bz (Cs w)] Hp (Aj true):=by
 have hl:(Cj (Cs w)).length≤100000:=Qq (n:=11020) (by have:=(U0 h).2;rw [U3];simp only [Am,Ar,Bd,On];omega) (by decide)
 have:=c11 (Cs w) (Cs w) true hl (fun Hp=>c28 [w] (by simp) (fun x hx=>by rw [Cn.1 hx];exact h.drop) (fun x hx=>by rw [Cn.1 hx];exact ⟨by have:=h.len;omega,fun v hv=>(h.good v hv).plain⟩) Hp) (fun Hp=>c29 _ (kp h) Hp) (fun Hp=>c30 (Cs w) (Cs w) ⟨by show (1:Int)≤1;decide,by show (1:Int)≤8;decide⟩ (.inr ⟨_,U3⟩) hl (fun Hp=>by rw [U3];exact u1 w h Hp) (fun Hp=>c29 _ (kp h) Hp) Hp) (fun Hp=>c31 (Cs w) [] (show QW Hi from Hv) (kp h).one (kp h).ww Hp) Hp
 rwa [Zl (show (10:UInt8)∉Ey 1 by decide) (by
  rw [U3]
  intro hm
  rcases D6.1 hm with hm|hm
  ·revert hm;decide
  exact ko h hm)] at this
theorem kv {v:Int} (h:v=0∨v=1) (Hp:List AObj):AFun Tryz.prog 11 [Bz (Cv v)] Hp (Aj true):=by
 have ht:(Ff (Cv v)).length≤14:=by rw [U4];simp only [Am,Ar,Bd,On];have:selS.length=9:=rfl;omega
 have hl:(Cj (Cv v)).length≤100000:=Qq ht (by decide)
 have:=c11 (Cv v) (Cv v) true hl (fun Hp=>c28 [] (by decide) (fun x hx=>nomatch hx) (fun x hx=>nomatch hx) Hp) (fun Hp=>c29 _ (kq v) Hp) (fun Hp=>c30 (Cv v) (Cv v) ⟨by show (1:Int)≤2;decide,by show (2:Int)≤8;decide⟩ (.inr ⟨_,U4⟩) hl (fun Hp=>by rw [U4];exact u3 v h Hp) (fun Hp=>c29 _ (kq v) Hp) Hp) (fun Hp=>c31 (Cv v) [] (show QW R6 from U2) (kq v).one (kq v).ww Hp) Hp
 rwa [Zl (by show _∉Ey 2;decide) (by
  rw [U4]
  rcases h with rfl|rfl<;>decide)] at this
theorem kw {n:Int} (h:0≤n∧n<12) (Hp:List AObj):AFun Tryz.prog 11 [Bz (Ds n)] Hp (Aj true):=by
 have ht:(Ff (Ds n)).length≤3:=by have:=Kh h;rw [U5];simp only [Ar];omega
 have hl:(Cj (Ds n)).length≤100000:=Qq ht (by decide)
 have:=c11 (Ds n) (Ds n) true hl (fun Hp=>c28 [] (by decide) (fun x hx=>nomatch hx) (fun x hx=>nomatch hx) Hp) (fun Hp=>c29 _ (kt h) Hp) (fun Hp=>c30 (Ds n) (Ds n) ⟨by show (1:Int)≤5;decide,by show (5:Int)≤8;decide⟩ (.inr ⟨_,U5⟩) hl (fun Hp=>by rw [U5];exact u5 n h Hp) (fun Hp=>c29 _ (kt h) Hp) Hp) (fun Hp=>c31 (Ds n) [] (show QW Hi from Hv) (kt h).one (kt h).ww Hp) Hp
 rwa [Zl (by show _∉Ey 5;decide) (by
  rw [U5]
  intro hm
  rcases Bt.1 hm with hm|hm
  ·revert hm;decide
  exact Wc h hm)] at this
theorem kx (Hp:List AObj):AFun Tryz.prog 11 [Bz De] Hp (Aj true):=by
 have hl:(Cj De).length≤100000:=Qq (n:=0) (by decide) (by decide)
 have:=c11 De De true hl (fun Hp=>c28 [] (by decide) (fun x hx=>nomatch hx) (fun x hx=>nomatch hx) Hp) (fun Hp=>c29 _ lc_k Hp) (fun Hp=>c30 De De ⟨by decide,by decide⟩ (.inl rfl) hl (fun Hp=>u6 Hp) (fun Hp=>c29 _ lc_k Hp) Hp) (fun Hp=>c31 De [] (show QW Hi from Hv) lc_k.one lc_k.ww Hp) Hp
 rwa [Zl (by decide) (by decide)] at this
theorem Zm (t:Str) (Hp:List AObj):AFun Tryz.prog 11 [Bz (B8 t)] Hp (Aj (Ev t)):=by
 have ht:(Ff (B8 t)).length≤403:=by have:=Qp (t:=t);rw [N8];simp only [Ar];omega
 have hl:(Cj (B8 t)).length≤100000:=Qq ht (by decide)
 exact c11 (B8 t) (B8 (t.take 200)) (t.take 200==t) hl (fun Hp=>c28 [] (by decide) (fun x hx=>nomatch hx) (fun x hx=>nomatch hx) Hp) (fun Hp=>c29 _ (kr t) Hp) (fun Hp=>c30 (B8 t) (B8 (t.take 200)) ⟨by show (1:Int)≤3;decide,by show (3:Int)≤8;decide⟩ (.inr ⟨_,N8⟩) hl (fun Hp=>by rw [N8];exact u4 t Hp) (fun Hp=>cl ▸ c29 _ (kr (t.take 200)) Hp) Hp) (fun Hp=>c31 (B8 t) (t.take 200) (show QW Hi from Hv) (kr t).one (kr t).ww Hp) Hp
theorem gy {mv:Str} {c:Cal} (h:OkCal mv c) (hm:Ev mv=true) (Hp:List AObj):AFun Tryz.prog 11 [Bz c] Hp (Aj true):=by
 cases h with
 | w w h=>exact ku h Hp
 | r v h=>exact kv h Hp
 | s=>exact hm ▸ Zm mv Hp
 | n n h=>exact kw h Hp
 | k=>exact kx Hp
theorem gz {mv:Str} {c:Cal} (h:OkCal mv c):CW c:=by
 cases h with
 | w w h=>exact ⟨Hv,by show [w].length≤_;simp,fun x hx=>by rw [Cn.1 hx];have:=h.len;omega⟩
 | r v h=>exact ⟨U2,Aw _,fun x hx=>by cases hx⟩
 | s=>exact ⟨Hv,Aw _,fun x hx=>by cases hx⟩
 | n n h=>exact ⟨Hv,Aw _,fun x hx=>by cases hx⟩
 | k=>exact ⟨Hv,Aw _,fun x hx=>by cases hx⟩
theorem ky {c:List Col} (hr:Iv c=true) (s:Int) (mv:Str):OkCal mv (E1 s c mv).2:=by
 have hc:=ga hr
 unfold E1
 split
 ·refine .w _ ?_
  unfold K2
  have hk:=Bn (A5 (A5 s)) 12 (by decide)
  split
  ·exact ⟨⟨hk.1,by simpa using hk.2⟩,fun v hv=>(by cases hv),Aw _,fun _=>rfl⟩
  exact ⟨⟨hk.1,by simpa using hk.2⟩,fun v hv=>jv (Ny c _ (fun y hy=>by have:=(hc.2.1 y hy).lo;have:=(hc.2.1 y hy).hi;omega) v hv),by show (As _ c).2.length≤_;rw [Gd];omega,fun h=>by cases h⟩
 split
 ·exact .r 0 (.inl rfl)
 split
 ·exact .s
 split
 ·have hk:=Bn (A5 (A5 s)) 5 (by decide)
  exact .n _ ⟨by omega,by omega⟩
 split
 ·exact .r 1 (.inr rfl)
 exact .k
theorem Qr {c:List Col} (hr:Iv c=true) (s:Int) (mv:Str):∀n,∀x∈(Al s c mv n).2,OkCal mv x
 | 0,x,h=>nomatch h
 | n+1,x,h=>by
  rw [Al] at h
  rcases D6.1 h with h|h
  ·exact Qr hr s mv n x h
  rw [Cn.1 h]
  exact ky hr _ mv
theorem c23 (t:Str) (ht:t.length≤1048576) (Hp:List AObj):AFun Tryz.prog 23 [Fo ⟨2,0,t⟩] Hp (A8 ([39]++Ch t++[39])):=by
 refine Ai [.tmp 2] [0] Tryz.func23 Tryz.ntmps23 (fun d=>?_)
 refine Z83 ?_;refine Z7 ?_;refine A2 [1,6] ?_;refine Z97 ?_;refine A2 [1,6,7] ?_
 refine A6 (fun ht7=>?_) (fun ht7=>?_)
 ·exact absurd ht7 (by decide)
 refine Z1 ?_;refine A2 [1,6,9] ?_
 refine A6 (fun ht9=>?_) (fun ht9=>?_)
 ·exact absurd ht9 (by decide)
 refine Z1 ?_;refine A2 [1,14] ?_
 refine A6 (fun ht14=>?_) (fun ht14=>?_)
 ·exact absurd ht14 (by decide)
 refine Z55 ?_;refine ee ?_;refine A2 [1,3] ?_;refine Z19 ?_;refine A2 [1,3,4] ?_
 refine C8 (α:=Nat) (fun x=>⟨46,Aa 1 (.ro [.v (.int .i64 2),.v (.int .i64 0),.v (sv t)]) (Aa 3 (Xx ([39]++Ch (t.take x))) (Aa 4 (A3 (x:Nat)) (fun _=>.any))),Hp,[],[],none⟩) (fun x=>x≤t.length) (fun x=>t.length-x) (0) (Aw _) (Es _) rfl (fun x hx=>?_)
 refine X4 ?_;refine A2 [1,3,4,24] ?_
 refine A6 (fun ht24=>?_) (fun ht24=>?_)
 ·have hxl:x<t.length:=by simp at ht24;omega
  have hb0:=hlb ht x
  refine Z51 ?_;refine Z30 ?_
  refine A4 (h:=E9 x t[x] (fun _=>Ad hxl)) (hr:=?_)
  refine A4 ?_;refine A2 [1,3,4,31] ?_
  refine A6 (fun ht31=>?_) (fun ht31=>?_)
  ·have hc:t[x]=39:=by
    have h31:((t[x].toNat:Int)==39)=true:=ht31
    exact Fi.1 (by have:(39:UInt8).toNat=39:=rfl;simp at h31;omega)
   refine Z56 ?_;refine O5 ?_
   refine F6 jU Tryz.type5 ?_ ?_ ?_
   ·simp [Tryz.t5]<;>omega
   ·simp [Tryz.t5]<;>omega
   refine G5 ?_;refine A2 [1,3,4] ?_;refine G6 ?_;refine Z56 ?_;refine Z6 ?_
   refine A4 (h:=E9 x t[x] (fun _=>Ad hxl)) (hr:=?_)
   refine O5 ?_
   refine F6 jU Tryz.type5 ?_ ?_ ?_
   ·simp [Tryz.t5]<;>omega
   ·simp [Tryz.t5]<;>omega
   refine G5 ?_;refine A2 [1,3,4] ?_;refine Z17 ?_;refine Z6 ?_;refine A2 [1,3,4] ?_
   exact C0 (x+1) hxl (by omega) (Cm (by
    rw [Rw hxl,O6]
    first|rw [if_pos hc]|rw [if_neg hc]
    simp only [Xx,Dy,Cl,H9,Br,Dd,F1]
    try rw [hc]
    rfl))
  have hc:t[x]≠39:=fun e=>by
   rw [e] at ht31
   exact absurd ht31 (by decide)
  refine Z5 ?_;refine Z56 ?_;refine Z6 ?_
  refine A4 (h:=E9 x t[x] (fun _=>Ad hxl)) (hr:=?_)
  refine O5 ?_
  refine F6 jU Tryz.type5 ?_ ?_ ?_
  ·simp [Tryz.t5]<;>omega
  ·simp [Tryz.t5]<;>omega
  refine G5 ?_;refine A2 [1,3,4] ?_;refine Z17 ?_;refine Z6 ?_;refine A2 [1,3,4] ?_
  exact C0 (x+1) hxl (by omega) (Cm (by
   rw [Rw hxl,O6]
   first|rw [if_pos hc]|rw [if_neg hc]
   simp only [Xx,Dy,Cl,H9,Br,Dd,F1]
   try rw [hc]
   rfl))
 have hxe:x=t.length:=by simp at ht24;omega
 have hb0:=hlb ht x
 have hdt:Ch (t.take x)=Ch t:=by rw [hxe,K7]
 rw [hdt] at hb0 ⊢
 refine Z59 ?_;refine Df ?_;refine R.moveT ?_;refine O5 ?_
 refine F6 jU Tryz.type5 ?_ ?_ ?_
 ·simp [Tryz.t5]<;>omega
 ·simp [Tryz.t5]<;>omega
 refine R.bytesStr ([39]++Ch t++[39]) jU jU jU (hx:=by simp only [go_sem,↓reduceIte,Nat.reduceEqDiff,Nat.reduceAdd,Dy,Cl,H9,Dd,F1]<;>rfl) ?_
 exact ip
theorem Qs {t:Str} (h:t.take 200=t):Cj (B8 t)=115::116::97::114::116::32::39::(Ch t++[39]):=by
 unfold Cj
 rw [N8,Lh,h]
 rfl
def Y6 (t:Str):Str:=if Ev t then Cj (B8 t) else []
theorem cm {t:Str} (h:Ev t=false):Y6 t=[]:=if_neg (by rw [h];simp)
theorem Y7 {t:Str} (h:Ev t=true):Y6 t=Cj (B8 t):=if_pos h
theorem qn {s:Str} {i:Nat} (h:i<s.length) (he:s.getD i 0=10):(10:UInt8)∈s:=by
 rw [Dw,Ad h] at he
 have:s[i]=10:=he
 rw [←this]
 exact C7 _
theorem kz {s:Str} {i:Nat} (h:i<s.length) (hn:(10:UInt8)∉s.take i) (he:¬s.getD i 0=10):(10:UInt8)∉s.take (i+1):=by
 rw [Dw,Ad h] at he
 rw [K8 h]
 intro hm
 rcases D6.1 hm with hm|hm
 ·exact hn hm
 exact he (Cn.1 hm).symm
theorem c8s (t:Str) (Hp:List AObj):AFun Tryz.prog 8 [Bz (B8 t)] Hp (.tup [A8 (Y6 t),Aj (Ev t)]):=by
 refine Ai [.tmp 2,.tmp 3] [0] Tryz.func8 Tryz.ntmps8 (fun d=>?_)
 refine Z16 ?_;refine A2 [1] ?_;refine Z1 ?_;refine I6 (Bz (zk 3)) (show Le _ (Bz (zk 3)) from Hj (.inr ⟨rfl,rfl⟩)) (places:=#[(0,1),(1,1),(2,1),(3,9),(12,1),(13,1),(14,1)]) jU (fun w=>by simp) Tryz.zeroValue42 ?_;refine Z8 ?_;refine A2 [1,4] ?_;refine Z2 ?_;refine A2 [1,4] ?_;refine Z7 ?_;refine A2 [1,4,19] ?_;refine Z97 ?_;refine A2 [1,4,19,20] ?_
 refine A6 (fun ht20=>?_) (fun ht20=>?_)
 ·simp [B8] at ht20
 refine Z1 ?_;refine A2 [1,4,19,98] ?_
 refine A6 (fun ht98=>?_) (fun ht98=>?_)
 ·simp [B8] at ht98
 refine Z1 ?_;refine A2 [1,4,19,141] ?_
 refine A6 (fun ht141=>?_) (fun ht141=>?_)
 ·refine Z36 ?_;refine A2 [1,4,146] ?_
  refine A6 (fun ht146=>?_) (fun ht146=>?_)
  ·have hm:Ev t=false:=by
    unfold Ev
    have h9:¬t.take 200=t:=fun e=>by
     have:=congrArg List.length e
     rw [Gt] at this
     have h3:(200:Int)<(t.length:Int):=of_decide_eq_true ht146
     omega
    rw [show (t.take 200==t)=false from beq_eq_false_iff_ne.2 h9]
    rfl
   refine Z1 ?_;refine Z20 ?_;refine Dn ?_;refine Z10 ?_;exact p8
  have h200:t.take 200=t:=E3 (by have h3:¬(200:Int)<(t.length:Int):=of_decide_eq_false ht146;omega)
  have hlt:t.length≤200:=by have h3:¬(200:Int)<(t.length:Int):=of_decide_eq_false ht146;omega
  refine Z5 ?_;refine Z16 ?_;refine Fu ?_;refine A2 [1,4] ?_;refine Z41 ?_;refine V1 ?_;refine Ab Tryz.call23 (c23 t (by omega) _) ?_
  have hdl:=Lz t
  refine A4 (h:=Dz (hl:=fun _=>by simp only [Am,Ar,Bd];omega)) (hr:=?_)
  refine A4 ?_;refine A2 [1,4,5] ?_;refine Z12 ?_;refine Z53 ?_
  rw [←Qs h200]
  have hsl:(Cj (B8 t)).length≤500:=by rw [Qs h200];simp only [Am,Ar,Bd];omega
  generalize hS:Cj (B8 t)=s0 at hsl ⊢
  refine A4 ?_;refine A2 [1,4,5,14] ?_
  refine C8 (α:=Nat) (fun i=>⟨205,Aa 1 (.ro (Gx (B8 t))) (Aa 4 (.ptr (oid Hp.length 0) 0) (Aa 5 (A8 s0) (Aa 14 (A3 (i:Nat)) (fun _=>.any)))),Hp,[.cells 42 (Gx (B8 t))],[],none⟩) (fun i=>i≤s0.length∧(10:UInt8)∉s0.take i) (fun i=>s0.length-i) (0) ⟨Aw _,by simp⟩ (C1 rfl) rfl (fun i hi=>?_)
  refine Z36 ?_;refine A2 [1,4,5,14,194] ?_
  refine A6 (fun ht194=>?_) (fun ht194=>?_)
  ·have hil:i<s0.length:=by simpa using ht194
   refine T9 ?_
   refine A4 (h:=E9 (i) (s0.getD i 0) (fun _=>Ol (by omega))) (hr:=?_)
   refine A4 ?_;refine A2 [1,4,5,14,200] ?_
   refine A6 (fun ht200=>?_) (fun ht200=>?_)
   ·have he:s0.getD i 0=10:=(Fi.1 (show (s0.getD i 0).toNat=(10:UInt8).toNat by have h5:(10:UInt8).toNat=10:=rfl;rw [h5];have h6:=eq_of_beq ht200;omega))
    have hm:Ev t=false:=by
     unfold Ev
     rw [hS,Y3]
     simp [qn hil he]
    refine Z1 ?_;refine Z20 ?_;refine Z61 ?_;exact p8
   have he:¬s0.getD i 0=10:=fun e=>by rw [e] at ht200;simp at ht200
   refine Z77 ?_;refine A2 [1,4,5,14] ?_
   exact C0 (i+1) ⟨by omega,kz hil hi.2 he⟩ (by omega) (Dj (own:=[.cells 42 (Gx (B8 t))]) (fun _=>.refl _) (by repeat (first|exact Bx|refine Bw (by first|(simp [or_imp,forall_and,oid];done)|(simp [or_imp,forall_and,oid]<;>exact fun a _=>Au _ a)) ?_)) (by intro y hy;rw [Cn.1 hy];exact M7) (by simp))
  have hie:i=s0.length:=by simp at ht194;omega
  have hm:Ev t=true:=by
   unfold Ev
   rw [h200,hS,Y3]
   have:=hi.2
   rw [hie,K7] at this
   simp [this]
  refine Z59 ?_;refine Z16 ?_;refine Ab Tryz.call25 (qg (B8 t) (gz .s) _) ?_;refine Z0 ?_;refine Z20 ?_;exact A9 (Cr A7 A7) ⟨by rw [Y7 hm,hm,hS]<;>rfl,rfl⟩
 simp [B8] at ht141

/-- What load.Calls gives. -/
def Ft (s:Int) (c:List Col) (mv:Str) (n:Int):List Cal×Int:=
 if N7 c n=false then ([],1) else if Ev mv=false then ([],3) else ((Al s c mv n.toNat).2,0)
theorem c6L (s:Int) (c:List Col) (hc:OkCols c) (mv:Str) (n:Int) (Hp:List AObj):AFun Tryz.prog 6 [Cf s,Cu c,A8 mv,A3 n] Hp (.tup [Qg (Ft s c mv n).1,A3 (Ft s c mv n).2]):=by
 refine Ai [.tmp 8,.tmp 9] [0,1,2,3] Tryz.func6 Tryz.ntmps6 (fun d=>?_)
 refine Z1 ?_;refine A2 [0,1,2,3] ?_;refine Z7 ?_;refine Ab Tryz.call13 (c13 c hc n _) ?_;refine A4 ?_;refine A2 [0,1,2,3,15] ?_
 refine A6 (fun ht15=>?_) (fun ht15=>?_)
 ·have hm:Ft s c mv n=([],1):=if_pos (by simpa using ht15)
  refine Z2 ?_;refine L8 8 15 false ?_;refine A4 ?_;refine A2 [8,9] ?_;exact nx
 have hy:N7 c n=true:=by simpa using ht15
 have h0:0≤n:=by unfold N7 at hy;simp only [B1,decide_eq_true_eq] at hy;exact hy.1.2
 have h1:n≤1000:=by unfold N7 at hy;simp only [B1,decide_eq_true_eq] at hy;exact hy.2
 refine Z5 ?_;refine Z69 ?_;refine Ab Tryz.call11 (Zm mv _) ?_;refine A4 ?_;refine A2 [0,1,2,3,19] ?_
 refine A6 (fun ht19=>?_) (fun ht19=>?_)
 ·have hm:Ft s c mv n=([],3):=by unfold Ft;rw [if_neg (by rw [hy];simp),if_pos (by simpa using ht19)]
  refine Z2 ?_;refine L8 8 15 false ?_;refine A4 ?_;refine A2 [8,9] ?_;exact nx
 have hr:Ev mv=true:=by simpa using ht19
 have hm:Ft s c mv n=((Al s c mv n.toNat).2,0):=by unfold Ft;rw [if_neg (by rw [hy];simp),if_neg (by rw [hr];simp)]
 refine Z73 ?_;refine Jk (places:=#[(0,1)]) jU (fun w=>by simp) jZ ?_;refine R.box ?_;refine A4 ?_;refine A2 [1,2,3,10] ?_;refine Z2 ?_;refine L8 11 15 true ?_;refine A2 [1,2,3,10,11] ?_;refine Z7 ?_;refine A2 [1,2,10,11,23,24] ?_
 refine C8 (α:=Nat) (fun i=>⟨35,Aa 1 (Cu c) (Aa 2 (A8 mv) (Aa 10 (.ptr (oid Hp.length 0) 0) (Aa 11 (.slice true 15 ((Al s c mv i).2.map Bz)) (Aa 23 (A3 n) (Aa 24 (A3 (i:Nat)) (fun _=>.any)))))),Hp,[.cells 55 [Cf (Al s c mv i).1]],[],none⟩) (fun i=>(i:Int)≤n) (fun i=>(n-i).toNat) (0) h0 (C1 rfl) rfl (fun i hi=>?_)
 refine Z2 ?_;refine A2 [1,2,10,11,23,24,25] ?_
 refine Fl (fun ht25=>?_) (fun ht25=>?_)
 ·have hlt:(i:Int)<n:=by simpa using ht25
  refine Z14 ?_;refine Z56 ?_;refine Z6 ?_
  refine Jl (n:=0) (x:=.cells 55 [Cf (E1 (Al s c mv i).1 c mv).1]) Tryz.call14 (c14 (oid Hp.length 0) (Al s c mv i).1 c hc mv _ (by rw [Bk];rfl)) ?_
  refine O5 ?_
  refine F6 jU Tryz.type42 ?_ ?_ ?_
  ·simp only [Bs,Du,Ar,Bd,Tryz.t42];omega
  ·simp only [Bs,Du,Ar,Bd,Tryz.t42];omega
  refine G5 ?_;refine A2 [1,2,10,11,23,24] ?_;refine X8 ?_;refine A2 [1,2,10,11,23,24] ?_;refine C0 (i+1) (by omega) (by omega) ?_
  simp only [Qk]
  exact Dj (own:=[.cells 55 [Cf (E1 (Al s c mv i).1 c mv).1]]) (fun _=>.refl _) (by repeat (first|exact Bx|refine Bw (by first|exact Hl|exact Kg|(simp [or_imp,forall_and,oid];done)) ?_)) (by simp [ObjLow,or_imp,forall_and]) (by simp)
 have hxe:n.toNat=i:=by simp at ht25;omega
 refine Z23 ?_;refine Z16 ?_;refine A2 [8,9] ?_;refine Dg ?_;exact A9 (Cr A7 A7) ⟨by rw [hm,hxe]<;>rfl,rfl⟩ (hlow:=by rw [Go.SX.low_tup];simp only [Bt,Fh,or_false,forall_eq_or_imp,forall_eq];exact ⟨Hl,by simp⟩)

theorem u7 (m n:Int) (h0:0≤n) (h1:n≤1000):∃K:Nat,(K:Int)≤n∧IntKind.i64.wrap ((IntKind.u64.wrap m).tmod (IntKind.u64.wrap (n+1)))=(K:Int):=by
 have hr:=N2 m
 rw [Jy (n:=n+1) (by omega) (by omega),Wf hr.1]
 have h2:=Int.emod_nonneg (IntKind.u64.wrap m) (b:=n+1) (by omega)
 have h3:=Int.emod_lt_of_pos (IntKind.u64.wrap m) (b:=n+1) (by omega)
 refine ⟨((IntKind.u64.wrap m) % (n+1)).toNat,by omega,?_⟩
 rw [Jh (by omega) (by omega)]
 omega
theorem nh {c:List Col} {n:Int} (h:(!Is c || decide (n<0) || decide (1000<n))=true):N7 c n=false:=by
 unfold N7
 rw [Ps]
 revert h
 cases Is c<;>simp
 intro h
 omega
theorem l3 {c:List Col} {n:Int} (h:(!Is c || decide (n<0) || decide (1000<n))=false):N7 c n=true∧Iv c=true∧0≤n∧n≤1000:=by
 unfold N7
 rw [Ps]
 revert h
 cases Is c<;>simp<;>omega
theorem qq {s:Int} {c:List Col} {mv:Str} {n:Int} {K:Nat} (h0:0≤n) (h:(K:Int)≤n):K≤(Al s c mv n.toNat).2.length:=by
 rw [Du]
 omega
theorem l4 {c:List Col} {n:Int} {mv:Str} {K:Nat} {s:Int} (hm:N7 c n=true) (hr:Ev mv=true) (h:(K:Int)≤n):Ft s c mv K=((Al s c mv K).2,0):=by
 have h2:N7 c K=true:=by
  unfold N7 at hm ⊢
  simp only [B1,decide_eq_true_eq] at hm ⊢
  exact ⟨⟨hm.1.1,by omega⟩,by omega⟩
 unfold Ft
 rw [if_neg (by rw [h2];simp),if_neg (by rw [hr];simp)]
 rfl
theorem c3L (s:Int) (c:List Col) (mv:Str) (n m:Int) (Hp:List AObj):AFun Tryz.prog 3 [Cf s,Cu c,A8 mv,A3 n,A3 m] Hp (Aj true):=by
 refine Ai [.tmp 10] [0,1,2,3,4] Tryz.func3 Tryz.ntmps3 (fun d=>?_)
 refine Z2 ?_;refine A2 [0,1,2,3,4] ?_;refine Z53 ?_;refine Ab Tryz.call4 (c4 _) ?_;refine A4 ?_;refine A2 [0,1,2,3,4,20] ?_
 refine A6 (fun ht20=>?_) (fun ht20=>?_)
 ·simp at ht20
 refine Z82 ?_;refine Ab Tryz.call5 (sd c _) ?_;refine A4 ?_;refine Z3 ?_;refine Z57 ?_;refine A2 [0,1,2,3,4,27] ?_
 refine A6 (fun ht27=>?_) (fun ht27=>?_)
 ·refine Z2 ?_;refine A2 [10] ?_;refine Z28 ?_;exact ar
 have hmc:Lt c=false:=by simp at ht27;exact ht27.1
 have hc:=jj hmc
 refine Z5 ?_;refine Z21 ?_;refine Ab Tryz.call6 (c6L s c hc mv n _) ?_;refine Z33 ?_;refine A2 [0,1,2,3,4,11,12] ?_;refine Z19 ?_;refine Ab Tryz.call7 (c7 c hc _) ?_;refine Z15 ?_;refine Z15 ?_;refine A4 ?_;refine A2 [0,1,2,3,4,11,12,46] ?_
 refine A6 (fun ht46=>?_) (fun ht46=>?_)
 ·have hm:Ft s c mv n=([],1):=if_pos (nh ht46)
  refine Z1 ?_;refine Z15 ?_;refine Z0 ?_;refine A2 [10] ?_;exact o5
 obtain ⟨hmy,hrp,hn0,hn1⟩:=l3 ht46
 refine Z5 ?_;refine Z69 ?_;refine Ab Tryz.call8 (c8s mv _) ?_;refine Z33 ?_;refine A2 [0,1,2,3,4,11,12,14] ?_;refine Z1 ?_;refine A2 [0,1,2,3,4,11,12,61] ?_
 refine A6 (fun ht61=>?_) (fun ht61=>?_)
 ·have hm:Ft s c mv n=([],3):=by unfold Ft;rw [if_neg (by rw [hmy];simp),if_pos (by simpa using ht61)]
  refine Z1 ?_;refine Z15 ?_;refine Z0 ?_;refine A2 [10] ?_;exact o5
 have hr:Ev mv=true:=by simpa using ht61
 have hm:Ft s c mv n=((Al s c mv n.toNat).2,0):=by unfold Ft;rw [if_neg (by rw [hmy];simp),if_neg (by rw [hr];simp)]
 have hok:=Qr hrp s mv n.toNat
 have hcw:∀y∈(Al s c mv n.toNat).2,CW y:=fun y hy=>gz (hok y hy)
 have hll:(Al s c mv n.toNat).2.length≤1048576:=by rw [Du];omega
 refine Z5 ?_;refine Z53 ?_
 rw [hm]
 refine Z6 ?_;refine Z3 ?_;refine X7 ?_;refine Bh Tryz.call10 (fun hB=>c10 s c hc mv n hn0 hn1 _) ?_;refine Bh Tryz.call9 (fun hB=>c9s (Al s c mv n.toNat).2 hll hcw _) ?_;refine Z57 ?_;refine A2 [0,1,2,3,4,11,80] ?_
 refine A6 (fun ht80=>?_) (fun ht80=>?_)
 ·simp at ht80
 refine Z82 ?_;refine A2 [0,1,2,3,4,11,15] ?_
 refine C8 (α:=Nat) (fun x=>⟨121,Aa 0 (Cf s) (Aa 1 (Cu c) (Aa 2 (A8 mv) (Aa 3 (A3 n) (Aa 4 (A3 m) (Aa 11 (Qg (Al s c mv n.toNat).2) (Aa 15 (A3 (x:Nat)) (fun _=>.any))))))),Hp,[],[],none⟩) (fun x=>x≤(Al s c mv n.toNat).2.length) (fun x=>(Al s c mv n.toNat).2.length-x) (0) (Aw _) (C1 (by simp)) rfl (fun x hx=>?_)
 refine X4 ?_;refine Uy ?_;refine A2 [0,1,2,3,4,11,15,88] ?_
 refine A6 (fun ht88=>?_) (fun ht88=>?_)
 ·have hlt:x<(Al s c mv n.toNat).2.length:=by simp at ht88;exact ht88.1
  refine T9 ?_
  refine A4 (h:=Ay (x) (Bz (Al s c mv n.toNat).2[x]) (fun _=>Bg hlt)) (hr:=?_)
  refine A4 ?_;refine Ab Tryz.call11 (gy (hok _ (C7 hlt)) hr _) ?_;refine A4 ?_;refine A2 [0,1,2,3,4,11,15,96] ?_
  refine A6 (fun ht96=>?_) (fun ht96=>?_)
  ·simp at ht96
  refine Z77 ?_;refine A2 [0,1,2,3,4,11,15] ?_;exact m6
 refine Z59 ?_;refine Z1 ?_;refine Z6 ?_
 refine A4 (h:=Q.rem (h0:=fun _=>To (by omega) (by omega))) (hr:=?_)
 refine A4 ?_
 obtain ⟨kk,hK,eK⟩:=u7 m n hn0 hn1
 rw [eK]
 refine A4 ?_;refine A2 [0,1,2,11,16] ?_;refine Z21 ?_;refine Ab Tryz.call6 (c6L s c hc mv kk _) ?_
 rw [l4 hmy hr hK]
 refine Z33 ?_;refine A2 [11,16,17,18] ?_;refine Z16 ?_;refine X7 ?_
 refine B9 (h:=Q.cutH kk (fun _=>Aw _) (fun _=>by rw [Bs];exact qq hn0 hK)) (hr:=?_)
 rw [←List.map_take,Qh s c mv (by omega)]
 refine Bh Tryz.call9 (fun hB=>c9s (Al s c mv kk).2 (by rw [Du];omega) (fun y hy=>gz (Qr hrp s mv kk y hy)) _) ?_
 refine Z0 ?_;refine A2 [10] ?_;refine Dg ?_;exact A9 (Af A7) ⟨by simp,rfl⟩

end Go.SX.Nb
namespace Go.Proofs.YtdjhkihdmiednaaGreatDoor
open Go Go.SX Go.SX.Nb Go.ChangeShapes Go.RowKit
set_option maxRecDepth 100000
theorem cn:Tryz.pinned.checked.prog.funcNamed Rows.loadCallsRow.func=some 3:=by kernel_rfl
theorem l5:laidOutB Tryz.pinned.checked.prog=true:=by kernel_rfl
theorem l6:(Rows.loadCallsRow.inPlace==Tryz.pinned.checked.prog.inPlace 3)=true:=by kernel_rfl
theorem l7:(Rows.loadCallsRow.unfollowed==Tryz.pinned.checked.prog.unfollowed 3)=true:=by kernel_rfl
theorem l8:(Rows.loadCallsRow.recurses==Tryz.pinned.checked.prog.recurses 3)=true:=by kernel_rfl
theorem l9:(Rows.loadCallsRow.named==Tryz.pinned.checked.prog.varsNamed 3)=true:=by kernel_rfl
theorem la:Tryz.pinned.checked.prog.mayEnter=true:=by kernel_rfl
theorem Y8:joinedFacts Tryz.pinned.checked.prog 3 Tryz.f3 (OpenSpec.ofChange Rows.loadCallsSpec).bare Rows.loadCallsRow=true:=by
 unfold joinedFacts
 rw [l5,l6,l7,l8,l9,la]
 kernel_rfl
theorem co:false=Rows.loadCallsRow.goesBy Tryz.pinned.checked.prog:=by kernel_rfl
theorem cp:Tryz.f3.isInstance Tryz.pinned.checked.prog Rows.loadCallsRow.origin Rows.loadCallsRow.targs:=of_decide_eq_true (by kernel_rfl)
theorem cq:Tryz.f3.isWrapper Tryz.pinned.checked.prog Rows.loadCallsRow.wrapper Rows.loadCallsRow.mainSum:=by
 unfold Func.isWrapper
 first|(rw [if_pos (by decide +kernel)];kernel_rfl)|(rw [if_neg (by decide +kernel)];exact ⟨rfl,rfl⟩)
end Go.Proofs.YtdjhkihdmiednaaGreatDoor
