/- On the way (part 9). -/
import Derived.Test.YtdjhkihdmiednaaGreatDoorLoadCallsCardSaidPart8
set_option linter.all false
namespace Go.SX.Nb
open Go Go.SX Go.Proofs
variable [ErrAt]
set_option maxRecDepth 4000
abbrev prq (l:List Tok) (S:QS):AObj:=.cells 177 [.slice false 3 (l.map Ga),A3 (S.i:Int),A3 S.code,A3 S.at_]
abbrev qoC (own:Bool) (q:Qry):List AV:=[Aj q.all,.slice own 1 (q.cols.map A8),A3 q.whr.op,A8 q.whr.text,A3 q.whr.val.kind,A3 q.whr.val.n,A8 q.whr.val.s,.slice false 6 (q.whr.kids.map Aq),A3 q.lim]
abbrev qo (own:Bool) (q:Qry):AObj:=.cells 40 (qoC own q)
theorem Fs {n:Nat} {l:List Tok} {S:QS}:ObjLow n (prq l S):=by
 show ∀y∈[AV.slice false 3 (l.map Ga),A3 (S.i:Int),A3 S.code,A3 S.at_],Low n y
 intro y hy
 simp only [Bt,Fh,or_false] at hy
 rcases hy with rfl|rfl|rfl|rfl
 ·simp [or_imp,forall_and]
 all_goals simp
theorem gk {n:Nat} {own:Bool} {l:List Str}:Low n (.slice own 1 (l.map A8)):=by simp
theorem gm {n:Nat} {own:Bool} {q:Qry}:ObjLow n (qo own q):=by
 show ∀y∈qoC own q,Low n y
 intro y hy
 simp only [qoC,Bt,Fh,or_false] at hy
 rcases hy with rfl|rfl|rfl|rfl|rfl|rfl|rfl|rfl|rfl
 all_goals first|exact Fe|exact gk|simp
abbrev Nz:AV:=.v (.tuple #[])
theorem bw (l:List Tok) (S:QS) (e:Int) (o:Nat) (Hp:List AObj) (ho:Hp[o]? = some (prq l S)) (hi:S.i<l.length):ACall Tryz.prog 134 [.ptr o 0,A3 e] Hp (fun r H'=>r=Nz∧H'=Hp.set o (prq l (Fy l e S))):=by
 refine Ai [] [0,1] Tryz.func134 Tryz.ntmps134 (fun d=>?_)
 refine Z21 ?_
 refine A4 (h:=Bp ho) (hr:=?_)
 refine im ?_
 refine A6 (fun ht9=>?_) (fun ht9=>?_)
 ·have e:Fy l e S=⟨S.i,e,((Ae l S.i).at_:Int)⟩:=if_pos ht9
  refine W.draw0 [0,0,0,4,12,28,0,64,192,448,1020,2044,4092,8190,16383,32767,65535] 14 Av (by kernel_rfl) ?_;refine Z11 ?_;refine Z34 ?_
  refine Bb (h:=Bp ho) (hr:=?_)
  refine Z34 ?_
  refine Bb (h:=Bp ho) (hr:=?_)
  refine Bb (h:=Ay (S.i) (Ga (Ae l S.i)) (fun _=>Iw hi)) (hr:=?_)
  refine Z11 ?_;refine D.build (places:=#[(0,1),(1,1)]) jU (fun w=>by simp) jZ ?_;refine In ?_;refine Z0 ?_
  refine Di jS ho ?_ ?_
  ·simp
  exact Z89
 have e:Fy l e S=S:=if_neg (by rw [ht9];simp)
 exact Z92

theorem gn (l:List Tok) (S:QS) (s:Str) (o:Nat) (Hp:List AObj) (ho:Hp[o]? = some (prq l S)) (hi:S.i<l.length) (hll:l.length≤1048576):ACall Tryz.prog 180 [.ptr o 0,A8 s] Hp (fun r H'=>r=Aj (isQ l s S)∧H'=Hp.set o (prq l (W3 l s S))):=by
 refine Ai [.tmp 4] [0,1] Tryz.func180 Tryz.ntmps180 (fun d=>?_)
 refine Z39 ?_;refine F7 [0,1,3,7,0,16,48,112,255,511,0,2047] [] [.q 10 [] [],.s [5] none [] [],.s [5] none [] []] (fun _=>Hp) (fun _=>[]) Av (by kernel_rfl) rfl rfl (fun _=>rfl) ?_
 apply Y.q
 ·intro B hT hF
  refine Z34 ?_
  refine Bb (h:=Bp ho) (hr:=?_)
  refine Z34 ?_
  refine Bb (h:=Bp ho) (hr:=?_)
  refine Bb (h:=Ay (S.i) (Ga (Ae l S.i)) (fun _=>Iw hi)) (hr:=?_)
  exact Z37
 case hTF=>decide
 refine ls ?_;refine Et (tn:=[])  ?_;refine Ta ?_;refine Z21 ?_
 refine A4 (h:=Bp ho) (hr:=?_)
 refine Z24 ?_;refine Z3 ?_;refine Z3 ?_;refine Z24 ?_;refine Z0 ?_;refine A2 [0,6] ?_;refine Z19 ?_;refine A2 [0,6,39] ?_
 refine A6 (fun ht39=>?_) (fun ht39=>?_)
 ·have e:W3 l s S=D5 S:=if_pos ht39
  refine Z58 ?_
  refine A4 (h:=Bp ho) (hr:=?_)
  refine Z6 ?_
  refine Di jS ho ?_ ?_
  ·simp
  refine A2 [6] ?_;refine G6 ?_;refine Z1 ?_;exact Z94
 have e:W3 l s S=S:=if_neg (by rw [show isQ l s S=false from ht39];simp)
 refine Z5 ?_;refine Z1 ?_;exact Z94

theorem Ql {l:List Tok} {s:Str} {S:QS} (h:isQ l s S=true):W3 l s S=D5 S:=if_pos h
theorem Qm {l:List Tok} {s:Str} {S:QS} (h:isQ l s S=false):W3 l s S=S:=if_neg (by rw [h];simp)
theorem mz {l:List Tok} {s:Str} {S:QS} (h:isQ l s S=true):M6 l s S=D5 S:=if_pos h
theorem n5 {l:List Tok} {s:Str} {S:QS} (h:isQ l s S=false):M6 l s S=Fy l 8 S:=if_neg (by rw [h];simp)
theorem qb (l:List Tok) (S:QS) (s:Str) (o:Nat) (Hp:List AObj) (ho:Hp[o]? = some (prq l S)) (hi:S.i<l.length) (hll:l.length≤1048576):ACall Tryz.prog 130 [.ptr o 0,A8 s] Hp (fun r H'=>r=Nz∧H'=Hp.set o (prq l (M6 l s S))):=by
 refine Ai [] [0,1] Tryz.func130 Tryz.ntmps130 (fun d=>?_)
 refine Z1 ?_;refine Bf Tryz.call180 ho (by simp) Fs (gn l S s o _ (An ho) hi hll) ?_;refine A4 ?_;refine A2 [0,7] ?_
 refine A6 (fun ht7=>?_) (fun ht7=>?_)
 ·have hq:isQ l s S=false:=by simpa using ht7
  have e:=n5 hq
  rw [Qm hq,Bv ho]
  refine Z27 ?_;refine Bf Tryz.call134 ho (by simp) Fs (bw l S 8 o _ (An ho) hi) ?_;exact Z89
 have hq:isQ l s S=true:=by simpa using ht7
 have e:=mz hq
 rw [Ql hq]
 exact Z92

theorem n6 {l:List Tok} {q:Qry} {S:QS} (h:(S.code != 0)=true):En l (q,S)=(q,S):=if_pos h
theorem n7 {l:List Tok} {q:Qry} {S:QS} (h:(S.code != 0)=false) (h2:((Ae l S.i).kind != 1)=true):En l (q,S)=(q,Fy l 8 S):=by unfold En;rw [if_neg (by show ¬(S.code != 0)=true;rw [h];simp),if_pos h2]
theorem n8 {l:List Tok} {q:Qry} {S:QS} (h:(S.code != 0)=false) (h2:((Ae l S.i).kind != 1)=false) (h3:((q.cols.length:Int)==12)=true):En l (q,S)=(q,Fy l 3 S):=by unfold En;rw [if_neg (by show ¬(S.code != 0)=true;rw [h];simp),if_neg (by show ¬((Ae l S.i).kind != 1)=true;rw [h2];simp),if_pos h3]
theorem n9 {l:List Tok} {q:Qry} {S:QS} (h:(S.code != 0)=false) (h2:((Ae l S.i).kind != 1)=false) (h3:((q.cols.length:Int)==12)=false):En l (q,S)=(⟨q.all,q.cols++[(Ae l S.i).text],q.whr,q.lim⟩,D5 S):=by unfold En;rw [if_neg (by show ¬(S.code != 0)=true;rw [h];simp),if_neg (by show ¬((Ae l S.i).kind != 1)=true;rw [h2];simp),if_neg (by show ¬((q.cols.length:Int)==12)=true;rw [h3];simp)]
theorem S6 {Hp:List AObj} {o oq:Nat} {A B:AObj} (hne:oq≠o) (ho:Hp[o]? = some A) (hoq:Hp[oq]? = some B):(Hp.set o A).set oq B=Hp:=by rw [Bv ho,Bv hoq]
theorem qc (l:List Tok) (S:QS) (q:Qry) (o oq:Nat) (Hp:List AObj) (hne:oq≠o) (ho:Hp[o]? = some (prq l S)) (hoq:Hp[oq]? = some (qo true q)) (hi:S.i<l.length) (hll:l.length≤1048576) (hcl:q.cols.length≤1048576):ACall Tryz.prog 181 [.ptr o 0,.ptr oq 0] Hp (fun r H'=>r=Nz∧H'=(Hp.set o (prq l (En l (q,S)).2)).set oq (qo true (En l (q,S)).1)):=by
 refine Ai [] [0,1] Tryz.func181 Tryz.ntmps181 (fun d=>?_)
 refine F7 [0,1,3,7,0,16,48,112,255,511,0,2047] [] [.q 10 [] [],.s [4] none [] [],.s [4] none [] []] (fun _=>Hp) (fun _=>[]) Av (by kernel_rfl) rfl rfl (fun _=>rfl) ?_
 apply Y.q
 ·intro B hT hF
  refine Z34 ?_
  refine Bb (h:=Bp ho) (hr:=?_)
  refine Z34 ?_
  refine Bb (h:=Bp ho) (hr:=?_)
  refine Bb (h:=Ay (S.i) (Ga (Ae l S.i)) (fun _=>Iw hi)) (hr:=?_)
  exact Z37
 case hTF=>decide
 refine ls ?_;refine Et (tn:=[])  ?_;refine A2 [0,1,4] ?_;refine Z14 ?_;refine Z21 ?_
 refine A4 (h:=Bp ho) (hr:=?_)
 refine Z0 ?_;refine A2 [0,1,4,15] ?_
 refine A6 (fun ht15=>?_) (fun ht15=>?_)
 ·have e:=n6 (l:=l) (q:=q) ht15
  refine Z40 ?_
  exact A9 .nores (hp:=⟨rfl,by first|(rw [e];exact (S6 hne ho hoq).symm)|(rw [e];exact (Bv (by rw [Cd (Ne.symm hne)];exact hoq)).symm)|(rw [e];simp only [Ba];rw [Ij _ _ hne];simp only [qo,qoC,Dy,Cl,H9];rfl)⟩)
 refine Z21 ?_;refine A2 [0,1,4,22] ?_
 refine A6 (fun ht22=>?_) (fun ht22=>?_)
 ·have e:=n7 (q:=q) ht15 ht22
  refine Z2 ?_;refine Bf Tryz.call134 ho (by simp) Fs (bw l S 8 o _ (An ho) hi) ?_;refine A2 [] ?_;refine Z40 ?_
  exact A9 .nores (hp:=⟨rfl,by first|(rw [e];exact (S6 hne ho hoq).symm)|(rw [e];exact (Bv (by rw [Cd (Ne.symm hne)];exact hoq)).symm)|(rw [e];simp only [Ba];rw [Ij _ _ hne];simp only [qo,qoC,Dy,Cl,H9];rfl)⟩)
 refine Z16 ?_
 refine A4 (h:=Bp hoq) (hr:=?_)
 refine Z6 ?_;refine A2 [0,1,4,28] ?_
 refine A6 (fun ht28=>?_) (fun ht28=>?_)
 ·rw [Bs] at ht28
  have e:=n8 ht15 ht22 ht28
  refine Z2 ?_;refine Bf Tryz.call134 ho (by simp) Fs (bw l S 3 o _ (An ho) hi) ?_;refine A2 [] ?_;refine Z40 ?_
  exact A9 .nores (hp:=⟨rfl,by first|(rw [e];exact (S6 hne ho hoq).symm)|(rw [e];exact (Bv (by rw [Cd (Ne.symm hne)];exact hoq)).symm)|(rw [e];simp only [Ba];rw [Ij _ _ hne];simp only [qo,qoC,Dy,Cl,H9];rfl)⟩)
 rw [Bs] at ht28
 have e:=n9 ht15 ht22 ht28
 refine Z55 ?_;refine F7 [0,0,2,6,14,0,32,96,254,511,1023,2047] [4] [.q 4 [] [],.s [41] (some 0) [] [],.q 3 [] [],.s [41,45] none [0] []] (fun B=>Hp.set oq (if B 0=true then qo false q else qo true q)) (fun _=>[]) Av (by kernel_rfl) (Bv hoq) rfl (fun B=>by simp) ?_
 apply Y.q
 ·intro B hT hF
  exact Z99
 case hTF=>decide
 refine Y.loadUpT (o:=oq) (t':=40) (cs:=[Aj q.all,.slice true 1 (q.cols.map A8),A3 q.whr.op,A8 q.whr.text,A3 q.whr.val.kind,A3 q.whr.val.n,A8 q.whr.val.s,.slice false 6 (q.whr.kids.map Aq),A3 q.lim]) (cs':=[Aj q.all,.slice false 1 (q.cols.map A8),A3 q.whr.op,A8 q.whr.text,A3 q.whr.val.kind,A3 q.whr.val.n,A8 q.whr.val.s,.slice false 6 (q.whr.kids.map Aq),A3 q.lim]) Tryz.isAgg33 (fun B hB=>⟨by simp only [hB];exact Az hoq,(Ba ..).symm,rfl⟩) ?_
 apply Y.q
 ·intro B hT hF
  refine Z11 ?_;exact Z72
 case hTF=>decide
 refine Y.append jU Tryz.type9 ?_ ?_ ?_
 ·simp [Tryz.t9];omega
 ·simp [Tryz.t9];omega
 refine Et (tn:=[4]) (U:=Hp.set oq (qo false q)) ?_;refine Z0 ?_
 refine dl jS (Az hoq) ?_ ?_
 ·simp [or_imp,forall_and]
 refine A2 [0] ?_;refine Z58 ?_
 refine A4 (h:=Bp (by rw [Cd hne,Cd hne];exact ho)) (hr:=?_)
 refine Z6 ?_
 refine Di jS (by rw [Cd hne,Cd hne];exact ho) ?_ ?_
 ·simp
 refine A2 [] ?_
 exact L2 .nores (hp:=⟨rfl,by first|(rw [e];exact (S6 hne ho hoq).symm)|(rw [e];exact (Bv (by rw [Cd (Ne.symm hne)];exact hoq)).symm)|(rw [e];simp only [Ba];rw [Ij _ _ hne];simp only [qo,qoC,Dy,Cl,H9];rfl)⟩)

end Go.SX.Nb
namespace Go.SX
variable [GI:GlobInv]
open Classical Go.RowKit
section
variable {P:Program} {g:FuncId} {Hp:List AObj}
theorem AFun.libAny {xs:List Value} {n:Value} (h:∀w,Fm w→Calls P g xs.toArray w (fun e w'=>∃u,e=.returned (.tuple #[n,u])∧Below w.heap.size w w')):AFun P g (xs.map .v) Hp (.tup [.v n,.any]):=by
 intro d G w vs hn hv hH hT hTop
 have hvs:=Oh hn (fun i y u a b=>⟨_,hv i y u a b⟩)
 subst hvs
 refine (callsIn_wide.2 (h w (fun x hx=>let ⟨_,u,a,b⟩:=hT.glob x hx;⟨u,a,b⟩))).mono ?_
 rintro e w' ⟨u,rfl,hb⟩
 obtain ⟨h1,h2⟩:=L4 hH hT hb
 refine ⟨.tuple #[n,u],G,.tup [.v n,.any],Hp,rfl,.tup _ _ _ rfl (fun i y u' hy hu=>?_),h1,h2,(Ir hT hb).keep _,rfl,rfl,rfl⟩
 match i with
 | 0=>simp at hy hu;subst hy;subst hu;exact .v _ _
 | 1=>simp at hy;subst hy;exact .any _ _
 | i+2=>simp at hy
end
end Go.SX
