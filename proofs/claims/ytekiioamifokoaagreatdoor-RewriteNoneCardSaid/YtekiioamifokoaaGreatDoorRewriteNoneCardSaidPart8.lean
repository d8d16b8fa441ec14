/- On the way (part 8). -/
import Derived.Test.YtekiioamifokoaaGreatDoorRewriteNoneCardSaidPart7
set_option linter.all false
namespace Go.SX.Nb
open Go Go.SX Go.Proofs
variable [ErrAt]
set_option maxRecDepth 4000
abbrev prq (l:List Tok) (S:QS):AObj:=.cells 113 [.slice false 3 (l.map I1),A3 (S.i:Int),A3 S.code,A3 S.at_]
abbrev qoC (own:Bool) (q:Qry):List AV:=[Az q.all,.slice own 1 (q.cols.map Ac),A3 q.whr.op,Ac q.whr.text,A3 q.whr.val.kind,A3 q.whr.val.n,Ac q.whr.val.s,.slice false 6 (q.whr.kids.map A7),A3 q.lim]
abbrev qo (own:Bool) (q:Qry):AObj:=.cells 29 (qoC own q)
theorem Ig {n:Nat} {l:List Tok} {S:QS}:ObjLow n (prq l S):=by
 show ∀y∈[AV.slice false 3 (l.map I1),A3 (S.i:Int),A3 S.code,A3 S.at_],Low n y
 intro y hy
 simp only [B4,Ej,or_false] at hy
 rcases hy with rfl|rfl|rfl|rfl
 ·simp [or_imp,forall_and]
 all_goals simp
theorem ACb {n:Nat} {own:Bool} {l:List Str}:Low n (.slice own 1 (l.map Ac)):=by simp
theorem ACc {n:Nat} {own:Bool} {q:Qry}:ObjLow n (qo own q):=by
 show ∀y∈qoC own q,Low n y
 intro y hy
 simp only [qoC,B4,Ej,or_false] at hy
 rcases hy with rfl|rfl|rfl|rfl|rfl|rfl|rfl|rfl|rfl
 all_goals first|exact D3|exact ACb|simp
abbrev V4:AV:=.v (.tuple #[])
theorem c72 (l:List Tok) (S:QS) (e:Int) (o:Nat) (Hp:List AObj) (ho:Hp[o]? = some (prq l S)) (hi:S.i<l.length):ACall Tryz.prog 72 [.ptr o 0,A3 e] Hp (fun r H'=>r=V4∧H'=Hp.set o (prq l (Is l e S))):=by
 refine Ae [] [0,1] Tryz.func72 Tryz.ntmps72 (fun d=>?_)
 refine Z23 ?_
 refine A5 (h:=B8 ho) (hr:=?_)
 refine A5 ?_;refine A2 [0,1,9] ?_
 refine A4 (fun ht9=>?_) (fun ht9=>?_)
 ·have e:Is l e S=⟨S.i,e,((Af l S.i).at_:Int)⟩:=if_pos ht9
  refine W.draw0 [0,0,0,4,12,28,0,64,192,448,1020,2044,4092,8190,16383,32767,65535] 14 Aj (by kernel_rfl) ?_;refine Z8 ?_;refine Z33 ?_
  refine Aq (h:=B8 ho) (hr:=?_)
  refine Z33 ?_
  refine Aq (h:=B8 ho) (hr:=?_)
  refine Aq (h:=Ai (S.i) (I1 (Af l S.i)) (fun _=>M7 hi)) (hr:=?_)
  refine Z8 ?_;refine D.build (places:=#[(0,1),(1,1)]) jU (fun w=>by simp) jZ ?_;refine Ht ?_;refine Z0 ?_
  refine Cq jS ho ?_ ?_
  ·simp
  exact AK6
 have e:Is l e S=S:=if_neg (by rw [ht9];simp)
 exact AK9

theorem ACd (l:List Tok) (S:QS) (s:Str) (o:Nat) (Hp:List AObj) (ho:Hp[o]? = some (prq l S)) (hi:S.i<l.length) (hll:l.length≤1048576):ACall Tryz.prog 118 [.ptr o 0,Ac s] Hp (fun r H'=>r=Az (isQ l s S)∧H'=Hp.set o (prq l (ka l s S))):=by
 refine Ae [.tmp 4] [0,1] Tryz.func118 Tryz.ntmps118 (fun d=>?_)
 refine Z36 ?_;refine Fc [0,1,3,7,0,16,48,112,255,511,0,2047] [] [.q 10 [] [],.s [5] none [] [],.s [5] none [] []] (fun _=>Hp) (fun _=>[]) Aj (by kernel_rfl) rfl rfl (fun _=>rfl) ?_
 apply Y.q
 ·intro B hT hF
  refine Z33 ?_
  refine Aq (h:=B8 ho) (hr:=?_)
  refine Z33 ?_
  refine Aq (h:=B8 ho) (hr:=?_)
  refine Aq (h:=Ai (S.i) (I1 (Af l S.i)) (fun _=>M7 hi)) (hr:=?_)
  exact Z55
 case hTF=>decide
 refine AHx ?_;refine Ed (tn:=[])  ?_;refine Vg ?_;refine Z23 ?_
 refine A5 (h:=B8 ho) (hr:=?_)
 refine Z77 ?_;refine Pw ?_;refine Z77 ?_;refine Z0 ?_;refine A2 [0,6] ?_;refine Z30 ?_;refine A2 [0,6,39] ?_
 refine A4 (fun ht39=>?_) (fun ht39=>?_)
 ·have e:ka l s S=F0 S:=if_pos ht39
  refine Z49 ?_
  refine A5 (h:=B8 ho) (hr:=?_)
  refine Z13 ?_
  refine Cq jS ho ?_ ?_
  ·simp
  refine A2 [6] ?_;refine Gg ?_;refine ii ?_;exact ALu
 have e:ka l s S=S:=if_neg (by rw [show isQ l s S=false from ht39];simp)
 refine Z98 ?_;refine Z11 ?_;exact ALu

theorem Y9 {l:List Tok} {s:Str} {S:QS} (h:isQ l s S=true):ka l s S=F0 S:=if_pos h
theorem Ya {l:List Tok} {s:Str} {S:QS} (h:isQ l s S=false):ka l s S=S:=if_neg (by rw [h];simp)
theorem AJ7 {l:List Tok} {s:Str} {S:QS} (h:isQ l s S=true):Si l s S=F0 S:=if_pos h
theorem AJ8 {l:List Tok} {s:Str} {S:QS} (h:isQ l s S=false):Si l s S=Is l 8 S:=if_neg (by rw [h];simp)
theorem c68 (l:List Tok) (S:QS) (s:Str) (o:Nat) (Hp:List AObj) (ho:Hp[o]? = some (prq l S)) (hi:S.i<l.length) (hll:l.length≤1048576):ACall Tryz.prog 68 [.ptr o 0,Ac s] Hp (fun r H'=>r=V4∧H'=Hp.set o (prq l (Si l s S))):=by
 refine Ae [] [0,1] Tryz.func68 Tryz.ntmps68 (fun d=>?_)
 refine Z1 ?_;refine Ch Tryz.call118 ho (by simp) Ig (ACd l S s o _ (Ag ho) hi hll) ?_;refine A5 ?_;refine A2 [0,7] ?_
 refine A4 (fun ht7=>?_) (fun ht7=>?_)
 ·have hq:isQ l s S=false:=by simpa using ht7
  have e:=AJ8 hq
  rw [Ya hq,Ce ho]
  refine Z44 ?_;refine Ch Tryz.call72 ho (by simp) Ig (c72 l S 8 o _ (Ag ho) hi) ?_;exact AK6
 have hq:isQ l s S=true:=by simpa using ht7
 have e:=AJ7 hq
 rw [Y9 hq]
 exact AK9

theorem AJ9 {l:List Tok} {q:Qry} {S:QS} (h:(S.code != 0)=true):H8 l (q,S)=(q,S):=if_pos h
theorem AJa {l:List Tok} {q:Qry} {S:QS} (h:(S.code != 0)=false) (h2:((Af l S.i).kind != 1)=true):H8 l (q,S)=(q,Is l 8 S):=by unfold H8;rw [if_neg (by show ¬(S.code != 0)=true;rw [h];simp),if_pos h2]
theorem AJb {l:List Tok} {q:Qry} {S:QS} (h:(S.code != 0)=false) (h2:((Af l S.i).kind != 1)=false) (h3:((q.cols.length:Int)==12)=true):H8 l (q,S)=(q,Is l 3 S):=by unfold H8;rw [if_neg (by show ¬(S.code != 0)=true;rw [h];simp),if_neg (by show ¬((Af l S.i).kind != 1)=true;rw [h2];simp),if_pos h3]
theorem AJc {l:List Tok} {q:Qry} {S:QS} (h:(S.code != 0)=false) (h2:((Af l S.i).kind != 1)=false) (h3:((q.cols.length:Int)==12)=false):H8 l (q,S)=(⟨q.all,q.cols++[(Af l S.i).text],q.whr,q.lim⟩,F0 S):=by unfold H8;rw [if_neg (by show ¬(S.code != 0)=true;rw [h];simp),if_neg (by show ¬((Af l S.i).kind != 1)=true;rw [h2];simp),if_neg (by show ¬((q.cols.length:Int)==12)=true;rw [h3];simp)]
theorem c9 {Hp:List AObj} {o oq:Nat} {A B:AObj} (hne:oq≠o) (ho:Hp[o]? = some A) (hoq:Hp[oq]? = some B):(Hp.set o A).set oq B=Hp:=by rw [Ce ho,Ce hoq]
theorem AN0 (l:List Tok) (S:QS) (q:Qry) (o oq:Nat) (Hp:List AObj) (hne:oq≠o) (ho:Hp[o]? = some (prq l S)) (hoq:Hp[oq]? = some (qo true q)) (hi:S.i<l.length) (hll:l.length≤1048576) (hcl:q.cols.length≤1048576):ACall Tryz.prog 119 [.ptr o 0,.ptr oq 0] Hp (fun r H'=>r=V4∧H'=(Hp.set o (prq l (H8 l (q,S)).2)).set oq (qo true (H8 l (q,S)).1)):=by
 refine Ae [] [0,1] Tryz.func119 Tryz.ntmps119 (fun d=>?_)
 refine Fc [0,1,3,7,0,16,48,112,255,511,0,2047] [] [.q 10 [] [],.s [4] none [] [],.s [4] none [] []] (fun _=>Hp) (fun _=>[]) Aj (by kernel_rfl) rfl rfl (fun _=>rfl) ?_
 apply Y.q
 ·intro B hT hF
  refine Z33 ?_
  refine Aq (h:=B8 ho) (hr:=?_)
  refine Z33 ?_
  refine Aq (h:=B8 ho) (hr:=?_)
  refine Aq (h:=Ai (S.i) (I1 (Af l S.i)) (fun _=>M7 hi)) (hr:=?_)
  exact Z55
 case hTF=>decide
 refine AHx ?_;refine Ed (tn:=[])  ?_;refine A2 [0,1,4] ?_;refine Z16 ?_;refine Z23 ?_
 refine A5 (h:=B8 ho) (hr:=?_)
 refine Z0 ?_;refine A2 [0,1,4,15] ?_
 refine A4 (fun ht15=>?_) (fun ht15=>?_)
 ·have e:=AJ9 (l:=l) (q:=q) ht15
  refine Zf ?_
  exact A8 .nores (hp:=⟨rfl,by first|(rw [e];exact (c9 hne ho hoq).symm)|(rw [e];exact (Ce (by rw [Bh (Ne.symm hne)];exact hoq)).symm)|(rw [e];simp only [Bu];rw [Mr _ _ hne];simp only [qo,qoC,Bq,Br,Ec];rfl)⟩)
 refine Z23 ?_;refine A2 [0,1,4,22] ?_
 refine A4 (fun ht22=>?_) (fun ht22=>?_)
 ·have e:=AJa (q:=q) ht15 ht22
  refine Z2 ?_;refine Ch Tryz.call72 ho (by simp) Ig (c72 l S 8 o _ (Ag ho) hi) ?_;refine A2 [] ?_;refine Zf ?_
  exact A8 .nores (hp:=⟨rfl,by first|(rw [e];exact (c9 hne ho hoq).symm)|(rw [e];exact (Ce (by rw [Bh (Ne.symm hne)];exact hoq)).symm)|(rw [e];simp only [Bu];rw [Mr _ _ hne];simp only [qo,qoC,Bq,Br,Ec];rfl)⟩)
 refine Z15 ?_
 refine A5 (h:=B8 hoq) (hr:=?_)
 refine Z13 ?_;refine A2 [0,1,4,28] ?_
 refine A4 (fun ht28=>?_) (fun ht28=>?_)
 ·rw [Ao] at ht28
  have e:=AJb ht15 ht22 ht28
  refine Z2 ?_;refine Ch Tryz.call72 ho (by simp) Ig (c72 l S 3 o _ (Ag ho) hi) ?_;refine A2 [] ?_;refine Zf ?_
  exact A8 .nores (hp:=⟨rfl,by first|(rw [e];exact (c9 hne ho hoq).symm)|(rw [e];exact (Ce (by rw [Bh (Ne.symm hne)];exact hoq)).symm)|(rw [e];simp only [Bu];rw [Mr _ _ hne];simp only [qo,qoC,Bq,Br,Ec];rfl)⟩)
 rw [Ao] at ht28
 have e:=AJc ht15 ht22 ht28
 refine Z19 ?_;refine Fc [0,0,2,6,14,0,32,96,254,511,1023,2047] [4] [.q 4 [] [],.s [41] (some 0) [] [],.q 3 [] [],.s [41,45] none [0] []] (fun B=>Hp.set oq (if B 0=true then qo false q else qo true q)) (fun _=>[]) Aj (by kernel_rfl) (Ce hoq) rfl (fun B=>by simp) ?_
 apply Y.q
 ·intro B hT hF
  exact ij
 case hTF=>decide
 refine Of (o:=oq) (t':=29) (cs:=[Az q.all,.slice true 1 (q.cols.map Ac),A3 q.whr.op,Ac q.whr.text,A3 q.whr.val.kind,A3 q.whr.val.n,Ac q.whr.val.s,.slice false 6 (q.whr.kids.map A7),A3 q.lim]) (cs':=[Az q.all,.slice false 1 (q.cols.map Ac),A3 q.whr.op,Ac q.whr.text,A3 q.whr.val.kind,A3 q.whr.val.n,Ac q.whr.val.s,.slice false 6 (q.whr.kids.map A7),A3 q.lim]) Tryz.isAgg22 (fun B hB=>⟨by simp only [hB];exact getset hoq,(Bu ..).symm,rfl⟩) ?_
 apply Y.q
 ·intro B hT hF
  refine Z8 ?_;exact Z38
 case hTF=>decide
 refine Y.append jU Tryz.type9 ?_ ?_ ?_
 ·simp [Tryz.t9];omega
 ·simp [Tryz.t9];omega
 refine Ed (tn:=[4]) (U:=Hp.set oq (qo false q)) ?_;refine Z0 ?_
 refine Fv jS (getset hoq) ?_ ?_
 ·simp [or_imp,forall_and]
 refine A2 [0] ?_;refine Z49 ?_
 refine A5 (h:=B8 (by rw [Bh hne,Bh hne];exact ho)) (hr:=?_)
 refine Z13 ?_
 refine Cq jS (by rw [Bh hne,Bh hne];exact ho) ?_ ?_
 ·simp
 refine A2 [] ?_
 exact Es .nores (hp:=⟨rfl,by first|(rw [e];exact (c9 hne ho hoq).symm)|(rw [e];exact (Ce (by rw [Bh (Ne.symm hne)];exact hoq)).symm)|(rw [e];simp only [Bu];rw [Mr _ _ hne];simp only [qo,qoC,Bq,Br,Ec];rfl)⟩)

end Go.SX.Nb
namespace Go.SX
variable [GI:GlobInv]
open Classical Go.RowKit
section
variable {P:Program} {g:FuncId} {Hp:List AObj}
theorem AFun.libAny {xs:List Value} {n:Value} (h:∀w,J0 w→Calls P g xs.toArray w (fun e w'=>∃u,e=.returned (.tuple #[n,u])∧Below w.heap.size w w')):AFun P g (xs.map .v) Hp (.tup [.v n,.any]):=by
 intro d G w vs hn hv hH hT hTop
 have hvs:=Vr hn (fun i y u a b=>⟨_,hv i y u a b⟩)
 subst hvs
 refine (callsIn_wide.2 (h w (fun x hx=>let ⟨_,u,a,b⟩:=hT.glob x hx;⟨u,a,b⟩))).mono ?_
 rintro e w' ⟨u,rfl,hb⟩
 obtain ⟨h1,h2⟩:=Wp hH hT hb
 refine ⟨.tuple #[n,u],G,.tup [.v n,.any],Hp,rfl,.tup _ _ _ rfl (fun i y u' hy hu=>?_),h1,h2,(R1 hT hb).keep _,rfl,rfl,rfl⟩
 match i with
 | 0=>simp at hy hu;subst hy;subst hu;exact .v _ _
 | 1=>simp at hy;subst hy;exact .any _ _
 | i+2=>simp at hy
end
end Go.SX
