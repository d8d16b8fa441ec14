/- On the way (part 8). -/
import Derived.Test.YtekiioamifokoaaGreatDoorRewriteBackCardSaidPart7
set_option linter.all false
namespace Go.SX.Nb
open Go Go.SX Go.Proofs
variable [ErrAt]
set_option maxRecDepth 4000
abbrev prq (l:List Tok) (S:QS):AObj:=.cells 113 [.slice false 3 (l.map Ix),A3 (S.i:Int),A3 S.code,A3 S.at_]
abbrev qoC (own:Bool) (q:Qry):List AV:=[B4 q.all,.slice own 1 (q.cols.map Ac),A3 q.whr.op,Ac q.whr.text,A3 q.whr.val.kind,A3 q.whr.val.n,Ac q.whr.val.s,.slice false 6 (q.whr.kids.map Aa),A3 q.lim]
abbrev qo (own:Bool) (q:Qry):AObj:=.cells 29 (qoC own q)
theorem Jj {n:Nat} {l:List Tok} {S:QS}:ObjLow n (prq l S):=by
 show ∀y∈[AV.slice false 3 (l.map Ix),A3 (S.i:Int),A3 S.code,A3 S.at_],Low n y
 intro y hy
 simp only [B3,Em,or_false] at hy
 rcases hy with rfl|rfl|rfl|rfl
 ·simp [or_imp,forall_and]
 all_goals simp
theorem AEs {n:Nat} {own:Bool} {l:List Str}:Low n (.slice own 1 (l.map Ac)):=by simp
theorem AEt {n:Nat} {own:Bool} {q:Qry}:ObjLow n (qo own q):=by
 show ∀y∈qoC own q,Low n y
 intro y hy
 simp only [qoC,B3,Em,or_false] at hy
 rcases hy with rfl|rfl|rfl|rfl|rfl|rfl|rfl|rfl|rfl
 all_goals first|exact Dj|exact AEs|simp
abbrev Wp:AV:=.v (.tuple #[])
theorem c72 (l:List Tok) (S:QS) (e:Int) (o:Nat) (Hp:List AObj) (ho:Hp[o]? = some (prq l S)) (hi:S.i<l.length):ACall Tryz.prog 72 [.ptr o 0,A3 e] Hp (fun r H'=>r=Wp∧H'=Hp.set o (prq l (Jv l e S))):=by
 refine Ae [] [0,1] Tryz.func72 Tryz.ntmps72 (fun d=>?_)
 refine Z23 ?_
 refine A5 (h:=Bd ho) (hr:=?_)
 refine A5 ?_;refine A2 [0,1,9] ?_
 refine A4 (fun ht9=>?_) (fun ht9=>?_)
 ·have e:Jv l e S=⟨S.i,e,((Af l S.i).at_:Int)⟩:=if_pos ht9
  refine W.draw0 [0,0,0,4,12,28,0,64,192,448,1020,2044,4092,8190,16383,32767,65535] 14 An (by kernel_rfl) ?_;refine Z8 ?_;refine Z35 ?_
  refine Aq (h:=Bd ho) (hr:=?_)
  refine Z35 ?_
  refine Aq (h:=Bd ho) (hr:=?_)
  refine Aq (h:=Ag (S.i) (Ix (Af l S.i)) (fun _=>Ng hi)) (hr:=?_)
  refine Z8 ?_;refine D.build (places:=#[(0,1),(1,1)]) jU (fun w=>by simp) jZ ?_;refine Ik ?_;refine Z0 ?_
  refine Cx jS ho ?_ ?_
  ·simp
  exact AN9
 have e:Jv l e S=S:=if_neg (by rw [ht9];simp)
 exact ANc

theorem AEu (l:List Tok) (S:QS) (s:Str) (o:Nat) (Hp:List AObj) (ho:Hp[o]? = some (prq l S)) (hi:S.i<l.length) (hll:l.length≤1048576):ACall Tryz.prog 118 [.ptr o 0,Ac s] Hp (fun r H'=>r=B4 (isQ l s S)∧H'=Hp.set o (prq l (mv l s S))):=by
 refine Ae [.tmp 4] [0,1] Tryz.func118 Tryz.ntmps118 (fun d=>?_)
 refine Z36 ?_;refine Fd [0,1,3,7,0,16,48,112,255,511,0,2047] [] [.q 10 [] [],.s [5] none [] [],.s [5] none [] []] (fun _=>Hp) (fun _=>[]) An (by kernel_rfl) rfl rfl (fun _=>rfl) ?_
 apply Y.q
 ·intro B hT hF
  refine Z35 ?_
  refine Aq (h:=Bd ho) (hr:=?_)
  refine Z35 ?_
  refine Aq (h:=Bd ho) (hr:=?_)
  refine Aq (h:=Ag (S.i) (Ix (Af l S.i)) (fun _=>Ng hi)) (hr:=?_)
  exact Z56
 case hTF=>decide
 refine AKu ?_;refine Ej (tn:=[])  ?_;refine bt ?_;refine Z23 ?_
 refine A5 (h:=Bd ho) (hr:=?_)
 refine Z86 ?_;refine Q5 ?_;refine Z86 ?_;refine Z0 ?_;refine A2 [0,6] ?_;refine Z33 ?_;refine A2 [0,6,39] ?_
 refine A4 (fun ht39=>?_) (fun ht39=>?_)
 ·have e:mv l s S=Ff S:=if_pos ht39
  refine Z49 ?_
  refine A5 (h:=Bd ho) (hr:=?_)
  refine Z12 ?_
  refine Cx jS ho ?_ ?_
  ·simp
  refine A2 [6] ?_;refine Il ?_;refine l3 ?_;exact AOy
 have e:mv l s S=S:=if_neg (by rw [show isQ l s S=false from ht39];simp)
 refine Nc ?_;refine Z14 ?_;exact AOy

theorem aa {l:List Tok} {s:Str} {S:QS} (h:isQ l s S=true):mv l s S=Ff S:=if_pos h
theorem ac {l:List Tok} {s:Str} {S:QS} (h:isQ l s S=false):mv l s S=S:=if_neg (by rw [h];simp)
theorem AM5 {l:List Tok} {s:Str} {S:QS} (h:isQ l s S=true):U0 l s S=Ff S:=if_pos h
theorem AM6 {l:List Tok} {s:Str} {S:QS} (h:isQ l s S=false):U0 l s S=Jv l 8 S:=if_neg (by rw [h];simp)
theorem c68 (l:List Tok) (S:QS) (s:Str) (o:Nat) (Hp:List AObj) (ho:Hp[o]? = some (prq l S)) (hi:S.i<l.length) (hll:l.length≤1048576):ACall Tryz.prog 68 [.ptr o 0,Ac s] Hp (fun r H'=>r=Wp∧H'=Hp.set o (prq l (U0 l s S))):=by
 refine Ae [] [0,1] Tryz.func68 Tryz.ntmps68 (fun d=>?_)
 refine Z1 ?_;refine Cr Tryz.call118 ho (by simp) Jj (AEu l S s o _ (Aj ho) hi hll) ?_;refine A5 ?_;refine A2 [0,7] ?_
 refine A4 (fun ht7=>?_) (fun ht7=>?_)
 ·have hq:isQ l s S=false:=by simpa using ht7
  have e:=AM6 hq
  rw [ac hq,Cm ho]
  refine Z50 ?_;refine Cr Tryz.call72 ho (by simp) Jj (c72 l S 8 o _ (Aj ho) hi) ?_;exact AN9
 have hq:isQ l s S=true:=by simpa using ht7
 have e:=AM5 hq
 rw [aa hq]
 exact ANc

theorem AM7 {l:List Tok} {q:Qry} {S:QS} (h:(S.code != 0)=true):Hy l (q,S)=(q,S):=if_pos h
theorem AM8 {l:List Tok} {q:Qry} {S:QS} (h:(S.code != 0)=false) (h2:((Af l S.i).kind != 1)=true):Hy l (q,S)=(q,Jv l 8 S):=by unfold Hy;rw [if_neg (by show ¬(S.code != 0)=true;rw [h];simp),if_pos h2]
theorem AM9 {l:List Tok} {q:Qry} {S:QS} (h:(S.code != 0)=false) (h2:((Af l S.i).kind != 1)=false) (h3:((q.cols.length:Int)==12)=true):Hy l (q,S)=(q,Jv l 3 S):=by unfold Hy;rw [if_neg (by show ¬(S.code != 0)=true;rw [h];simp),if_neg (by show ¬((Af l S.i).kind != 1)=true;rw [h2];simp),if_pos h3]
theorem AMa {l:List Tok} {q:Qry} {S:QS} (h:(S.code != 0)=false) (h2:((Af l S.i).kind != 1)=false) (h3:((q.cols.length:Int)==12)=false):Hy l (q,S)=(⟨q.all,q.cols++[(Af l S.i).text],q.whr,q.lim⟩,Ff S):=by unfold Hy;rw [if_neg (by show ¬(S.code != 0)=true;rw [h];simp),if_neg (by show ¬((Af l S.i).kind != 1)=true;rw [h2];simp),if_neg (by show ¬((q.cols.length:Int)==12)=true;rw [h3];simp)]
theorem en {Hp:List AObj} {o oq:Nat} {A B:AObj} (hne:oq≠o) (ho:Hp[o]? = some A) (hoq:Hp[oq]? = some B):(Hp.set o A).set oq B=Hp:=by rw [Cm ho,Cm hoq]
theorem AQ9 (l:List Tok) (S:QS) (q:Qry) (o oq:Nat) (Hp:List AObj) (hne:oq≠o) (ho:Hp[o]? = some (prq l S)) (hoq:Hp[oq]? = some (qo true q)) (hi:S.i<l.length) (hll:l.length≤1048576) (hcl:q.cols.length≤1048576):ACall Tryz.prog 119 [.ptr o 0,.ptr oq 0] Hp (fun r H'=>r=Wp∧H'=(Hp.set o (prq l (Hy l (q,S)).2)).set oq (qo true (Hy l (q,S)).1)):=by
 refine Ae [] [0,1] Tryz.func119 Tryz.ntmps119 (fun d=>?_)
 refine Fd [0,1,3,7,0,16,48,112,255,511,0,2047] [] [.q 10 [] [],.s [4] none [] [],.s [4] none [] []] (fun _=>Hp) (fun _=>[]) An (by kernel_rfl) rfl rfl (fun _=>rfl) ?_
 apply Y.q
 ·intro B hT hF
  refine Z35 ?_
  refine Aq (h:=Bd ho) (hr:=?_)
  refine Z35 ?_
  refine Aq (h:=Bd ho) (hr:=?_)
  refine Aq (h:=Ag (S.i) (Ix (Af l S.i)) (fun _=>Ng hi)) (hr:=?_)
  exact Z56
 case hTF=>decide
 refine AKu ?_;refine Ej (tn:=[])  ?_;refine A2 [0,1,4] ?_;refine Z17 ?_;refine Z23 ?_
 refine A5 (h:=Bd ho) (hr:=?_)
 refine Z0 ?_;refine A2 [0,1,4,15] ?_
 refine A4 (fun ht15=>?_) (fun ht15=>?_)
 ·have e:=AM7 (l:=l) (q:=q) ht15
  refine bn ?_
  exact A9 .nores (hp:=⟨rfl,by first|(rw [e];exact (en hne ho hoq).symm)|(rw [e];exact (Cm (by rw [Bk (Ne.symm hne)];exact hoq)).symm)|(rw [e];simp only [C6];rw [O5 _ _ hne];simp only [qo,qoC,Bj,Bm,Dc];rfl)⟩)
 refine Z23 ?_;refine A2 [0,1,4,22] ?_
 refine A4 (fun ht22=>?_) (fun ht22=>?_)
 ·have e:=AM8 (q:=q) ht15 ht22
  refine Z2 ?_;refine Cr Tryz.call72 ho (by simp) Jj (c72 l S 8 o _ (Aj ho) hi) ?_;refine Mk ?_;refine bn ?_
  exact A9 .nores (hp:=⟨rfl,by first|(rw [e];exact (en hne ho hoq).symm)|(rw [e];exact (Cm (by rw [Bk (Ne.symm hne)];exact hoq)).symm)|(rw [e];simp only [C6];rw [O5 _ _ hne];simp only [qo,qoC,Bj,Bm,Dc];rfl)⟩)
 refine Z15 ?_
 refine A5 (h:=Bd hoq) (hr:=?_)
 refine Z12 ?_;refine A2 [0,1,4,28] ?_
 refine A4 (fun ht28=>?_) (fun ht28=>?_)
 ·rw [Ah] at ht28
  have e:=AM9 ht15 ht22 ht28
  refine Z2 ?_;refine Cr Tryz.call72 ho (by simp) Jj (c72 l S 3 o _ (Aj ho) hi) ?_;refine Mk ?_;refine bn ?_
  exact A9 .nores (hp:=⟨rfl,by first|(rw [e];exact (en hne ho hoq).symm)|(rw [e];exact (Cm (by rw [Bk (Ne.symm hne)];exact hoq)).symm)|(rw [e];simp only [C6];rw [O5 _ _ hne];simp only [qo,qoC,Bj,Bm,Dc];rfl)⟩)
 rw [Ah] at ht28
 have e:=AMa ht15 ht22 ht28
 refine Z20 ?_;refine Fd [0,0,2,6,14,0,32,96,254,511,1023,2047] [4] [.q 4 [] [],.s [41] (some 0) [] [],.q 3 [] [],.s [41,45] none [0] []] (fun B=>Hp.set oq (if B 0=true then qo false q else qo true q)) (fun _=>[]) An (by kernel_rfl) (Cm hoq) rfl (fun B=>by simp) ?_
 apply Y.q
 ·intro B hT hF
  exact l4
 case hTF=>decide
 refine Pz (o:=oq) (t':=29) (cs:=[B4 q.all,.slice true 1 (q.cols.map Ac),A3 q.whr.op,Ac q.whr.text,A3 q.whr.val.kind,A3 q.whr.val.n,Ac q.whr.val.s,.slice false 6 (q.whr.kids.map Aa),A3 q.lim]) (cs':=[B4 q.all,.slice false 1 (q.cols.map Ac),A3 q.whr.op,Ac q.whr.text,A3 q.whr.val.kind,A3 q.whr.val.n,Ac q.whr.val.s,.slice false 6 (q.whr.kids.map Aa),A3 q.lim]) Tryz.isAgg22 (fun B hB=>⟨by simp only [hB];exact getset hoq,(C6 ..).symm,rfl⟩) ?_
 apply Y.q
 ·intro B hT hF
  refine Z8 ?_;exact Z39
 case hTF=>decide
 refine Y.append jU Tryz.type9 ?_ ?_ ?_
 ·simp [Tryz.t9];omega
 ·simp [Tryz.t9];omega
 refine Ej (tn:=[4]) (U:=Hp.set oq (qo false q)) ?_;refine Z0 ?_
 refine Gm jS (getset hoq) ?_ ?_
 ·simp [or_imp,forall_and]
 refine A2 [0] ?_;refine Z49 ?_
 refine A5 (h:=Bd (by rw [Bk hne,Bk hne];exact ho)) (hr:=?_)
 refine Z12 ?_
 refine Cx jS (by rw [Bk hne,Bk hne];exact ho) ?_ ?_
 ·simp
 refine Mk ?_
 exact F4 .nores (hp:=⟨rfl,by first|(rw [e];exact (en hne ho hoq).symm)|(rw [e];exact (Cm (by rw [Bk (Ne.symm hne)];exact hoq)).symm)|(rw [e];simp only [C6];rw [O5 _ _ hne];simp only [qo,qoC,Bj,Bm,Dc];rfl)⟩)

end Go.SX.Nb
namespace Go.SX
variable [GI:GlobInv]
open Classical Go.RowKit
section
variable {P:Program} {g:FuncId} {Hp:List AObj}
theorem AFun.libAny {xs:List Value} {n:Value} (h:∀w,K2 w→Calls P g xs.toArray w (fun e w'=>∃u,e=.returned (.tuple #[n,u])∧Below w.heap.size w w')):AFun P g (xs.map .v) Hp (.tup [.v n,.any]):=by
 intro d G w vs hn hv hH hT hTop
 have hvs:=Xa hn (fun i y u a b=>⟨_,hv i y u a b⟩)
 subst hvs
 refine (callsIn_wide.2 (h w (fun x hx=>let ⟨_,u,a,b⟩:=hT.glob x hx;⟨u,a,b⟩))).mono ?_
 rintro e w' ⟨u,rfl,hb⟩
 obtain ⟨h1,h2⟩:=Y9 hH hT hb
 refine ⟨.tuple #[n,u],G,.tup [.v n,.any],Hp,rfl,.tup _ _ _ rfl (fun i y u' hy hu=>?_),h1,h2,(Sf hT hb).keep _,rfl,rfl,rfl⟩
 match i with
 | 0=>simp at hy hu;subst hy;subst hu;exact .v _ _
 | 1=>simp at hy;subst hy;exact .any _ _
 | i+2=>simp at hy
end
end Go.SX
