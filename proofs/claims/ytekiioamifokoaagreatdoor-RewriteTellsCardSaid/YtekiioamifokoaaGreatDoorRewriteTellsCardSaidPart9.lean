/- On the way (part 9). -/
import Derived.Test.YtekiioamifokoaaGreatDoorRewriteTellsCardSaidPart8
set_option linter.all false
namespace Go.SX.Nb
open Go Go.SX Go.Proofs
variable [ErrAt]
set_option maxRecDepth 4000
abbrev prq (l:List Tok) (S:QS):AObj:=.cells 113 [.slice false 3 (l.map Ix),A4 (S.i:Int),A4 S.code,A4 S.at_]
abbrev qoC (own:Bool) (q:Qry):List AV:=[B0 q.all,.slice own 1 (q.cols.map Ab),A4 q.whr.op,Ab q.whr.text,A4 q.whr.val.kind,A4 q.whr.val.n,Ab q.whr.val.s,.slice false 6 (q.whr.kids.map A7),A4 q.lim]
abbrev qo (own:Bool) (q:Qry):AObj:=.cells 29 (qoC own q)
theorem Jf {n:Nat} {l:List Tok} {S:QS}:ObjLow n (prq l S):=by
 show ∀y∈[AV.slice false 3 (l.map Ix),A4 (S.i:Int),A4 S.code,A4 S.at_],Low n y
 intro y hy
 simp only [B3,Ed,or_false] at hy
 rcases hy with rfl|rfl|rfl|rfl
 ·simp [or_imp,forall_and]
 all_goals simp
theorem ABy {n:Nat} {own:Bool} {l:List Str}:Low n (.slice own 1 (l.map Ab)):=by simp
theorem ABz {n:Nat} {own:Bool} {q:Qry}:ObjLow n (qo own q):=by
 show ∀y∈qoC own q,Low n y
 intro y hy
 simp only [qoC,B3,Ed,or_false] at hy
 rcases hy with rfl|rfl|rfl|rfl|rfl|rfl|rfl|rfl|rfl
 all_goals first|exact Cv|exact ABy|simp
abbrev Vc:AV:=.v (.tuple #[])
theorem c72 (l:List Tok) (S:QS) (e:Int) (o:Nat) (Hp:List AObj) (ho:Hp[o]? = some (prq l S)) (hi:S.i<l.length):ACall Tryz.prog 72 [.ptr o 0,A4 e] Hp (fun r H'=>r=Vc∧H'=Hp.set o (prq l (Jo l e S))):=by
 refine Ah [] [0,1] Tryz.func72 Tryz.ntmps72 (fun d=>?_)
 refine Z34 ?_
 refine A5 (h:=Bj ho) (hr:=?_)
 refine A5 ?_;refine A2 [0,1,9] ?_
 refine A3 (fun ht9=>?_) (fun ht9=>?_)
 ·have e:Jo l e S=⟨S.i,e,((Af l S.i).at_:Int)⟩:=if_pos ht9
  refine W.draw0 [0,0,0,4,12,28,0,64,192,448,1020,2044,4092,8190,16383,32767,65535] 14 Ap (by kernel_rfl) ?_;refine Z10 ?_;refine Z37 ?_
  refine Av (h:=Bj ho) (hr:=?_)
  refine Z37 ?_
  refine Av (h:=Bj ho) (hr:=?_)
  refine Av (h:=Ad (S.i) (Ix (Af l S.i)) (fun _=>Mq hi)) (hr:=?_)
  refine Z10 ?_;refine To (places:=#[(0,1),(1,1)]) jU (fun w=>by simp) jZ ?_;refine Hf ?_;refine Z0 ?_
  refine De jS ho ?_ ?_
  ·simp
  exact AJj
 have e:Jo l e S=S:=if_neg (by rw [ht9];simp)
 exact AJk

theorem AC0 (l:List Tok) (S:QS) (s:Str) (o:Nat) (Hp:List AObj) (ho:Hp[o]? = some (prq l S)) (hi:S.i<l.length) (hll:l.length≤1048576):ACall Tryz.prog 118 [.ptr o 0,Ab s] Hp (fun r H'=>r=B0 (isQ l s S)∧H'=Hp.set o (prq l (kq l s S))):=by
 refine Ah [.tmp 4] [0,1] Tryz.func118 Tryz.ntmps118 (fun d=>?_)
 refine Z48 ?_;refine Hh [0,1,3,7,0,16,48,112,255,511,0,2047] [] [.q 10 [] [],.s [5] none [] [],.s [5] none [] []] (fun _=>Hp) (fun _=>[]) Ap (by kernel_rfl) rfl rfl (fun _=>rfl) ?_
 apply Y.q
 ·intro B hT hF
  refine Z37 ?_
  refine Av (h:=Bj ho) (hr:=?_)
  refine Z37 ?_
  refine Av (h:=Bj ho) (hr:=?_)
  refine Av (h:=Ad (S.i) (Ix (Af l S.i)) (fun _=>Mq hi)) (hr:=?_)
  exact Z60
 case hTF=>decide
 refine AH2 ?_;refine nu ?_;refine A2 [0,1,5] ?_;refine Z34 ?_
 refine A5 (h:=Bj ho) (hr:=?_)
 refine Z52 ?_;refine Qg ?_;refine Z52 ?_;refine Z0 ?_;refine A2 [0,6] ?_;refine Z25 ?_;refine A2 [0,6,39] ?_
 refine A3 (fun ht39=>?_) (fun ht39=>?_)
 ·have e:kq l s S=F3 S:=if_pos ht39
  refine Z74 ?_
  refine A5 (h:=Bj ho) (hr:=?_)
  refine Z8 ?_
  refine De jS ho ?_ ?_
  ·simp
  refine A2 [6] ?_;refine Gf ?_;refine ip ?_;exact ALd
 have e:kq l s S=S:=if_neg (by rw [show isQ l s S=false from ht39];simp)
 refine Nr ?_;refine Z20 ?_;exact ALd

theorem Yj {l:List Tok} {s:Str} {S:QS} (h:isQ l s S=true):kq l s S=F3 S:=if_pos h
theorem Yk {l:List Tok} {s:Str} {S:QS} (h:isQ l s S=false):kq l s S=S:=if_neg (by rw [h];simp)
theorem AIj {l:List Tok} {s:Str} {S:QS} (h:isQ l s S=true):Sy l s S=F3 S:=if_pos h
theorem AIk {l:List Tok} {s:Str} {S:QS} (h:isQ l s S=false):Sy l s S=Jo l 8 S:=if_neg (by rw [h];simp)
theorem c68 (l:List Tok) (S:QS) (s:Str) (o:Nat) (Hp:List AObj) (ho:Hp[o]? = some (prq l S)) (hi:S.i<l.length) (hll:l.length≤1048576):ACall Tryz.prog 68 [.ptr o 0,Ab s] Hp (fun r H'=>r=Vc∧H'=Hp.set o (prq l (Sy l s S))):=by
 refine Ah [] [0,1] Tryz.func68 Tryz.ntmps68 (fun d=>?_)
 refine Z1 ?_;refine Cl Tryz.call118 ho (by simp) Jf (AC0 l S s o _ (Ak ho) hi hll) ?_;refine A5 ?_;refine A2 [0,7] ?_
 refine A3 (fun ht7=>?_) (fun ht7=>?_)
 ·have hq:isQ l s S=false:=by simpa using ht7
  have e:=AIk hq
  rw [Yk hq,Co ho]
  refine Z61 ?_;refine Cl Tryz.call72 ho (by simp) Jf (c72 l S 8 o _ (Ak ho) hi) ?_;exact AJj
 have hq:isQ l s S=true:=by simpa using ht7
 have e:=AIj hq
 rw [Yj hq]
 exact AJk

theorem AIl {l:List Tok} {q:Qry} {S:QS} (h:(S.code != 0)=true):I0 l (q,S)=(q,S):=if_pos h
theorem AIm {l:List Tok} {q:Qry} {S:QS} (h:(S.code != 0)=false) (h2:((Af l S.i).kind != 1)=true):I0 l (q,S)=(q,Jo l 8 S):=by unfold I0;rw [if_neg (by show ¬(S.code != 0)=true;rw [h];simp),if_pos h2]
theorem AIn {l:List Tok} {q:Qry} {S:QS} (h:(S.code != 0)=false) (h2:((Af l S.i).kind != 1)=false) (h3:((q.cols.length:Int)==12)=true):I0 l (q,S)=(q,Jo l 3 S):=by unfold I0;rw [if_neg (by show ¬(S.code != 0)=true;rw [h];simp),if_neg (by show ¬((Af l S.i).kind != 1)=true;rw [h2];simp),if_pos h3]
theorem AIo {l:List Tok} {q:Qry} {S:QS} (h:(S.code != 0)=false) (h2:((Af l S.i).kind != 1)=false) (h3:((q.cols.length:Int)==12)=false):I0 l (q,S)=(⟨q.all,q.cols++[(Af l S.i).text],q.whr,q.lim⟩,F3 S):=by unfold I0;rw [if_neg (by show ¬(S.code != 0)=true;rw [h];simp),if_neg (by show ¬((Af l S.i).kind != 1)=true;rw [h2];simp),if_neg (by show ¬((q.cols.length:Int)==12)=true;rw [h3];simp)]
theorem cb {Hp:List AObj} {o oq:Nat} {A B:AObj} (hne:oq≠o) (ho:Hp[o]? = some A) (hoq:Hp[oq]? = some B):(Hp.set o A).set oq B=Hp:=by rw [Co ho,Co hoq]
theorem AMi (l:List Tok) (S:QS) (q:Qry) (o oq:Nat) (Hp:List AObj) (hne:oq≠o) (ho:Hp[o]? = some (prq l S)) (hoq:Hp[oq]? = some (qo true q)) (hi:S.i<l.length) (hll:l.length≤1048576) (hcl:q.cols.length≤1048576):ACall Tryz.prog 119 [.ptr o 0,.ptr oq 0] Hp (fun r H'=>r=Vc∧H'=(Hp.set o (prq l (I0 l (q,S)).2)).set oq (qo true (I0 l (q,S)).1)):=by
 refine Ah [] [0,1] Tryz.func119 Tryz.ntmps119 (fun d=>?_)
 refine Hh [0,1,3,7,0,16,48,112,255,511,0,2047] [] [.q 10 [] [],.s [4] none [] [],.s [4] none [] []] (fun _=>Hp) (fun _=>[]) Ap (by kernel_rfl) rfl rfl (fun _=>rfl) ?_
 apply Y.q
 ·intro B hT hF
  refine Z37 ?_
  refine Av (h:=Bj ho) (hr:=?_)
  refine Z37 ?_
  refine Av (h:=Bj ho) (hr:=?_)
  refine Av (h:=Ad (S.i) (Ix (Af l S.i)) (fun _=>Mq hi)) (hr:=?_)
  exact Z60
 case hTF=>decide
 refine AH2 ?_;refine nu ?_;refine A2 [0,1,4] ?_;refine Z13 ?_;refine Z34 ?_
 refine A5 (h:=Bj ho) (hr:=?_)
 refine Z0 ?_;refine A2 [0,1,4,15] ?_
 refine A3 (fun ht15=>?_) (fun ht15=>?_)
 ·have e:=AIl (l:=l) (q:=q) ht15
  refine Z64 ?_
  exact A9 .nores (hp:=⟨rfl,by first|(rw [e];exact (cb hne ho hoq).symm)|(rw [e];exact (Co (by rw [Cf (Ne.symm hne)];exact hoq)).symm)|(rw [e];simp only [C6];rw [Na _ _ hne];simp only [qo,qoC,Bn,Br,Ct];rfl)⟩)
 refine Z34 ?_;refine A2 [0,1,4,22] ?_
 refine A3 (fun ht22=>?_) (fun ht22=>?_)
 ·have e:=AIm (q:=q) ht15 ht22
  refine Z2 ?_;refine Cl Tryz.call72 ho (by simp) Jf (c72 l S 8 o _ (Ak ho) hi) ?_;refine Ku ?_;refine Z64 ?_
  exact A9 .nores (hp:=⟨rfl,by first|(rw [e];exact (cb hne ho hoq).symm)|(rw [e];exact (Co (by rw [Cf (Ne.symm hne)];exact hoq)).symm)|(rw [e];simp only [C6];rw [Na _ _ hne];simp only [qo,qoC,Bn,Br,Ct];rfl)⟩)
 refine Z16 ?_
 refine A5 (h:=Bj hoq) (hr:=?_)
 refine Z8 ?_;refine A2 [0,1,4,28] ?_
 refine A3 (fun ht28=>?_) (fun ht28=>?_)
 ·rw [Ag] at ht28
  have e:=AIn ht15 ht22 ht28
  refine Z2 ?_;refine Cl Tryz.call72 ho (by simp) Jf (c72 l S 3 o _ (Ak ho) hi) ?_;refine Ku ?_;refine Z64 ?_
  exact A9 .nores (hp:=⟨rfl,by first|(rw [e];exact (cb hne ho hoq).symm)|(rw [e];exact (Co (by rw [Cf (Ne.symm hne)];exact hoq)).symm)|(rw [e];simp only [C6];rw [Na _ _ hne];simp only [qo,qoC,Bn,Br,Ct];rfl)⟩)
 rw [Ag] at ht28
 have e:=AIo ht15 ht22 ht28
 refine Z47 ?_;refine Hh [0,0,2,6,14,0,32,96,254,511,1023,2047] [4] [.q 4 [] [],.s [41] (some 0) [] [],.q 3 [] [],.s [41,45] none [0] []] (fun B=>Hp.set oq (if B 0=true then qo false q else qo true q)) (fun _=>[]) Ap (by kernel_rfl) (Co hoq) rfl (fun B=>by simp) ?_
 apply Y.q
 ·intro B hT hF
  exact io
 case hTF=>decide
 refine R9 (o:=oq) (t':=29) (cs:=[B0 q.all,.slice true 1 (q.cols.map Ab),A4 q.whr.op,Ab q.whr.text,A4 q.whr.val.kind,A4 q.whr.val.n,Ab q.whr.val.s,.slice false 6 (q.whr.kids.map A7),A4 q.lim]) (cs':=[B0 q.all,.slice false 1 (q.cols.map Ab),A4 q.whr.op,Ab q.whr.text,A4 q.whr.val.kind,A4 q.whr.val.n,Ab q.whr.val.s,.slice false 6 (q.whr.kids.map A7),A4 q.lim]) Tryz.isAgg22 (fun B hB=>⟨by simp only [hB];exact getset hoq,(C6 ..).symm,rfl⟩) ?_
 apply Y.q
 ·intro B hT hF
  refine Z10 ?_;exact Z40
 case hTF=>decide
 refine Ws jU Tryz.type9 ?_ ?_ ?_
 ·simp [Tryz.t9];omega
 ·simp [Tryz.t9];omega
 refine Gx (tn:=[4]) (U:=Hp.set oq (qo false q)) ?_;refine Z0 ?_
 refine Hg jS (getset hoq) ?_ ?_
 ·simp [or_imp,forall_and]
 refine A2 [0] ?_;refine Z74 ?_
 refine A5 (h:=Bj (by rw [Cf hne,Cf hne];exact ho)) (hr:=?_)
 refine Z8 ?_
 refine De jS (by rw [Cf hne,Cf hne];exact ho) ?_ ?_
 ·simp
 refine Ku ?_
 exact Eo .nores (hp:=⟨rfl,by first|(rw [e];exact (cb hne ho hoq).symm)|(rw [e];exact (Co (by rw [Cf (Ne.symm hne)];exact hoq)).symm)|(rw [e];simp only [C6];rw [Na _ _ hne];simp only [qo,qoC,Bn,Br,Ct];rfl)⟩)

end Go.SX.Nb
namespace Go.SX
variable [GI:GlobInv]
open Classical Go.RowKit
section
variable {P:Program} {g:FuncId} {Hp:List AObj}
theorem AFun.libAny {xs:List Value} {n:Value} (h:∀w,Jv w→Calls P g xs.toArray w (fun e w'=>∃u,e=.returned (.tuple #[n,u])∧Below w.heap.size w w')):AFun P g (xs.map .v) Hp (.tup [.v n,.any]):=by
 intro d G w vs hn hv hH hT hTop
 have hvs:=W3 hn (fun i y u a b=>⟨_,hv i y u a b⟩)
 subst hvs
 refine (callsIn_wide.2 (h w (fun x hx=>let ⟨_,u,a,b⟩:=hT.glob x hx;⟨u,a,b⟩))).mono ?_
 rintro e w' ⟨u,rfl,hb⟩
 obtain ⟨h1,h2⟩:=X2 hH hT hb
 refine ⟨.tuple #[n,u],G,.tup [.v n,.any],Hp,rfl,.tup _ _ _ rfl (fun i y u' hy hu=>?_),h1,h2,(Re hT hb).keep _,rfl,rfl,rfl⟩
 match i with
 | 0=>simp at hy hu;subst hy;subst hu;exact .v _ _
 | 1=>simp at hy;subst hy;exact .any _ _
 | i+2=>simp at hy
end
end Go.SX
