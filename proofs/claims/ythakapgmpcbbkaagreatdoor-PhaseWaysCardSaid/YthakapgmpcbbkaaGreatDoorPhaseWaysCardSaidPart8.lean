/- Texts on the way to this: PhaseWays answers true for whatever it is handed: of any columns, any migration and any events: behind a cut it only comes to the new version; behind an abort, or a failure, only to where it was, with the cause that it had; keys only rise in each phase (up to 100 events, 50 columns, 4000 bytes). (part 8) -/
import Derived.Lib.SliceRun
import Derived.Test.YthakapgmpcbbkaaGreatDoorPhaseWaysCardSaidPart7
set_option linter.all false
namespace Go.SX.Nb
open Go Go.SX Go.Proofs
variable [ErrAt]
set_option maxRecDepth 4000
abbrev Pd (s:Sign):AV:=.agg [.slice false 1 (s.kids.map A2),A2 s.own]
theorem Gx {n:Nat} (s:Sign):Low n (Pd s):=by simp [or_imp,forall_and]
theorem AAd {m:Sign} {a o:Int} (h:m=⟨[a],o⟩):AV.agg [.slice false 1 [A2 a],A2 o]=Pd m:=by rw [h];rfl
theorem r9 {m:Sign} {a b o:Int} (h:m=⟨[a,b],o⟩):AV.agg [.slice false 1 [A2 a,A2 b],A2 o]=Pd m:=by rw [h];rfl
theorem AAe {m:Sign} {a b c o:Int} (h:m=⟨[a,b,c],o⟩):AV.agg [.slice false 1 [A2 a,A2 b,A2 c],A2 o]=Pd m:=by rw [h];rfl
theorem AEr (s:Str) (Hp:List AObj):AFun Tryz.prog 192 [A8 s] Hp (Pd (He s)):=by
 refine ACall.body [.cell 2 206] [0] Tryz.func192 Tryz.ntmps192 (fun d=>?_)
 refine Z43 ?_;refine Z52 ?_;refine I5 ?_;refine nu ?_;refine R.fin [2,3,4] ?_
 refine W.cond (fun ht4=>?_) (fun ht4=>?_)
 ·refine Z9 ?_
  refine W.cond (fun ht4=>?_) (fun ht4=>?_)
  ·exact Z45
  refine Z11 ?_;refine R.fin [2,3,9] ?_
  refine W.cond (fun ht9=>?_) (fun ht9=>?_)
  ·refine Z9 ?_
   refine W.cond (fun ht9=>?_) (fun ht9=>?_)
   ·exact Z45
   refine Z74 ?_
   refine W.cond (fun ht18=>?_) (fun ht18=>?_)
   ·exact Z45
   exact Z88
  refine Z84 ?_
  refine W.cond (fun ht9=>?_) (fun ht9=>?_)
  ·refine Z9 ?_
   refine W.cond (fun ht9=>?_) (fun ht9=>?_)
   ·exact Z45
   refine Z74 ?_
   refine W.cond (fun ht18=>?_) (fun ht18=>?_)
   ·exact Z45
   exact Z88
  refine Z84 ?_
  refine W.cond (fun ht9=>?_) (fun ht9=>?_)
  ·refine Z9 ?_
   refine W.cond (fun ht9=>?_) (fun ht9=>?_)
   ·exact Z45
   refine Z74 ?_
   refine W.cond (fun ht18=>?_) (fun ht18=>?_)
   ·exact Z45
   exact Z88
  refine Z84 ?_
  refine W.cond (fun ht9=>?_) (fun ht9=>?_)
  ·refine Z9 ?_
   refine W.cond (fun ht9=>?_) (fun ht9=>?_)
   ·exact Z45
   refine Z74 ?_
   refine W.cond (fun ht18=>?_) (fun ht18=>?_)
   ·exact Z45
   exact Z88
  refine Z84 ?_
  refine W.cond (fun ht9=>?_) (fun ht9=>?_)
  ·refine Z9 ?_
   refine W.cond (fun ht9=>?_) (fun ht9=>?_)
   ·exact Z45
   refine Z74 ?_
   refine W.cond (fun ht18=>?_) (fun ht18=>?_)
   ·exact Z45
   exact Z88
  refine Z13 ?_;refine R.fin [2,3,9] ?_;refine K.thN ?_
  refine W.cond (fun ht9=>?_) (fun ht9=>?_)
  ·exact Z45
  refine Z74 ?_
  refine W.cond (fun ht18=>?_) (fun ht18=>?_)
  ·exact Z45
  exact Z88
 refine Z13 ?_;refine R.fin [2,3,4] ?_;refine K.thN ?_
 refine W.cond (fun ht4=>?_) (fun ht4=>?_)
 ·exact Z45
 refine Z11 ?_;refine R.fin [2,3,9] ?_
 refine W.cond (fun ht9=>?_) (fun ht9=>?_)
 ·refine Z9 ?_
  refine W.cond (fun ht9=>?_) (fun ht9=>?_)
  ·exact Z45
  refine Z74 ?_
  refine W.cond (fun ht18=>?_) (fun ht18=>?_)
  ·exact Z45
  exact Z88
 refine Z84 ?_
 refine W.cond (fun ht9=>?_) (fun ht9=>?_)
 ·refine Z9 ?_
  refine W.cond (fun ht9=>?_) (fun ht9=>?_)
  ·exact Z45
  refine Z74 ?_
  refine W.cond (fun ht18=>?_) (fun ht18=>?_)
  ·exact Z45
  exact Z88
 refine Z84 ?_
 refine W.cond (fun ht9=>?_) (fun ht9=>?_)
 ·refine Z9 ?_
  refine W.cond (fun ht9=>?_) (fun ht9=>?_)
  ·exact Z45
  refine Z74 ?_
  refine W.cond (fun ht18=>?_) (fun ht18=>?_)
  ·exact Z45
  exact Z88
 refine Z84 ?_
 refine W.cond (fun ht9=>?_) (fun ht9=>?_)
 ·refine Z9 ?_
  refine W.cond (fun ht9=>?_) (fun ht9=>?_)
  ·exact Z45
  refine Z74 ?_
  refine W.cond (fun ht18=>?_) (fun ht18=>?_)
  ·exact Z45
  exact Z88
 refine Z84 ?_
 refine W.cond (fun ht9=>?_) (fun ht9=>?_)
 ·refine Z9 ?_
  refine W.cond (fun ht9=>?_) (fun ht9=>?_)
  ·exact Z45
  refine Z74 ?_
  refine W.cond (fun ht18=>?_) (fun ht18=>?_)
  ·exact Z45
  exact Z88
 refine Z13 ?_;refine R.fin [2,3,9] ?_;refine K.thN ?_
 refine W.cond (fun ht9=>?_) (fun ht9=>?_)
 ·exact Z45
 refine Z74 ?_
 refine W.cond (fun ht18=>?_) (fun ht18=>?_)
 ·exact Z45
 exact Z88

theorem AEs (s:Str) (Hp:List AObj):AFun Tryz.prog 193 [A8 s] Hp (Pd (Fq s)):=by
 refine ACall.body [.cell 2 206] [0] Tryz.func193 Tryz.ntmps193 (fun d=>?_)
 refine Z43 ?_;refine Z52 ?_;refine I5 ?_;refine nu ?_;refine R.fin [2,3,4] ?_
 refine W.cond (fun ht4=>?_) (fun ht4=>?_)
 ·refine Z9 ?_
  refine W.cond (fun ht4=>?_) (fun ht4=>?_)
  ·exact Z77
  refine Z84 ?_
  refine W.cond (fun ht9=>?_) (fun ht9=>?_)
  ·exact Z77
  refine Z11 ?_;refine R.fin [2,3,13] ?_
  refine W.cond (fun ht13=>?_) (fun ht13=>?_)
  ·refine Z9 ?_
   refine W.cond (fun ht13=>?_) (fun ht13=>?_)
   ·exact Z77
   refine un ?_
   refine W.cond (fun ht18=>?_) (fun ht18=>?_)
   ·exact Z77
   refine Z1 ?_;refine R.fin [2,22] ?_
   refine W.cond (fun ht22=>?_) (fun ht22=>?_)
   ·exact Z77
   exact ur
  refine Z13 ?_;refine R.fin [2,3,13] ?_;refine K.thN ?_
  refine W.cond (fun ht13=>?_) (fun ht13=>?_)
  ·exact Z77
  refine un ?_
  refine W.cond (fun ht18=>?_) (fun ht18=>?_)
  ·exact Z77
  refine Z1 ?_;refine R.fin [2,22] ?_
  refine W.cond (fun ht22=>?_) (fun ht22=>?_)
  ·exact Z77
  exact ur
 refine Z13 ?_;refine R.fin [2,3,4] ?_;refine K.thN ?_
 refine W.cond (fun ht4=>?_) (fun ht4=>?_)
 ·exact Z77
 refine Z84 ?_
 refine W.cond (fun ht9=>?_) (fun ht9=>?_)
 ·exact Z77
 refine Z11 ?_;refine R.fin [2,3,13] ?_
 refine W.cond (fun ht13=>?_) (fun ht13=>?_)
 ·refine Z9 ?_
  refine W.cond (fun ht13=>?_) (fun ht13=>?_)
  ·exact Z77
  refine un ?_
  refine W.cond (fun ht18=>?_) (fun ht18=>?_)
  ·exact Z77
  refine Z1 ?_;refine R.fin [2,22] ?_
  refine W.cond (fun ht22=>?_) (fun ht22=>?_)
  ·exact Z77
  exact ur
 refine Z13 ?_;refine R.fin [2,3,13] ?_;refine K.thN ?_
 refine W.cond (fun ht13=>?_) (fun ht13=>?_)
 ·exact Z77
 refine un ?_
 refine W.cond (fun ht18=>?_) (fun ht18=>?_)
 ·exact Z77
 refine Z1 ?_;refine R.fin [2,22] ?_
 refine W.cond (fun ht22=>?_) (fun ht22=>?_)
 ·exact Z77
 exact ur

theorem c171 (e:Expr) (Hp:List AObj):AFun Tryz.prog 171 [A7 e] Hp (Pd (Cb e.op e.text)):=by
 refine ACall.body [.cell 2 206] [0] Tryz.func171 Tryz.ntmps171 (fun d=>?_)
 refine Z2 ?_;refine J8 ?_;refine R.fin [1,2] ?_;refine Z11 ?_;refine R.fin [1,2,4] ?_;refine Z71 ?_;refine R.fin [1,2,4,5] ?_
 refine W.cond (fun ht5=>?_) (fun ht5=>?_)
 ·refine Z27 ?_;refine Z5 ?_
  first|(by_cases e0:Cb e.op e.text=⟨[1],1⟩;exact K.fin (V.one (V.cellN Tryz.isAgg206 Tryz.sizeOf206)) ⟨by rw [e0];rfl,rfl⟩;exfalso;apply e0;simp_all [Cb];done)|(by_cases e0:Cb e.op e.text=⟨[3],3⟩;exact K.fin (V.one (V.cellN Tryz.isAgg206 Tryz.sizeOf206)) ⟨by rw [e0];rfl,rfl⟩;exfalso;apply e0;simp_all [Cb];done)|(by_cases e0:Cb e.op e.text=He e.text;exact K.fin (V.one (V.cellN Tryz.isAgg206 Tryz.sizeOf206)) ⟨by rw [e0],rfl⟩ (hlow:=Gx _);exfalso;apply e0;simp_all [Cb];done)|(by_cases e0:Cb e.op e.text=Fq e.text;exact K.fin (V.one (V.cellN Tryz.isAgg206 Tryz.sizeOf206)) ⟨by rw [e0],rfl⟩ (hlow:=Gx _);exfalso;apply e0;simp_all [Cb];done)
 refine Z1 ?_;refine R.fin [1,2,4,9] ?_
 refine W.cond (fun ht9=>?_) (fun ht9=>?_)
 ·refine Z27 ?_;refine Z5 ?_
  first|(by_cases e0:Cb e.op e.text=⟨[1],1⟩;exact K.fin (V.one (V.cellN Tryz.isAgg206 Tryz.sizeOf206)) ⟨by rw [e0];rfl,rfl⟩;exfalso;apply e0;simp_all [Cb];done)|(by_cases e0:Cb e.op e.text=⟨[3],3⟩;exact K.fin (V.one (V.cellN Tryz.isAgg206 Tryz.sizeOf206)) ⟨by rw [e0];rfl,rfl⟩;exfalso;apply e0;simp_all [Cb];done)|(by_cases e0:Cb e.op e.text=He e.text;exact K.fin (V.one (V.cellN Tryz.isAgg206 Tryz.sizeOf206)) ⟨by rw [e0],rfl⟩ (hlow:=Gx _);exfalso;apply e0;simp_all [Cb];done)|(by_cases e0:Cb e.op e.text=Fq e.text;exact K.fin (V.one (V.cellN Tryz.isAgg206 Tryz.sizeOf206)) ⟨by rw [e0],rfl⟩ (hlow:=Gx _);exfalso;apply e0;simp_all [Cb];done)
 refine Z1 ?_;refine R.fin [1,2,13] ?_
 refine W.cond (fun ht13=>?_) (fun ht13=>?_)
 ·refine Z1 ?_;refine R.call Tryz.call192 (AEr e.text _) ?_;refine Z10 ?_;refine Z5 ?_
  first|(by_cases e0:Cb e.op e.text=⟨[1],1⟩;exact K.fin (V.one (V.cellN Tryz.isAgg206 Tryz.sizeOf206)) ⟨by rw [e0];rfl,rfl⟩;exfalso;apply e0;simp_all [Cb];done)|(by_cases e0:Cb e.op e.text=⟨[3],3⟩;exact K.fin (V.one (V.cellN Tryz.isAgg206 Tryz.sizeOf206)) ⟨by rw [e0];rfl,rfl⟩;exfalso;apply e0;simp_all [Cb];done)|(by_cases e0:Cb e.op e.text=He e.text;exact K.fin (V.one (V.cellN Tryz.isAgg206 Tryz.sizeOf206)) ⟨by rw [e0],rfl⟩ (hlow:=Gx _);exfalso;apply e0;simp_all [Cb];done)|(by_cases e0:Cb e.op e.text=Fq e.text;exact K.fin (V.one (V.cellN Tryz.isAgg206 Tryz.sizeOf206)) ⟨by rw [e0],rfl⟩ (hlow:=Gx _);exfalso;apply e0;simp_all [Cb];done)
 refine Z21 ?_;refine Z1 ?_;refine R.call Tryz.call193 (AEs e.text _) ?_;refine Z10 ?_
 first|(by_cases e0:Cb e.op e.text=⟨[1],1⟩;exact K.fin (V.one (V.cellN Tryz.isAgg206 Tryz.sizeOf206)) ⟨by rw [e0];rfl,rfl⟩;exfalso;apply e0;simp_all [Cb];done)|(by_cases e0:Cb e.op e.text=⟨[3],3⟩;exact K.fin (V.one (V.cellN Tryz.isAgg206 Tryz.sizeOf206)) ⟨by rw [e0];rfl,rfl⟩;exfalso;apply e0;simp_all [Cb];done)|(by_cases e0:Cb e.op e.text=He e.text;exact K.fin (V.one (V.cellN Tryz.isAgg206 Tryz.sizeOf206)) ⟨by rw [e0],rfl⟩ (hlow:=Gx _);exfalso;apply e0;simp_all [Cb];done)|(by_cases e0:Cb e.op e.text=Fq e.text;exact K.fin (V.one (V.cellN Tryz.isAgg206 Tryz.sizeOf206)) ⟨by rw [e0],rfl⟩ (hlow:=Gx _);exfalso;apply e0;simp_all [Cb];done)

theorem ACv (a b:Int) (Hp:List AObj):AFun Tryz.prog 194 [A2 a,A2 b] Hp (.tup [A2 (Ci a b).1,Ao (Ci a b).2]):=by
 refine ACall.body [.tmp 4,.tmp 5] [0,1] Tryz.func194 Tryz.ntmps194 (fun d=>?_)
 refine Z1 ?_;refine R.fin [0,1] ?_;refine Z24 ?_;refine Z18 ?_;refine R.fin [0,1,6] ?_
 refine W.cond (fun ht6=>?_) (fun ht6=>?_)
 ·refine Z18 ?_;refine Z22 ?_;refine Z5 ?_
  first|(by_cases e0:Ci a b=(b,true);exact K.fin (V.two V.tmp V.tmp) ⟨by rw [e0],rfl⟩;exfalso;apply e0;simp_all [Ci];done)|(by_cases e0:Ci a b=(a,true);exact K.fin (V.two V.tmp V.tmp) ⟨by rw [e0],rfl⟩;exfalso;apply e0;simp_all [Ci];done)|(by_cases e0:Ci a b=(0,false);exact K.fin (V.two V.tmp V.tmp) ⟨by rw [e0],rfl⟩;exfalso;apply e0;simp_all [Ci];done)
 refine j7 ?_;refine No ?_;refine R.fin [0,10] ?_
 refine W.cond (fun ht10=>?_) (fun ht10=>?_)
 ·refine Z18 ?_;refine Z22 ?_;refine Z5 ?_
  first|(by_cases e0:Ci a b=(b,true);exact K.fin (V.two V.tmp V.tmp) ⟨by rw [e0],rfl⟩;exfalso;apply e0;simp_all [Ci];done)|(by_cases e0:Ci a b=(a,true);exact K.fin (V.two V.tmp V.tmp) ⟨by rw [e0],rfl⟩;exfalso;apply e0;simp_all [Ci];done)|(by_cases e0:Ci a b=(0,false);exact K.fin (V.two V.tmp V.tmp) ⟨by rw [e0],rfl⟩;exfalso;apply e0;simp_all [Ci];done)
 refine Z21 ?_;refine Z1 ?_;refine Z22 ?_
 first|(by_cases e0:Ci a b=(b,true);exact K.fin (V.two V.tmp V.tmp) ⟨by rw [e0],rfl⟩;exfalso;apply e0;simp_all [Ci];done)|(by_cases e0:Ci a b=(a,true);exact K.fin (V.two V.tmp V.tmp) ⟨by rw [e0],rfl⟩;exfalso;apply e0;simp_all [Ci];done)|(by_cases e0:Ci a b=(0,false);exact K.fin (V.two V.tmp V.tmp) ⟨by rw [e0],rfl⟩;exfalso;apply e0;simp_all [Ci];done)

structure FitAt (s:Sign) (ks:List Int) (x:Nat×Int):Prop where
 le:x.1≤ks.length
 eq:Rg s.kids ks 0=Rg (s.kids.drop x.1) (ks.drop x.1) x.2
theorem FitAt.step {s:Sign} {ks:List Int} {x:Nat×Int} (h:FitAt s ks x) (hk:x.1<ks.length) (hs:x.1<s.kids.length):Rg s.kids ks 0=(if s.kids[x.1] == -2 then Rg (s.kids.drop (x.1+1)) (ks.drop (x.1+1)) x.2 else if s.kids[x.1] == -1 then (if (Ci x.2 ks[x.1]).2 then Rg (s.kids.drop (x.1+1)) (ks.drop (x.1+1)) (Ci x.2 ks[x.1]).1 else none) else if (Ci s.kids[x.1] ks[x.1]).2 then Rg (s.kids.drop (x.1+1)) (ks.drop (x.1+1)) x.2 else none):=by
 rw [h.eq,List.drop_eq_getElem_cons hk,List.drop_eq_getElem_cons hs,Rg]
theorem FitAt.skip {s:Sign} {ks:List Int} {x:Nat×Int} (h:FitAt s ks x) (hk:x.1<ks.length) (hs:x.1<s.kids.length) (h2:(s.kids[x.1] == -2)=true):FitAt s ks (x.1+1,x.2):=⟨hk,by rw [h.step hk hs,if_pos h2]⟩
theorem FitAt.same {s:Sign} {ks:List Int} {x:Nat×Int} (h:FitAt s ks x) (hk:x.1<ks.length) (hs:x.1<s.kids.length) (h2:(s.kids[x.1] == -2)=false) (h1:(s.kids[x.1] == -1)=true) (hm:(Ci x.2 ks[x.1]).2=true):FitAt s ks (x.1+1,(Ci x.2 ks[x.1]).1):=⟨hk,by rw [h.step hk hs,if_neg (by rw [h2];simp),if_pos h1,if_pos hm]⟩
theorem FitAt.want {s:Sign} {ks:List Int} {x:Nat×Int} (h:FitAt s ks x) (hk:x.1<ks.length) (hs:x.1<s.kids.length) (h2:(s.kids[x.1] == -2)=false) (h1:(s.kids[x.1] == -1)=false) (hm:(Ci s.kids[x.1] ks[x.1]).2=true):FitAt s ks (x.1+1,x.2):=⟨hk,by rw [h.step hk hs,if_neg (by rw [h2];simp),if_neg (by rw [h1];simp),if_pos hm]⟩
theorem FitAt.bad {s:Sign} {ks:List Int} {x:Nat×Int} (h:FitAt s ks x) (hk:x.1<ks.length) (hs:x.1<s.kids.length) (h2:(s.kids[x.1] == -2)=false) (hm:(if s.kids[x.1] == -1 then (Ci x.2 ks[x.1]).2 else (Ci s.kids[x.1] ks[x.1]).2)=false):Y9 s ks=(0,10):=by
 unfold Y9
 rw [h.step hk hs,if_neg (by rw [h2];simp)]
 split at hm
 ·rename_i h1
  rw [if_pos h1,if_neg (by rw [hm];simp)]
 rename_i h1
 rw [if_neg h1,if_neg (by rw [hm];simp)]
theorem FitAt.out {s:Sign} {ks:List Int} {x:Nat×Int} (h:FitAt s ks x) (hk:ks.length≤x.1):Y9 s ks=if s.own == -1 then (x.2,0) else (s.own,0):=by
 unfold Y9
 rw [h.eq,List.drop_of_length_le hk]
 cases s.kids.drop x.1<;>rfl
theorem AEt (s:Sign) (ks:List Int) (hks:ks.length≤s.kids.length) (hk2:ks.length≤1048576) (Hp:List AObj):AFun Tryz.prog 172 [Pd s,.slice false 1 (ks.map A2)] Hp (.tup [A2 (Y9 s ks).1,A2 (Y9 s ks).2]):=by
 refine ACall.body [.tmp 4,.tmp 5] [0,1] Tryz.func172 Tryz.ntmps172 (fun d=>?_)
 refine Z18 ?_;refine R.fin [1,2] ?_;refine E0 ?_;refine Z16 ?_;refine R.fin [1,2,6] ?_;refine Z34 ?_;refine jg ?_
 refine AW.loopC (α:=Nat×Int) (fun x=>⟨49,A6 2 (.ro [.slice false 1 (s.kids.map A2),A2 s.own]) (A6 6 (.ptr (oid Hp.length 0) 0) (A6 13 (.slice false 1 (ks.map A2)) (A6 14 (A2 (ks.length:Nat)) (A6 15 (A2 (x.1:Nat)) (fun _=>.any))))),Hp,[.cells 3 [A2 x.2]],[],none⟩) (fun x=>FitAt s ks x) (fun x=>ks.length-x.1) ((0,0)) ⟨Nat.zero_le _,rfl⟩ (StLe.of_eq (by simp)) rfl (fun x hx=>?_)
 refine Z2 ?_;refine R.fin [2,6,13,14,15,16] ?_
 refine W.condX (fun ht16=>?_) (fun ht16=>?_)
 ·have hlt:x.1<ks.length:=by simpa using ht16
  have hls:x.1<s.kids.length:=by omega
  refine Mb ?_
  refine R.go (h:=Q.indexAddr (x.1) (A2 ks[x.1]) (fun _=>Br hlt)) (hr:=?_)
  refine Z23 ?_;refine R.fin [2,6,7,8,13,14,15] ?_;refine Z18 ?_
  refine R.go (h:=Q.indexAddr (x.1) (A2 s.kids[x.1]) (fun _=>Br hls)) (hr:=?_)
  refine Vk ?_;refine R.fin [2,6,8,9,13,14,15] ?_;refine Z11 ?_;refine R.fin [2,6,8,9,13,14,15,26] ?_
  refine W.cond (fun ht26=>?_) (fun ht26=>?_)
  ·refine W.keep [2,6,13,14,15] ?_;refine Z81 ?_;refine K.blE ?_;refine K.thN ?_;refine Z13 ?_;refine jg ?_
   first|(refine K.lpN (x.1+1,x.2) (hx.skip hlt hls ht26) (by show ks.length-(x.1+1)<ks.length-x.1;omega) ?_;exact StCut.take (own:=[.cells 3 [A2 x.2]]) (fun _=>.refl _) (by repeat (first|exact Az|refine Ay (by first|(simp [or_imp,forall_and];done)|(simp [oid]<;>omega)) ?_)) (by intro y hy;rw [List.mem_singleton.1 hy];intro z hz;rw [List.mem_singleton.1 hz];simp) (by simp))|(refine K.lpN (x.1+1,(Ci x.2 ks[x.1]).1) (hx.same hlt hls ht26 ht28 (by simpa using ht38)) (by show ks.length-(x.1+1)<ks.length-x.1;omega) ?_;exact StCut.take (own:=[.cells 3 [A2 (Ci x.2 ks[x.1]).1]]) (fun _=>.refl _) (by repeat (first|exact Az|refine Ay (by first|(simp [or_imp,forall_and];done)|(simp [oid]<;>omega)) ?_)) (by intro y hy;rw [List.mem_singleton.1 hy];intro z hz;rw [List.mem_singleton.1 hz];simp) (by simp))|(refine K.lpN (x.1+1,x.2) (hx.want hlt hls ht26 ht28 (by simpa using ht38)) (by show ks.length-(x.1+1)<ks.length-x.1;omega) ?_;exact StCut.take (own:=[.cells 3 [A2 x.2]]) (fun _=>.refl _) (by repeat (first|exact Az|refine Ay (by first|(simp [or_imp,forall_and];done)|(simp [oid]<;>omega)) ?_)) (by intro y hy;rw [List.mem_singleton.1 hy];intro z hz;rw [List.mem_singleton.1 hz];simp) (by simp))
  refine Mc ?_;refine R.fin [2,6,8,9,10,13,14,15] ?_;refine Z11 ?_;refine R.fin [2,6,8,10,13,14,15,28] ?_
  refine W.cond (fun ht28=>?_) (fun ht28=>?_)
  ·refine Z93 ?_;refine R.fin [2,6,8,10,13,14,15] ?_;refine K.thN ?_;refine Z35 ?_;refine R.call Tryz.call194 (ACv _ _ _) ?_;refine Z51 ?_;refine R.fin [2,6,10,11,12,13,14,15] ?_;refine Z11 ?_;refine R.fin [2,6,10,11,13,14,15,38] ?_
   refine W.cond (fun ht38=>?_) (fun ht38=>?_)
   ·have hbad:=hx.bad hlt hls ht26 (by first|(rw [if_pos ht28];simpa using ht38)|(rw [if_neg (by rw [ht28];simp)];simpa using ht38))
    refine Z1 ?_;refine Z94 ?_;exact ABi
   refine Z9 ?_;refine Z13 ?_;refine Z36 ?_;refine jg ?_;refine Sy ?_;refine jg ?_
   first|(refine K.lpN (x.1+1,x.2) (hx.skip hlt hls ht26) (by show ks.length-(x.1+1)<ks.length-x.1;omega) ?_;exact StCut.take (own:=[.cells 3 [A2 x.2]]) (fun _=>.refl _) (by repeat (first|exact Az|refine Ay (by first|(simp [or_imp,forall_and];done)|(simp [oid]<;>omega)) ?_)) (by intro y hy;rw [List.mem_singleton.1 hy];intro z hz;rw [List.mem_singleton.1 hz];simp) (by simp))|(refine K.lpN (x.1+1,(Ci x.2 ks[x.1]).1) (hx.same hlt hls ht26 ht28 (by simpa using ht38)) (by show ks.length-(x.1+1)<ks.length-x.1;omega) ?_;exact StCut.take (own:=[.cells 3 [A2 (Ci x.2 ks[x.1]).1]]) (fun _=>.refl _) (by repeat (first|exact Az|refine Ay (by first|(simp [or_imp,forall_and];done)|(simp [oid]<;>omega)) ?_)) (by intro y hy;rw [List.mem_singleton.1 hy];intro z hz;rw [List.mem_singleton.1 hz];simp) (by simp))|(refine K.lpN (x.1+1,x.2) (hx.want hlt hls ht26 ht28 (by simpa using ht38)) (by show ks.length-(x.1+1)<ks.length-x.1;omega) ?_;exact StCut.take (own:=[.cells 3 [A2 x.2]]) (fun _=>.refl _) (by repeat (first|exact Az|refine Ay (by first|(simp [or_imp,forall_and];done)|(simp [oid]<;>omega)) ?_)) (by intro y hy;rw [List.mem_singleton.1 hy];intro z hz;rw [List.mem_singleton.1 hz];simp) (by simp))
  refine Z9 ?_;refine Z35 ?_;refine R.call Tryz.call194 (ACv _ _ _) ?_;refine Z51 ?_;refine R.fin [2,6,10,11,12,13,14,15] ?_;refine Z11 ?_;refine R.fin [2,6,10,11,13,14,15,38] ?_
  refine W.cond (fun ht38=>?_) (fun ht38=>?_)
  ·have hbad:=hx.bad hlt hls ht26 (by first|(rw [if_pos ht28];simpa using ht38)|(rw [if_neg (by rw [ht28];simp)];simpa using ht38))
   refine Z1 ?_;refine Z94 ?_;exact ABi
  refine Z9 ?_;refine Z13 ?_;refine Z36 ?_;refine jg ?_;refine Sy ?_;refine jg ?_
  first|(refine K.lpN (x.1+1,x.2) (hx.skip hlt hls ht26) (by show ks.length-(x.1+1)<ks.length-x.1;omega) ?_;exact StCut.take (own:=[.cells 3 [A2 x.2]]) (fun _=>.refl _) (by repeat (first|exact Az|refine Ay (by first|(simp [or_imp,forall_and];done)|(simp [oid]<;>omega)) ?_)) (by intro y hy;rw [List.mem_singleton.1 hy];intro z hz;rw [List.mem_singleton.1 hz];simp) (by simp))|(refine K.lpN (x.1+1,(Ci x.2 ks[x.1]).1) (hx.same hlt hls ht26 ht28 (by simpa using ht38)) (by show ks.length-(x.1+1)<ks.length-x.1;omega) ?_;exact StCut.take (own:=[.cells 3 [A2 (Ci x.2 ks[x.1]).1]]) (fun _=>.refl _) (by repeat (first|exact Az|refine Ay (by first|(simp [or_imp,forall_and];done)|(simp [oid]<;>omega)) ?_)) (by intro y hy;rw [List.mem_singleton.1 hy];intro z hz;rw [List.mem_singleton.1 hz];simp) (by simp))|(refine K.lpN (x.1+1,x.2) (hx.want hlt hls ht26 ht28 (by simpa using ht38)) (by show ks.length-(x.1+1)<ks.length-x.1;omega) ?_;exact StCut.take (own:=[.cells 3 [A2 x.2]]) (fun _=>.refl _) (by repeat (first|exact Az|refine Ay (by first|(simp [or_imp,forall_and];done)|(simp [oid]<;>omega)) ?_)) (by intro y hy;rw [List.mem_singleton.1 hy];intro z hz;rw [List.mem_singleton.1 hz];simp) (by simp))
 have hxe:ks.length≤x.1:=by simpa using ht16
 have hout:=hx.out hxe
 refine Z37 ?_;refine Z34 ?_;refine R.fin [2,6,45] ?_
 refine W.cond (fun ht45=>?_) (fun ht45=>?_)
 ·refine Z18 ?_;refine Z94 ?_;exact K.fin (V.two V.tmp V.tmp) ⟨by rw [hout,if_pos ht45],rfl⟩
 refine Z9 ?_;refine Z35 ?_;refine Z22 ?_;exact K.fin (V.two V.tmp V.tmp) ⟨by rw [hout,if_neg (by rw [ht45];simp)],rfl⟩

theorem ra {n k:Nat} {own:Bool} {l:List Int}:Low n (.slice own k (l.map A2)):=low_slice.2 fun y hy=>by
 obtain ⟨z,_,rfl⟩:=List.mem_map.1 hy
 simp
theorem Wf {n:Nat} {e:Expr}:Low n (.ro (Ee e)):=by have:=Ad n e;rw [Ab] at this;simpa using this
theorem N9 {c:List Col} {t:Str} (h:¬(Bj t c<0)):∃(j:Nat),Bj t c=(j:Int)∧j<c.length:=by
 obtain ⟨j,y,h2,_,h3⟩:=find_mem.1 h
 exact ⟨j,h3,(List.getElem?_eq_some_iff.1 h2).1⟩
theorem rb {c:List Col} {e:Expr} (h:(e.op==1)=true):Ef c e=(e.val.kind,0):=by rw [Ms];unfold U5;rw [if_pos h]
theorem ky {c:List Col} {e:Expr} (h1:(e.op==1)=false) (h:(e.op==2)=true):Ef c e=Ya c e.text:=by rw [Ms];unfold U5;rw [h1,if_pos h];rfl
theorem rc {c:List Col} {e:Expr} (h1:(e.op==1)=false) (h2:(e.op==2)=false) {x:Nat} (hx:x<e.kids.length) (h0:∀(j:Nat) (y:Expr),j<x→e.kids[j]? = some y→((Ef c y).2 != 0)=false) (hb:((Ef c e.kids[x]).2 != 0)=true):Ef c e=(0,(Ef c e.kids[x]).2):=by
 rw [Ms]
 unfold U5
 rw [h1,h2]
 have:(e.kids.map (Ef c)).find? (fun q=>q.2 != 0)=some ((e.kids.map (Ef c))[x]'(by simpa using hx)):=ej (by simpa using hx) (by simpa using hb) (fun j y hj hy=>by
  rw [List.getElem?_map,Option.map_eq_some_iff] at hy
  obtain ⟨z,hz,rfl⟩:=hy
  exact h0 j z hj hz)
 rw [this]
 simp
theorem rd {c:List Col} {e:Expr} (h1:(e.op==1)=false) (h2:(e.op==2)=false) (h0:∀(j:Nat) (y:Expr),j<e.kids.length→e.kids[j]? = some y→((Ef c y).2 != 0)=false):Ef c e=Y9 (Cb e.op e.text) (e.kids.map fun y=>(Ef c y).1):=by
 rw [Ms]
 unfold U5
 rw [h1,h2]
 have:(e.kids.map (Ef c)).find? (fun q=>q.2 != 0)=none:=Tp (fun j y hy=>by
  rw [List.getElem?_map,Option.map_eq_some_iff] at hy
  obtain ⟨z,hz,rfl⟩:=hy
  exact h0 j z (List.getElem?_eq_some_iff.1 hz).1 hz)
 rw [this]
 simp only [List.map_map]
 rfl
theorem kz (f:Expr→Int) (l:List Expr) {x:Nat} (h:x<l.length):((l.take x).map f).map A2++[A2 (f l[x])]=((l.take (x+1)).map f).map A2:=by rw [List.take_succ_eq_append_getElem h,List.map_append,List.map_append];rfl
theorem AEu (c:List Col) (hc:OkCols c):∀(n:Nat) (e:Expr),okE n e→Bx B3 e=true→∀Hp:List AObj,AFun Tryz.prog 150 [A7 e,Ae c] Hp (.tup [A2 (Ef c e).1,A2 (Ef c e).2]):=by
 intro n
 induction n with
 | zero=>exact fun e h=>h.elim
 | succ n ih =>
 intro e hok hnd Hp
 have hnd0:=hnd
 rw [Dx,Bool.and_eq_true] at hnd0
 refine ACall.body [.tmp 4,.tmp 5] [0,1] Tryz.func150 Tryz.ntmps150 (fun d=>?_)
 refine Z18 ?_;refine R.fin [1,2] ?_;refine Z11 ?_;refine R.fin [1,2,13] ?_;refine Z71 ?_;refine R.fin [1,2,13,14] ?_
 refine W.cond (fun ht14=>?_) (fun ht14=>?_)
 ·have hk:=rb (c:=c) ht14
  refine Z1 ?_;refine Z23 ?_;refine Z22 ?_;refine Z5 ?_;exact zf
 refine Z1 ?_;refine R.fin [1,2,19] ?_
 refine W.cond (fun ht19=>?_) (fun ht19=>?_)
 ·have hk:=ky (c:=c) ht14 ht19
  refine Z18 ?_;refine R.call Tryz.call58 (c58 c hc e.text _) ?_;refine R.go ?_;refine R.fin [1,6] ?_;refine Z11 ?_;refine R.fin [1,6,26] ?_
  refine W.cond (fun ht26=>?_) (fun ht26=>?_)
  ·have hk2:Ya c e.text=(0,9):=if_pos (by simpa using ht26)
   refine Z1 ?_;refine Z94 ?_;exact ABj
  have hneg:¬(Bj e.text c<0):=by simpa using ht26
  obtain ⟨j,hj,hjl⟩:=N9 hneg
  have hk2:Ya c e.text=(c[j].kind,0):=by
   unfold Ya
   rw [if_neg hneg,hj,Int.toNat_natCast,List.getD_eq_getElem?_getD,List.getElem?_eq_getElem hjl]
   rfl
  rw [hj]
  refine Z9 ?_;refine Z1 ?_
  refine R.go (h:=Q.indexAddr (j) (Ax c[j]) (fun _=>Br hjl)) (hr:=?_)
  refine Z72 ?_;refine Z22 ?_;exact ABj
 refine Z21 ?_;refine Z2 ?_;refine R.fin [1,2,7] ?_;refine Z57 ?_;refine R.nilSl 7 1 ?_;refine Z72 ?_;refine R.fin [1,2,7,33,34,35] ?_
 refine AW.loopC (α:=Nat) (fun x=>⟨59,A6 1 (Ae c) (A6 2 (.ro (Ee e)) (A6 7 (.slice true 1 (((e.kids.take x).map fun y=>(Ef c y).1).map A2)) (A6 33 (.slice false 6 (e.kids.map A7)) (A6 34 (A2 (e.kids.length:Nat)) (A6 35 (A2 (x:Nat)) (fun _=>.any)))))),Hp,[],[],none⟩) (fun x=>x≤e.kids.length∧∀(j:Nat) (y:Expr),j<x→e.kids[j]? = some y→((Ef c y).2 != 0)=false) (fun x=>e.kids.length-x) (0) ⟨Nat.zero_le _,fun j y h=>by omega⟩ (StLe.of_eq (by simp)) rfl (fun x hx=>?_)
 refine Z2 ?_;refine R.fin [1,2,7,33,34,35,36] ?_
 refine W.condX (fun ht36=>?_) (fun ht36=>?_)
 ·have hlt:x<e.kids.length:=by simpa using ht36
  have hkl:=hok.2.1
  refine Su ?_
  refine R.go (h:=Q.indexAddr (x) (A7 e.kids[x]) (fun _=>Br hlt)) (hr:=?_)
  refine Vk ?_;refine R.fin [1,2,7,9,33,34,35] ?_;refine Z1 ?_;refine R.call Tryz.call150 (ih e.kids[x] (hok.2.2 _ (List.getElem_mem hlt)) ((Df _ _).1 hnd0.2 _ (List.getElem_mem hlt)) _) ?_;refine Z51 ?_;refine R.fin [1,2,7,10,11,33,34,35] ?_;refine Z11 ?_;refine R.fin [1,2,7,10,11,33,34,35,46] ?_
  refine W.cond (fun ht46=>?_) (fun ht46=>?_)
  ·have hkb:=rc (c:=c) ht14 ht19 hlt hx.2 ht46
   refine Z18 ?_;refine Z94 ?_;refine Z92 ?_;exact K.fin (V.two V.tmp V.tmp) ⟨by rw [hkb],rfl⟩
  refine jb ?_;refine R.moveT ?_;refine j6 ?_
  refine R.append jU Tryz.type3 ?_ ?_ ?_
  ·simp only [List.length_map,List.length_take,List.length_cons,List.length_nil,Tryz.t3];omega
  ·simp only [List.length_map,List.length_take,List.length_cons,List.length_nil,Tryz.t3];omega
  refine R.assignT ?_;refine R.fin [1,2,7,33,34,35] ?_;refine Sy ?_;refine R.fin [1,2,7,33,34,35] ?_;refine K.lpN (x+1) ⟨hlt,Er hlt hx.2 ht46⟩ (by omega) ?_
  simp only [show Tryz.t3.size=1 from rfl,kz]
  exact StCut.take (own:=[]) (fun _=>.refl _) (by repeat (first|exact Az|refine Ay (by first|exact ra|exact Wf|exact Dc|(simp [or_imp,forall_and];done)) ?_)) (by simp) (by simp)
 have hxe:e.kids.take x=e.kids:=List.take_of_length_le (by simp at ht36;omega)
 have hxl:e.kids.length≤x:=by simp at ht36;omega
 have hka:=rd (c:=c) ht14 ht19 (fun j y hj hy=>hx.2 j y (by omega) hy)
 rw [hxe]
 refine Z66 ?_;refine R.call Tryz.call171 (c171 e _) ?_;refine R.go ?_
 refine R.call Tryz.call172 (AEt (Cb e.op e.text) (e.kids.map fun y=>(Ef c y).1) (by rw [py hnd0.1 ht14 ht19];simp) (by simpa using hok.2.1) _) ?_
 refine Z72 ?_;refine Z22 ?_;exact K.fin (V.two V.tmp V.tmp) ⟨by rw [hka],rfl⟩

theorem Yq {e:Expr} (h:B2 e=true):Bx B3 e=true:=by
 rw [Es] at h
 unfold Ck at h
 rw [Bool.and_eq_true] at h
 exact h.2
theorem ACw (n:Nat) (e:Expr) (hok:okE n e) (hn:n≤1048576) (c:List Col) (hc:OkCols c) (Hp:List AObj):AFun Tryz.prog 116 [A7 e,Ae c] Hp (.tup [A2 (Kg e c).1,A2 (Kg e c).2]):=by
 refine ACall.body [.tmp 4,.tmp 5] [0,1] Tryz.func116 Tryz.ntmps116 (fun d=>?_)
 refine Z18 ?_;refine R.fin [1,2] ?_;refine Z52 ?_;refine R.call Tryz.call56 (c56 n e hok hn _) ?_;refine Z0 ?_;refine G.go ?_;refine G.call Tryz.call37 (fun hB=>c37 c hc _) ?_;refine Pl ?_;refine R.fin [1,2,13] ?_
 refine W.cond (fun ht13=>?_) (fun ht13=>?_)
 ·have hk:Kg e c=(0,1):=if_pos ht13
  refine Z1 ?_;refine Z94 ?_;exact zf
 have hk:Kg e c=Ef c e:=if_neg (by rw [ht13];simp)
 have hr:B2 e=true:=by simp only [Bool.or_eq_false_iff,Bool.not_eq_false'] at ht13;exact ht13.1
 refine Z9 ?_;refine Z1 ?_;refine R.call Tryz.call150 (AEu c hc n e hok (Yq hr) _) ?_;refine Z72 ?_;refine Z22 ?_;exact zf

theorem Fg {n k:Nat} {o:Bool} {l:List Col}:Low n (.slice o k (l.map Ax)):=by simp [or_imp,forall_and]
theorem c81 (c:List Col) (hc:OkCols c) (take:List Str) (ht:take.length≤1048576) (give:List Col) (hg:OkCols give) (hg2:give.length≤1000000) (Hp:List AObj):AFun Tryz.prog 81 [Ae c,Em take,Ae give] Hp (.tup [Ae (Cn c take give).1,A2 (Cn c take give).2]):=by
 refine ACall.body [.tmp 6,.tmp 7] [0,1,2,9] Tryz.func81 Tryz.ntmps81 (fun d=>?_)
 refine Z1 ?_;refine R.fin [0,1,2,9] ?_;refine Z52 ?_;refine R.call Tryz.call25 (c25 c hc _) ?_;refine R.go ?_;refine R.fin [0,1,2,9,12] ?_
 refine W.cond (fun ht12=>?_) (fun ht12=>?_)
 ·have hr:C4 c=false:=by rw [Hv] at ht12;simpa using ht12
  refine Z2 ?_;refine nj ?_;refine Z86 ?_;exact K.fin (V.two V.tmp V.tmp) ⟨by rw [pm hr];try rfl,rfl⟩
 have hr:C4 c=true:=by rw [Hv] at ht12;simpa using ht12
 refine Z9 ?_;refine Z11 ?_;refine R.call Tryz.call113 (AE8 c hc take ht _) ?_;refine R.go ?_;refine R.fin [0,1,2,9,16] ?_
 refine W.cond (fun ht16=>?_) (fun ht16=>?_)
 ·have hk:Fp c take=false:=by simpa using ht16
  refine Z2 ?_;refine nj ?_;refine Z86 ?_;exact K.fin (V.two V.tmp V.tmp) ⟨by rw [pq hr hk];try rfl,rfl⟩
 have hk:Fp c take=true:=by simpa using ht16
 refine Z9 ?_;refine Z26 ?_;refine R.fin [0,1,2,8,9] ?_;refine Z57 ?_;refine R.nilOwn 0 2 ?_
 refine R.assumeLow (fun hlow=>?_)
 refine Z0 ?_;refine R.call Tryz.call114 (AEa c take _) ?_;refine R.fin [2,8,9,19] ?_;refine AW.block ?_
 refine W.rangeV (m:=1) Tryz.call149 (fun FR as' bd' hFR has hbd=>?_)
 have hFRl:∀s,Low (Hp.length+3) (FR s):=by
  intro s
  rw [hFR]
  refine Low.strip ?_
  revert s
  repeat (first|exact Az|refine Ay (by simp [oid,or_imp,forall_and]<;>try omega) ?_)
 have hOl:∀{k:Nat},∀x∈[AObj.cells 22 [.slice true 2 ((Db (c.take k) take).map Ax)],AObj.defs,AObj.loop LoopState.ready none FR 41 #[20] as' bd' (oid Hp.length 1)],ObjLow (Hp.length+3) x:=by
  intro k x hx
  simp only [List.mem_cons,List.mem_nil_iff,or_false] at hx
  rcases hx with rfl|rfl|rfl
  ·intro y hy
   rw [List.mem_singleton.1 hy]
   exact Fg
  ·trivial
  exact nw
 refine ⟨_,AEb (oid Hp.length 2) c take hc.len ht (fun k=>Hp++[AObj.cells 22 [.slice true 2 ((Db (c.take k) take).map Ax)],AObj.defs,AObj.loop LoopState.ready none FR 41 #[20] as' bd' (oid Hp.length 1)]) (fun k=>by simp) (by simp [oid]) (fun k x hx=>?_) (fun k y hk hcn=>by simp only [kb hk hcn]) (fun k y X hk hcn=>?_),?_⟩
 ·have:=Jd (fun x hx=>ObjLow.le (by omega) (hlow x hx)) hOl x hx
  simpa using this
 ·generalize hV:Hp++[AObj.cells 22 [.slice true 2 ((Db (c.take k) take).map Ax)],AObj.defs,AObj.loop LoopState.ready none FR 41 #[20] as' bd' (oid Hp.length 1)]++X=V
  have hL:V[oid Hp.length 2]? = some (AObj.loop LoopState.ready none FR 41 #[20] as' bd' (oid Hp.length 1)):=by rw [←hV,List.append_assoc,Al];rfl
  have hA0:V[oid Hp.length 0]? = some (AObj.cells 22 [.slice true 2 ((Db (c.take k) take).map Ax)]):=by rw [←hV,List.append_assoc,Al];rfl
  refine AYield.ofRound (pd:=none) (fr:=FR) (sz:=41) (ps:=#[20]) (df:=oid Hp.length 1) (asg:=as') (bd:=bd') hL rfl (by decide) (fun d=>?_)
  subst hFR has hbd
  refine W.keep [8,20] ?_;refine AW.region ?_;refine Z16 ?_;refine R.fin [8,9] ?_
  refine ⟨rfl,none,hL,?_⟩
  generalize hbz:(AObj.loop LoopState.busy _ _ _ _ _ _ _)=bz
  have hA:(V.set (oid Hp.length 2) bz)[oid Hp.length 0]? = some (AObj.cells 22 [.slice true 2 ((Db (c.take k) take).map Ax)]):=by rw [List.getElem?_set_ne (De (by decide))];exact hA0
  refine AW.block ?_;refine AW.region ?_;refine R.loadUpT jA hA ?_;refine j6 ?_
  refine R.append jU Tryz.type48 ?_ ?_ ?_
  ·have h1:=Kf (c.take k) take;have h2:=hc.len;simp only [List.length_take] at h1;simp [Tryz.t48];omega
  ·have h1:=Kf (c.take k) take;have h2:=hc.len;simp only [List.length_take] at h1;simp [Tryz.t48];omega
  refine R.storeUpT jS (getset hA) ?_ ?_
  ·exact k9
  refine Z50 ?_
  subst hbz
  refine zb ?_
  refine ⟨rfl,?_⟩
  subst hV
  simp only [List.append_assoc,E5,List.cons_append,List.nil_append,List.set_cons_succ,List.set_cons_zero]
  rw [vz hk hcn,List.map_append]
  rfl
 rintro r H' rfl
 simp only [List.take_length]
 refine ⟨Hp,_,_,_,rfl,rfl,fun h=>h,?_,rfl,by simp,?_⟩
 ·intro o ho
  have:o=oid Hp.length 1:=by simpa using ho
  subst this
  rw [Al]
  rfl
 refine Z12 ?_;refine E0 ?_;refine R.loadOwnT jA ?_;refine R.go ?_
 refine R.append jU Tryz.type48 ?_ ?_ ?_
 ·have h1:=Kf c take;have h2:=O6 hr;simp [Tryz.t48];omega
 ·have h1:=Kf c take;have h2:=O6 hr;simp [Tryz.t48];omega
 refine R.storeOwnT jS ?_;refine R.fin [8] ?_;refine Su ?_
 have e10:(Db c take).map Ax++give.map Ax=(Db c take++give).map Ax:=(List.map_append ..).symm
 rw [e10]
 generalize hout:Db c take++give=out
 have ho:OkCols out:=px hc hr hg hg2 hout
 refine R.go ?_;refine R.call Tryz.call115 (AE9 out ho _) ?_;refine Z0 ?_;refine R.fin [8,28] ?_
 refine W.cond (fun ht28=>?_) (fun ht28=>?_)
 ·have hn:Hy out=false:=by simpa using ht28
  refine Z2 ?_;refine nj ?_;refine af ?_;exact K.fin (V.two V.tmp V.tmp) ⟨by rw [pt hr hk hout hn];try rfl,rfl⟩
 have hn:Hy out=true:=by simpa using ht28
 refine Z2 ?_;refine R.call Tryz.call37 (c37 out ho _) ?_;refine Z0 ?_;refine R.fin [8,32] ?_
 refine W.cond (fun ht32=>?_) (fun ht32=>?_)
 ·have hq:Ib out=false:=by rw [W4] at ht32;simpa using ht32
  refine Z2 ?_;refine nj ?_;refine af ?_;exact K.fin (V.two V.tmp V.tmp) ⟨by rw [pu hr hk hout hn hq];try rfl,rfl⟩
 have hq:Ib out=true:=by rw [W4] at ht32;simpa using ht32
 refine Z35 ?_;refine R.fin [8,36] ?_
 refine W.cond (fun ht36=>?_) (fun ht36=>?_)
 ·have h12:12<out.length:=by simp at ht36;omega
  refine Z2 ?_;refine nj ?_;refine af ?_;exact K.fin (V.two V.tmp V.tmp) ⟨by rw [pv hr hk hout hn hq h12];try rfl,rfl⟩
 have h12:¬12<out.length:=by simp at ht36;omega
 refine Z21 ?_;refine Z18 ?_;refine R.fin [6,7] ?_;refine AW.ret ?_;exact K.fin (V.two V.tmp V.tmp) ⟨by rw [pw hr hk hout hn hq h12];try rfl,rfl⟩

theorem Yr {α:Type} {p:α→Bool} {l:List α} {x:Nat} (h:l.length≤x) (hp:∀(j:Nat) (v:α),j<x→l[j]? = some v→p v=false):l.any p=false:=by
 rw [List.any_eq_false]
 intro v hv
 obtain ⟨j,hj⟩:=List.getElem?_of_mem hv
 rw [hp j v (by have:=(List.getElem?_eq_some_iff.1 hj).1;omega) hj]
 simp
theorem Wg {n:Nat} {m:Mov}:∀y∈cu m,Low n y:=by
 intro y hy
 simp only [cu,List.mem_cons,List.mem_nil_iff,or_false] at hy
 rcases hy with rfl|rfl|rfl|rfl|rfl<;>simp [or_imp,forall_and,Ad]
theorem Ys {n:Nat} {m:Mov}:Low n (Gu m):=Go.SX.low_agg.2 Wg
theorem Kl {n k:Nat} {o:Bool} {l:List Mov}:Low n (.slice o k (l.map Gu)):=low_slice.2 fun y hy=>by
 obtain ⟨m,_,rfl⟩:=List.mem_map.1 hy
 exact Ys
theorem Ig {α:Type} {p:α→Bool} (l:List α):(l.any fun s => !(p s)) = !(l.all p):=by
 induction l with
 | nil=>rfl
 | cons a r ih=>rw [List.any_cons,List.all_cons,ih];cases p a<;>simp
theorem AEv (n:Nat) (e:Expr) (hok:okE n e) (hn:n≤1048576) (c:List Col) (hc:OkCols c) (w:Int) (Hp:List AObj):AFun Tryz.prog 117 [A7 e,Ae c,A2 w] Hp (Ao (qi e c w)):=by
 refine ACall.body [.tmp 6] [0,1,2] Tryz.func117 Tryz.ntmps117 (fun d=>?_)
 refine Z1 ?_;refine R.fin [1,2,3] ?_;refine Z1 ?_;refine R.call Tryz.call116 (ACw n e hok hn c hc _) ?_;refine Z51 ?_;refine R.fin [2,7,8] ?_;refine Z18 ?_;refine Z76 ?_;refine Z7 ?_;refine No ?_;refine Z49 ?_;exact K.fin (V.one V.tmp) ⟨by unfold qi;rfl,rfl⟩

theorem x5 {c:List Col} {m:Mov} (h:(m.kind==3)=false):Ba c m=m.give:=by unfold Ba;rw [if_neg (by rw [h];simp)]
theorem x6 {c:List Col} {m:Mov} {s:Str} {y:Col} (h:(m.kind==3)=true) (ht:m.take=[s]) (hg:m.give=[y]) (hf:Bj s c<0):Ba c m=[y]:=by
 unfold Ba
 rw [if_pos h,ht,hg]
 exact if_pos hf
theorem re {c:List Col} {m:Mov} {s:Str} {y:Col} (h:(m.kind==3)=true) (ht:m.take=[s]) (hg:m.give=[y]) (hf:¬Bj s c<0):Ba c m=[⟨y.name,(c.getD (Bj s c).toNat ⟨[],0⟩).kind⟩]:=by
 unfold Ba
 rw [if_pos h,ht,hg]
 exact if_neg hf
theorem Yt (l:List Col):∀x∈l.map Ax,x.cells.length=2:=by
 intro x hx
 obtain ⟨c,_,rfl⟩:=List.mem_map.1 hx
 rfl
theorem ge {c:Col} {y:AV} (h:y∈(Ax c).cells):y=A8 c.name∨y=A2 c.kind:=by
 have h':y∈[A8 c.name,A2 c.kind]:=h
 simpa using h'
theorem Yu (l:List Col):∀x∈l.map Ax,∀y∈x.cells,y.one=true:=by
 intro x hx y hy
 obtain ⟨c,_,rfl⟩:=List.mem_map.1 hx
 rcases ge hy with rfl|rfl<;>rfl
theorem S6 (l:List Col):∀x∈l.map Ax,∀y∈x.cells,y.strip=y:=by
 intro x hx y hy
 obtain ⟨c,_,rfl⟩:=List.mem_map.1 hx
 rcases ge hy with rfl|rfl<;>rfl
theorem d8 {α:Type} {l:List α} (h:l.length=1):∃y,l=[y]:=by
 match l,h with
 | [y],_=>exact ⟨y,rfl⟩
theorem gg {c:List Col} {s:Str} (hf:¬Bj s c<0):(c.map Ax)[(Bj s c).toNat]? = some (Ax (c.getD (Bj s c).toNat ⟨[],0⟩)):=by
 obtain ⟨j,hj,hjl⟩:=N9 hf
 rw [hj,Int.toNat_natCast,List.getElem?_map,List.getElem?_eq_getElem hjl,List.getD_eq_getElem?_getD,List.getElem?_eq_getElem hjl]
 rfl
end Go.SX.Nb
namespace Go.SX
variable [GI:GlobInv]
open Classical
variable {P:Program} {d:Nat} {ops:Array Oper} {rest:List Oper} {sz:Nat} {fr:Nat→AV} {up own:List AObj} {dfs:List Nat} {rnd:Option Nat} {Q:St→Prop} {s:Nat} {ty:TypeId} {pos:String} {aft:Array Edge}
/-- Whether a slice is nil is known only of one that has elements. -/
theorem R.eqlNil {t e u:TypeId} {x y:Operand} {o:Bool} {k:Nat} {xs:List AV} (ht:P.underlying t=some (.slice e)) (hg:P.eqGuardType P.depth t=false)
  (hr:∀b:Bool,(b=true→xs=[])→ARun P d ops rest ⟨sz,A6 s (.v (.bool b)) fr,up,own,dfs,rnd⟩ Q)
  (hx:Af fr x=.slice o k xs:=by exact sL0) (hy:Af fr y=.nil:=by exact sL0) (hs:Nat.blt s sz=true:=by rfl):
  ARun P d ops (⟨some s,.binOp .eql t x y u,ty,pos,aft,none⟩::rest) ⟨sz,fr,up,own,dfs,rnd⟩ Q:=by
 refine ARun.op rfl (Q1:=fun s'=>∃b:Bool,(b=true→xs=[])∧s'=⟨sz,A6 s (.v (.bool b)) fr,up,own,dfs,rnd⟩) ?_ (by rintro _ ⟨b,hb,rfl⟩;exact hr b hb)
 intro G a w hrel Q'
 have h1:=hrel.eval x
 rw [show St.ev ⟨sz,fr,up,own,dfs,rnd⟩ x=.slice o k xs from hx] at h1
 have h2:=hrel.eval y
 rw [show St.ev ⟨sz,fr,up,own,dfs,rnd⟩ y=.nil from hy] at h2
 have key:∀b:Bool,(b=true→xs=[])→(execOp a.eval ⟨some s,.binOp .eql t x y u,ty,pos,aft,none⟩).run P w=.ok (.value (.bool b)) w →
   Oper.wpIn (Fr ((St.mk sz fr up own dfs rnd).rnd.map G.blk)) 0 P ⟨some s,.binOp .eql t x y u,ty,pos,aft,none⟩ a w (Post d ⟨sz,fr,up,own,dfs,rnd⟩ G w (fun s'=>∃b:Bool,(b=true→xs=[])∧s'=⟨sz,A6 s (.v (.bool b)) fr,up,own,dfs,rnd⟩)) Q':=fun b hb hv =>
  Bq (by intro c h;cases h) hv ⟨G,_,hrel.put (y:=.v (.bool b)) (by simpa using hs) (.v _ _),Keep.refl d G w,rfl,rfl,rfl,b,hb,rfl⟩
 generalize hya:a.eval y=vy at h2
 generalize hxa:a.eval x=vx at h1
 cases h2
 cases h1 with
 | slice0=>exact key true (fun _=>rfl) (by simp only [execOp,hxa,hya,eqGuard];simp [Lib.run_eql_slice_nil _ _ _ _ _ _ _ _ ht,hg])
 | sliceE=>exact key false (fun h=>by cases h) (by simp only [execOp,hxa,hya,eqGuard];simp [Lib.run_eql_slice_nil _ _ _ _ _ _ _ _ ht,hg])
 | slice=>exact key false (fun h=>by cases h) (by simp only [execOp,hxa,hya,eqGuard];simp [Lib.run_eql_slice_nil _ _ _ _ _ _ _ _ ht,hg])
/-! A guarded slice that may be appended to. -/
end Go.SX
namespace Go.SX
variable [GI:GlobInv]
open Classical
section
variable {P:Program} {d:Nat}
/-- A call that returns and may leave more objects than it found; they are the caller's. -/
def ACallO (P:Program) (g:FuncId) (args:List AV) (H:List AObj) (post:AV→List AObj→Prop):Prop:=
 ∀(d:Nat) (G:Gh) (w:World) (vs:Array Value),vs.size=args.length→(∀(i:Nat) (y:AV) (u:Value),args[i]? = some y→vs[i]? = some u→Rep G w (some (.slot (d+1) i)) y u)→HeapRel G H w→TagOK G w→GI.bd≤d →
  CallsIn Fence.wide 0 P g vs w (fun e w'=>∃(v:Value) (G':Gh) (r:AV) (H':List AObj),e=.returned v∧Rep G' w' none r v∧HeapRel G' H' w'∧TagOK G' w'∧Keep (d+1) G w G' w'∧post r H')
/-- What is asked at a body's end: the first j of its objects are handed back. -/
def FO (P:Program) (rs:List ResultVar) (n:Nat) (post:AV→List AObj→Prop) (e:Exit) (st':St):Prop:=
 (e=.normal∨e=.ret)∧st'.defs=[]∧∃(r:AV) (rv:ResultVar) (j:Nat),rs=[rv]∧ResV P st' rv r∧Low (n+j) r∧(∀x∈st'.up++st'.own.take j,ObjLow (n+j) x)∧j≤st'.own.length∧post r (st'.up++st'.own.take j)
theorem ACallO.ofBody {g:FuncId} {fn:Func} {c:Code} {args:List AV} {H:List AObj} {post:AV→List AObj→Prop} {rs:List ResultVar} {n:Nat} (hf:P.funcs[g]? = some fn) (hb:fn.body=some c) (hrs:fn.results=rs.toArray)
  (hn:fn.ntmps=n) (hargs:args.length≤n) (h:∀d,AW P (d+1) c ⟨n,argsF args,H,[],[],none⟩ (FO P rs H.length post)):ACallO P g args H post:=by
 intro d G w vs hvs hrep hH hT hTop
 refine callsIn_of_wp_marks hf hb trivial ?_
 have hst:StRel (d+1) G ⟨n,argsF args,H,[],[],none⟩ { tmps:=vs++Array.replicate (fn.ntmps-vs.size) undef,defers:=[] } w:=by
  refine ⟨?_,fun s=>?_,by simpa using hH,(by rw [Cy hTop];rfl),(fun o ho=>by simp at ho),List.nodup_nil,(fun o ho=>by simp at ho),hT,(fun l hl=>by cases hl),fun x hx=>?_,Nat.le_succ_of_le hTop⟩
  ·simp only [Array.size_append,Array.size_replicate,hvs,hn];omega
  ·show Rep G w _ (args.getD s (.v undef)) _
   rw [List.getD_eq_getElem?_getD,Array.getD_eq_getD_getElem?]
   rcases Nat.lt_or_ge s args.length with h'|h'
   ·rw [List.getElem?_eq_getElem h',Array.getElem?_append_left (by omega),Array.getElem?_eq_getElem (by omega)]
    exact hrep s _ _ (List.getElem?_eq_getElem h') (Array.getElem?_eq_getElem (by omega))
   rw [List.getElem?_eq_none h',Array.getElem?_append_right (by omega)]
   simp only [Option.getD_none]
   have:((Array.replicate (fn.ntmps-vs.size) undef)[s-vs.size]?).getD undef=undef:=by
    rw [Array.getElem?_replicate];split<;>rfl
   rw [this]
   exact .v _ _
  obtain ⟨i,hi⟩:=List.getElem?_of_mem hx
  have hob:=hH.obj i x hi
  show ObjLow H.length x
  rw [←hH.n]
  exact hob.low
 have hw:=h d G _ w hst
 refine wpIn_mono hw ?_
 rintro e a' w' ⟨G1,st',h1,k1,e1,e2,e3,hcase,hdefs,r,rv,j,rfl,hres,hlow,hobjs,hj,hpost⟩
 have fin:LeavesInM Fence.wide 0 P fn a'.tmps (fun e w'=>∃(v:Value) (G':Gh) (r:AV) (H':List AObj),e=.returned v∧Rep G' w' none r v∧HeapRel G' H' w'∧TagOK G' w'∧Keep (d+1) G w G' w'∧post r H') a'.defers .returning w':=by
  rw [h1.defs,hdefs,Cy hTop]
  obtain ⟨v,hv,hr⟩:=hres.run h1
  have hupl:st'.up.length=H.length:=e1
  have hgn:G1.n=st'.up.length+st'.own.length:=by rw [h1.heap.n,List.length_append]
  have hget:∀(i:Nat) (x:AObj),(st'.up++st'.own.take j)[i]? = some x→(st'.up++st'.own)[i]? = some x:=fun i x hx=>by
   rcases Nat.lt_or_ge i st'.up.length with h'|h'
   ·rw [List.getElem?_append_left h'] at hx ⊢;exact hx
   rw [List.getElem?_append_right h'] at hx ⊢
   rw [List.getElem?_take] at hx
   split at hx
   ·exact hx
   cases hx
  refine ⟨v,by simp [E4,hrs,hv],v,{ G1 with n:=H.length+j },r,st'.up++st'.own.take j,rfl,hr.cut hlow,⟨fun i x hx=>(h1.heap.obj i x (hget i x hx)).cut (hobjs x (List.mem_of_getElem? hx)),?_,fun a b ha hb' e=>?_⟩,
   ⟨h1.tags.ex,h1.tags.obj,h1.tags.tail,h1.tags.globCut (by rw [hgn];omega)⟩,?_,hpost⟩
  ·show H.length+j=_
   rw [List.length_append,List.length_take,Nat.min_eq_left hj,hupl]
  ·exact h1.heap.inj a b (by rw [hgn];simp only at ha;omega) (by rw [hgn];simp only at hb';omega) e
  have hGn:G.n=H.length:=hH.n
  exact ⟨k1.fix,k1.slot,by rw [hGn];exact Nat.le_add_right _ _,k1.blk,k1.os,k1.tape,k1.output,k1.size,k1.old.cut (by rw [hgn];omega)⟩
 rcases hcase with rfl|rfl
 ·exact fin
 exact fin
end
section
variable {P:Program} {d:Nat} {ops:Array Oper} {rest:List Oper} {sz s:Nat} {fr:Nat→AV} {up own:List AObj} {dfs:List Nat} {rnd:Option Nat} {Q:St→Prop} {ty:TypeId} {pos:String} {aft:Array Edge}
theorem ACallO.body {g:FuncId} {fn:Func} {c:Code} {args:List AV} {H:List AObj} {post:AV→List AObj→Prop} {fr':Nat→AV} (rs:List ResultVar) (l:List Nat) {n:Nat} (hf:P.funcs[g]? = some fn) (hn:fn.ntmps=n)
  (h:∀d,AW P (d+1) c ⟨n,fr',H,[],[],none⟩ (FO P rs H.length post)) (hb:fn.body=some c:=by rfl) (hrs:fn.results=rs.toArray:=by rfl) (hargs:args.length≤n:=by exact sL1)
  (hk:Ir l (argsF args)=fr':=by exact sL0):ACallO P g args H post:=
 ACallO.ofBody hf hb hrs hn hargs (fun d=>AW.keep l hk (h d))
/-- The end of such a body. -/
theorem K.finO {rs:List ResultVar} {n:Nat} {post:AV→List AObj→Prop} {r:AV} {rv:ResultVar} {st:St} (j:Nat) (hres:ResV P st rv r) (hp:post r (st.up++st.own.take j)) (hlow:Low (n+j) r) (hobj:∀x∈st.up++st.own.take j,ObjLow (n+j) x)
  (hd:st.defs=[]:=by rfl) (hr:rs=[rv]:=by rfl) (hj:j≤st.own.length:=by simp):FO P rs n post .ret st:=⟨.inr rfl,hd,r,rv,j,hr,hres,hlow,hobj,hj,hp⟩
/-- A call of such a function. -/
theorem R.callO {g:FuncId} {xs:List Operand} {ats:Array TypeId} {args:List AV} {post:AV→List AObj→Prop} (hcall:∀args w,(callFunc g args).run P w=.ok (.enter g args) w)
  (h:ACallO P g args (up++own) post) (hp:∀r H',post r H'→∃O,H'=up++(own++O)∧ARun P d ops rest ⟨sz,A6 s r fr,up,own++O,dfs,rnd⟩ Q)
  (ha:xs.map (Af fr)=args:=by exact sL0) (hs:Nat.blt s sz=true:=by rfl):
  ARun P d ops (⟨some s,.call ⟨.value (.func g),xs.toArray,ats⟩,ty,pos,aft,none⟩::rest) ⟨sz,fr,up,own,dfs,rnd⟩ Q:=by
 refine ARun.op rfl (Q1:=fun s'=>ARun P d ops rest s' Q) ?_ (fun s' e=>e)
 intro G a w hr Q'
 have hs:s<sz:=by simpa using hs
 have hxr:=J4 hr xs
 have ha':xs.map (St.ev ⟨sz,fr,up,own,dfs,rnd⟩)=args:=ha
 rw [ha'] at hxr
 have hrun:(execOp a.eval (⟨some s,.call ⟨.value (.func g),xs.toArray,ats⟩,ty,pos,aft,none⟩:Oper)).run P w=.ok (.enter g (xs.map a.eval).toArray) w:=by
  have:=Hs (P:=P) (dst:=some s) (ty:=ty) (pos:=pos) (aft:=aft) (gd:=none) (ats:=ats) (f:=.func g) (xs:=xs) (g:=g) (va:=#[]) (vc:=#[]) (a:=a) (w:=w) hcall rfl
  simpa using this
 refine Lo (by intro c h;cases h) hrun (h d G w _ (by rw [←ha'];simp) (fun i y u hy hu=>(hxr i y u hy hu).lift) hr.heap hr.tags hr.top) ?_
 rintro e w' ⟨v,G',r,H',rfl,hrep,hH,hT,hk,hpo⟩
 obtain ⟨O,rfl,hrn⟩:=hp r H' hpo
 have h3:=hr.called (U:=up) (O:=own++O) hH hT hk rfl rfl (fun o ho=>by
  have:=hr.defsAt o ho
  rw [←List.append_assoc,List.getElem?_append_left (List.getElem?_eq_some_iff.1 this).1]
  exact this) hr.low
 obtain ⟨h4,k4⟩:=h3.took hrep.lift (s:=s) hs
 exact ⟨v,rfl,_,_,h4,(hk.less (Nat.le_succ d)).trans k4,rfl,rfl,rfl,hrn⟩
end
end Go.SX
