/- Texts on the way to this: SoundTexts answers true for whatever it is handed: of any columns and any source that is a migration: printed, and parsed again, it is sound, or is not, at the same move, for the same reason (up to 50 columns, 3000 bytes). (part 8) -/
import Derived.Lib.SliceRun
import Derived.Test.YtlafnblklafbkaaGreatDoorSoundTextsCardSaidPart7
set_option linter.all false
namespace Go.SX.Nb
open Go Go.SX Go.Proofs
variable [ErrAt]
set_option maxRecDepth 4000
abbrev Oh (s:Sign):AV:=.agg [.slice false 1 (s.kids.map A2),A2 s.own]
theorem Gg {n:Nat} (s:Sign):Low n (Oh s):=by simp [or_imp,forall_and]
theorem xi {m:Sign} {a o:Int} (h:m=⟨[a],o⟩):AV.agg [.slice false 1 [A2 a],A2 o]=Oh m:=by rw [h];rfl
theorem oa {m:Sign} {a b o:Int} (h:m=⟨[a,b],o⟩):AV.agg [.slice false 1 [A2 a,A2 b],A2 o]=Oh m:=by rw [h];rfl
theorem xj {m:Sign} {a b c o:Int} (h:m=⟨[a,b,c],o⟩):AV.agg [.slice false 1 [A2 a,A2 b,A2 c],A2 o]=Oh m:=by rw [h];rfl
theorem AC8 (s:Str) (Hp:List AObj):AFun Tryz.prog 223 [A8 s] Hp (Oh (Gy s)):=by
 refine ACall.body [.cell 2 214] [0] Tryz.func223 Tryz.ntmps223 (fun d=>?_)
 refine Z38 ?_;refine Z46 ?_;refine Gn ?_;refine AW.block ?_;refine Z21 ?_;refine R.fin [2,3,4] ?_
 refine W.cond (fun ht4=>?_) (fun ht4=>?_)
 ·refine Z8 ?_
  refine W.cond (fun ht4=>?_) (fun ht4=>?_)
  ·exact Z40
  refine Z21 ?_;refine R.fin [2,3,9] ?_
  refine W.cond (fun ht9=>?_) (fun ht9=>?_)
  ·refine Z8 ?_
   refine W.cond (fun ht9=>?_) (fun ht9=>?_)
   ·exact Z40
   refine Z60 ?_
   refine W.cond (fun ht18=>?_) (fun ht18=>?_)
   ·exact Z40
   exact Z72
  refine Z67 ?_
  refine W.cond (fun ht9=>?_) (fun ht9=>?_)
  ·refine Z8 ?_
   refine W.cond (fun ht9=>?_) (fun ht9=>?_)
   ·exact Z40
   refine Z60 ?_
   refine W.cond (fun ht18=>?_) (fun ht18=>?_)
   ·exact Z40
   exact Z72
  refine Z67 ?_
  refine W.cond (fun ht9=>?_) (fun ht9=>?_)
  ·refine Z8 ?_
   refine W.cond (fun ht9=>?_) (fun ht9=>?_)
   ·exact Z40
   refine Z60 ?_
   refine W.cond (fun ht18=>?_) (fun ht18=>?_)
   ·exact Z40
   exact Z72
  refine Z67 ?_
  refine W.cond (fun ht9=>?_) (fun ht9=>?_)
  ·refine Z8 ?_
   refine W.cond (fun ht9=>?_) (fun ht9=>?_)
   ·exact Z40
   refine Z60 ?_
   refine W.cond (fun ht18=>?_) (fun ht18=>?_)
   ·exact Z40
   exact Z72
  refine Z67 ?_
  refine W.cond (fun ht9=>?_) (fun ht9=>?_)
  ·refine Z8 ?_
   refine W.cond (fun ht9=>?_) (fun ht9=>?_)
   ·exact Z40
   refine Z60 ?_
   refine W.cond (fun ht18=>?_) (fun ht18=>?_)
   ·exact Z40
   exact Z72
  refine Z11 ?_;refine R.fin [2,3,9] ?_;refine K.thN ?_
  refine W.cond (fun ht9=>?_) (fun ht9=>?_)
  ·exact Z40
  refine Z60 ?_
  refine W.cond (fun ht18=>?_) (fun ht18=>?_)
  ·exact Z40
  exact Z72
 refine Z11 ?_;refine R.fin [2,3,4] ?_;refine K.thN ?_
 refine W.cond (fun ht4=>?_) (fun ht4=>?_)
 ·exact Z40
 refine Z21 ?_;refine R.fin [2,3,9] ?_
 refine W.cond (fun ht9=>?_) (fun ht9=>?_)
 ·refine Z8 ?_
  refine W.cond (fun ht9=>?_) (fun ht9=>?_)
  ·exact Z40
  refine Z60 ?_
  refine W.cond (fun ht18=>?_) (fun ht18=>?_)
  ·exact Z40
  exact Z72
 refine Z67 ?_
 refine W.cond (fun ht9=>?_) (fun ht9=>?_)
 ·refine Z8 ?_
  refine W.cond (fun ht9=>?_) (fun ht9=>?_)
  ·exact Z40
  refine Z60 ?_
  refine W.cond (fun ht18=>?_) (fun ht18=>?_)
  ·exact Z40
  exact Z72
 refine Z67 ?_
 refine W.cond (fun ht9=>?_) (fun ht9=>?_)
 ·refine Z8 ?_
  refine W.cond (fun ht9=>?_) (fun ht9=>?_)
  ·exact Z40
  refine Z60 ?_
  refine W.cond (fun ht18=>?_) (fun ht18=>?_)
  ·exact Z40
  exact Z72
 refine Z67 ?_
 refine W.cond (fun ht9=>?_) (fun ht9=>?_)
 ·refine Z8 ?_
  refine W.cond (fun ht9=>?_) (fun ht9=>?_)
  ·exact Z40
  refine Z60 ?_
  refine W.cond (fun ht18=>?_) (fun ht18=>?_)
  ·exact Z40
  exact Z72
 refine Z67 ?_
 refine W.cond (fun ht9=>?_) (fun ht9=>?_)
 ·refine Z8 ?_
  refine W.cond (fun ht9=>?_) (fun ht9=>?_)
  ·exact Z40
  refine Z60 ?_
  refine W.cond (fun ht18=>?_) (fun ht18=>?_)
  ·exact Z40
  exact Z72
 refine Z11 ?_;refine R.fin [2,3,9] ?_;refine K.thN ?_
 refine W.cond (fun ht9=>?_) (fun ht9=>?_)
 ·exact Z40
 refine Z60 ?_
 refine W.cond (fun ht18=>?_) (fun ht18=>?_)
 ·exact Z40
 exact Z72

theorem AC9 (s:Str) (Hp:List AObj):AFun Tryz.prog 224 [A8 s] Hp (Oh (Fe s)):=by
 refine ACall.body [.cell 2 214] [0] Tryz.func224 Tryz.ntmps224 (fun d=>?_)
 refine Z38 ?_;refine Z46 ?_;refine Gn ?_;refine AW.block ?_;refine Z21 ?_;refine R.fin [2,3,4] ?_
 refine W.cond (fun ht4=>?_) (fun ht4=>?_)
 ·refine Z8 ?_
  refine W.cond (fun ht4=>?_) (fun ht4=>?_)
  ·exact Z61
  refine Z67 ?_
  refine W.cond (fun ht9=>?_) (fun ht9=>?_)
  ·exact Z61
  refine Z21 ?_;refine R.fin [2,3,13] ?_
  refine W.cond (fun ht13=>?_) (fun ht13=>?_)
  ·refine Z8 ?_
   refine W.cond (fun ht13=>?_) (fun ht13=>?_)
   ·exact Z61
   refine rc ?_
   refine W.cond (fun ht18=>?_) (fun ht18=>?_)
   ·exact Z61
   refine Z1 ?_;refine R.fin [2,22] ?_
   refine W.cond (fun ht22=>?_) (fun ht22=>?_)
   ·exact Z61
   exact re
  refine Z11 ?_;refine R.fin [2,3,13] ?_;refine K.thN ?_
  refine W.cond (fun ht13=>?_) (fun ht13=>?_)
  ·exact Z61
  refine rc ?_
  refine W.cond (fun ht18=>?_) (fun ht18=>?_)
  ·exact Z61
  refine Z1 ?_;refine R.fin [2,22] ?_
  refine W.cond (fun ht22=>?_) (fun ht22=>?_)
  ·exact Z61
  exact re
 refine Z11 ?_;refine R.fin [2,3,4] ?_;refine K.thN ?_
 refine W.cond (fun ht4=>?_) (fun ht4=>?_)
 ·exact Z61
 refine Z67 ?_
 refine W.cond (fun ht9=>?_) (fun ht9=>?_)
 ·exact Z61
 refine Z21 ?_;refine R.fin [2,3,13] ?_
 refine W.cond (fun ht13=>?_) (fun ht13=>?_)
 ·refine Z8 ?_
  refine W.cond (fun ht13=>?_) (fun ht13=>?_)
  ·exact Z61
  refine rc ?_
  refine W.cond (fun ht18=>?_) (fun ht18=>?_)
  ·exact Z61
  refine Z1 ?_;refine R.fin [2,22] ?_
  refine W.cond (fun ht22=>?_) (fun ht22=>?_)
  ·exact Z61
  exact re
 refine Z11 ?_;refine R.fin [2,3,13] ?_;refine K.thN ?_
 refine W.cond (fun ht13=>?_) (fun ht13=>?_)
 ·exact Z61
 refine rc ?_
 refine W.cond (fun ht18=>?_) (fun ht18=>?_)
 ·exact Z61
 refine Z1 ?_;refine R.fin [2,22] ?_
 refine W.cond (fun ht22=>?_) (fun ht22=>?_)
 ·exact Z61
 exact re

theorem ACa (e:Expr) (Hp:List AObj):AFun Tryz.prog 206 [A7 e] Hp (Oh (C8 e.op e.text)):=by
 refine ACall.body [.cell 2 214] [0] Tryz.func206 Tryz.ntmps206 (fun d=>?_)
 refine Z3 ?_;refine R.alloc jZ ?_;refine R.fin [1,2] ?_;refine Z21 ?_;refine R.fin [1,2,4] ?_;refine Z69 ?_;refine R.fin [1,2,4,5] ?_
 refine W.cond (fun ht5=>?_) (fun ht5=>?_)
 ·refine Z25 ?_;refine Z10 ?_
  first|(by_cases e0:C8 e.op e.text=⟨[1],1⟩;exact K.fin (V.one (V.cellN Tryz.isAgg214 Tryz.sizeOf214)) ⟨by rw [e0];rfl,rfl⟩;exfalso;apply e0;simp_all [C8];done)|(by_cases e0:C8 e.op e.text=⟨[3],3⟩;exact K.fin (V.one (V.cellN Tryz.isAgg214 Tryz.sizeOf214)) ⟨by rw [e0];rfl,rfl⟩;exfalso;apply e0;simp_all [C8];done)|(by_cases e0:C8 e.op e.text=Gy e.text;exact K.fin (V.one (V.cellN Tryz.isAgg214 Tryz.sizeOf214)) ⟨by rw [e0],rfl⟩ (hlow:=Gg _);exfalso;apply e0;simp_all [C8];done)|(by_cases e0:C8 e.op e.text=Fe e.text;exact K.fin (V.one (V.cellN Tryz.isAgg214 Tryz.sizeOf214)) ⟨by rw [e0],rfl⟩ (hlow:=Gg _);exfalso;apply e0;simp_all [C8];done)
 refine Z1 ?_;refine R.fin [1,2,4,9] ?_
 refine W.cond (fun ht9=>?_) (fun ht9=>?_)
 ·refine Z25 ?_;refine Z10 ?_
  first|(by_cases e0:C8 e.op e.text=⟨[1],1⟩;exact K.fin (V.one (V.cellN Tryz.isAgg214 Tryz.sizeOf214)) ⟨by rw [e0];rfl,rfl⟩;exfalso;apply e0;simp_all [C8];done)|(by_cases e0:C8 e.op e.text=⟨[3],3⟩;exact K.fin (V.one (V.cellN Tryz.isAgg214 Tryz.sizeOf214)) ⟨by rw [e0];rfl,rfl⟩;exfalso;apply e0;simp_all [C8];done)|(by_cases e0:C8 e.op e.text=Gy e.text;exact K.fin (V.one (V.cellN Tryz.isAgg214 Tryz.sizeOf214)) ⟨by rw [e0],rfl⟩ (hlow:=Gg _);exfalso;apply e0;simp_all [C8];done)|(by_cases e0:C8 e.op e.text=Fe e.text;exact K.fin (V.one (V.cellN Tryz.isAgg214 Tryz.sizeOf214)) ⟨by rw [e0],rfl⟩ (hlow:=Gg _);exfalso;apply e0;simp_all [C8];done)
 refine Z1 ?_;refine R.fin [1,2,13] ?_
 refine W.cond (fun ht13=>?_) (fun ht13=>?_)
 ·refine Z1 ?_;refine R.call Tryz.call223 (AC8 e.text _) ?_;refine Z7 ?_;refine Z10 ?_
  first|(by_cases e0:C8 e.op e.text=⟨[1],1⟩;exact K.fin (V.one (V.cellN Tryz.isAgg214 Tryz.sizeOf214)) ⟨by rw [e0];rfl,rfl⟩;exfalso;apply e0;simp_all [C8];done)|(by_cases e0:C8 e.op e.text=⟨[3],3⟩;exact K.fin (V.one (V.cellN Tryz.isAgg214 Tryz.sizeOf214)) ⟨by rw [e0];rfl,rfl⟩;exfalso;apply e0;simp_all [C8];done)|(by_cases e0:C8 e.op e.text=Gy e.text;exact K.fin (V.one (V.cellN Tryz.isAgg214 Tryz.sizeOf214)) ⟨by rw [e0],rfl⟩ (hlow:=Gg _);exfalso;apply e0;simp_all [C8];done)|(by_cases e0:C8 e.op e.text=Fe e.text;exact K.fin (V.one (V.cellN Tryz.isAgg214 Tryz.sizeOf214)) ⟨by rw [e0],rfl⟩ (hlow:=Gg _);exfalso;apply e0;simp_all [C8];done)
 refine Z20 ?_;refine Z1 ?_;refine R.call Tryz.call224 (AC9 e.text _) ?_;refine Z7 ?_
 first|(by_cases e0:C8 e.op e.text=⟨[1],1⟩;exact K.fin (V.one (V.cellN Tryz.isAgg214 Tryz.sizeOf214)) ⟨by rw [e0];rfl,rfl⟩;exfalso;apply e0;simp_all [C8];done)|(by_cases e0:C8 e.op e.text=⟨[3],3⟩;exact K.fin (V.one (V.cellN Tryz.isAgg214 Tryz.sizeOf214)) ⟨by rw [e0];rfl,rfl⟩;exfalso;apply e0;simp_all [C8];done)|(by_cases e0:C8 e.op e.text=Gy e.text;exact K.fin (V.one (V.cellN Tryz.isAgg214 Tryz.sizeOf214)) ⟨by rw [e0],rfl⟩ (hlow:=Gg _);exfalso;apply e0;simp_all [C8];done)|(by_cases e0:C8 e.op e.text=Fe e.text;exact K.fin (V.one (V.cellN Tryz.isAgg214 Tryz.sizeOf214)) ⟨by rw [e0],rfl⟩ (hlow:=Gg _);exfalso;apply e0;simp_all [C8];done)

theorem AAd (a b:Int) (Hp:List AObj):AFun Tryz.prog 225 [A2 a,A2 b] Hp (.tup [A2 (Ce a b).1,B2 (Ce a b).2]):=by
 refine ACall.body [.tmp 4,.tmp 5] [0,1] Tryz.func225 Tryz.ntmps225 (fun d=>?_)
 refine Z1 ?_;refine R.fin [0,1] ?_;refine Z24 ?_;refine Z13 ?_;refine R.fin [0,1,6] ?_
 refine W.cond (fun ht6=>?_) (fun ht6=>?_)
 ·refine Z13 ?_;refine R.fin [4,5] ?_;refine Z55 ?_
  first|(by_cases e0:Ce a b=(b,true);exact K.fin (V.two V.tmp V.tmp) ⟨by rw [e0],rfl⟩;exfalso;apply e0;simp_all [Ce];done)|(by_cases e0:Ce a b=(a,true);exact K.fin (V.two V.tmp V.tmp) ⟨by rw [e0],rfl⟩;exfalso;apply e0;simp_all [Ce];done)|(by_cases e0:Ce a b=(0,false);exact K.fin (V.two V.tmp V.tmp) ⟨by rw [e0],rfl⟩;exfalso;apply e0;simp_all [Ce];done)
 refine Z13 ?_;refine Z65 ?_;refine Z0 ?_;refine R.fin [0,10] ?_
 refine W.cond (fun ht10=>?_) (fun ht10=>?_)
 ·refine Z13 ?_;refine R.fin [4,5] ?_;refine Z55 ?_
  first|(by_cases e0:Ce a b=(b,true);exact K.fin (V.two V.tmp V.tmp) ⟨by rw [e0],rfl⟩;exfalso;apply e0;simp_all [Ce];done)|(by_cases e0:Ce a b=(a,true);exact K.fin (V.two V.tmp V.tmp) ⟨by rw [e0],rfl⟩;exfalso;apply e0;simp_all [Ce];done)|(by_cases e0:Ce a b=(0,false);exact K.fin (V.two V.tmp V.tmp) ⟨by rw [e0],rfl⟩;exfalso;apply e0;simp_all [Ce];done)
 refine Z20 ?_;refine Z1 ?_;refine g7 ?_
 first|(by_cases e0:Ce a b=(b,true);exact K.fin (V.two V.tmp V.tmp) ⟨by rw [e0],rfl⟩;exfalso;apply e0;simp_all [Ce];done)|(by_cases e0:Ce a b=(a,true);exact K.fin (V.two V.tmp V.tmp) ⟨by rw [e0],rfl⟩;exfalso;apply e0;simp_all [Ce];done)|(by_cases e0:Ce a b=(0,false);exact K.fin (V.two V.tmp V.tmp) ⟨by rw [e0],rfl⟩;exfalso;apply e0;simp_all [Ce];done)

structure FitAt (s:Sign) (ks:List Int) (x:Nat×Int):Prop where
 le:x.1≤ks.length
 eq:Ql s.kids ks 0=Ql (s.kids.drop x.1) (ks.drop x.1) x.2
theorem FitAt.step {s:Sign} {ks:List Int} {x:Nat×Int} (h:FitAt s ks x) (hk:x.1<ks.length) (hs:x.1<s.kids.length):Ql s.kids ks 0=(if s.kids[x.1] == -2 then Ql (s.kids.drop (x.1+1)) (ks.drop (x.1+1)) x.2 else if s.kids[x.1] == -1 then (if (Ce x.2 ks[x.1]).2 then Ql (s.kids.drop (x.1+1)) (ks.drop (x.1+1)) (Ce x.2 ks[x.1]).1 else none) else if (Ce s.kids[x.1] ks[x.1]).2 then Ql (s.kids.drop (x.1+1)) (ks.drop (x.1+1)) x.2 else none):=by
 rw [h.eq,List.drop_eq_getElem_cons hk,List.drop_eq_getElem_cons hs,Ql]
theorem FitAt.skip {s:Sign} {ks:List Int} {x:Nat×Int} (h:FitAt s ks x) (hk:x.1<ks.length) (hs:x.1<s.kids.length) (h2:(s.kids[x.1] == -2)=true):FitAt s ks (x.1+1,x.2):=⟨hk,by rw [h.step hk hs,if_pos h2]⟩
theorem FitAt.same {s:Sign} {ks:List Int} {x:Nat×Int} (h:FitAt s ks x) (hk:x.1<ks.length) (hs:x.1<s.kids.length) (h2:(s.kids[x.1] == -2)=false) (h1:(s.kids[x.1] == -1)=true) (hm:(Ce x.2 ks[x.1]).2=true):FitAt s ks (x.1+1,(Ce x.2 ks[x.1]).1):=⟨hk,by rw [h.step hk hs,if_neg (by rw [h2];simp),if_pos h1,if_pos hm]⟩
theorem FitAt.want {s:Sign} {ks:List Int} {x:Nat×Int} (h:FitAt s ks x) (hk:x.1<ks.length) (hs:x.1<s.kids.length) (h2:(s.kids[x.1] == -2)=false) (h1:(s.kids[x.1] == -1)=false) (hm:(Ce s.kids[x.1] ks[x.1]).2=true):FitAt s ks (x.1+1,x.2):=⟨hk,by rw [h.step hk hs,if_neg (by rw [h2];simp),if_neg (by rw [h1];simp),if_pos hm]⟩
theorem FitAt.bad {s:Sign} {ks:List Int} {x:Nat×Int} (h:FitAt s ks x) (hk:x.1<ks.length) (hs:x.1<s.kids.length) (h2:(s.kids[x.1] == -2)=false) (hm:(if s.kids[x.1] == -1 then (Ce x.2 ks[x.1]).2 else (Ce s.kids[x.1] ks[x.1]).2)=false):X2 s ks=(0,10):=by
 unfold X2
 rw [h.step hk hs,if_neg (by rw [h2];simp)]
 split at hm
 ·rename_i h1
  rw [if_pos h1,if_neg (by rw [hm];simp)]
 rename_i h1
 rw [if_neg h1,if_neg (by rw [hm];simp)]
theorem FitAt.out {s:Sign} {ks:List Int} {x:Nat×Int} (h:FitAt s ks x) (hk:ks.length≤x.1):X2 s ks=if s.own == -1 then (x.2,0) else (s.own,0):=by
 unfold X2
 rw [h.eq,List.drop_of_length_le hk]
 cases s.kids.drop x.1<;>rfl
theorem ACb (s:Sign) (ks:List Int) (hks:ks.length≤s.kids.length) (hk2:ks.length≤1048576) (Hp:List AObj):AFun Tryz.prog 207 [Oh s,.slice false 1 (ks.map A2)] Hp (.tup [A2 (X2 s ks).1,A2 (X2 s ks).2]):=by
 refine ACall.body [.tmp 4,.tmp 5] [0,1] Tryz.func207 Tryz.ntmps207 (fun d=>?_)
 refine Z13 ?_;refine R.fin [1,2] ?_;refine Dq ?_;refine Z16 ?_;refine R.fin [1,2,6] ?_;refine Z35 ?_;refine gg ?_
 refine AW.loopC (α:=Nat×Int) (fun x=>⟨49,A6 2 (.ro [.slice false 1 (s.kids.map A2),A2 s.own]) (A6 6 (.ptr (oid Hp.length 0) 0) (A6 13 (.slice false 1 (ks.map A2)) (A6 14 (A2 (ks.length:Nat)) (A6 15 (A2 (x.1:Nat)) (fun _=>.any))))),Hp,[.cells 3 [A2 x.2]],[],none⟩) (fun x=>FitAt s ks x) (fun x=>ks.length-x.1) ((0,0)) ⟨Nat.zero_le _,rfl⟩ (StLe.of_eq (by simp)) rfl (fun x hx=>?_)
 refine Z3 ?_;refine R.fin [2,6,13,14,15,16] ?_
 refine W.condX (fun ht16=>?_) (fun ht16=>?_)
 ·have hlt:x.1<ks.length:=by simpa using ht16
  have hls:x.1<s.kids.length:=by omega
  refine Z92 ?_
  refine R.go (h:=Q.indexAddr (x.1) (A2 ks[x.1]) (fun _=>C4 hlt)) (hr:=?_)
  refine Z19 ?_;refine R.fin [2,6,7,8,13,14,15] ?_;refine Z13 ?_
  refine R.go (h:=Q.indexAddr (x.1) (A2 s.kids[x.1]) (fun _=>C4 hls)) (hr:=?_)
  refine Uh ?_;refine R.fin [2,6,8,9,13,14,15] ?_;refine Z21 ?_;refine R.fin [2,6,8,9,13,14,15,26] ?_
  refine W.cond (fun ht26=>?_) (fun ht26=>?_)
  ·refine W.keep [2,6,13,14,15] ?_;refine Z79 ?_;refine K.blE ?_;refine K.thN ?_;refine Z11 ?_;refine gg ?_
   first|(refine K.lpN (x.1+1,x.2) (hx.skip hlt hls ht26) (by show ks.length-(x.1+1)<ks.length-x.1;omega) ?_;exact StCut.take (own:=[.cells 3 [A2 x.2]]) (fun _=>.refl _) (by repeat (first|exact B0|refine Az (by first|(simp [or_imp,forall_and];done)|(simp [oid]<;>omega)) ?_)) (by intro y hy;rw [List.mem_singleton.1 hy];intro z hz;rw [List.mem_singleton.1 hz];simp) (by simp))|(refine K.lpN (x.1+1,(Ce x.2 ks[x.1]).1) (hx.same hlt hls ht26 ht28 (by simpa using ht38)) (by show ks.length-(x.1+1)<ks.length-x.1;omega) ?_;exact StCut.take (own:=[.cells 3 [A2 (Ce x.2 ks[x.1]).1]]) (fun _=>.refl _) (by repeat (first|exact B0|refine Az (by first|(simp [or_imp,forall_and];done)|(simp [oid]<;>omega)) ?_)) (by intro y hy;rw [List.mem_singleton.1 hy];intro z hz;rw [List.mem_singleton.1 hz];simp) (by simp))|(refine K.lpN (x.1+1,x.2) (hx.want hlt hls ht26 ht28 (by simpa using ht38)) (by show ks.length-(x.1+1)<ks.length-x.1;omega) ?_;exact StCut.take (own:=[.cells 3 [A2 x.2]]) (fun _=>.refl _) (by repeat (first|exact B0|refine Az (by first|(simp [or_imp,forall_and];done)|(simp [oid]<;>omega)) ?_)) (by intro y hy;rw [List.mem_singleton.1 hy];intro z hz;rw [List.mem_singleton.1 hz];simp) (by simp))
  refine Rt ?_;refine R.fin [2,6,8,9,10,13,14,15] ?_;refine Z21 ?_;refine R.fin [2,6,8,10,13,14,15,28] ?_
  refine W.cond (fun ht28=>?_) (fun ht28=>?_)
  ·refine Z86 ?_;refine R.fin [2,6,8,10,13,14,15] ?_;refine K.thN ?_;refine Z28 ?_;refine R.call Tryz.call225 (AAd _ _ _) ?_;refine Z45 ?_;refine R.fin [2,6,10,11,12,13,14,15] ?_;refine Z21 ?_;refine R.fin [2,6,10,11,13,14,15,38] ?_
   refine W.cond (fun ht38=>?_) (fun ht38=>?_)
   ·have hbad:=hx.bad hlt hls ht26 (by first|(rw [if_pos ht28];simpa using ht38)|(rw [if_neg (by rw [ht28];simp)];simpa using ht38))
    refine Z1 ?_;refine Yo ?_;exact yy
   refine Z8 ?_;refine Z11 ?_;refine Z51 ?_;refine gg ?_;refine Rq ?_;refine gg ?_
   first|(refine K.lpN (x.1+1,x.2) (hx.skip hlt hls ht26) (by show ks.length-(x.1+1)<ks.length-x.1;omega) ?_;exact StCut.take (own:=[.cells 3 [A2 x.2]]) (fun _=>.refl _) (by repeat (first|exact B0|refine Az (by first|(simp [or_imp,forall_and];done)|(simp [oid]<;>omega)) ?_)) (by intro y hy;rw [List.mem_singleton.1 hy];intro z hz;rw [List.mem_singleton.1 hz];simp) (by simp))|(refine K.lpN (x.1+1,(Ce x.2 ks[x.1]).1) (hx.same hlt hls ht26 ht28 (by simpa using ht38)) (by show ks.length-(x.1+1)<ks.length-x.1;omega) ?_;exact StCut.take (own:=[.cells 3 [A2 (Ce x.2 ks[x.1]).1]]) (fun _=>.refl _) (by repeat (first|exact B0|refine Az (by first|(simp [or_imp,forall_and];done)|(simp [oid]<;>omega)) ?_)) (by intro y hy;rw [List.mem_singleton.1 hy];intro z hz;rw [List.mem_singleton.1 hz];simp) (by simp))|(refine K.lpN (x.1+1,x.2) (hx.want hlt hls ht26 ht28 (by simpa using ht38)) (by show ks.length-(x.1+1)<ks.length-x.1;omega) ?_;exact StCut.take (own:=[.cells 3 [A2 x.2]]) (fun _=>.refl _) (by repeat (first|exact B0|refine Az (by first|(simp [or_imp,forall_and];done)|(simp [oid]<;>omega)) ?_)) (by intro y hy;rw [List.mem_singleton.1 hy];intro z hz;rw [List.mem_singleton.1 hz];simp) (by simp))
  refine Z8 ?_;refine Z28 ?_;refine R.call Tryz.call225 (AAd _ _ _) ?_;refine Z45 ?_;refine R.fin [2,6,10,11,12,13,14,15] ?_;refine Z21 ?_;refine R.fin [2,6,10,11,13,14,15,38] ?_
  refine W.cond (fun ht38=>?_) (fun ht38=>?_)
  ·have hbad:=hx.bad hlt hls ht26 (by first|(rw [if_pos ht28];simpa using ht38)|(rw [if_neg (by rw [ht28];simp)];simpa using ht38))
   refine Z1 ?_;refine Yo ?_;exact yy
  refine Z8 ?_;refine Z11 ?_;refine Z51 ?_;refine gg ?_;refine Rq ?_;refine gg ?_
  first|(refine K.lpN (x.1+1,x.2) (hx.skip hlt hls ht26) (by show ks.length-(x.1+1)<ks.length-x.1;omega) ?_;exact StCut.take (own:=[.cells 3 [A2 x.2]]) (fun _=>.refl _) (by repeat (first|exact B0|refine Az (by first|(simp [or_imp,forall_and];done)|(simp [oid]<;>omega)) ?_)) (by intro y hy;rw [List.mem_singleton.1 hy];intro z hz;rw [List.mem_singleton.1 hz];simp) (by simp))|(refine K.lpN (x.1+1,(Ce x.2 ks[x.1]).1) (hx.same hlt hls ht26 ht28 (by simpa using ht38)) (by show ks.length-(x.1+1)<ks.length-x.1;omega) ?_;exact StCut.take (own:=[.cells 3 [A2 (Ce x.2 ks[x.1]).1]]) (fun _=>.refl _) (by repeat (first|exact B0|refine Az (by first|(simp [or_imp,forall_and];done)|(simp [oid]<;>omega)) ?_)) (by intro y hy;rw [List.mem_singleton.1 hy];intro z hz;rw [List.mem_singleton.1 hz];simp) (by simp))|(refine K.lpN (x.1+1,x.2) (hx.want hlt hls ht26 ht28 (by simpa using ht38)) (by show ks.length-(x.1+1)<ks.length-x.1;omega) ?_;exact StCut.take (own:=[.cells 3 [A2 x.2]]) (fun _=>.refl _) (by repeat (first|exact B0|refine Az (by first|(simp [or_imp,forall_and];done)|(simp [oid]<;>omega)) ?_)) (by intro y hy;rw [List.mem_singleton.1 hy];intro z hz;rw [List.mem_singleton.1 hz];simp) (by simp))
 have hxe:ks.length≤x.1:=by simpa using ht16
 have hout:=hx.out hxe
 refine Z36 ?_;refine Z35 ?_;refine R.fin [2,6,45] ?_
 refine W.cond (fun ht45=>?_) (fun ht45=>?_)
 ·refine Z13 ?_;refine Yo ?_;exact K.fin (V.two V.tmp V.tmp) ⟨by rw [hout,if_pos ht45],rfl⟩
 refine Z8 ?_;refine Z28 ?_;refine g7 ?_;exact K.fin (V.two V.tmp V.tmp) ⟨by rw [hout,if_neg (by rw [ht45];simp)],rfl⟩

theorem ob {n k:Nat} {own:Bool} {l:List Int}:Low n (.slice own k (l.map A2)):=low_slice.2 fun y hy=>by
 obtain ⟨z,_,rfl⟩:=List.mem_map.1 hy
 simp
theorem Va {n:Nat} {e:Expr}:Low n (.ro (E3 e)):=by have:=Ad n e;rw [Ab] at this;simpa using this
theorem Mn {c:List Col} {t:Str} (h:¬(Bh t c<0)):∃(j:Nat),Bh t c=(j:Int)∧j<c.length:=by
 obtain ⟨j,y,h2,_,h3⟩:=find_mem.1 h
 exact ⟨j,h3,(List.getElem?_eq_some_iff.1 h2).1⟩
theorem od {c:List Col} {e:Expr} (h:(e.op==1)=true):E5 c e=(e.val.kind,0):=by rw [M7];unfold T3;rw [if_pos h]
theorem j5 {c:List Col} {e:Expr} (h1:(e.op==1)=false) (h:(e.op==2)=true):E5 c e=X3 c e.text:=by rw [M7];unfold T3;rw [h1,if_pos h];rfl
theorem oe {c:List Col} {e:Expr} (h1:(e.op==1)=false) (h2:(e.op==2)=false) {x:Nat} (hx:x<e.kids.length) (h0:∀(j:Nat) (y:Expr),j<x→e.kids[j]? = some y→((E5 c y).2 != 0)=false) (hb:((E5 c e.kids[x]).2 != 0)=true):E5 c e=(0,(E5 c e.kids[x]).2):=by
 rw [M7]
 unfold T3
 rw [h1,h2]
 have:(e.kids.map (E5 c)).find? (fun q=>q.2 != 0)=some ((e.kids.map (E5 c))[x]'(by simpa using hx)):=ce (by simpa using hx) (by simpa using hb) (fun j y hj hy=>by
  rw [List.getElem?_map,Option.map_eq_some_iff] at hy
  obtain ⟨z,hz,rfl⟩:=hy
  exact h0 j z hj hz)
 rw [this]
 simp
theorem og {c:List Col} {e:Expr} (h1:(e.op==1)=false) (h2:(e.op==2)=false) (h0:∀(j:Nat) (y:Expr),j<e.kids.length→e.kids[j]? = some y→((E5 c y).2 != 0)=false):E5 c e=X2 (C8 e.op e.text) (e.kids.map fun y=>(E5 c y).1):=by
 rw [M7]
 unfold T3
 rw [h1,h2]
 have:(e.kids.map (E5 c)).find? (fun q=>q.2 != 0)=none:=Sj (fun j y hy=>by
  rw [List.getElem?_map,Option.map_eq_some_iff] at hy
  obtain ⟨z,hz,rfl⟩:=hy
  exact h0 j z (List.getElem?_eq_some_iff.1 hz).1 hz)
 rw [this]
 simp only [List.map_map]
 rfl
theorem j6 (f:Expr→Int) (l:List Expr) {x:Nat} (h:x<l.length):((l.take x).map f).map A2++[A2 (f l[x])]=((l.take (x+1)).map f).map A2:=by rw [List.take_succ_eq_append_getElem h,List.map_append,List.map_append];rfl
theorem ACc (c:List Col) (hc:OkCols c):∀(n:Nat) (e:Expr),okE n e→Bl B1 e=true→∀Hp:List AObj,AFun Tryz.prog 183 [A7 e,Ar c] Hp (.tup [A2 (E5 c e).1,A2 (E5 c e).2]):=by
 intro n
 induction n with
 | zero=>exact fun e h=>h.elim
 | succ n ih =>
 intro e hok hnd Hp
 have hnd0:=hnd
 rw [Dj,Bool.and_eq_true] at hnd0
 refine ACall.body [.tmp 4,.tmp 5] [0,1] Tryz.func183 Tryz.ntmps183 (fun d=>?_)
 refine Z13 ?_;refine R.fin [1,2] ?_;refine Z21 ?_;refine R.fin [1,2,13] ?_;refine Z69 ?_;refine R.fin [1,2,13,14] ?_
 refine W.cond (fun ht14=>?_) (fun ht14=>?_)
 ·have hk:=od (c:=c) ht14
  refine Z1 ?_;refine Z19 ?_;refine R.fin [4,5] ?_;refine Z55 ?_;exact w9
 refine Z1 ?_;refine R.fin [1,2,19] ?_
 refine W.cond (fun ht19=>?_) (fun ht19=>?_)
 ·have hk:=j5 (c:=c) ht14 ht19
  refine Z13 ?_;refine R.call Tryz.call149 (gi c hc e.text _) ?_;refine R.go ?_;refine R.fin [1,6] ?_;refine Z21 ?_;refine R.fin [1,6,26] ?_
  refine W.cond (fun ht26=>?_) (fun ht26=>?_)
  ·have hk2:X3 c e.text=(0,9):=if_pos (by simpa using ht26)
   refine Z1 ?_;refine Yo ?_;refine Z10 ?_;exact zj
  have hneg:¬(Bh e.text c<0):=by simpa using ht26
  obtain ⟨j,hj,hjl⟩:=Mn hneg
  have hk2:X3 c e.text=(c[j].kind,0):=by
   unfold X3
   rw [if_neg hneg,hj,Int.toNat_natCast,List.getD_eq_getElem?_getD,List.getElem?_eq_getElem hjl]
   rfl
  rw [hj]
  refine Z8 ?_;refine Z1 ?_
  refine R.go (h:=Q.indexAddr (j) (Av c[j]) (fun _=>C4 hjl)) (hr:=?_)
  refine Z62 ?_;refine R.fin [4,5] ?_;refine Z55 ?_;exact zj
 refine Z20 ?_;refine Z3 ?_;refine R.fin [1,2,7] ?_;refine Z49 ?_;refine R.nilSl 7 1 ?_;refine Z62 ?_;refine R.fin [1,2,7,33,34,35] ?_
 refine AW.loopC (α:=Nat) (fun x=>⟨59,A6 1 (Ar c) (A6 2 (.ro (E3 e)) (A6 7 (.slice true 1 (((e.kids.take x).map fun y=>(E5 c y).1).map A2)) (A6 33 (.slice false 6 (e.kids.map A7)) (A6 34 (A2 (e.kids.length:Nat)) (A6 35 (A2 (x:Nat)) (fun _=>.any)))))),Hp,[],[],none⟩) (fun x=>x≤e.kids.length∧∀(j:Nat) (y:Expr),j<x→e.kids[j]? = some y→((E5 c y).2 != 0)=false) (fun x=>e.kids.length-x) (0) ⟨Nat.zero_le _,fun j y h=>by omega⟩ (StLe.of_eq (by simp)) rfl (fun x hx=>?_)
 refine Z3 ?_;refine R.fin [1,2,7,33,34,35,36] ?_
 refine W.condX (fun ht36=>?_) (fun ht36=>?_)
 ·have hlt:x<e.kids.length:=by simpa using ht36
  have hkl:=hok.2.1
  refine Z88 ?_
  refine R.go (h:=Q.indexAddr (x) (A7 e.kids[x]) (fun _=>C4 hlt)) (hr:=?_)
  refine Uh ?_;refine R.fin [1,2,7,9,33,34,35] ?_;refine Z1 ?_;refine R.call Tryz.call183 (ih e.kids[x] (hok.2.2 _ (List.getElem_mem hlt)) ((Cr _ _).1 hnd0.2 _ (List.getElem_mem hlt)) _) ?_;refine Z45 ?_;refine R.fin [1,2,7,10,11,33,34,35] ?_;refine Z21 ?_;refine R.fin [1,2,7,10,11,33,34,35,46] ?_
  refine W.cond (fun ht46=>?_) (fun ht46=>?_)
  ·have hkb:=oe (c:=c) ht14 ht19 hlt hx.2 ht46
   refine Z13 ?_;refine Yo ?_;refine Z80 ?_;exact K.fin (V.two V.tmp V.tmp) ⟨by rw [hkb],rfl⟩
  refine Z8 ?_;refine AW.region ?_;refine R.moveT ?_;refine l8 ?_
  refine R.append jU Tryz.type3 ?_ ?_ ?_
  ·simp only [List.length_map,List.length_take,List.length_cons,List.length_nil,Tryz.t3];omega
  ·simp only [List.length_map,List.length_take,List.length_cons,List.length_nil,Tryz.t3];omega
  refine R.assignT ?_;refine R.fin [1,2,7,33,34,35] ?_;refine Rq ?_;refine R.fin [1,2,7,33,34,35] ?_;refine K.lpN (x+1) ⟨hlt,Eh hlt hx.2 ht46⟩ (by omega) ?_
  simp only [show Tryz.t3.size=1 from rfl,j6]
  exact StCut.take (own:=[]) (fun _=>.refl _) (by repeat (first|exact B0|refine Az (by first|exact ob|exact Va|exact D3|(simp [or_imp,forall_and];done)) ?_)) (by simp) (by simp)
 have hxe:e.kids.take x=e.kids:=List.take_of_length_le (by simp at ht36;omega)
 have hxl:e.kids.length≤x:=by simp at ht36;omega
 have hka:=og (c:=c) ht14 ht19 (fun j y hj hy=>hx.2 j y (by omega) hy)
 rw [hxe]
 refine Z63 ?_;refine R.call Tryz.call206 (ACa e _) ?_;refine R.go ?_
 refine R.call Tryz.call207 (ACb (C8 e.op e.text) (e.kids.map fun y=>(E5 c y).1) (by rw [n7 hnd0.1 ht14 ht19];simp) (by simpa using hok.2.1) _) ?_
 refine Z62 ?_;refine g7 ?_;exact K.fin (V.two V.tmp V.tmp) ⟨by rw [hka],rfl⟩

theorem Xj {e:Expr} (h:Ay e=true):Bl B1 e=true:=by
 rw [Ei] at h
 unfold Ch at h
 rw [Bool.and_eq_true] at h
 exact h.2
theorem AAe (n:Nat) (e:Expr) (hok:okE n e) (hn:n≤1048576) (c:List Col) (hc:OkCols c) (Hp:List AObj):AFun Tryz.prog 154 [A7 e,Ar c] Hp (.tup [A2 (Jw e c).1,A2 (Jw e c).2]):=by
 refine ACall.body [.tmp 4,.tmp 5] [0,1] Tryz.func154 Tryz.ntmps154 (fun d=>?_)
 refine Z13 ?_;refine R.fin [1,2] ?_;refine Z46 ?_;refine R.call Tryz.call70 (c70 n e hok hn _) ?_;refine Ui ?_;refine G.call Tryz.call113 (fun hB=>wr c hc _) ?_;refine W6 ?_;refine R.fin [1,2,13] ?_
 refine W.cond (fun ht13=>?_) (fun ht13=>?_)
 ·have hk:Jw e c=(0,1):=if_pos ht13
  refine Z1 ?_;refine Yo ?_;exact w9
 have hk:Jw e c=E5 c e:=if_neg (by rw [ht13];simp)
 have hr:Ay e=true:=by simp only [Bool.or_eq_false_iff,Bool.not_eq_false'] at ht13;exact ht13.1
 refine Z8 ?_;refine Z1 ?_;refine R.call Tryz.call183 (ACc c hc n e hok (Xj hr) _) ?_;refine Z62 ?_;refine g7 ?_;exact w9

theorem H6 {n k:Nat} {o:Bool} {l:List Col}:Low n (.slice o k (l.map Av)):=by simp [or_imp,forall_and]
theorem ACd (c:List Col) (hc:OkCols c) (take:List Str) (ht:take.length≤1048576) (give:List Col) (hg:OkCols give) (hg2:give.length≤1000000) (Hp:List AObj):AFun Tryz.prog 115 [Ar c,Ed take,Ar give] Hp (.tup [Ar (Cs c take give).1,A2 (Cs c take give).2]):=by
 refine ACall.body [.tmp 6,.tmp 7] [0,1,2,9] Tryz.func115 Tryz.ntmps115 (fun d=>?_)
 refine Z1 ?_;refine R.fin [0,1,2,9] ?_;refine Z46 ?_;refine R.call Tryz.call84 (c84 c hc _) ?_;refine R.go ?_;refine R.fin [0,1,2,9,12] ?_
 refine W.cond (fun ht12=>?_) (fun ht12=>?_)
 ·have hr:Ew c=false:=by rw [Q0] at ht12;simpa using ht12
  refine Z3 ?_;refine li ?_;refine Z22 ?_;exact K.fin (V.two V.tmp V.tmp) ⟨by rw [wx hr];try rfl,rfl⟩
 have hr:Ew c=true:=by rw [Q0] at ht12;simpa using ht12
 refine Z8 ?_;refine Z21 ?_;refine R.call Tryz.call151 (ABp c hc take ht _) ?_;refine R.go ?_;refine R.fin [0,1,2,9,16] ?_
 refine W.cond (fun ht16=>?_) (fun ht16=>?_)
 ·have hk:Gr c take=false:=by simpa using ht16
  refine Z3 ?_;refine li ?_;refine Z22 ?_;exact K.fin (V.two V.tmp V.tmp) ⟨by rw [wy hr hk];try rfl,rfl⟩
 have hk:Gr c take=true:=by simpa using ht16
 refine Z8 ?_;refine Z23 ?_;refine R.fin [0,1,2,8,9] ?_;refine Z49 ?_;refine R.nilOwn 0 2 ?_
 refine R.assumeLow (fun hlow=>?_)
 refine Z0 ?_;refine R.call Tryz.call152 (ABr c take _) ?_;refine R.fin [2,8,9,19] ?_;refine AW.block ?_
 refine W.rangeV (m:=1) Tryz.call181 (fun FR as' bd' hFR has hbd=>?_)
 have hFRl:∀s,Low (Hp.length+3) (FR s):=by
  intro s
  rw [hFR]
  refine Low.strip ?_
  revert s
  repeat (first|exact B0|refine Az (by simp [oid,or_imp,forall_and]<;>try omega) ?_)
 have hOl:∀{k:Nat},∀x∈[AObj.cells 40 [.slice true 2 ((E4 (c.take k) take).map Av)],AObj.defs,AObj.loop LoopState.ready none FR 41 #[20] as' bd' (oid Hp.length 1)],ObjLow (Hp.length+3) x:=by
  intro k x hx
  simp only [List.mem_cons,List.mem_nil_iff,or_false] at hx
  rcases hx with rfl|rfl|rfl
  ·intro y hy
   rw [List.mem_singleton.1 hy]
   exact H6
  ·trivial
  exact ly
 refine ⟨_,ABs (oid Hp.length 2) c take hc.len ht (fun k=>Hp++[AObj.cells 40 [.slice true 2 ((E4 (c.take k) take).map Av)],AObj.defs,AObj.loop LoopState.ready none FR 41 #[20] as' bd' (oid Hp.length 1)]) (fun k=>by simp) (by simp [oid]) (fun k x hx=>?_) (fun k y hk hcn=>by simp only [ig hk hcn]) (fun k y X hk hcn=>?_),?_⟩
 ·have:=Kg (fun x hx=>ObjLow.le (by omega) (hlow x hx)) hOl x hx
  simpa using this
 ·generalize hV:Hp++[AObj.cells 40 [.slice true 2 ((E4 (c.take k) take).map Av)],AObj.defs,AObj.loop LoopState.ready none FR 41 #[20] as' bd' (oid Hp.length 1)]++X=V
  have hL:V[oid Hp.length 2]? = some (AObj.loop LoopState.ready none FR 41 #[20] as' bd' (oid Hp.length 1)):=by rw [←hV,List.append_assoc,Aq];rfl
  have hA0:V[oid Hp.length 0]? = some (AObj.cells 40 [.slice true 2 ((E4 (c.take k) take).map Av)]):=by rw [←hV,List.append_assoc,Aq];rfl
  refine AYield.ofRound (pd:=none) (fr:=FR) (sz:=41) (ps:=#[20]) (df:=oid Hp.length 1) (asg:=as') (bd:=bd') hL rfl (by decide) (fun d=>?_)
  subst hFR has hbd
  refine W.keep [8,20] ?_;refine AW.region ?_;refine Z16 ?_;refine R.fin [8,9] ?_
  refine ⟨rfl,none,hL,?_⟩
  generalize hbz:(AObj.loop LoopState.busy _ _ _ _ _ _ _)=bz
  have hA:(V.set (oid Hp.length 2) bz)[oid Hp.length 0]? = some (AObj.cells 40 [.slice true 2 ((E4 (c.take k) take).map Av)]):=by rw [List.getElem?_set_ne (D5 (by decide))];exact hA0
  refine AW.block ?_;refine AW.region ?_;refine R.loadUpT jA hA ?_;refine l8 ?_
  refine R.append jU Tryz.type64 ?_ ?_ ?_
  ·have h1:=Jv (c.take k) take;have h2:=hc.len;simp only [List.length_take] at h1;simp [Tryz.t64];omega
  ·have h1:=Jv (c.take k) take;have h2:=hc.len;simp only [List.length_take] at h1;simp [Tryz.t64];omega
  refine R.storeUpT jS (getset hA) ?_ ?_
  ·exact ie
  refine Z43 ?_
  subst hbz
  refine K.rdN (cd hL (D5 (by decide)) (D5 (by decide))) ?_
  refine ⟨rfl,?_⟩
  subst hV
  simp only [List.append_assoc,Er,List.cons_append,List.nil_append,List.set_cons_succ,List.set_cons_zero]
  rw [sh hk hcn,List.map_append]
  rfl
 rintro r H' rfl
 simp only [List.take_length]
 refine ⟨Hp,_,_,_,rfl,rfl,fun h=>h,?_,rfl,by simp,?_⟩
 ·intro o ho
  have:o=oid Hp.length 1:=by simpa using ho
  subst this
  rw [Aq]
  rfl
 refine Z14 ?_;refine Dq ?_;refine R.loadOwnT jA ?_;refine R.go ?_
 refine R.append jU Tryz.type64 ?_ ?_ ?_
 ·have h1:=Jv c take;have h2:=Nh hr;simp [Tryz.t64];omega
 ·have h1:=Jv c take;have h2:=Nh hr;simp [Tryz.t64];omega
 refine R.storeOwnT jS ?_;refine R.fin [8] ?_;refine Z88 ?_
 have e10:(E4 c take).map Av++give.map Av=(E4 c take++give).map Av:=(List.map_append ..).symm
 rw [e10]
 generalize hout:E4 c take++give=out
 have ho:OkCols out:=n6 hc hr hg hg2 hout
 refine R.go ?_;refine R.call Tryz.call153 (ABq out ho _) ?_;refine Z0 ?_;refine R.fin [8,28] ?_
 refine W.cond (fun ht28=>?_) (fun ht28=>?_)
 ·have hn:I0 out=false:=by simpa using ht28
  refine Z3 ?_;refine li ?_;refine Z55 ?_;exact K.fin (V.two V.tmp V.tmp) ⟨by rw [wz hr hk hout hn];try rfl,rfl⟩
 have hn:I0 out=true:=by simpa using ht28
 refine Z3 ?_;refine R.call Tryz.call113 (wr out ho _) ?_;refine Z0 ?_;refine R.fin [8,32] ?_
 refine W.cond (fun ht32=>?_) (fun ht32=>?_)
 ·have hq:Lp out=false:=by rw [Uy] at ht32;simpa using ht32
  refine Z3 ?_;refine li ?_;refine Z55 ?_;exact K.fin (V.two V.tmp V.tmp) ⟨by rw [x5 hr hk hout hn hq];try rfl,rfl⟩
 have hq:Lp out=true:=by rw [Uy] at ht32;simpa using ht32
 refine Z28 ?_;refine R.fin [8,36] ?_
 refine W.cond (fun ht36=>?_) (fun ht36=>?_)
 ·have h12:12<out.length:=by simp at ht36;omega
  refine Z3 ?_;refine li ?_;refine Z55 ?_;exact K.fin (V.two V.tmp V.tmp) ⟨by rw [x6 hr hk hout hn hq h12];try rfl,rfl⟩
 have h12:¬12<out.length:=by simp at ht36;omega
 refine Z20 ?_;refine Z13 ?_;refine R.fin [6,7] ?_;refine AW.ret ?_;exact K.fin (V.two V.tmp V.tmp) ⟨by rw [x7 hr hk hout hn hq h12];try rfl,rfl⟩

/-- law18.Wide. -/
def oh (m:Mov):Bool:=(((((I8 m.give || decide ((20:Int)<(m.take.length:Int))) || decide ((20:Int)<(m.ahead.length:Int))) || decide ((20:Int)<(m.back.length:Int))) || m.take.any fun s=>decide ((100:Int)<(s.length:Int))) || m.ahead.any cw) || m.back.any cw
theorem Xk {α:Type} {p:α→Bool} {l:List α} {x:Nat} (h:l.length≤x) (hp:∀(j:Nat) (v:α),j<x→l[j]? = some v→p v=false):l.any p=false:=by
 rw [List.any_eq_false]
 intro v hv
 obtain ⟨j,hj⟩:=List.getElem?_of_mem hv
 rw [hp j v (by have:=(List.getElem?_eq_some_iff.1 hj).1;omega) hj]
 simp
theorem Vb {n:Nat} {m:Mov}:∀y∈aq m,Low n y:=by
 intro y hy
 simp only [aq,List.mem_cons,List.mem_nil_iff,or_false] at hy
 rcases hy with rfl|rfl|rfl|rfl|rfl<;>simp [or_imp,forall_and,Ad]
theorem Xl {n:Nat} {m:Mov}:Low n (Ge m):=Go.SX.low_agg.2 Vb
theorem Mo {n k:Nat} {o:Bool} {l:List Mov}:Low n (.slice o k (l.map Ge)):=low_slice.2 fun y hy=>by
 obtain ⟨m,_,rfl⟩:=List.mem_map.1 hy
 exact Xl
theorem Hw {α:Type} {p:α→Bool} (l:List α):(l.any fun s => !(p s)) = !(l.all p):=by
 induction l with
 | nil=>rfl
 | cons a r ih=>rw [List.any_cons,List.all_cons,ih];cases p a<;>simp
theorem ACe (n:Nat) (e:Expr) (hok:okE n e) (hn:n≤1048576) (c:List Col) (hc:OkCols c) (w:Int) (Hp:List AObj):AFun Tryz.prog 155 [A7 e,Ar c,A2 w] Hp (B2 (nk e c w)):=by
 refine ACall.body [.tmp 6] [0,1,2] Tryz.func155 Tryz.ntmps155 (fun d=>?_)
 refine Z1 ?_;refine R.fin [1,2,3] ?_;refine Z1 ?_;refine R.call Tryz.call154 (AAe n e hok hn c hc _) ?_;refine Z45 ?_;refine R.fin [2,7,8] ?_;refine Z13 ?_;refine Z9 ?_;refine Z9 ?_;refine Z65 ?_;refine Z0 ?_;refine Z96 ?_;exact K.fin (V.one V.tmp) ⟨by unfold nk;rfl,rfl⟩

theorem u7 {c:List Col} {m:Mov} (h:(m.kind==3)=false):Be c m=m.give:=by unfold Be;rw [if_neg (by rw [h];simp)]
theorem ua {c:List Col} {m:Mov} {s:Str} {y:Col} (h:(m.kind==3)=true) (ht:m.take=[s]) (hg:m.give=[y]) (hf:Bh s c<0):Be c m=[y]:=by
 unfold Be
 rw [if_pos h,ht,hg]
 exact if_pos hf
theorem oi {c:List Col} {m:Mov} {s:Str} {y:Col} (h:(m.kind==3)=true) (ht:m.take=[s]) (hg:m.give=[y]) (hf:¬Bh s c<0):Be c m=[⟨y.name,(c.getD (Bh s c).toNat ⟨[],0⟩).kind⟩]:=by
 unfold Be
 rw [if_pos h,ht,hg]
 exact if_neg hf
theorem Xm (l:List Col):∀x∈l.map Av,x.cells.length=2:=by
 intro x hx
 obtain ⟨c,_,rfl⟩:=List.mem_map.1 hx
 rfl
theorem dq {c:Col} {y:AV} (h:y∈(Av c).cells):y=A8 c.name∨y=A2 c.kind:=by
 have h':y∈[A8 c.name,A2 c.kind]:=h
 simpa using h'
theorem Xn (l:List Col):∀x∈l.map Av,∀y∈x.cells,y.one=true:=by
 intro x hx y hy
 obtain ⟨c,_,rfl⟩:=List.mem_map.1 hx
 rcases dq hy with rfl|rfl<;>rfl
theorem R8 (l:List Col):∀x∈l.map Av,∀y∈x.cells,y.strip=y:=by
 intro x hx y hy
 obtain ⟨c,_,rfl⟩:=List.mem_map.1 hx
 rcases dq hy with rfl|rfl<;>rfl
theorem az {α:Type} {l:List α} (h:l.length=1):∃y,l=[y]:=by
 match l,h with
 | [y],_=>exact ⟨y,rfl⟩
theorem dr {c:List Col} {s:Str} (hf:¬Bh s c<0):(c.map Av)[(Bh s c).toNat]? = some (Av (c.getD (Bh s c).toNat ⟨[],0⟩)):=by
 obtain ⟨j,hj,hjl⟩:=Mn hf
 rw [hj,Int.toNat_natCast,List.getElem?_map,List.getElem?_eq_getElem hjl,List.getD_eq_getElem?_getD,List.getElem?_eq_getElem hjl]
 rfl
end Go.SX.Nb
namespace Go.SX
variable [GI:GlobInv]
open Classical
variable {P:Program} {d:Nat} {ops:Array Oper} {rest:List Oper} {sz:Nat} {fr:Nat→AV} {up own:List AObj} {dfs:List Nat} {rnd:Option Nat} {Q:St→Prop} {s:Nat} {ty:TypeId} {pos:String} {aft:Array Edge}
/-- Whether a slice is nil is known only of one that has elements. -/
theorem R.eqlNil {t e u:TypeId} {x y:Operand} {o:Bool} {k:Nat} {xs:List AV} (ht:P.underlying t=some (.slice e)) (hg:P.eqGuardType P.depth t=false)
  (hr:∀b:Bool,(b=true→xs=[])→ARun P d ops rest ⟨sz,A6 s (.v (.bool b)) fr,up,own,dfs,rnd⟩ Q)
  (hx:Ae fr x=.slice o k xs:=by exact sL0) (hy:Ae fr y=.nil:=by exact sL0) (hs:Nat.blt s sz=true:=by rfl):
  ARun P d ops (⟨some s,.binOp .eql t x y u,ty,pos,aft,none⟩::rest) ⟨sz,fr,up,own,dfs,rnd⟩ Q:=by
 refine ARun.op rfl (Q1:=fun s'=>∃b:Bool,(b=true→xs=[])∧s'=⟨sz,A6 s (.v (.bool b)) fr,up,own,dfs,rnd⟩) ?_ (by rintro _ ⟨b,hb,rfl⟩;exact hr b hb)
 intro G a w hrel Q'
 have h1:=hrel.eval x
 rw [show St.ev ⟨sz,fr,up,own,dfs,rnd⟩ x=.slice o k xs from hx] at h1
 have h2:=hrel.eval y
 rw [show St.ev ⟨sz,fr,up,own,dfs,rnd⟩ y=.nil from hy] at h2
 have key:∀b:Bool,(b=true→xs=[])→(execOp a.eval ⟨some s,.binOp .eql t x y u,ty,pos,aft,none⟩).run P w=.ok (.value (.bool b)) w →
   Oper.wpIn (Fr ((St.mk sz fr up own dfs rnd).rnd.map G.blk)) 0 P ⟨some s,.binOp .eql t x y u,ty,pos,aft,none⟩ a w (Post d ⟨sz,fr,up,own,dfs,rnd⟩ G w (fun s'=>∃b:Bool,(b=true→xs=[])∧s'=⟨sz,A6 s (.v (.bool b)) fr,up,own,dfs,rnd⟩)) Q':=fun b hb hv =>
  Bp (by intro c h;cases h) hv ⟨G,_,hrel.put (y:=.v (.bool b)) (by simpa using hs) (.v _ _),Keep.refl d G w,rfl,rfl,rfl,b,hb,rfl⟩
 generalize hya:a.eval y=vy at h2
 generalize hxa:a.eval x=vx at h1
 cases h2
 cases h1 with
 | slice0=>exact key true (fun _=>rfl) (by simp only [execOp,hxa,hya,eqGuard];simp [Lib.run_eql_slice_nil _ _ _ _ _ _ _ _ ht,hg])
 | sliceE=>exact key false (fun h=>by cases h) (by simp only [execOp,hxa,hya,eqGuard];simp [Lib.run_eql_slice_nil _ _ _ _ _ _ _ _ ht,hg])
 | slice=>exact key false (fun h=>by cases h) (by simp only [execOp,hxa,hya,eqGuard];simp [Lib.run_eql_slice_nil _ _ _ _ _ _ _ _ ht,hg])
/-! A guarded slice that may be appended to. -/
end Go.SX
namespace Go.SX
variable [GI:GlobInv]
open Classical
section
variable {P:Program} {d:Nat}
/-- A call that returns and may leave more objects than it found; they are the caller's. -/
def ACallO (P:Program) (g:FuncId) (args:List AV) (H:List AObj) (post:AV→List AObj→Prop):Prop:=
 ∀(d:Nat) (G:Gh) (w:World) (vs:Array Value),vs.size=args.length→(∀(i:Nat) (y:AV) (u:Value),args[i]? = some y→vs[i]? = some u→Rep G w (some (.slot (d+1) i)) y u)→HeapRel G H w→TagOK G w→GI.bd≤d →
  CallsIn Fence.wide 0 P g vs w (fun e w'=>∃(v:Value) (G':Gh) (r:AV) (H':List AObj),e=.returned v∧Rep G' w' none r v∧HeapRel G' H' w'∧TagOK G' w'∧Keep (d+1) G w G' w'∧post r H')
/-- What is asked at a body's end: the first j of its objects are handed back. -/
def FO (P:Program) (rs:List ResultVar) (n:Nat) (post:AV→List AObj→Prop) (e:Exit) (st':St):Prop:=
 (e=.normal∨e=.ret)∧st'.defs=[]∧∃(r:AV) (rv:ResultVar) (j:Nat),rs=[rv]∧ResV P st' rv r∧Low (n+j) r∧(∀x∈st'.up++st'.own.take j,ObjLow (n+j) x)∧j≤st'.own.length∧post r (st'.up++st'.own.take j)
theorem ACallO.ofBody {g:FuncId} {fn:Func} {c:Code} {args:List AV} {H:List AObj} {post:AV→List AObj→Prop} {rs:List ResultVar} {n:Nat} (hf:P.funcs[g]? = some fn) (hb:fn.body=some c) (hrs:fn.results=rs.toArray)
  (hn:fn.ntmps=n) (hargs:args.length≤n) (h:∀d,AW P (d+1) c ⟨n,argsF args,H,[],[],none⟩ (FO P rs H.length post)):ACallO P g args H post:=by
 intro d G w vs hvs hrep hH hT hTop
 refine callsIn_of_wp_marks hf hb trivial ?_
 have hst:StRel (d+1) G ⟨n,argsF args,H,[],[],none⟩ { tmps:=vs++Array.replicate (fn.ntmps-vs.size) undef,defers:=[] } w:=by
  refine ⟨?_,fun s=>?_,by simpa using hH,(by rw [Cq hTop];rfl),(fun o ho=>by simp at ho),List.nodup_nil,(fun o ho=>by simp at ho),hT,(fun l hl=>by cases hl),fun x hx=>?_,Nat.le_succ_of_le hTop⟩
  ·simp only [Array.size_append,Array.size_replicate,hvs,hn];omega
  ·show Rep G w _ (args.getD s (.v undef)) _
   rw [List.getD_eq_getElem?_getD,Array.getD_eq_getD_getElem?]
   rcases Nat.lt_or_ge s args.length with h'|h'
   ·rw [List.getElem?_eq_getElem h',Array.getElem?_append_left (by omega),Array.getElem?_eq_getElem (by omega)]
    exact hrep s _ _ (List.getElem?_eq_getElem h') (Array.getElem?_eq_getElem (by omega))
   rw [List.getElem?_eq_none h',Array.getElem?_append_right (by omega)]
   simp only [Option.getD_none]
   have:((Array.replicate (fn.ntmps-vs.size) undef)[s-vs.size]?).getD undef=undef:=by
    rw [Array.getElem?_replicate];split<;>rfl
   rw [this]
   exact .v _ _
  obtain ⟨i,hi⟩:=List.getElem?_of_mem hx
  have hob:=hH.obj i x hi
  show ObjLow H.length x
  rw [←hH.n]
  exact hob.low
 have hw:=h d G _ w hst
 refine wpIn_mono hw ?_
 rintro e a' w' ⟨G1,st',h1,k1,e1,e2,e3,hcase,hdefs,r,rv,j,rfl,hres,hlow,hobjs,hj,hpost⟩
 have fin:LeavesInM Fence.wide 0 P fn a'.tmps (fun e w'=>∃(v:Value) (G':Gh) (r:AV) (H':List AObj),e=.returned v∧Rep G' w' none r v∧HeapRel G' H' w'∧TagOK G' w'∧Keep (d+1) G w G' w'∧post r H') a'.defers .returning w':=by
  rw [h1.defs,hdefs,Cq hTop]
  obtain ⟨v,hv,hr⟩:=hres.run h1
  have hupl:st'.up.length=H.length:=e1
  have hgn:G1.n=st'.up.length+st'.own.length:=by rw [h1.heap.n,List.length_append]
  have hget:∀(i:Nat) (x:AObj),(st'.up++st'.own.take j)[i]? = some x→(st'.up++st'.own)[i]? = some x:=fun i x hx=>by
   rcases Nat.lt_or_ge i st'.up.length with h'|h'
   ·rw [List.getElem?_append_left h'] at hx ⊢;exact hx
   rw [List.getElem?_append_right h'] at hx ⊢
   rw [List.getElem?_take] at hx
   split at hx
   ·exact hx
   cases hx
  refine ⟨v,by simp [Dw,hrs,hv],v,{ G1 with n:=H.length+j },r,st'.up++st'.own.take j,rfl,hr.cut hlow,⟨fun i x hx=>(h1.heap.obj i x (hget i x hx)).cut (hobjs x (List.mem_of_getElem? hx)),?_,fun a b ha hb' e=>?_⟩,
   ⟨h1.tags.ex,h1.tags.obj,h1.tags.tail,h1.tags.globCut (by rw [hgn];omega)⟩,?_,hpost⟩
  ·show H.length+j=_
   rw [List.length_append,List.length_take,Nat.min_eq_left hj,hupl]
  ·exact h1.heap.inj a b (by rw [hgn];simp only at ha;omega) (by rw [hgn];simp only at hb';omega) e
  have hGn:G.n=H.length:=hH.n
  exact ⟨k1.fix,k1.slot,by rw [hGn];exact Nat.le_add_right _ _,k1.blk,k1.os,k1.tape,k1.output,k1.size,k1.old.cut (by rw [hgn];omega)⟩
 rcases hcase with rfl|rfl
 ·exact fin
 exact fin
end
section
variable {P:Program} {d:Nat} {ops:Array Oper} {rest:List Oper} {sz s:Nat} {fr:Nat→AV} {up own:List AObj} {dfs:List Nat} {rnd:Option Nat} {Q:St→Prop} {ty:TypeId} {pos:String} {aft:Array Edge}
theorem ACallO.body {g:FuncId} {fn:Func} {c:Code} {args:List AV} {H:List AObj} {post:AV→List AObj→Prop} {fr':Nat→AV} (rs:List ResultVar) (l:List Nat) {n:Nat} (hf:P.funcs[g]? = some fn) (hn:fn.ntmps=n)
  (h:∀d,AW P (d+1) c ⟨n,fr',H,[],[],none⟩ (FO P rs H.length post)) (hb:fn.body=some c:=by rfl) (hrs:fn.results=rs.toArray:=by rfl) (hargs:args.length≤n:=by exact sL1)
  (hk:I6 l (argsF args)=fr':=by exact sL0):ACallO P g args H post:=
 ACallO.ofBody hf hb hrs hn hargs (fun d=>AW.keep l hk (h d))
/-- The end of such a body. -/
theorem K.finO {rs:List ResultVar} {n:Nat} {post:AV→List AObj→Prop} {r:AV} {rv:ResultVar} {st:St} (j:Nat) (hres:ResV P st rv r) (hp:post r (st.up++st.own.take j)) (hlow:Low (n+j) r) (hobj:∀x∈st.up++st.own.take j,ObjLow (n+j) x)
  (hd:st.defs=[]:=by rfl) (hr:rs=[rv]:=by rfl) (hj:j≤st.own.length:=by simp):FO P rs n post .ret st:=⟨.inr rfl,hd,r,rv,j,hr,hres,hlow,hobj,hj,hp⟩
/-- A call of such a function. -/
theorem R.callO {g:FuncId} {xs:List Operand} {ats:Array TypeId} {args:List AV} {post:AV→List AObj→Prop} (hcall:∀args w,(callFunc g args).run P w=.ok (.enter g args) w)
  (h:ACallO P g args (up++own) post) (hp:∀r H',post r H'→∃O,H'=up++(own++O)∧ARun P d ops rest ⟨sz,A6 s r fr,up,own++O,dfs,rnd⟩ Q)
  (ha:xs.map (Ae fr)=args:=by exact sL0) (hs:Nat.blt s sz=true:=by rfl):
  ARun P d ops (⟨some s,.call ⟨.value (.func g),xs.toArray,ats⟩,ty,pos,aft,none⟩::rest) ⟨sz,fr,up,own,dfs,rnd⟩ Q:=by
 refine ARun.op rfl (Q1:=fun s'=>ARun P d ops rest s' Q) ?_ (fun s' e=>e)
 intro G a w hr Q'
 have hs:s<sz:=by simpa using hs
 have hxr:=Il hr xs
 have ha':xs.map (St.ev ⟨sz,fr,up,own,dfs,rnd⟩)=args:=ha
 rw [ha'] at hxr
 have hrun:(execOp a.eval (⟨some s,.call ⟨.value (.func g),xs.toArray,ats⟩,ty,pos,aft,none⟩:Oper)).run P w=.ok (.enter g (xs.map a.eval).toArray) w:=by
  have:=Hb (P:=P) (dst:=some s) (ty:=ty) (pos:=pos) (aft:=aft) (gd:=none) (ats:=ats) (f:=.func g) (xs:=xs) (g:=g) (va:=#[]) (vc:=#[]) (a:=a) (w:=w) hcall rfl
  simpa using this
 refine L1 (by intro c h;cases h) hrun (h d G w _ (by rw [←ha'];simp) (fun i y u hy hu=>(hxr i y u hy hu).lift) hr.heap hr.tags hr.top) ?_
 rintro e w' ⟨v,G',r,H',rfl,hrep,hH,hT,hk,hpo⟩
 obtain ⟨O,rfl,hrn⟩:=hp r H' hpo
 have h3:=hr.called (U:=up) (O:=own++O) hH hT hk rfl rfl (fun o ho=>by
  have:=hr.defsAt o ho
  rw [←List.append_assoc,List.getElem?_append_left (List.getElem?_eq_some_iff.1 this).1]
  exact this) hr.low
 obtain ⟨h4,k4⟩:=h3.took hrep.lift (s:=s) hs
 exact ⟨v,rfl,_,_,h4,(hk.less (Nat.le_succ d)).trans k4,rfl,rfl,rfl,hrn⟩
end
end Go.SX
