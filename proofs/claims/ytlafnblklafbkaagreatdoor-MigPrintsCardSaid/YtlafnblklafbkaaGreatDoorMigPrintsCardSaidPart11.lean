/- Texts on the way to this: MigPrints answers true for whatever it is handed: any migration that is right has the text that the chapter says, and is parsed from it as it was, unless brackets nest too deep; any other one has none (up to 12 moves, trees of up to 500 nodes). (part 11) -/
import Derived.Test.YtlafnblklafbkaaGreatDoorMigPrintsCardSaidPart10
set_option linter.all false
namespace Go.SX.Nb
open Go Go.SX Go.Proofs Go.RowKit Go.Sort
variable [ErrAt]
set_option maxRecDepth 4000
theorem gz:Builder.Extra Tryz.prog Tryz.ren156:={ sizeBuilder:=by kernel_rfl,liesBuilder:=by kernel_rfl,t5:=Tryz.underlying5,a5:=Tryz.isAgg5,z5:=Tryz.sizeOf5,v5:=Tryz.zeroValue5,infoByte:=by kernel_rfl,cellsByte:=by kernel_rfl,sizeByte:=by kernel_rfl,neB5:=by decide }
theorem c63 (l:List Str) (sep:Str) (hn:l.length≤140737488355328) (hl:(Lib.join l sep).length≤140737488355328) (Hp:List AObj):AFun Tryz.prog 63 [Du l,Aa sep] Hp (Aa (Lib.join l sep)):=by
 have e:Du l=.slice false 1 ((l.map sv).map .v):=by rw [List.map_map];rfl
 rw [e]
 refine AFun.libSl (xs:=[sv sep]) (v:=sv (Lib.join l sep)) (fun G w=>.v _ _) (fun w u hg hs=>?_)
 rcases hs with ⟨rfl,he⟩|⟨ad,c,rfl,hc,hsp,hcell⟩
 ·have:l=[]:=by simpa using he
  subst this
  refine (Any.strings_Join_none Tryz.lays156 gz none 0 ⟨sep.toArray⟩ w).mono ?_
  rintro e w' ⟨rfl,rfl⟩
  exact Xm
 rw [List.length_map] at hc
 match l,hn,hl,hc,hsp,hcell with
 | [],_,_,_,_,_ =>
  refine (Any.strings_Join_none Tryz.lays156 gz (some ad) c ⟨sep.toArray⟩ w).mono ?_
  rintro e w' ⟨rfl,rfl⟩
  exact Xm
 | [x],_,_,hc,hsp,hcell =>
  obtain ⟨bk,o,spot⟩:=ad
  have hs0:spot=none:=hsp (by simp)
  subst hs0
  refine (Any.strings_Join_one Tryz.lays156 gz bk o c ⟨x.toArray⟩ ⟨sep.toArray⟩ w (by have:=hcell 0 (sv x) rfl;simpa using this)).mono ?_
  rintro e w' ⟨rfl,rfl⟩
  exact ⟨by rw [Lib.join_one],Below.refl _ _⟩
 | x::y::r,hn,hl,hc,hsp,hcell =>
  obtain ⟨bk,o,spot⟩:=ad
  have hs0:spot=none:=hsp (by simp)
  subst hs0
  have h0:=hcell 0 (sv x) rfl
  have hb:bk<w.heap.size:=World.block_lt_of_cell? _ _ h0
  have hd:((x::y::r).map fun z=>(⟨z.toArray⟩:ByteArray)).map (·.data.toList)=x::y::r:=by
   rw [List.map_map]
   exact List.map_id'' (fun z=>by simp) _
  have:=Any.strings_Join_many Tryz.lays156 gz bk o c ((x::y::r).map fun z=>(⟨z.toArray⟩:ByteArray)) ⟨sep.toArray⟩ w (fun j z hz=>by
   rw [List.getElem?_map,Option.map_eq_some_iff] at hz
   obtain ⟨z',hz',rfl⟩:=hz
   exact hcell j _ (by rw [List.getElem?_map,hz'];rfl)) hb (by simp) (by simpa using hn) (by simpa using hc) (by rw [hd];simpa using hl)
  rw [hd,List.length_map] at this
  rw [List.length_map]
  refine this.mono ?_
  rintro e w' ⟨rfl,hb'⟩
  exact ⟨by simp,hb'⟩
end Go.SX.Nb
namespace Go.SX.Nb
open Go Go.SX Go.Proofs
variable [ErrAt]
set_option maxRecDepth 4000
/-! mig.Print: what it answers. -/
/-- mig.trees. -/
def Ao:List Expr→List Str×Int
 | []=>([],0)
 | x::r=>if (Ek x).2 != 0 then ([],(Ek x).2) else if (Ao r).2 != 0 then ([],(Ao r).2) else ((Ek x).1::(Ao r).1,0)
theorem V1:∀{l:List Expr},(∀(j:Nat) (y:Expr),l[j]? = some y→((Ek y).2 != 0)=false)→Ao l=(l.map (fun e=>(Ek e).1),0)
 | [],_=>rfl
 | x::r,h=>by
  rw [Ao,V1 (l:=r) (fun j y hy=>h (j+1) y hy),if_neg (by rw [h 0 x rfl];simp),if_neg (by simp)]
  rfl
theorem V2:∀{l:List Expr} {x:Nat} {y:Expr},(∀(j:Nat) (z:Expr),j<x→l[j]? = some z→((Ek z).2 != 0)=false)→l[x]? = some y→((Ek y).2 != 0)=true→Ao l=([],(Ek y).2)
 | [],_,_,_,h,_=>by simp at h
 | a::r,0,y,_,h,h1=>by
  have:a=y:=by simpa using h
  subst this
  rw [Ao,if_pos h1]
 | a::r,x+1,y,h0,h,h1=>by
  rw [Ao,if_neg (by rw [h0 0 a (by omega) rfl];simp),V2 (l:=r) (x:=x) (fun j z hj hz=>h0 (j+1) z (by omega) hz) (by simpa using h) h1,if_pos h1]
theorem Gv:∀(l:List Expr),((Ao l).2≠0∧(Ao l).1=[])∨(Ao l=(l.map A8,0)∧∀e∈l,(A8 e).length≤4000)
 | []=>.inr ⟨rfl,fun e h=>by cases h⟩
 | x::r=>by
  rw [Ao]
  by_cases h1:(Ek x).2=0
  ·obtain ⟨a,b,c⟩:=vr h1
   rw [if_neg (by rw [h1];simp)]
   rcases Gv r with ⟨h2,h3⟩|⟨h2,h3⟩
   ·rw [if_pos (by simpa using h2)]
    exact .inl ⟨h2,rfl⟩
   rw [if_neg (by rw [h2];simp),h2,c]
   exact .inr ⟨rfl,fun e he=>by
    rcases List.mem_cons.1 he with rfl|he
    ·exact b
    exact h3 e he⟩
  rw [if_pos (by simpa using h1)]
  exact .inl ⟨h1,rfl⟩
/-- Right trees are printed, or one is too long. -/
theorem Kr:∀{l:List Expr},(∀e∈l,B4 e=true)→((Ao l).2=0↔∀e∈l,(A8 e).length≤4000)
 | [],_=>⟨fun _ e h=>(by cases h),fun _=>rfl⟩
 | x::r,h=>by
  have ih:=Kr (l:=r) (fun e he=>h e (.tail _ he))
  rw [Ao]
  rcases vt (by rw [←Cu];exact h x List.mem_cons_self) with ⟨h1,h2⟩|⟨h1,h2⟩
  ·rw [h1,if_pos (by simp)]
   exact ⟨fun h=>absurd h (by decide),fun h3=>absurd (h3 x List.mem_cons_self) (by omega)⟩
  rw [h1,if_neg (by simp)]
  by_cases h3:(Ao r).2=0
  ·rw [if_neg (by rw [h3];simp)]
   exact ⟨fun _ e he=>by
    rcases List.mem_cons.1 he with rfl|he
    ·exact h2
    exact ih.1 h3 e he,fun _=>rfl⟩
  rw [if_pos (by simpa using h3)]
  exact ⟨fun h4=>absurd h4 h3,fun h4=>absurd (ih.2 fun e he=>h4 e (.tail _ he)) h3⟩
theorem Wo (l:List Str):Lib.join l [44,32]=B7 l:=by
 cases l with
 | nil=>rfl
 | cons a r =>
  rw [Lib.join_cons,B7]
  rfl
theorem J4 {b:Nat} {l:List Str} (h:∀s∈l,s.length≤b):(B7 l).length≤l.length*(b+2):=by
 have key:∀r:List Str,(∀s∈r,s.length≤b)→(r.flatMap fun u=>[44,32]++u).length≤r.length*(b+2):=by
  intro r
  induction r with
  | nil=>exact fun _=>Nat.zero_le _
  | cons a r ih =>
   intro h
   have h1:=ih fun s hs=>h s (.tail _ hs)
   have h2:=h a List.mem_cons_self
   rw [List.flatMap_cons,List.length_append,List.length_cons,Nat.succ_mul,List.length_append]
   simp only [List.length_cons,List.length_nil]
   omega
 cases l with
 | nil=>exact Nat.zero_le _
 | cons a r =>
  have h1:=key r fun s hs=>h s (.tail _ hs)
  have h2:=h a List.mem_cons_self
  rw [B7,List.length_append,List.length_cons,Nat.succ_mul]
  omega
/-- The texts of what comes: names, kinds, and these texts. -/
def gvs (m:Mov) (T:List Str):List Str:=(m.give.zip T).map fun p=>((p.1.name++[32])++Ah p.1.kind)++[32,61,32]++p.2
theorem Q6 {m:Mov} {T:List Str} (h:T.length≤m.give.length):(gvs m T).length=T.length:=by
 unfold gvs
 rw [List.length_map,List.length_zip]
 omega
theorem rq {m:Mov} {T:List Str} {x:Nat} (hx:x<T.length) (hg:x<m.give.length) (hv:x<(gvs m T).length):(gvs m T)[x]=((m.give[x].name++[32])++Ah m.give[x].kind)++[32,61,32]++T[x]:=by
 unfold gvs
 simp
/-- mig.gives. -/
def Ga (m:Mov):Str×Int:=if (Ao m.ahead).2 != 0 then ([],(Ao m.ahead).2) else (Fk m,0)
theorem Ks (m:Mov):Ga m=(B7 (gvs m (Ao m.ahead).1),(Ao m.ahead).2):=by
 unfold Ga
 rcases Gv m.ahead with ⟨h1,h2⟩|⟨h1,h2⟩
 ·rw [if_pos (by simpa using h1),h2]
  unfold gvs
  rw [List.zip_nil_right]
  rfl
 rw [h1,if_neg (by simp)]
 congr 1
 unfold Fk gvs Uq
 congr 1
 rw [List.zip_map_right,List.map_map]
 refine List.map_congr_left fun p _=>?_
 simp
theorem Fm (l:List Expr):(Ao l).1.length≤l.length∧∀s∈(Ao l).1,s.length≤4000:=by
 rcases Gv l with ⟨h1,h2⟩|⟨h1,h2⟩
 ·rw [h2]
  exact ⟨Nat.zero_le _,fun s h=>by cases h⟩
 rw [h1]
 refine ⟨by simp,fun s hs=>?_⟩
 obtain ⟨e,he,rfl⟩:=List.mem_map.1 hs
 exact h2 e he
theorem rr {m:Mov} (h:OkMov m):∀s∈gvs m (Ao m.ahead).1,s.length≤1060000:=by
 intro s hs
 unfold gvs at hs
 obtain ⟨p,hp,rfl⟩:=List.mem_map.1 hs
 have h1:=h.gives.2 p.1 (List.of_mem_zip hp).1
 have h2:=(Fm m.ahead).2 p.2 (List.of_mem_zip hp).2
 have h3:=He p.1.kind
 simp only [List.length_append,List.length_cons,List.length_nil]
 omega
theorem Om {m:Mov} (h:OkMov m) (ha:m.ahead.length=m.give.length):(B7 (gvs m (Ao m.ahead).1)).length≤1100000000000:=by
 have h1:=J4 (rr h)
 have h2:=(Fm m.ahead).1
 have h3:=Q6 (m:=m) (T:=(Ao m.ahead).1) (by omega)
 have h4:=h.gives2
 have:(gvs m (Ao m.ahead).1).length*(1060000+2)≤1000000*1060002:=Nat.mul_le_mul_right _ (by omega)
 omega
theorem On {m:Mov} (h:OkMov m):(B7 m.take).length≤1100000000000:=by
 have h1:=J4 h.names
 have:m.take.length*(1048576+2)≤1048576*1048578:=Nat.mul_le_mul_right _ h.takes
 omega
theorem V3 {m:Mov} (h:OkMov m):(B7 (Ao m.back).1).length≤4300000000:=by
 have h1:=J4 (Fm m.back).2
 have h2:=(Fm m.back).1
 have h3:=h.back.len
 have:(Ao m.back).1.length*(4000+2)≤1048576*4002:=Nat.mul_le_mul_right _ (by omega)
 omega
/-- Has a move no tree that has no text? -/
def B2 (m:Mov):Bool:=(Ao m.ahead).2==0&&(Ao m.back).2==0
/-- mig.text. -/
def Ft (m:Mov):Str×Int:=if B2 m then (mvS m,0) else ([],3)
/-- mig.Print. -/
def H4 (l:List Mov):Str×Int:=if !(I1 l) then ([],1) else if !(l.all B2) then ([],3) else if 4000<(l.flatMap mvS).length then ([],3) else (l.flatMap mvS,0)
theorem wg {m:Mov} (h:B2 m=true):Ao m.ahead=(m.ahead.map A8,0)∧Ao m.back=(m.back.map A8,0):=by
 unfold B2 at h
 simp only [Bool.and_eq_true,beq_iff_eq] at h
 rcases Gv m.ahead with ⟨h1,_⟩|⟨h1,_⟩
 ·exact absurd h.1 h1
 rcases Gv m.back with ⟨h2,_⟩|⟨h2,_⟩
 ·exact absurd h.2 h2
 exact ⟨h1,h2⟩
theorem Ik {m:Mov} (h:B2 m=true):(Ga m).1=Fk m∧(B7 (Ao m.back).1)=B7 (m.back.map A8):=by
 obtain ⟨h1,h2⟩:=wg h
 unfold Ga
 rw [h1,h2]
 exact ⟨rfl,rfl⟩
theorem rt {m:Mov} (h:((Ga m).2 != 0 || (Ao m.back).2 != 0)=true):B2 m=false:=by
 rw [Ks] at h
 unfold B2
 simp only [Bool.or_eq_true,bne_iff_ne,ne_eq] at h
 rw [Bool.and_eq_false_iff]
 simp only [beq_eq_false_iff_ne,ne_eq]
 exact h
theorem lx {m:Mov} (h:((Ga m).2 != 0 || (Ao m.back).2 != 0)=false):B2 m=true:=by
 rw [Ks] at h
 unfold B2
 simpa using h
theorem dn {m:Mov} (h:OkMov m) (ha:m.ahead.length=m.give.length) (hk:B2 m=true):(Fk m).length≤1100000000000:=by
 have:=Om h ha
 rw [←(Ik hk).1,Ks]
 exact this
theorem dp {m:Mov} (h:OkMov m) (hk:B2 m=true):(B7 (m.back.map A8)).length≤4300000000:=by
 have:=V3 h
 rw [←(Ik hk).2]
 exact this
theorem Kt (k:Int):(Av k).length≤10:=by
 unfold Av migWords
 split
 ·decide
 rename_i h
 simp only [Bool.or_eq_true,decide_eq_true_eq,not_or] at h
 have:k=1∨k=2∨k=3∨k=4∨k=5∨k=6:=by omega
 rcases this with rfl|rfl|rfl|rfl|rfl|rfl<;>decide
theorem Q7 {m:Mov} (h:OkMov m) (ha:m.ahead.length=m.give.length) (hk:B2 m=true):(mvS m).length≤3000000000000:=by
 have h1:=dn h ha hk
 have h2:=dp h hk
 have h3:=On h
 have h4:=Kt m.kind
 have h5:(m.give.getD 0 ⟨[],0⟩).name.length≤1048576:=by
  cases hg:m.give with
  | nil=>exact Nat.zero_le _
  | cons c r=>exact h.gives.2 c (by rw [hg];exact List.mem_cons_self)
 unfold mvS I6 H3 Fx
 rw [List.length_append,List.length_append,List.length_append,List.length_append]
 simp only [List.length_cons,List.length_nil]
 have:∀{b:Bool} {x y:Str} {n:Nat},x.length≤n→y.length≤n→(if b=true then x else y).length≤n:=by
  intro b x y n h1 h2
  split
  ·exact h1
  exact h2
 have key:(if m.kind==1 then Fk m else if m.kind==2 then B7 m.take++([32]++(backW++([32]++B7 (m.back.map A8)))) else if m.kind==3 then B7 m.take++([32]++(toW++([32]++(m.give.getD 0 ⟨[],0⟩).name))) else if m.kind==6 then Fk m++([32]++(backW++([32]++B7 (m.back.map A8)))) else B7 m.take++([32]++(intoW++([32]++(Fk m++([32]++(backW++([32]++B7 (m.back.map A8))))))))).length≤2999999999000:=by
  have e1:backW.length=4:=rfl
  have e2:toW.length=2:=rfl
  have e3:intoW.length=4:=rfl
  refine this (by omega) (this ?_ (this ?_ (this ?_ ?_)))
  all_goals simp only [List.length_append,List.length_cons,List.length_nil,e1,e2,e3];omega
 omega
theorem V4 {l:List Mov} (h:(!(I1 l))=true):H4 l=([],1):=if_pos h
theorem dq {l:List Mov} (h:(!(I1 l))=false) {x:Nat} (hx:x<l.length) (hk:B2 l[x]=false):H4 l=([],3):=by
 unfold H4
 rw [if_neg (by rw [h];simp),if_pos]
 rw [List.all_eq_false.2 ⟨_,List.getElem_mem hx,by rw [hk];simp⟩]
 rfl
theorem dr {l:List Mov} (h:(!(I1 l))=false) (hk:∀(j:Nat) (y:Mov),l[j]? = some y→B2 y=true):H4 l=if 4000<(l.flatMap mvS).length then ([],3) else (l.flatMap mvS,0):=by
 have:l.all B2=true:=List.all_eq_true.2 fun y hy=>by
  obtain ⟨j,hj,rfl⟩:=List.getElem_of_mem hy
  exact hk j _ (List.getElem?_eq_getElem hj)
 unfold H4
 rw [if_neg (by rw [h];simp),if_neg (by rw [this];simp)]
theorem Oo {l:List Mov} {b:Nat}:∀{x:Nat},(∀(j:Nat) (y:Mov),j<x→l[j]? = some y→(mvS y).length≤b)→((l.take x).flatMap mvS).length≤x*b
 | 0,_=>by simp
 | x+1,h=>by
  have ih:=Oo (l:=l) (x:=x) fun j y hj=>h j y (by omega)
  by_cases hx:x<l.length
  ·have h1:=h x l[x] (by omega) (List.getElem?_eq_getElem hx)
   rw [List.take_succ_eq_append_getElem hx,List.flatMap_append,List.length_append,Nat.succ_mul]
   simp only [List.flatMap_cons,List.flatMap_nil,List.append_nil]
   omega
  rw [List.take_of_length_le (by omega)] at ih ⊢
  rw [Nat.succ_mul]
  omega
theorem Ho {l:List Mov} {x:Nat} (h:x<l.length):(l.take (x+1)).flatMap mvS=(l.take x).flatMap mvS++mvS l[x]:=by
 rw [List.take_succ_eq_append_getElem h,List.flatMap_append]
 simp
theorem ACe (l:List Str) (hn:l.length≤140737488355328) (hl:(B7 l).length≤140737488355328) (Hp:List AObj):AFun Tryz.prog 63 [Du l,Aa [44,32]] Hp (Aa (B7 l)):=by
 have:=c63 l [44,32] hn (by rw [Wo];exact hl) Hp
 rw [Wo] at this
 exact this
theorem AEb (bs:Str) (o:Nat) (Hp:List AObj) (ho:Hp[o]? = some (Zf bs)):AFun Tryz.prog 32 [.ptr o 0] Hp (A3 bs.length):=
 AFun.bldLen ho (fun b p v w h=>bldLen Tryz.lays170 (T:=74) (e:=5) b p v _ _ w h)
theorem zg {m:Mov} (hk:B2 m=true) (h:(m.kind==1)=true):Ft m=(((Av m.kind++[32])++(Ga m).1)++[59,10],0):=by
 unfold Ft mvS I6
 rw [if_pos hk,if_pos h,(Ik hk).1]
 simp
theorem zh {m:Mov} (hk:B2 m=true) (h1:(m.kind==1)=false) (h:(m.kind==2)=true):Ft m=(((Av m.kind++[32])++(B7 m.take++([32,98,97,99,107,32]++B7 (Ao m.back).1)))++[59,10],0):=by
 unfold Ft mvS I6 H3 Fx backW
 rw [if_pos hk,h1,if_neg (by simp),if_pos h,(Ik hk).2]
 simp
theorem zi {m:Mov} {y:Col} (hk:B2 m=true) (h1:(m.kind==1)=false) (h2:(m.kind==2)=false) (h:(m.kind==3)=true) (hy:m.give=[y]):Ft m=(((Av m.kind++[32])++((B7 m.take++[32,116,111,32])++y.name))++[59,10],0):=by
 unfold Ft mvS I6 H3 toW
 rw [if_pos hk,h1,if_neg (by simp),h2,if_neg (by simp),if_pos h,hy]
 simp
theorem zj {m:Mov} (hk:B2 m=true) (h1:(m.kind==1)=false) (h2:(m.kind==2)=false) (h3:(m.kind==3)=false) (h:(m.kind==6)=true):Ft m=(((Av m.kind++[32])++((Ga m).1++([32,98,97,99,107,32]++B7 (Ao m.back).1)))++[59,10],0):=by
 unfold Ft mvS I6 H3 Fx backW
 rw [if_pos hk,h1,if_neg (by simp),h2,if_neg (by simp),h3,if_neg (by simp),if_pos h,(Ik hk).1,(Ik hk).2]
 simp
theorem zk {m:Mov} (hk:B2 m=true) (h1:(m.kind==1)=false) (h2:(m.kind==2)=false) (h3:(m.kind==3)=false) (h:(m.kind==6)=false):Ft m=(((Av m.kind++[32])++(((B7 m.take++[32,105,110,116,111,32])++(Ga m).1)++([32,98,97,99,107,32]++B7 (Ao m.back).1)))++[59,10],0):=by
 unfold Ft mvS I6 H3 Fx backW intoW
 rw [if_pos hk,h1,if_neg (by simp),h2,if_neg (by simp),h3,if_neg (by simp),h,if_neg (by simp),(Ik hk).1,(Ik hk).2]
 simp
theorem ru {m:Mov} (h:((Ga m).2 != 0 || (Ao m.back).2 != 0)=true):Ft m=([],3):=by
 unfold Ft
 rw [rt h]
 rfl
theorem Zm {n:Nat} {m:Mov}:Low n (.ro (I0 m)):=.ro _ N8
/-! sound.Lost: what is dropped, what has been turned. -/
theorem Ld {n k:Nat} {o:Bool} {a:List Str} {c:Str}:Low n (.slice o k (a.map Aa++[Aa c])):=by simp [or_imp,forall_and]
theorem c62 (l:List Expr) (hl:l.length≤1048576) (hlo:∀e∈l,okE 61 e) (hlr:∀e∈l,B0 D6 e=true) (Hp:List AObj):AFun Tryz.prog 62 [Ip l] Hp (.tup [Du (Ao l).1,A3 (Ao l).2]):=by
 refine ACall.body [.tmp 2,.tmp 3] [0] Tryz.func62 Tryz.ntmps62 (fun d=>?_)
 refine Z3 ?_;refine R.fin [0] ?_;refine Z0 ?_;refine R.fin [0,4] ?_;refine Z76 ?_;refine R.nilSl 4 1 ?_;refine Z6 ?_;refine R.fin [4,9,10,11] ?_
 refine AW.loopC (α:=Nat) (fun x=>⟨29,A6 4 (.slice true 1 (((l.take x).map fun e=>(Ek e).1).map Aa)) (A6 9 (Ip l) (A6 10 (A3 (l.length:Nat)) (A6 11 (A3 (x:Nat)) (fun _=>.any)))),Hp,[],[],none⟩) (fun x=>x≤l.length∧∀(j:Nat) (y:Expr),j<x→l[j]? = some y→((Ek y).2 != 0)=false) (fun x=>l.length-x) (0) ⟨Nat.zero_le _,fun j y h=>by omega⟩ (StLe.of_eq (by simp)) rfl (fun x hx=>?_)
 refine Z0 ?_;refine R.fin [4,9,10,11,12] ?_
 refine W.condX (fun ht12=>?_) (fun ht12=>?_)
 ·have hlt:x<l.length:=by simpa using ht12
  refine ng ?_
  refine R.go (h:=Q.indexAddr (x) (A5 l[x]) (fun _=>Am hlt)) (hr:=?_)
  refine Xi ?_;refine R.fin [4,6,9,10,11] ?_;refine Z0 ?_;refine R.call Tryz.call101 (AE5 61 l[x] (hlo _ (List.getElem_mem hlt)) (by decide) (hlr _ (List.getElem_mem hlt)) _) ?_;refine Lu ?_;refine R.fin [4,7,8,9,10,11] ?_;refine Z31 ?_;refine R.fin [4,7,8,9,10,11,21] ?_
  refine W.cond (fun ht21=>?_) (fun ht21=>?_)
  ·have hm:=V2 hx.2 (List.getElem?_eq_getElem hlt) ht21
   refine Z3 ?_;refine R.nilTmp 2 1 false ?_;refine R.go ?_;refine Z82 ?_;exact xi
  refine Z5 ?_;refine j8 ?_;refine R.go ?_;refine Jc ?_
  refine R.append jU Tryz.type9 ?_ ?_ ?_
  ·simp only [List.length_map,List.length_take,List.length_cons,List.length_nil,Tryz.t9];omega
  ·simp only [List.length_map,List.length_take,List.length_cons,List.length_nil,Tryz.t9];omega
  refine R.assignT ?_;refine R.fin [4,9,10,11] ?_;refine Z88 ?_;refine R.fin [4,9,10,11] ?_;refine K.lpN (x+1) ⟨hlt,Az hlt hx.2 ht21⟩ (by omega) ?_
  rw [La hlt,List.map_append,List.map_cons,List.map_nil]
  exact StCut.take (own:=[]) (fun _=>.refl _) (by repeat (first|exact C5|refine C4 (by first|exact Sm|exact Ld|exact Lc|exact Zm|(simp [or_imp,forall_and];done)) ?_)) (by simp) (by simp)
 have hxe:l.length≤x:=by simpa using ht12
 have hm:=V1 fun j y hy=>hx.2 j y (by have:=(List.getElem?_eq_some_iff.1 hy).1;omega) hy
 rw [List.take_of_length_le hxe]
 refine Z23 ?_;refine Z19 ?_;refine Z21 ?_;exact K.fin (V.two V.tmp V.tmp) ⟨by rw [hm],rfl⟩

theorem c61 (m:Mov) (h:OkMov m) (ha:m.ahead.length=m.give.length) (Hp:List AObj):AFun Tryz.prog 61 [Dp m] Hp (.tup [Aa (Ga m).1,A3 (Ga m).2]):=by
 have hT:=(Fm m.ahead).1
 have hTl:=(Fm m.ahead).2
 have hgl:=Q6 (m:=m) (T:=(Ao m.ahead).1) (by omega)
 have hg2:=h.gives2
 have hjl:=Om h ha
 refine ACall.body [.tmp 2,.tmp 3] [0] Tryz.func61 Tryz.ntmps61 (fun d=>?_)
 refine Z19 ?_;refine R.fin [1] ?_;refine Z3 ?_;refine R.call Tryz.call62 (c62 m.ahead h.ahead.len h.ahead.ok h.ahead.rng _) ?_;refine Lu ?_;refine R.fin [1,4,5] ?_;refine Z0 ?_;refine R.fin [1,4,5,6] ?_;refine Z76 ?_;refine R.nilSl 6 1 ?_;refine Z6 ?_;refine R.fin [1,5,6,15,16,17] ?_
 refine AW.loopC (α:=Nat) (fun x=>⟨47,A6 1 (.ro (I0 m)) (A6 5 (A3 (Ao m.ahead).2) (A6 6 (.slice true 1 (((gvs m (Ao m.ahead).1).take x).map Aa)) (A6 15 (Du (Ao m.ahead).1) (A6 16 (A3 ((Ao m.ahead).1.length:Nat)) (A6 17 (A3 (x:Nat)) (fun _=>.any)))))),Hp,[],[],none⟩) (fun x=>x≤(Ao m.ahead).1.length) (fun x=>(Ao m.ahead).1.length-x) (0) (Nat.zero_le _) (StLe.of_eq (by simp)) rfl (fun x hx=>?_)
 refine Z0 ?_;refine R.fin [1,5,6,15,16,17,18] ?_
 refine W.condX (fun ht18=>?_) (fun ht18=>?_)
 ·have hlt:x<(Ao m.ahead).1.length:=by simpa using ht18
  have hxg:x<m.give.length:=by omega
  have hn1:=h.gives.2 _ (List.getElem_mem hxg)
  have hn2:=He m.give[x].kind
  have hn3:=hTl _ (List.getElem_mem hlt)
  refine ax ?_
  refine R.go (h:=Q.indexAddr (x) (Aa (Ao m.ahead).1[x]) (fun _=>Am hlt)) (hr:=?_)
  refine Z6 ?_;refine R.fin [1,5,6,7,8,15,16,17] ?_;refine W.drawY0 [0,0,2,0,14,30,62,126,0,256,0,1792,3840,7936,16128,32766,65534,0,262142,524286,1048575,2097151] [] [.s [6,22] none [] [],.q 19 [] []] (fun _=>Hp) (fun _=>[]) Ab (by kernel_rfl) rfl rfl (fun _=>rfl) ?_;refine Y.moveT ?_
  apply Y.q
  case h1 =>
   intro B hT hF
   refine Z37 ?_
   refine D.go (h:=Q.indexAddr (x) (Bu m.give[x]) (fun _=>Am hxg)) (hr:=?_)
   refine Z9 ?_
   refine D.go (h:=Q.sadd (hl:=fun _=>by simp only [List.length_cons,List.length_nil];omega)) (hr:=?_)
   refine Z37 ?_
   refine D.go (h:=Q.indexAddr (x) (Bu m.give[x]) (fun _=>Am hxg)) (hr:=?_)
   refine Z9 ?_;refine D.call Tryz.call68 (c68 _ _) ?_
   refine D.go (h:=Q.sadd (hl:=fun _=>by simp only [List.length_append,List.length_cons,List.length_nil];omega)) (hr:=?_)
   refine D.go (h:=Q.sadd (hl:=fun _=>by simp only [List.length_append,List.length_cons,List.length_nil];omega)) (hr:=?_)
   refine D.go ?_
   refine D.go (h:=Q.sadd (hl:=fun _=>by simp only [List.length_append,List.length_cons,List.length_nil];omega)) (hr:=?_)
   exact Z33
  case hTF=>decide
  refine Y.tail (tn:=[])  ?_
  refine R.append jU Tryz.type9 ?_ ?_ ?_
  ·simp only [List.length_map,List.length_take,List.length_cons,List.length_nil,Tryz.t9];omega
  ·simp only [List.length_map,List.length_take,List.length_cons,List.length_nil,Tryz.t9];omega
  refine R.assignT ?_;refine R.fin [1,5,6,15,16,17] ?_;refine Z88 ?_;refine R.fin [1,5,6,15,16,17] ?_;refine K.lpN (x+1) hlt (by omega) ?_
  rw [La (by omega:x<(gvs m (Ao m.ahead).1).length),rq hlt hxg]
  exact StCut.take (own:=[]) (fun _=>.refl _) (by repeat (first|exact C5|refine C4 (by first|exact Sm|exact Ld|exact Lc|exact Zm|(simp [or_imp,forall_and];done)) ?_)) (by simp) (by simp)
 have hxe:(Ao m.ahead).1.length≤x:=by simpa using ht18
 rw [List.take_of_length_le (by omega:(gvs m (Ao m.ahead).1).length≤x)]
 refine Z23 ?_;refine Z0 ?_
 refine R.call Tryz.call63 (c63 (gvs m (Ao m.ahead).1) [44,32] (by omega) (by rw [Wo];omega) _) ?_
 refine Z6 ?_;refine Z21 ?_;exact K.fin (V.two V.tmp V.tmp) ⟨by rw [Ks,←Wo]<;>rfl,rfl⟩

theorem c30 (m:Mov) (h:OkMov m) (hv:Cf m=true) (Hp:List AObj):AFun Tryz.prog 30 [Dp m] Hp (.tup [Aa (Ft m).1,A3 (Ft m).2]):=by
 have ha:=(Dq (Fs hv)).1
 have hgl:(Ga m).1.length≤1100000000000:=by rw [Ks];exact Om h ha
 have htl:=On h
 have hbl:=V3 h
 have hwl:=Kt m.kind
 have htk:=h.takes
 have hbk:=h.back.len
 have hbt:=(Fm m.back).1
 refine ACall.body [.tmp 2,.tmp 3] [0] Tryz.func30 Tryz.ntmps30 (fun d=>?_)
 refine Z19 ?_;refine R.fin [1] ?_;refine Z0 ?_;refine R.call Tryz.call61 (c61 m h ha _) ?_;refine Lu ?_;refine R.fin [1,4,5] ?_;refine Z3 ?_;refine R.call Tryz.call62 (c62 m.back h.back.len h.back.ok h.back.rng _) ?_;refine Lu ?_;refine R.fin [1,4,5,6,7] ?_;refine Z22 ?_;refine Qo ?_;refine R.fin [1,4,6,27] ?_
 refine W.cond (fun ht27=>?_) (fun ht27=>?_)
 ·have e:=ru ht27
  refine an ?_;exact ABc
 have hk:=lx ht27
 refine Z5 ?_;refine Z3 ?_;refine R.call Tryz.call63 (ACe m.take (by omega) (by omega) _) ?_;refine R.go ?_;refine R.fin [1,4,6,8] ?_;refine Z0 ?_;refine R.call Tryz.call63 (ACe (Ao m.back).1 (by omega) (by omega) _) ?_;refine Z1 ?_;refine R.fin [1,4,8,9] ?_;refine Z3 ?_;refine R.call Tryz.call12 (c12 _ _) ?_;refine Z1 ?_;refine R.fin [1,4,8,9,10] ?_;refine Z31 ?_;refine R.fin [1,4,8,9,10,39] ?_;refine Z69 ?_;refine R.fin [1,4,8,9,10,39,48] ?_
 refine W.cond (fun ht48=>?_) (fun ht48=>?_)
 ·have e:=zg hk ht48
  refine Z30 ?_;refine Z1 ?_;exact n9
 refine Z3 ?_;refine R.fin [1,4,8,9,10,39,53] ?_
 refine W.cond (fun ht53=>?_) (fun ht53=>?_)
 ·have e:=zh hk ht48 ht53
  refine Z30 ?_;refine Z79 ?_;exact n9
 refine Z3 ?_;refine R.fin [1,4,8,9,10,39,60] ?_
 refine W.cond (fun ht60=>?_) (fun ht60=>?_)
 ·obtain ⟨y,hy⟩:=qv (Iz (Fs hv) (by rw [ht60];rfl)).2
  have e:=zi hk ht48 ht53 ht60 hy
  have hyl:=h.gives.2 y (by rw [hy];exact List.mem_cons_self)
  refine Z30 ?_;refine Z6 ?_
  refine R.go (h:=Q.indexAddr (0) (Bu y) (fun _=>by rw [hy];rfl)) (hr:=?_)
  refine Lu ?_;exact n9
 refine Z3 ?_;refine R.fin [4,8,9,10,72] ?_
 refine W.cond (fun ht72=>?_) (fun ht72=>?_)
 ·have e:=zj hk ht48 ht53 ht60 ht72
  refine Z30 ?_;refine Z79 ?_;exact n9
 have e:=zk hk ht48 ht53 ht60 ht72
 refine Z30 ?_;refine Z79 ?_;refine Z6 ?_;exact n9

theorem c13 (l:List Mov) (h:OkMovs l) (Hp:List AObj):AFun Tryz.prog 13 [Ca l] Hp (.tup [Aa (H4 l).1,A3 (H4 l).2]):=by
 refine ACall.body [.tmp 2,.tmp 3] [0] Tryz.func13 Tryz.ntmps13 (fun d=>?_)
 refine Z3 ?_;refine R.fin [0] ?_;refine Z8 ?_;refine R.call Tryz.call14 (c14 l h _) ?_;refine R.go ?_;refine R.fin [0,11] ?_
 refine W.cond (fun ht11=>?_) (fun ht11=>?_)
 ·have hm:=V4 ht11
  exact AA6
 have hr:I1 l=true:=by simpa using ht11
 unfold I1 at hr
 simp only [Bool.and_eq_true,decide_eq_true_eq,List.all_eq_true] at hr
 obtain ⟨h8,hall⟩:=hr
 refine Z5 ?_;refine Z27 ?_;refine R.fin [0,4] ?_;refine Z76 ?_;refine R.toBld 0 74 5 ?_;refine Z6 ?_;refine R.fin [4,12,13,14] ?_
 refine AW.loopC (α:=Nat) (fun x=>⟨32,A6 4 (.ptr (oid Hp.length 0) 0) (A6 12 (Ca l) (A6 13 (A3 (l.length:Nat)) (A6 14 (A3 (x:Nat)) (fun _=>.any)))),Hp,[Zf ((l.take x).flatMap mvS)],[],none⟩) (fun x=>x≤l.length∧∀(j:Nat) (y:Mov),j<x→l[j]? = some y→B2 y=true) (fun x=>l.length-x) (0) ⟨Nat.zero_le _,fun j y h=>by omega⟩ (StLe.of_eq (by simp)) rfl (fun x hx=>?_)
 refine Z0 ?_;refine R.fin [4,12,13,14,15] ?_
 refine W.condX (fun ht15=>?_) (fun ht15=>?_)
 ·have hlt:x<l.length:=by simpa using ht15
  have hv1:=hall _ (List.getElem_mem hlt)
  have hfl:((l.take x).flatMap mvS).length≤x*3000000000000:=Oo fun j y hj hy=>Q7 (h.each _ (List.mem_of_getElem? hy)) (Dq (Fs (hall _ (List.mem_of_getElem? hy)))).1 (hx.2 j y hj hy)
  refine ng ?_
  refine R.go (h:=Q.indexAddr (x) (Dp l[x]) (fun _=>Am hlt)) (hr:=?_)
  refine Xi ?_;refine R.fin [4,6,12,13,14] ?_;refine Z0 ?_;refine R.call Tryz.call30 (c30 l[x] (h.each _ (List.getElem_mem hlt)) hv1 _) ?_;refine Lu ?_;refine R.fin [4,7,8,12,13,14] ?_;refine Z31 ?_;refine R.fin [4,7,8,12,13,14,24] ?_
  refine W.cond (fun ht24=>?_) (fun ht24=>?_)
  ·have hk:B2 l[x]=false:=by
    cases e:B2 l[x] with
    | true=>unfold Ft at ht24;rw [e] at ht24;simp at ht24
    | false=>rfl
   have hm:=dq ht11 hlt hk
   have et:Ft l[x]=([],3):=by unfold Ft;rw [hk];rfl
   refine Z19 ?_;refine Z82 ?_;refine Z32 ?_;exact K.fin (V.two V.tmp V.tmp) ⟨by rw [hm,et]<;>rfl,rfl⟩
  have hk:B2 l[x]=true:=by
   cases e:B2 l[x] with
   | true=>rfl
   | false=>unfold Ft at ht24;rw [e] at ht24;simp at ht24
  have et:Ft l[x]=(mvS l[x],0):=by unfold Ft;rw [hk];rfl
  have hml:=Q7 (h.each _ (List.getElem_mem hlt)) (Dq (Fs hv1)).1 hk
  rw [et]
  refine Z5 ?_;refine Z66 ?_
  refine R.callOwn (n:=0) (x:=Zf ((l.take x).flatMap mvS++mvS l[x])) Tryz.call31 (AE6 ((l.take x).flatMap mvS) (mvS l[x]) (by omega) (oid Hp.length 0) _ (by rw [Br];rfl)) ?_ (hset:=List.set_cons_zero)
  refine R.fin [4,12,13,14] ?_;refine Z88 ?_;refine R.fin [4,12,13,14] ?_;refine K.lpN (x+1) ⟨hlt,Az hlt hx.2 hk⟩ (by omega) ?_
  rw [Ho hlt]
  exact StCut.take (own:=[Zf ((l.take x).flatMap mvS++mvS l[x])]) (fun _=>.refl _) (by repeat (first|exact C5|refine C4 (by first|exact Ea|(simp [oid,or_imp,forall_and];done)) ?_)) (by intro z hz;rw [List.mem_singleton.1 hz];exact rg) (by simp)
 have hxe:l.length≤x:=by simpa using ht15
 have hm:=dr ht11 fun j y hy=>hx.2 j y (by have:=(List.getElem?_eq_some_iff.1 hy).1;omega) hy
 rw [List.take_of_length_le hxe]
 refine Z23 ?_;refine Z76 ?_
 refine R.call Tryz.call32 (AEb (l.flatMap mvS) (oid Hp.length 0) _ (by rw [Br];rfl)) ?_
 refine R.go ?_;refine R.fin [4,30] ?_
 refine W.cond (fun ht30=>?_) (fun ht30=>?_)
 ·rw [if_pos (by have:=of_decide_eq_true ht30;omega)] at hm
  exact AA6
 rw [if_neg (by have:=of_decide_eq_false ht30;omega)] at hm
 refine aq ?_
 refine R.callOwn (n:=0) (x:=.cells 74 [.any,.any]) Tryz.call33 (AE7 (l.flatMap mvS) (oid Hp.length 0) _ (by rw [Br];rfl)) ?_ (hset:=List.set_cons_zero)
 refine Z1 ?_;exact AAc

/-- Moves whose numbers are ones of 64 bits. -/
structure RngMv (m:Mov):Prop where
 ahead:∀e∈m.ahead,B0 D6 e=true
 back:∀e∈m.back,B0 D6 e=true
theorem Zn {l:List Expr} (h20:l.length≤1048576) (h:l.any Rh=false) (hr:∀e∈l,B0 D6 e=true):OkEs l:=by
 have h1:∀e∈l,Slim e:=fun e he=>uh (by
  rw [List.any_eq_false] at h
  simpa using h e he)
 exact ⟨h20,fun e he=>(h1 e he).ok,fun e he=>by have:=(h1 e he).size;omega,hr⟩
theorem ly {m:Mov} (h:I7 m=false) (hr:RngMv m):OkMov m:=by
 unfold I7 at h
 simp only [Bool.or_eq_false_iff,decide_eq_false_iff_not] at h
 obtain ⟨⟨⟨⟨⟨⟨h1,h2⟩,h3⟩,h4⟩,h5⟩,h6⟩,h7⟩:=h
 have h50:m.give.length≤1000000:=by
  unfold Kc at h1
  simp only [Bool.or_eq_false_iff,decide_eq_false_iff_not] at h1
  omega
 refine ⟨by omega,fun s hs=>?_,uq h1,h50,Zn (by omega) h6 hr.ahead,Zn (by omega) h7 hr.back⟩
 rw [List.any_eq_false] at h5
 have:=h5 s hs
 simp only [decide_eq_true_eq] at this
 omega
theorem V5 {l:List Mov} (h:Fl l=false) (hr:∀m∈l,RngMv m):OkMovs l:=by
 unfold Fl at h
 simp only [Bool.or_eq_false_iff,decide_eq_false_iff_not] at h
 refine ⟨by omega,fun m hm=>ly ?_ (hr m hm)⟩
 rw [List.any_eq_false] at h
 simpa using h.2 m hm
/-! What mig.Parse hands back is right, and may be walked. -/
structure TrE (e:Expr):Prop where
 right:Ax e=true
 rng:B0 D6 e=true
 need:Ag e≤30
theorem wh {l:List Tok} {i:Nat} (h0:(atM l i).2.2.1=0):Ag (atM l i).1≤30:=by
 unfold atM at h0 ⊢
 split
 ·exact ky
 rename_i hc
 have hc:(atS l i (atR l i)).code=0:=by simpa using hc
 have hr:(atR l i).2.code=0:=by
  unfold atS at hc
  split at hc
  ·exact hc
  rename_i hh;simpa using hh
 have:=((cz l 30 0 rfl).1 ⟨i,0,0,0⟩ rfl).need hr
 have h2:=(N5 0 (atR l i).1 (Ag (atR l i).1)).1
 show Ag (atR l i).1≤30
 unfold atR at h2 ⊢
 omega
theorem rx {L:List Tok} (hw:∀i,WordOk (A7 L i)) {i:Nat} (ha:(atM L i).2.2.1=0):TrE (atM L i).1:=by
 have hneed:=wh ha
 revert hneed
 unfold atM at ha ⊢
 by_cases hc:((atS L i (atR L i)).code != 0)=true
 ·rw [if_pos hc] at ha
  rw [show (atS L i (atR L i)).code=0 from ha] at hc
  cases hc
 rw [if_neg hc]
 have hc:(atS L i (atR L i)).code=0:=by simpa using hc
 have h0:(atR L i).2.code=0∧depthE (atR L i).1≤30∧sizeE (atR L i).1≤300:=by
  unfold atS at hc
  split at hc
  ·rename_i hh;exact absurd hc (by simpa using hh)
  rename_i hh
  split at hc
  ·exact xt
  rename_i h2
  split at hc
  ·exact xt
  rename_i h3
  simp only [decide_eq_true_eq,Int.not_lt] at h2 h3
  exact ⟨by simpa using hh,by omega,by omega⟩
 have:=(qj _ hw 30 0 rfl).1 ⟨i,0,0,0⟩ rfl h0.1
 refine fun hneed=>⟨?_,this.2,hneed⟩
 unfold Ax
 rw [Bool.and_eq_true,Bool.and_eq_true]
 exact ⟨⟨by simpa using h0.2.1,by simpa using h0.2.2⟩,this.1⟩
theorem dt {s:Str} (hl:(Db s).2.1=0):∀i,WordOk (A7 (Db s).1 i):=fun i=>by
 obtain ⟨_,hi,hM⟩:=W7 hl
 have hall:∀t∈(Db s).1,WordOk t:=fun t ht=>by
  rw [hM] at ht
  rcases List.mem_append.1 ht with ht|ht
  ·obtain ⟨it,hit,rfl⟩:=List.mem_map.1 ht
   exact Yp _ _ _ it hit (hi it hit)
  rw [List.mem_singleton.1 ht]
  exact yw _
 unfold A7
 rw [List.getD_eq_getElem?_getD]
 cases hg:(Db s).1[i]? with
 | none=>exact ⟨(fun h=>by cases h),(fun h=>by cases h)⟩
 | some t=>exact hall t (List.mem_of_getElem? hg)
theorem i6 {L:List Tok} (hw:∀i,WordOk (A7 L i)) {i:Nat} {x:Expr} {j:Nat} (h:Fw L i=.ok x j):TrE x:=by
 unfold Fw at h
 split at h
 ·cases h
 rename_i h1
 injection h with h2 _
 rw [←h2]
 exact rx hw (by simpa using h1)
theorem Lf {L:List Tok} (hw:∀i,WordOk (A7 L i)) {i:Nat} {s:Str} {j:Nat} (h:De L i=.ok s j):E0 s=true:=by
 unfold De at h
 split at h
 ·cases h
 rename_i h1
 injection h with h2 _
 rw [←h2]
 exact (hw i).name (by simpa using h1)
theorem V6 {s:Str} (h:(Ig s==0)=false):1≤Ig s∧Ig s≤3:=by
 unfold Ig at h ⊢
 repeat' split at h
 all_goals simp_all
structure ColG (c:Col):Prop where
 name:E0 c.name=true
 lo:1≤c.kind
 hi:c.kind≤3
theorem lz {L:List Tok} (hw:∀i,WordOk (A7 L i)) {i:Nat} {c:Col} {j:Nat} (h:Ez L i=.ok c j):ColG c:=by
 obtain ⟨s,j1,h1,h2⟩:=PR.bind_ok h
 unfold N0 at h2
 split at h2
 ·cases h2
 rename_i h3
 injection h2 with h2 _
 have h3:(Ig (A7 L j1).text==0)=false:=by
  simp only [Bool.or_eq_true,not_or,Bool.not_eq_true] at h3
  exact h3.2
 rw [←h2]
 exact ⟨Lf hw h1,(V6 h3).1,(V6 h3).2⟩
/-- The parts of a move, so far. -/
structure MvG (m:Mov):Prop where
 takes:∀s∈m.take,E0 s=true
 gives:∀c∈m.give,ColG c
 len:m.ahead.length=m.give.length
 aheads:∀x∈m.ahead,TrE x
 backs:∀x∈m.back,TrE x
theorem MvG.nil (k:Int):MvG ⟨k,[],[],[],[]⟩:=⟨(fun s h=>by cases h),(fun s h=>by cases h),rfl,(fun s h=>by cases h),(fun s h=>by cases h)⟩
theorem Q8 {L:List Tok} (hw:∀i,WordOk (A7 L i)) {m:Mov} (hm:MvG m) {i:Nat} {m':Mov} {j:Nat} (h:C0 L m i=.ok m' j):MvG m'∧∃c x,ColG c∧m'=J0 (Bi m c) x:=by
 obtain ⟨c,j1,h1,h2⟩:=PR.bind_ok h
 obtain ⟨u,j2,h3,h4⟩:=PR.bind_ok h2
 obtain ⟨x,j3,h5,h6⟩:=PR.bind_ok h4
 injection h6 with h6 _
 have hc:=lz hw h1
 have hx:=i6 hw h5
 subst h6
 refine ⟨⟨hm.takes,fun y hy=>?_,?_,fun y hy=>?_,hm.backs⟩,c,x,hc,rfl⟩
 ·rcases List.mem_append.1 hy with h|h
  ·exact hm.gives y h
  rw [List.mem_singleton.1 h];exact hc
 ·show (m.ahead++[x]).length=(m.give++[c]).length
  rw [List.length_append,List.length_append,hm.len]
  rfl
 rcases List.mem_append.1 hy with h|h
 ·exact hm.aheads y h
 rw [List.mem_singleton.1 h];exact hx
theorem Zo {L:List Tok} (hl:TokEnd L) {n:Int} {one:Mov→Nat→PR Mov} {P:Nat→Mov→Prop} (hP:∀k m i m' j,P k m→i<L.length→one m i=.ok m' j→P (k+1) m'∧i≤j∧j<L.length):
  ∀(f k:Nat) (m:Mov) (i:Nat) (m':Mov) (j:Nat),i<L.length→L.length≤i+f→P k m→Fz L n one f k m i=.ok m' j→(∃c,P c m'∧(n=0→2≤c)∧(0<n→(k:Int)≤n→(c:Int)=n))∧j<L.length
 | 0,k,m,i,m',j,hi,hf,hm,h=>by omega
 | f+1,k,m,i,m',j,hi,hf,hm,h=>by
  rw [Fz] at h
  split at h
  ·rename_i hq
   obtain ⟨u,j1,h1,h2⟩:=PR.bind_ok h
   obtain ⟨m1,j2,h3,h4⟩:=PR.bind_ok h2
   have e:=I3 h1
   have a1:=D8 hl hi _ _ h1
   obtain ⟨b1,b2,b3⟩:=hP k m j1 m1 j2 hm a1.2 h3
   obtain ⟨⟨c,c1,c2,c3⟩,c4⟩:=Zo hl hP f (k+1) m1 j2 m' j b3 (by omega) b1 h4
   refine ⟨⟨c,c1,c2,fun h0 hk=>c3 h0 ?_⟩,c4⟩
   unfold H7 at hq
   have:(n==0)=false:=by simp;omega
   rw [this] at hq
   simp at hq
   omega
  rename_i hq
  injection h with h1 h2
  subst h1;subst h2
  unfold H7 at hq
  refine ⟨⟨k,hm,fun h0=>?_,fun h0 hk=>?_⟩,hi⟩
  ·rw [h0] at hq
   simp at hq
   omega
  simp at hq
  omega
theorem Wp {L:List Tok} (hl:TokEnd L) {n:Int} {one:Mov→Nat→PR Mov} {P:Nat→Mov→Prop} (hP:∀k m i m' j,P k m→i<L.length→one m i=.ok m' j→P (k+1) m'∧i≤j∧j<L.length) {m:Mov} {i:Nat} {m':Mov} {j:Nat} (hi:i<L.length) (hm:P 0 m) (h:Df L n one m i=.ok m' j):(∃c,P c m'∧(n=0→2≤c)∧(0<n→(c:Int)=n))∧j<L.length:=by
 obtain ⟨m1,j1,h1,h2⟩:=PR.bind_ok h
 obtain ⟨b1,b2,b3⟩:=hP 0 m i m1 j1 hm hi h1
 obtain ⟨⟨c,c1,c2,c3⟩,c4⟩:=Zo hl hP _ 1 m1 j1 m' j b3 (by omega) b1 h2
 exact ⟨⟨c,c1,c2,fun h0=>c3 h0 (by omega)⟩,c4⟩
theorem Oq {L:List Tok} (hl:TokEnd L) (hll:L.length≤500000) {m:Mov} {i:Nat} {m':Mov} {j:Nat} (hi:i<L.length) (h:C0 L m i=.ok m' j):i≤j∧j<L.length:=by
 obtain ⟨c,j1,h1,h2⟩:=PR.bind_ok h
 obtain ⟨u,j2,h3,h4⟩:=PR.bind_ok h2
 obtain ⟨x,j3,h5,h6⟩:=PR.bind_ok h4
 injection h6 with _ h7
 subst h7
 have a1:=O7 hl hi _ _ h1
 have a2:=D8 hl a1.2 _ _ h3
 have a3:=Jk hl hll a2.2 h5
 exact ⟨by omega,a3.2⟩
/-- The trees back. -/
theorem Q9 {L:List Tok} (hl:TokEnd L) (hll:L.length≤500000) (hw:∀i,WordOk (A7 L i)) {m:Mov} (hm:MvG m) (h0:m.back=[]) (h1:1≤m.take.length) {i:Nat} (hi:i<L.length) {m':Mov} {j:Nat} (h:Ck L m i=.ok m' j):MvG m'∧∃b,b.length=m.take.length∧m'=⟨m.kind,m.take,m.give,m.ahead,b⟩:=by
 obtain ⟨u,j1,h2,h3⟩:=PR.bind_ok h
 have a1:=D8 hl hi _ _ h2
 obtain ⟨⟨c,⟨c1,b,hb,e⟩,c2,c3⟩,_⟩:=Wp (P:=fun k m'=>MvG m'∧∃b:List Expr,b.length=k∧m'=⟨m.kind,m.take,m.give,m.ahead,b⟩) hl (fun k m1 i m2 j hq hi h=>by
  obtain ⟨g,b,hb,e⟩:=hq
  obtain ⟨x,j1,h1,h2⟩:=PR.bind_ok h
  injection h2 with h2 h3
  subst h3
  have a:=Jk hl hll hi h1
  have hx:=i6 hw h1
  subst h2
  refine ⟨⟨⟨g.takes,g.gives,g.len,g.aheads,fun y hy=>?_⟩,b++[x],by rw [List.length_append,hb];rfl,by rw [e];rfl⟩,a.1,a.2⟩
  rcases List.mem_append.1 hy with h|h
  ·exact g.backs y h
  rw [List.mem_singleton.1 h];exact hx) a1.2 ⟨hm,[],rfl,by rw [←h0]⟩ h3
 have:=c3 (by omega)
 exact ⟨c1,b,by omega,e⟩
/-- A move that is parsed, its counts and last words. -/
structure MvP (m:Mov):Prop where
 takes:∀s∈m.take,E0 s=true
 gives:∀c∈m.give,E0 c.name=true
 kinds:m.kind≠3→∀c∈m.give,1≤c.kind∧c.kind≤3
 kind3:m.kind=3→∀c∈m.give,c.kind=0
 counts:Bs m=true
 last:E8 m=true
 aheads:∀x∈m.ahead,TrE x
 backs:∀x∈m.back,TrE x
theorem Zp {s:Str} (h:E0 s=true):TrE (Aq s):=⟨by
 have:=ca s
 rw [←Cu]
 rw [this]
 exact h,rfl,by rw [Aq];simp [Ag,P8,H6]⟩
theorem MvG.p {m:Mov} (h:MvG m) (hk:m.kind≠3) (hc:Bs m=true) (hl:E8 m=true):MvP m:=⟨h.takes,fun c hc=>(h.gives c hc).name,fun _ c hc=>⟨(h.gives c hc).lo,(h.gives c hc).hi⟩,fun h3=>absurd h3 hk,hc,hl,h.aheads,h.backs⟩
theorem Hq {m:Mov} (h1:m.ahead.length=m.give.length) (h2:m.back.length=m.take.length) (h:(m.kind=1∧m.take.length=0∧m.give.length=1)∨(m.kind=2∧m.take.length=1∧m.give.length=0)∨((m.kind=3∨m.kind=6)∧m.take.length=1∧m.give.length=1)∨(m.kind=4∧m.take.length=1∧1<m.give.length)∨(m.kind=5∧1<m.take.length∧m.give.length=1)):Bs m=true:=by
 unfold Bs
 rw [if_neg (by simp [h1,h2])]
 rcases h with ⟨e,a,b⟩|⟨e,a,b⟩|⟨e|e,a,b⟩|⟨e,a,b⟩|⟨e,a,b⟩<;>rw [e]<;>simp [a,b]<;>omega
theorem Qa {m:Mov} (h3:m.kind≠3) (h6:m.kind≠6):E8 m=true:=by
 unfold E8
 rw [if_neg (by simpa using h3),if_neg (by simpa using h6)]
theorem wi {L:List Tok} (hl:TokEnd L) (hll:L.length≤500000) (hw:∀i,WordOk (A7 L i)) {k:Int} (hk:1≤k∧k≤6) {i:Nat} (hi:i<L.length) {m:Mov} {j:Nat} (h:Ei L ⟨k,[],[],[],[]⟩ i=.ok m j):MvP m:=by
 have hg:=MvG.nil k
 unfold Ei at h
 split at h
 ·rename_i hk1
  have hk1:k=1:=by simpa using hk1
  obtain ⟨g,c,x,hc,e⟩:=Q8 hw hg h
  subst e
  exact g.p (by show k≠3;omega) (Hq g.len rfl (.inl ⟨hk1,rfl,rfl⟩)) (Qa (by show k≠3;omega) (by show k≠6;omega))
 split at h
 ·rename_i hk1
  have hk1:k=2:=by simpa using hk1
  obtain ⟨s,j1,h1,h2⟩:=PR.bind_ok h
  have hs:=Lf hw h1
  have a1:=Ej hl hi _ _ h1
  have g0:MvG (takeS ⟨k,[],[],[],[]⟩ s):=⟨fun y hy=>by rw [List.mem_singleton.1 hy];exact hs,hg.gives,rfl,hg.aheads,hg.backs⟩
  obtain ⟨g,b,hb,e⟩:=Q9 hl hll hw g0 rfl (Nat.le_refl _) a1.2 h2
  subst e
  exact g.p (by show k≠3;omega) (Hq rfl hb (.inr (.inl ⟨hk1,rfl,rfl⟩))) (Qa (by show k≠3;omega) (by show k≠6;omega))
 split at h
 ·rename_i hk1
  have hk1:k=3:=by simpa using hk1
  obtain ⟨s,j1,h1,h2⟩:=PR.bind_ok h
  obtain ⟨u,j2,h3,h4⟩:=PR.bind_ok h2
  obtain ⟨t,j3,h5,h6⟩:=PR.bind_ok h4
  injection h6 with h6 _
  have hs:=Lf hw h1
  have ht:=Lf hw h5
  subst h6
  refine ⟨fun y hy=>by rw [List.mem_singleton.1 hy];exact hs,fun y hy=>by rw [List.mem_singleton.1 hy];exact ht,fun h=>absurd hk1 h,fun _ y hy=>by rw [List.mem_singleton.1 hy],Hq rfl rfl (.inr (.inr (.inl ⟨.inl hk1,rfl,rfl⟩))),?_,fun y hy=>by rw [List.mem_singleton.1 hy];exact Zp hs,fun y hy=>by rw [List.mem_singleton.1 hy];exact Zp ht⟩
  unfold E8
  rw [if_pos (by simpa using hk1)]
  show (eqE (Aq s) (Aq s)&&eqE (Aq t) (Aq t))=true
  rw [Re,Re]
  rfl
 split at h
 ·rename_i hk1
  have hk1:k=4:=by simpa using hk1
  obtain ⟨s,j1,h1,h2⟩:=PR.bind_ok h
  obtain ⟨u,j2,h3,h4⟩:=PR.bind_ok h2
  obtain ⟨m1,j3,h5,h6⟩:=PR.bind_ok h4
  have hs:=Lf hw h1
  have a1:=Ej hl hi _ _ h1
  have a2:=D8 hl a1.2 _ _ h3
  have g0:MvG (takeS ⟨k,[],[],[],[]⟩ s):=⟨fun y hy=>by rw [List.mem_singleton.1 hy];exact hs,hg.gives,rfl,hg.aheads,hg.backs⟩
  obtain ⟨⟨c,⟨g1,e1,e2,e3,e4⟩,c2,_⟩,c4⟩:=Wp (P:=fun n m'=>MvG m'∧m'.kind=k∧m'.take=[s]∧m'.back=[]∧m'.give.length=n) hl (fun n m1 i m2 j hq hi h=>by
   obtain ⟨g,e1,e2,e3,e4⟩:=hq
   obtain ⟨g',c,x,hc,e⟩:=Q8 hw g h
   have a:=Oq hl hll hi h
   subst e
   exact ⟨⟨g',e1,e2,e3,by show (m1.give++[c]).length=_;rw [List.length_append,e4];rfl⟩,a.1,a.2⟩) a2.2 ⟨g0,rfl,rfl,rfl,rfl⟩ h5
  have c2:=c2 rfl
  obtain ⟨g,b,hb,e⟩:=Q9 hl hll hw g1 e3 (by rw [e2];exact Nat.le_refl _) c4 h6
  subst e
  exact g.p (by show m1.kind≠3;omega) (Hq g1.len hb (.inr (.inr (.inr (.inl ⟨by show m1.kind=4;omega,by show m1.take.length=1;rw [e2];rfl,by show 1<m1.give.length;omega⟩))))) (Qa (by show m1.kind≠3;omega) (by show m1.kind≠6;omega))
 split at h
 ·rename_i hk1
  have hk1:k=5:=by simpa using hk1
  obtain ⟨m1,j1,h1,h2⟩:=PR.bind_ok h
  obtain ⟨u,j2,h3,h4⟩:=PR.bind_ok h2
  obtain ⟨m2,j3,h5,h6⟩:=PR.bind_ok h4
  obtain ⟨⟨c,⟨g1,e1,e2,e3,e4,e5⟩,c2,_⟩,c4⟩:=Wp (P:=fun n m'=>MvG m'∧m'.kind=k∧m'.give=[]∧m'.ahead=[]∧m'.back=[]∧m'.take.length=n) hl (fun n m1 i m2 j hq hi h=>by
   obtain ⟨g,e1,e2,e3,e4,e5⟩:=hq
   obtain ⟨s,j1,h1,h2⟩:=PR.bind_ok h
   injection h2 with h2 h3
   have hs:=Lf hw h1
   have a:=Ej hl hi _ _ h1
   subst h3
   subst h2
   refine ⟨⟨⟨fun y hy=>?_,g.gives,g.len,g.aheads,g.backs⟩,e1,e2,e3,e4,by show (m1.take++[s]).length=_;rw [List.length_append,e5];rfl⟩,by omega,a.2⟩
   rcases List.mem_append.1 hy with h|h
   ·exact g.takes y h
   rw [List.mem_singleton.1 h];exact hs) hi ⟨hg,rfl,rfl,rfl,rfl,rfl⟩ h1
  have c2:=c2 rfl
  have a2:=D8 hl c4 _ _ h3
  obtain ⟨g2,cc,x,hc,e⟩:=Q8 hw g1 h5
  have a3:=Oq hl hll a2.2 h5
  subst e
  obtain ⟨g,b,hb,e⟩:=Q9 hl hll hw g2 e4 (by show 1≤m1.take.length;omega) a3.2 h6
  subst e
  exact g.p (by show m1.kind≠3;omega) (Hq g2.len hb (.inr (.inr (.inr (.inr ⟨by show m1.kind=5;omega,by show 1<m1.take.length;omega,by show (m1.give++[cc]).length=1;rw [e2];rfl⟩))))) (Qa (by show m1.kind≠3;omega) (by show m1.kind≠6;omega))
 split at h
 ·rename_i hk1
  have hk1:k=6:=by simpa using hk1
  obtain ⟨m1,j1,h1,h2⟩:=PR.bind_ok h
  obtain ⟨g,c,x,hc,e⟩:=Q8 hw hg h1
  have a:=Oq hl hll hi h1
  subst e
  have g0:MvG (takeS (J0 (Bi ⟨k,[],[],[],[]⟩ c) x) c.name):=⟨fun y hy=>by rw [List.mem_singleton.1 hy];exact hc.name,g.gives,g.len,g.aheads,g.backs⟩
  obtain ⟨g1,b,hb,e⟩:=Q9 hl hll hw g0 rfl (Nat.le_refl _) a.2 h2
  subst e
  refine g1.p (by show k≠3;omega) (Hq g0.len hb (.inr (.inr (.inl ⟨.inr hk1,rfl,rfl⟩)))) ?_
  unfold E8
  rw [if_neg (by show ¬((k==3)=true);simp;omega),if_pos (by show (k==6)=true;simp;omega)]
  show (c.name==c.name)=true
  simp
 rename_i h1 h2 h3 h4 h5 h6
 simp only [beq_iff_eq] at h1 h2 h3 h4 h5 h6
 omega
theorem du {s:Str} (h:(D7 s==0)=false):1≤D7 s∧D7 s≤6:=by
 unfold D7 at h ⊢
 repeat' split at h
 all_goals simp_all
theorem wj {L:List Tok} (hl:TokEnd L) (hll:L.length≤500000) (hw:∀i,WordOk (A7 L i)) {i:Nat} (hi:i<L.length) {m:Mov} {j:Nat} (h:F8 L i=.ok m j):MvP m:=by
 unfold F8 at h
 split at h
 ·cases h
 rename_i h1
 simp only [Bool.or_eq_true,not_or,Bool.not_eq_true] at h1
 obtain ⟨m1,j1,h2,h3⟩:=PR.bind_ok h
 obtain ⟨u,j2,h4,h5⟩:=PR.bind_ok h3
 injection h5 with h5 _
 subst h5
 exact wi hl hll hw (du h1.2) (hl.step hi (by have:=h1.1;simp at this;omega)) h2
theorem V7 {s:Str} (h:E0 s=true):s.length≤16:=by
 rw [←Cy] at h
 unfold Bf at h
 simp only [Bool.and_eq_true,decide_eq_true_eq] at h
 omega
theorem ry {l:List Expr} (hl:l.length≤1048576) (h:∀x∈l,TrE x):OkEs l:=⟨hl,fun e he=>Fv (by decide) (Uw (h e he).right).1,fun e he=>Nat.le_trans (Uw (h e he).right).2 (by decide),fun e he=>(h e he).rng⟩
theorem MvP.ok {m:Mov} (h:MvP m) {n:Nat} (hn:MvLe m n) (h1:n≤1000000):OkMov m:=
 ⟨by have:=hn.take;omega,fun s hs=>by have:=V7 (h.takes s hs);omega,⟨by have:=hn.give;omega,fun y hy=>by have:=V7 (h.gives y hy);omega⟩,by have:=hn.give;omega,ry (by have:=hn.ahead;omega) h.aheads,ry (by have:=hn.back;omega) h.backs⟩
/-! The same moves. -/
def Ia (x y:Mov):Bool:=((((x.kind==y.kind)&&decide (x.take=y.take))&&decide (x.give=y.give))&&eqL x.ahead y.ahead)&&eqL x.back y.back
def J5 (a b:List Mov):Bool:=decide (a.length=b.length)&&(a.zip b).all fun p=>Ia p.1 p.2
theorem Zq (l:List Expr):eqL l l=true:=(If l l).2 rfl
theorem m0 (m:Mov):Ia m m=true:=by
 unfold Ia
 rw [Zq,Zq]
 simp
theorem V8 (a:List Mov):J5 a a=true:=by
 unfold J5
 rw [decide_eq_true rfl,Bool.true_and,List.all_eq_true]
 intro p hp
 obtain ⟨j,hj,rfl⟩:=List.getElem_of_mem hp
 rw [List.getElem_zip]
 exact m0 _
theorem Zr {a b:List Mov} (h:a.length≠b.length):J5 a b=false:=by
 unfold J5
 rw [decide_eq_false h]
 rfl
theorem Nc {a b:List Mov} {x:Nat} {p q:Mov} (hx:a[x]? = some p) (hb:b[x]? = some q) (h:Ia p q=false):J5 a b=false:=by
 unfold J5
 have:(a.zip b).all (fun p=>Ia p.1 p.2)=false:=by
  rw [List.all_eq_false]
  refine ⟨(p,q),List.mem_of_getElem? (i:=x) ?_,by rw [h];simp⟩
  rw [List.getElem?_zip_eq_some]
  exact ⟨hx,hb⟩
 rw [this,Bool.and_false]
theorem Zs {a b:List Mov} (hl:a.length=b.length) (h:∀(j:Nat) (y z:Mov),j<a.length→a[j]? = some y→b[j]? = some z→Ia y z=true):J5 a b=true:=by
 unfold J5
 rw [decide_eq_true hl,Bool.true_and,List.all_eq_true]
 intro p hp
 obtain ⟨j,hj,rfl⟩:=List.getElem_of_mem hp
 have h1:j<a.length:=by rw [List.length_zip] at hj;omega
 rw [List.getElem_zip]
 exact h j _ _ h1 (List.getElem?_eq_getElem h1) (List.getElem?_eq_getElem (by omega))
theorem xa {a b:List Mov} {x:Nat} {p q:Mov} (hx:a[x]? = some p) (hb:b[x]? = some q) (h:∀(j:Nat) (y z:Mov),j<x→a[j]? = some y→b[j]? = some z→Ia y z=true) (he:Ia p q=true):∀(j:Nat) (y z:Mov),j<x+1→a[j]? = some y→b[j]? = some z→Ia y z=true:=by
 intro j y z hj h1 h2
 rcases Nat.lt_or_ge j x with h3|h3
 ·exact h j y z h3 h1 h2
 have:j=x:=by omega
 subst this
 rw [hx] at h1
 rw [hb] at h2
 injection h1 with h1
 injection h2 with h2
 rw [←h1,←h2]
 exact he
theorem m8 {p q:Mov} (h:(((((p.kind != q.kind) || !(decide (p.take=q.take))) || ((p.give.length:Int) != (q.give.length:Int))) || ((p.ahead.length:Int) != (q.ahead.length:Int))) || ((p.back.length:Int) != (q.back.length:Int)))=true):Ia p q=false:=by
 rw [Bool.eq_false_iff]
 intro e
 unfold Ia at e
 simp only [Bool.and_eq_true,beq_iff_eq,decide_eq_true_eq] at e
 obtain ⟨⟨⟨⟨e1,e2⟩,e3⟩,e4⟩,e5⟩:=e
 rw [e1,e2,e3,(If _ _).1 e4,(If _ _).1 e5] at h
 simp at h
structure MvHead (p q:Mov):Prop where
 kind:p.kind=q.kind
 take:p.take=q.take
 give:p.give.length=q.give.length
 ahead:p.ahead.length=q.ahead.length
 back:p.back.length=q.back.length
theorem wl {p q:Mov} (h:(((((p.kind != q.kind) || !(decide (p.take=q.take))) || ((p.give.length:Int) != (q.give.length:Int))) || ((p.ahead.length:Int) != (q.ahead.length:Int))) || ((p.back.length:Int) != (q.back.length:Int)))=false):MvHead p q:=by
 simp only [Bool.or_eq_false_iff,bne_eq_false_iff_eq,Bool.not_eq_false',decide_eq_true_eq] at h
 obtain ⟨⟨⟨⟨e1,e2⟩,e3⟩,e4⟩,e5⟩:=h
 exact ⟨e1,e2,by omega,by omega,by omega⟩
theorem m9 {p q:Mov} {k:Nat} (h1:k<p.give.length) (h2:k<q.give.length) (h:p.give[k]≠q.give[k]):Ia p q=false:=by
 unfold Ia
 have:decide (p.give=q.give)=false:=decide_eq_false fun e=>h (by simp only [e])
 rw [this]
 simp
theorem dv {p q:Mov} (h:eqL p.ahead q.ahead=false):Ia p q=false:=by
 unfold Ia
 rw [h]
 simp
theorem ma {p q:Mov} (h:eqL p.back q.back=false):Ia p q=false:=by
 unfold Ia
 rw [h]
 simp
theorem rz {p q:Mov} (h:MvHead p q) (h3:p.give=q.give) (h4:eqL p.ahead q.ahead=true) (h5:eqL p.back q.back=true):Ia p q=true:=by
 unfold Ia
 rw [h.kind,h.take,h3,h4,h5]
 simp
theorem c11 (a b:List Mov) (ha:OkMovs a) (Hp:List AObj):AFun Tryz.prog 11 [Ca a,Ca b] Hp (Ap (J5 a b)):=by
 refine ACall.body [.tmp 4] [0,1] Tryz.func11 Tryz.ntmps11 (fun d=>?_)
 refine Z59 ?_;refine Z73 ?_;refine R.fin [0,1,15] ?_
 refine W.cond (fun ht15=>?_) (fun ht15=>?_)
 ·rw [List.length_map,List.length_map] at ht15
  have hm:J5 a b=false:=Zr (by simp at ht15;omega)
  refine Z61 ?_;exact Z20
 rw [List.length_map,List.length_map] at ht15
 have hab:a.length=b.length:=by simp at ht15;omega
 refine Mg ?_;refine R.fin [0,1,5] ?_
 refine AW.loopC (α:=Nat) (fun x=>⟨126,A6 0 (Ca a) (A6 1 (Ca b) (A6 5 (A3 (x:Nat)) (fun _=>.any))),Hp,[],[],none⟩) (fun x=>x≤a.length∧∀(j:Nat) (y z:Mov),j<x→a[j]? = some y→b[j]? = some z→Ia y z=true) (fun x=>a.length-x) (0) ⟨Nat.zero_le _,fun j y z h=>by omega⟩ (StLe.refl _) rfl (fun x hx=>?_)
 refine Z55 ?_;refine R.fin [0,1,5,19] ?_
 refine W.cond (fun ht19=>?_) (fun ht19=>?_)
 ·have hal:=ha.len
  have hlt:x<a.length:=by simpa using ht19
  obtain ⟨p,hp⟩:∃p,p=a[x]:=⟨_,rfl⟩
  obtain ⟨q,hq⟩:∃q,q=b[x]:=⟨_,rfl⟩
  have hpa:a[x]? = some p:=by rw [hp];exact List.getElem?_eq_getElem hlt
  have hqb:b[x]? = some q:=by rw [hq];exact List.getElem?_eq_getElem (by omega)
  have hax:(a.map Dp)[x]? = some (Dp p):=by rw [List.getElem?_map,hpa];rfl
  have hbx:(b.map Dp)[x]? = some (Dp q):=by rw [List.getElem?_map,hqb];rfl
  have hpo:=ha.each p (List.mem_of_getElem? hpa)
  have hb1:=hpo.gives2
  have hb2:=hpo.ahead.len
  have hb3:=hpo.back.len
  refine Z44 ?_;refine W.drawY [0,0,3,7,0,0,48,112,0,0,783,2047] [] [.q 8 [] [],.s [6] none [] [],.s [7] none [] [],.s [6] none [] [],.s [7] none [] []] (fun _=>Hp) (fun _=>[]) Ab (by kernel_rfl) rfl rfl (fun _=>rfl) ?_
  apply Y.q
  case h1 =>
   intro B hT hF
   refine Z9 ?_
   refine D.go (h:=Q.indexAddr (x) (Dp p) (fun _=>hax)) (hr:=?_)
   refine Z37 ?_
   refine D.go (h:=Q.indexAddr (x) (Dp q) (fun _=>hbx)) (hr:=?_)
   exact Z60
  case hTF=>decide
  refine Y.allocP Tryz.zeroValue47 ?_;refine Y.allocP Tryz.zeroValue47 ?_;refine Y.storeP Tryz.sizeOf47 ?_;refine Y.storeP Tryz.sizeOf47 ?_;refine Y.tail (tn:=[])  ?_;refine jj ?_;refine Z22 ?_;refine Z6 ?_;refine Z53 ?_;refine G.call Tryz.call27 (fun hB=>c27 p.take q.take hpo.takes _) ?_;refine Z63 ?_;refine jg ?_;refine jg ?_;refine Z53 ?_;refine Z68 ?_;refine R.fin [0,1,5,6,7,69] ?_
  refine W.cond (fun ht69=>?_) (fun ht69=>?_)
  ·simp only [List.length_map] at ht69
   have hm:J5 a b=false:=Nc hpa hqb (m8 ht69)
   refine am ?_;exact Xf
  simp only [List.length_map] at ht69
  have hh:=wl ht69
  refine Mg ?_;refine R.fin [0,1,5,6,7,8] ?_
  refine AW.loopC (α:=Nat) (fun k=>⟨126,A6 0 (Ca a) (A6 1 (Ca b) (A6 5 (A3 (x:Nat)) (A6 6 (.ro (I0 p)) (A6 7 (.ro (I0 q)) (A6 8 (A3 (k:Nat)) (fun _=>.any)))))),Hp,[],[],none⟩) (fun k=>k≤p.give.length∧∀(j:Nat) (y:Col),j<k→p.give[j]? = some y→q.give[j]? = some y) (fun k=>p.give.length-k) (0) ⟨Nat.zero_le _,fun j y h=>by omega⟩ (StLe.refl _) rfl (fun k hk=>?_)
  refine Z73 ?_;refine R.fin [0,1,5,6,7,8,74] ?_
  refine W.cond (fun ht74=>?_) (fun ht74=>?_)
  ·have hkl:k<p.give.length:=by simpa using ht74
   have hkq:k<q.give.length:=by have:=hh.give;omega
   refine Z44 ?_;refine W.draw [0,1,0,7,15,0,32,0,224,480,1023] 10 Ab (by kernel_rfl) ?_;refine Z37 ?_
   refine D.go (h:=Q.indexAddr (k) (Bu p.give[k]) (fun _=>Am hkl)) (hr:=?_)
   refine Pi ?_
   refine D.go (h:=Q.indexAddr (k) (Bu q.give[k]) (fun _=>Am hkq)) (hr:=?_)
   refine Z84 ?_
   refine R.go (h:=Q.neqAgg ABn (el p.give[k].kind q.give[k].kind p.give[k].name q.give[k].name)) (hr:=?_)
   refine R.fin [0,1,5,6,7,8,87] ?_
   refine W.cond (fun ht87=>?_) (fun ht87=>?_)
   ·rw [Pq] at ht87
    have hm:J5 a b=false:=Nc hpa hqb (m9 hkl hkq (by simpa using ht87))
    refine Z61 ?_;refine Z32 ?_;exact Xf
   rw [Pq] at ht87
   refine Z58 ?_;refine R.fin [0,1,5,6,7,8] ?_
   exact K.lpN (k+1) ⟨hkl,Lw (p:=fun j y=>q.give[j]? = some y) hkl hk.2 (by rw [List.getElem?_eq_getElem hkq];simpa using (Eq.symm (by simpa using ht87):q.give[k]=p.give[k]))⟩ (by omega) (StCut.of_eq rfl)
  have hke:k=p.give.length:=by simp at ht74;omega
  subst hke
  have hge:p.give=q.give:=Io hh.give fun j y hj hy=>by rw [hk.2 j y hj hy]
  refine Z47 ?_;refine Z8 ?_;refine R.fin [0,1,5,6,7,9] ?_
  refine AW.loopC (α:=Nat) (fun k=>⟨126,A6 0 (Ca a) (A6 1 (Ca b) (A6 5 (A3 (x:Nat)) (A6 6 (.ro (I0 p)) (A6 7 (.ro (I0 q)) (A6 9 (A3 (k:Nat)) (fun _=>.any)))))),Hp,[],[],none⟩) (fun k=>k≤p.ahead.length∧∀(j:Nat) (y z:Expr),j<k→p.ahead[j]? = some y→q.ahead[j]? = some z→eqE y z=true) (fun k=>p.ahead.length-k) (0) ⟨Nat.zero_le _,fun j y z h=>by omega⟩ (StLe.refl _) rfl (fun k hk=>?_)
  refine Z73 ?_;refine R.fin [0,1,5,6,7,9,92] ?_
  refine W.cond (fun ht92=>?_) (fun ht92=>?_)
  ·have hkl:k<p.ahead.length:=by simpa using ht92
   have hkq:k<q.ahead.length:=by have:=hh.ahead;omega
   refine AAf ?_;refine Z37 ?_
   refine D.go (h:=Q.indexAddr (k) (A5 p.ahead[k]) (fun _=>Am hkl)) (hr:=?_)
   refine Pi ?_
   refine D.go (h:=Q.indexAddr (k) (A5 q.ahead[k]) (fun _=>Am hkq)) (hr:=?_)
   refine Z84 ?_;refine R.call Tryz.call28 (c28 61 p.ahead[k] (hpo.ahead.ok _ (List.getElem_mem hkl)) q.ahead[k] _) ?_;refine R.go ?_;refine R.fin [0,1,5,6,7,9,106] ?_
   refine W.cond (fun ht106=>?_) (fun ht106=>?_)
   ·have hm:J5 a b=false:=Nc hpa hqb (dv (Wf hkl hkq (by simpa using ht106)))
    refine Z61 ?_;refine Z32 ?_;exact Xf
   refine Z58 ?_;refine R.fin [0,1,5,6,7,9] ?_;exact K.lpN (k+1) ⟨hkl,fp hkl hkq hk.2 (by simpa using ht106)⟩ (by omega) (StCut.of_eq rfl)
  have hke:k=p.ahead.length:=by simp at ht92;omega
  subst hke
  have hae:eqL p.ahead q.ahead=true:=Mz hh.ahead hk.2
  refine Z47 ?_;refine Z0 ?_;refine R.fin [0,1,5,6,7,10] ?_
  refine AW.loopC (α:=Nat) (fun k=>⟨126,A6 0 (Ca a) (A6 1 (Ca b) (A6 5 (A3 (x:Nat)) (A6 6 (.ro (I0 p)) (A6 7 (.ro (I0 q)) (A6 10 (A3 (k:Nat)) (fun _=>.any)))))),Hp,[],[],none⟩) (fun k=>k≤p.back.length∧∀(j:Nat) (y z:Expr),j<k→p.back[j]? = some y→q.back[j]? = some z→eqE y z=true) (fun k=>p.back.length-k) (0) ⟨Nat.zero_le _,fun j y z h=>by omega⟩ (StLe.refl _) rfl (fun k hk=>?_)
  refine Z73 ?_;refine R.fin [0,1,5,6,7,10,111] ?_
  refine W.cond (fun ht111=>?_) (fun ht111=>?_)
  ·have hkl:k<p.back.length:=by simpa using ht111
   have hkq:k<q.back.length:=by have:=hh.back;omega
   refine AAf ?_;refine Z37 ?_
   refine D.go (h:=Q.indexAddr (k) (A5 p.back[k]) (fun _=>Am hkl)) (hr:=?_)
   refine Pi ?_
   refine D.go (h:=Q.indexAddr (k) (A5 q.back[k]) (fun _=>Am hkq)) (hr:=?_)
   refine Z84 ?_;refine R.call Tryz.call28 (c28 61 p.back[k] (hpo.back.ok _ (List.getElem_mem hkl)) q.back[k] _) ?_;refine R.go ?_;refine R.fin [0,1,5,6,7,10,125] ?_
   refine W.cond (fun ht125=>?_) (fun ht125=>?_)
   ·have hm:J5 a b=false:=Nc hpa hqb (ma (Wf hkl hkq (by simpa using ht125)))
    refine Z61 ?_;refine Z24 ?_;exact Xf
   refine Z58 ?_;refine R.fin [0,1,5,6,7,10] ?_;exact K.lpN (k+1) ⟨hkl,fp hkl hkq hk.2 (by simpa using ht125)⟩ (by omega) (StCut.of_eq rfl)
  have hke:k=p.back.length:=by simp at ht111;omega
  subst hke
  have hbe:eqL p.back q.back=true:=Mz hh.back hk.2
  refine Z25 ?_;refine K.lpE ?_;refine Z35 ?_;refine R.fin [0,1,5] ?_
  refine K.lpN (x+1) ⟨hlt,xa hpa hqb hx.2 (rz hh hge hae hbe)⟩ (by omega) (StCut.of_eq rfl)
 have hxe:x=a.length:=by simp at ht19;omega
 subst hxe
 have hm:J5 a b=true:=Zs hab hx.2
 refine Z47 ?_;refine Z61 ?_;exact jk

theorem c79 (a b:List Str) (ha:a.length≤1048576) (Hp:List AObj):AFun Tryz.prog 79 [Du a,Du b] Hp (Ap (decide (a=b))):=by
 refine ACall.body [.tmp 4] [0,1] Tryz.func79 Tryz.ntmps79 (fun d=>?_)
 refine Z59 ?_;refine Z73 ?_;refine R.fin [0,1,10] ?_
 refine W.cond (fun ht10=>?_) (fun ht10=>?_)
 ·exact AA2
 refine Xl ?_;refine R.fin [0,1,12,13] ?_
 refine AW.loopC (α:=Nat) (fun x=>⟨26,A6 0 (Du a) (A6 1 (Du b) (A6 12 (A3 (a.length:Nat)) (A6 13 (A3 (x:Nat)) (fun _=>.any)))),Hp,[],[],none⟩) (fun x=>x≤a.length∧∀(j:Nat) (y:Str),j<x→a[j]? = some y→b[j]? = some y) (fun x=>a.length-x) (0) (by simp) (StLe.of_eq (by simp)) rfl (fun x hx=>?_)
 refine Z0 ?_;refine R.fin [0,1,12,13,14] ?_
 refine W.condX (fun ht14=>?_) (fun ht14=>?_)
 ·have hlt:x<a.length:=by simpa using ht14
  have hlb:x<b.length:=by have:=nx ht10;omega
  refine Z16 ?_;refine Z3 ?_;refine AAd ?_;refine Z9 ?_
  refine D.go (h:=Q.indexAddr (x) (Aa a[x]) (fun _=>Am hlt)) (hr:=?_)
  refine Z37 ?_
  refine D.go (h:=Q.indexAddr (x) (Aa b[x]) (fun _=>Am hlb)) (hr:=?_)
  refine Z84 ?_;refine R.go ?_;refine R.fin [0,1,12,13,24] ?_
  refine W.cond (fun ht24=>?_) (fun ht24=>?_)
  ·refine Z61 ?_;exact zy
  refine T5 ?_;refine R.fin [0,1,12,13] ?_
  exact K.lpN (x+1) ⟨hlt,Lw (p:=fun j y=>b[j]? = some y) hlt hx.2 (by rw [List.getElem?_eq_getElem hlb];simpa using (Eq.symm (by simpa using ht24):b[x]=a[x]))⟩ (by omega) (StCut.of_eq rfl)
 have hxe:a.length≤x:=by simpa using ht14
 refine Z23 ?_;exact zv

theorem c80 (a b:List Col) (ha:a.length≤1048576) (Hp:List AObj):AFun Tryz.prog 80 [Mi a,Mi b] Hp (Ap (decide (a=b))):=by
 refine ACall.body [.tmp 4] [0,1] Tryz.func80 Tryz.ntmps80 (fun d=>?_)
 refine Z59 ?_;refine Z73 ?_;refine R.fin [0,1,10] ?_
 refine W.cond (fun ht10=>?_) (fun ht10=>?_)
 ·exact AA2
 refine Xl ?_;refine R.fin [0,1,12,13] ?_
 refine AW.loopC (α:=Nat) (fun x=>⟨26,A6 0 (Mi a) (A6 1 (Mi b) (A6 12 (A3 (a.length:Nat)) (A6 13 (A3 (x:Nat)) (fun _=>.any)))),Hp,[],[],none⟩) (fun x=>x≤a.length∧∀(j:Nat) (y:Col),j<x→a[j]? = some y→b[j]? = some y) (fun x=>a.length-x) (0) (by simp) (StLe.of_eq (by simp)) rfl (fun x hx=>?_)
 refine Z0 ?_;refine R.fin [0,1,12,13,14] ?_
 refine W.condX (fun ht14=>?_) (fun ht14=>?_)
 ·have hlt:x<a.length:=by simpa using ht14
  have hlb:x<b.length:=by have:=nx ht10;omega
  refine Z16 ?_;refine Z3 ?_;refine AAd ?_;refine Z9 ?_
  refine D.go (h:=Q.indexAddr (x) (Bu a[x]) (fun _=>Am hlt)) (hr:=?_)
  refine Z37 ?_
  refine D.go (h:=Q.indexAddr (x) (Bu b[x]) (fun _=>Am hlb)) (hr:=?_)
  refine Z84 ?_
  refine R.go (h:=Q.neqAgg ABn (el a[x].kind b[x].kind a[x].name b[x].name)) (hr:=?_)
  refine R.fin [0,1,12,13,24] ?_
  refine W.cond (fun ht24=>?_) (fun ht24=>?_)
  ·rw [Pq] at ht24
   refine Z61 ?_;exact zy
  rw [Pq] at ht24
  refine T5 ?_;refine R.fin [0,1,12,13] ?_
  exact K.lpN (x+1) ⟨hlt,Lw (p:=fun j y=>b[j]? = some y) hlt hx.2 (by rw [List.getElem?_eq_getElem hlb];simpa using (Eq.symm (by simpa using ht24):b[x]=a[x]))⟩ (by omega) (StCut.of_eq rfl)
 have hxe:a.length≤x:=by simpa using ht14
 refine Z23 ?_;exact zv

theorem c40 (a b:Mov) (ha:OkMov a) (Hp:List AObj):AFun Tryz.prog 40 [Dp a,Dp b] Hp (Ap (Ia a b)):=by
 refine ACall.body [.tmp 4] [0,1] Tryz.func40 Tryz.ntmps40 (fun d=>?_)
 refine Z19 ?_;refine Jv ?_;refine Z19 ?_;refine Z6 ?_;refine Z53 ?_;refine G.call Tryz.call79 (fun hB=>c79 a.take b.take ha.takes _) ?_;refine Vs ?_;refine G.call Tryz.call80 (fun hB=>c80 a.give b.give (Nat.le_trans ha.gives2 (by decide)) _) ?_;refine Vs ?_;refine G.call Tryz.call81 (fun hB=>c81 61 a.ahead b.ahead ha.ahead.len ha.ahead.ok (c74 61) _) ?_;refine Vs ?_;refine G.call Tryz.call81 (fun hB=>c81 61 a.back b.back ha.back.len ha.back.ok (c74 61) _) ?_;refine Z1 ?_;exact Z97

theorem c39 (a b:List Mov) (ha:OkMovs a) (Hp:List AObj):AFun Tryz.prog 39 [Ca a,Ca b,.fn (.func 40) [] []] Hp (Ap (J5 a b)):=by
 refine ACall.body [.tmp 6] [0,1,2] Tryz.func39 Tryz.ntmps39 (fun d=>?_)
 refine Z0 ?_;refine R.fin [0,1,2] ?_;refine Z73 ?_;refine R.fin [0,1,2,14] ?_
 refine W.cond (fun ht14=>?_) (fun ht14=>?_)
 ·rw [List.length_map,List.length_map] at ht14
  have hm:J5 a b=false:=Zr (by simp at ht14;omega)
  refine Vq ?_;exact Z20
 rw [List.length_map,List.length_map] at ht14
 have hab:a.length=b.length:=by simp at ht14;omega
 refine Xl ?_;refine ji ?_
 refine AW.loopC (α:=Nat) (fun x=>⟨32,A6 1 (Ca b) (A6 2 (.fn (.func 40) [] []) (A6 15 (Ca a) (A6 16 (A3 (a.length:Nat)) (A6 17 (A3 (x:Nat)) (fun _=>.any))))),Hp,[],[],none⟩) (fun x=>x≤a.length∧∀(j:Nat) (y z:Mov),j<x→a[j]? = some y→b[j]? = some z→Ia y z=true) (fun x=>a.length-x) (0) ⟨Nat.zero_le _,fun j y z h=>by omega⟩ (StLe.of_eq (by simp)) rfl (fun x hx=>?_)
 refine Z0 ?_;refine R.fin [1,2,15,16,17,18] ?_
 refine W.condX (fun ht18=>?_) (fun ht18=>?_)
 ·have hal:=ha.len
  have hlt:x<a.length:=by simpa using ht18
  obtain ⟨p,hp⟩:∃p,p=a[x]:=⟨_,rfl⟩
  obtain ⟨q,hq⟩:∃q,q=b[x]:=⟨_,rfl⟩
  have hpa:a[x]? = some p:=by rw [hp];exact List.getElem?_eq_getElem hlt
  have hqb:b[x]? = some q:=by rw [hq];exact List.getElem?_eq_getElem (by omega)
  have hax:(a.map Dp)[x]? = some (Dp p):=by rw [List.getElem?_map,hpa];rfl
  have hbx:(b.map Dp)[x]? = some (Dp q):=by rw [List.getElem?_map,hqb];rfl
  have hpo:=ha.each p (List.mem_of_getElem? hpa)
  refine ax ?_
  refine R.go (h:=Q.indexAddr (x) (Dp p) (fun _=>hax)) (hr:=?_)
  refine R.go ?_;refine ja ?_;refine R.fin [1,2,7,8,15,16,17] ?_;refine Z3 ?_
  refine R.go (h:=Q.indexAddr (x) (Dp q) (fun _=>hbx)) (hr:=?_)
  refine Xi ?_;refine R.fin [1,2,8,9,15,16,17] ?_;refine Z19 ?_;refine R.callV Tryz.call40 (c40 p q hpo _) ?_;refine R.go ?_;refine R.fin [1,2,15,16,17,30] ?_
  refine W.cond (fun ht30=>?_) (fun ht30=>?_)
  ·have hm:J5 a b=false:=Nc hpa hqb (by simpa using ht30)
   refine Vq ?_;exact Xf
  refine T5 ?_;refine ji ?_;refine K.lpN (x+1) ⟨hlt,xa hpa hqb hx.2 (by simpa using ht30)⟩ (by omega) ?_
  exact StCut.take (own:=[]) (fun _=>.refl _) (by repeat (first|exact C5|refine C4 (by first|exact Ea|(simp [or_imp,forall_and];done)) ?_)) (by simp) (by simp)
 have hxe:x=a.length:=by simp at ht18;omega
 subst hxe
 have hm:J5 a b=true:=Zs hab hx.2
 refine Z23 ?_;refine Vq ?_;exact jk

theorem c17 (a b:List Mov) (ha:OkMovs a) (Hp:List AObj):AFun Tryz.prog 17 [Ca a,Ca b] Hp (Ap (J5 a b)):=by
 refine ACall.body [.tmp 4] [0,1] Tryz.func17 Tryz.ntmps17 (fun d=>?_)
 refine Z59 ?_;refine Z3 ?_;refine R.call Tryz.call39 (c39 a b ha _) ?_;refine R.go ?_;exact Z97

/-! Words that stand among others are parsed as they are alone. -/
/-! Moves that stand among others are parsed as they are alone. -/
section
variable {l l':List Tok} {p m:Nat}
end
/-! MigJoins: the moves of two sources, one behind the other. -/
theorem s6 {l:List Tok} {f:Nat} {ms:List Mov} {i:Nat} (h:(A7 l i).kind=0):Cr l (f+1) ms i=.ok ms i:=by rw [Cr,if_neg (by rw [h];decide)]
theorem s7 {l:List Tok} {f:Nat} {ms:List Mov} {i:Nat} (h:(A7 l i).kind≠0) (h8:ms.length=8):Cr l (f+1) ms i=.bad 3 (A7 l i).at_:=by
 rw [Cr,if_pos (by simpa using h),if_pos (by rw [h8];rfl)];rfl
theorem s8 {l:List Tok} {f:Nat} {ms:List Mov} {i:Nat} (h:(A7 l i).kind≠0) (h8:ms.length≠8):Cr l (f+1) ms i=(F8 l i).bind fun m j=>Cr l f (ms++[m]) j:=by
 rw [Cr,if_pos (by simpa using h),if_neg (by simp only [beq_iff_eq];omega)]
theorem s9 {l:List Tok} {f:Nat} {ms:List Mov} {i:Nat} {x:List Mov} {ia:Nat} (h:Cr l (f+1) ms i=.ok x ia):((A7 l i).kind=0∧x=ms∧ia=i)∨((A7 l i).kind≠0∧ms.length≠8∧∃v j,F8 l i=.ok v j∧Cr l f (ms++[v]) j=.ok x ia):=by
 by_cases hk:(A7 l i).kind=0
 ·rw [s6 hk] at h
  injection h with h1 h2
  exact .inl ⟨hk,h1.symm,h2.symm⟩
 by_cases h8:ms.length=8
 ·rw [s7 hk h8] at h;cases h
 rw [s8 hk h8] at h
 obtain ⟨v,j,e1,e2⟩:=PR.bind_ok h
 exact .inr ⟨hk,h8,v,j,e1,e2⟩
/-! What mig.Parse hands back may be walked. -/
theorem wm {L:List Tok} (hl:TokEnd L) (hll:L.length≤500000) {i:Nat} (hi:i<L.length) {m:Mov} {j:Nat} (h:F8 L i=.ok m j):MvLe m (2*L.length):=by
 unfold F8 at h
 split at h
 ·cases h
 rename_i h0
 have hi1:i+1<L.length:=hl.step hi (by
  simp only [Bool.or_eq_true,not_or,Bool.not_eq_true,bne_eq_false_iff_eq] at h0
  rw [h0.1];decide)
 obtain ⟨m1,k,h1,h2⟩:=PR.bind_ok h
 obtain ⟨u,j2,h3,h4⟩:=PR.bind_ok h2
 injection h4 with h5 h6
 subst h5
 obtain ⟨_,a2,a3⟩:=Wh hl hll _ (i+1) ⟨Nat.zero_le _,Nat.zero_le _,Nat.zero_le _,Nat.zero_le _⟩ (by omega) hi1 _ _ h1
 exact a3.mono (by omega)
theorem Pc {L:List Tok} (hl:TokEnd L) (hll:L.length≤500000) (hw:∀i,WordOk (A7 L i)):∀(f:Nat) (l:List Mov) (i:Nat) (x:List Mov) (j:Nat),i<L.length→l.length≤8→l.length+f=9→(∀m∈l,MvP m∧MvLe m (2*L.length))→Cr L f l i=.ok x j→(∀m∈x,MvP m∧MvLe m (2*L.length))∧x.length≤8
 | 0,l,i,x,j,_,h1,h2,_,_=>by omega
 | f+1,l,i,x,j,hi,h8,hf,hg,h=>by
  rcases s9 h with ⟨_,rfl,_⟩|⟨_,hn,v,k,e1,e2⟩
  ·exact ⟨hg,h8⟩
  have a:=gw hl hll hi e1
  have b:=wj hl hll hw hi e1
  have c:=wm hl hll hi e1
  have hlen:(l++[v]).length=l.length+1:=by simp
  refine Pc hl hll hw f (l++[v]) k x j a.2 (by omega) (by omega) (fun m hm=>?_) e2
  rcases List.mem_append.1 hm with h|h
  ·exact hg m h
  rw [List.mem_singleton.1 h]
  exact ⟨b,c⟩
structure MigGood (l:List Mov):Prop where
 ok:OkMovs l
 each:∀m∈l,MvP m
 len:l.length≤8
theorem MigGood.nil:MigGood []:=⟨⟨Nat.zero_le _,fun m h=>(List.not_mem_nil h).elim⟩,fun m h=>(List.not_mem_nil h).elim,Nat.zero_le _⟩
theorem Zt (s:Str):MigGood (I9 s).1:=by
 by_cases h0:((Db s).2.1 != 0)=true
 ·rw [gy h0]
  exact .nil
 have h0:(Db s).2.1=0:=by simpa using h0
 unfold I9
 rw [if_neg (by rw [h0];simp)]
 cases hm:I2 (Db s).1 with
 | bad e a=>exact .nil
 | ok l i =>
  have hl:=er h0
  have hll:=fl h0
  obtain ⟨h1,h2⟩:=Pc hl (by omega) (dt h0) 9 [] 0 l i (by have:=ow h0;omega) (by decide) rfl (fun m h=>by cases h) hm
  exact ⟨⟨by show l.length≤1048576;omega,fun m hm=>(h1 m hm).1.ok (h1 m hm).2 (by omega)⟩,fun m hm=>(h1 m hm).1,h2⟩
theorem c42 (k:Int) (Hp:List AObj):AFun Tryz.prog 42 [A3 k] Hp (Aa (Ah k)):=by
 refine ACall.body [.tmp 2] [0] Tryz.func42 Tryz.ntmps42 (fun d=>?_)
 refine Z46 ?_;refine Z22 ?_;refine Qo ?_;refine R.fin [0,9] ?_
 refine W.cond (fun ht9=>?_) (fun ht9=>?_)
 ·refine Z85 ?_;exact K.fin (V.one V.tmp) ⟨by rw [show Ah k=[] from if_pos (by simpa using ht9)],rfl⟩
 refine aq ?_;refine Z91 ?_;refine Hu ?_;refine E4 ?_
 have hk:1≤k∧k≤3:=by simp at ht9;omega
 have hget:(kindNames.map Aa)[k.toNat]? = some (Aa (kindNames.getD k.toNat [])):=by
  have hlt:k.toNat<kindNames.length:=by show k.toNat<4;omega
  rw [List.getElem?_map,List.getElem?_eq_getElem hlt,List.getD_eq_getElem?_getD,List.getElem?_eq_getElem hlt]
  rfl
 refine Z1 ?_
 refine R.go (h:=Q.indexAddr (k.toNat) (Aa (kindNames.getD k.toNat [])) (fun _=>hget)) (hr:=?_)
 exact zt

theorem c82 (t:Str) (ht:t.length≤1048576) (Hp:List AObj):AFun Tryz.prog 82 [Nk ⟨2,0,t⟩] Hp (Aa ([39]++Bn t++[39])):=by
 refine ACall.body [.tmp 2] [0] Tryz.func82 Tryz.ntmps82 (fun d=>?_)
 refine Z54 ?_;refine Z31 ?_;refine R.fin [1,6] ?_;refine Z69 ?_;refine R.fin [1,6,7] ?_
 refine W.cond (fun ht7=>?_) (fun ht7=>?_)
 ·exact absurd ht7 (by decide)
 refine Z3 ?_;refine R.fin [1,6,9] ?_
 refine W.cond (fun ht9=>?_) (fun ht9=>?_)
 ·exact absurd ht9 (by decide)
 refine Z3 ?_;refine R.fin [1,14] ?_
 refine W.cond (fun ht14=>?_) (fun ht14=>?_)
 ·exact absurd ht14 (by decide)
 refine Z39 ?_;refine E4 ?_;refine Z91 ?_;refine R.fin [1,3] ?_;refine Z8 ?_;refine Pj ?_
 refine AW.loopC (α:=Nat) (fun x=>⟨46,A6 1 (.ro [.v (.int .i64 2),.v (.int .i64 0),.v (sv t)]) (A6 3 (cg ([39]++Bn (t.take x))) (A6 4 (A3 (x:Nat)) (fun _=>.any))),Hp,[],[],none⟩) (fun x=>x≤t.length) (fun x=>t.length-x) (0) (Nat.zero_le _) (StLe.refl _) rfl (fun x hx=>?_)
 refine Z73 ?_;refine R.fin [1,3,4,24] ?_
 refine W.cond (fun ht24=>?_) (fun ht24=>?_)
 ·have hxl:x<t.length:=by simp at ht24;omega
  have hb0:=hlb ht x
  refine Z44 ?_;refine Z22 ?_
  refine R.go (h:=Q.sindex x t[x] (fun _=>List.getElem?_eq_getElem hxl)) (hr:=?_)
  refine R.go ?_;refine R.fin [1,3,4,31] ?_
  refine W.cond (fun ht31=>?_) (fun ht31=>?_)
  ·have hc:t[x]=39:=by
    have h31:((t[x].toNat:Int)==39)=true:=ht31
    exact UInt8.toNat_inj.1 (by have:(39:UInt8).toNat=39:=rfl;simp at h31;omega)
   refine j8 ?_;refine Jc ?_
   refine R.append jU Tryz.type5 ?_ ?_ ?_
   ·simp [Tryz.t5]<;>omega
   ·simp [Tryz.t5]<;>omega
   refine R.assignT ?_;refine Pj ?_;refine K.thN ?_;refine j8 ?_;refine Z6 ?_
   refine R.go (h:=Q.sindex x t[x] (fun _=>List.getElem?_eq_getElem hxl)) (hr:=?_)
   refine Jc ?_
   refine R.append jU Tryz.type5 ?_ ?_ ?_
   ·simp [Tryz.t5]<;>omega
   ·simp [Tryz.t5]<;>omega
   refine R.assignT ?_;refine t6 ?_;refine Pj ?_
   exact K.lpN (x+1) hxl (by omega) (StCut.of_eq (by
    rw [U7 hxl,Mr]
    first|rw [if_pos hc]|rw [if_neg hc]
    simp only [cg,List.map_append,List.map_cons,List.map_nil,List.append_assoc,List.cons_append,List.nil_append]
    try rw [hc]
    rfl))
  have hc:t[x]≠39:=fun e=>by
   rw [e] at ht31
   exact absurd ht31 (by decide)
  refine Z5 ?_;refine j8 ?_;refine Z6 ?_
  refine R.go (h:=Q.sindex x t[x] (fun _=>List.getElem?_eq_getElem hxl)) (hr:=?_)
  refine Jc ?_
  refine R.append jU Tryz.type5 ?_ ?_ ?_
  ·simp [Tryz.t5]<;>omega
  ·simp [Tryz.t5]<;>omega
  refine R.assignT ?_;refine t6 ?_;refine Pj ?_
  exact K.lpN (x+1) hxl (by omega) (StCut.of_eq (by
   rw [U7 hxl,Mr]
   first|rw [if_pos hc]|rw [if_neg hc]
   simp only [cg,List.map_append,List.map_cons,List.map_nil,List.append_assoc,List.cons_append,List.nil_append]
   try rw [hc]
   rfl))
 have hxe:x=t.length:=by simp at ht24;omega
 have hb0:=hlb ht x
 have hdt:Bn (t.take x)=Bn t:=by rw [hxe,List.take_length]
 rw [hdt] at hb0 ⊢
 refine Z47 ?_;refine E4 ?_;refine R.moveT ?_;refine Jc ?_
 refine R.append jU Tryz.type5 ?_ ?_ ?_
 ·simp [Tryz.t5]<;>omega
 ·simp [Tryz.t5]<;>omega
 refine R.bytesStr ([39]++Bn t++[39]) jU jU jU (hx:=by simp only [go_sem,↓reduceIte,Nat.reduceEqDiff,Nat.reduceAdd,List.map_append,List.map_cons,List.map_nil,List.cons_append,List.nil_append]<;>rfl) ?_
 exact su

theorem c93 (a:Int) (Hp:List AObj):AFun Tryz.prog 93 [A3 a] Hp (.agg (rc a)):=by
 refine ACall.body [.cell 2 129] [0] Tryz.func93 Tryz.ntmps93 (fun d=>?_)
 refine Z52 ?_;refine Z3 ?_;refine R.build (places:=#[(0,1),(1,5)]) jU (fun w=>by simp) jZ ?_;refine Z86 ?_;refine Z19 ?_;refine R.fin [0,2,3,4] ?_;refine Z31 ?_;refine R.fin [2,3,4,11] ?_
 refine W.cond (fun ht11=>?_) (fun ht11=>?_)
 ·have hm:Sd a=IntKind.u64.wrap (0-IntKind.u64.wrap a):=if_pos ht11
  refine Z66 ?_
  refine R.go (h:=Q.sub) (hr:=?_)
  refine R.go ?_;refine R.fin [2,3,4] ?_;refine K.thN ?_;refine Z19 ?_;refine xv ?_;refine Hv ?_;refine R.fin [2,3,4] ?_;refine Z19 ?_;refine xw ?_;refine Hv ?_;refine nd ?_;exact zx
 have hm:Sd a=IntKind.u64.wrap a:=if_neg (by rw [ht11];simp)
 refine Vr ?_;refine xv ?_;refine Hv ?_;refine R.fin [2,3,4] ?_;refine Z19 ?_;refine xw ?_;refine Hv ?_;refine nd ?_;exact zx

theorem AEc (a:Int) (ha:Xq a) (Hp:List AObj):AFun Tryz.prog 111 [A3 a] Hp (Aa (Lib.itoa a)):=by
 have hs:=rd ha
 have hn:a.natAbs≤9223372036854775808:=by have:=ha.1;have:=ha.2;omega
 have hh:=za (u:=Sd a) (by rw [hs];omega) (by rw [hs];omega)
 refine ACall.body [.tmp 2] [0] Tryz.func111 Tryz.ntmps111 (fun d=>?_)
 refine Z46 ?_;refine Z0 ?_;refine R.call Tryz.call93 (c93 a _) ?_;refine Z15 ?_;refine R.fin [3] ?_;refine Z0 ?_;refine xw ?_;refine Z6 ?_;refine xv ?_;refine R.go ?_
 refine R.go (h:=Q.add) (hr:=?_)
 rw [hh,hs]
 refine R.go ?_;refine R.fin [3,4] ?_;refine Z0 ?_;refine R.fin [3,4,5] ?_;refine W.seq ?_
 refine AW.loopC (α:=Nat×Str) (fun x=>⟨37,A6 3 (.ptr (oid Hp.length 0) 0) (A6 4 (jl (x.1:Nat)) (A6 5 (Aa x.2) (fun _=>.any))),Hp,[.cells 129 (rc a)],[],none⟩) (fun x=>x.1≤a.natAbs∧DG a.natAbs x) (fun x=>2*x.1+(if x.2=[] then 1 else 0)) ((a.natAbs,[])) ⟨Nat.le_refl _,.inl ⟨rfl,rfl⟩⟩ (StLe.of_eq (by simp)) rfl (fun x hx=>?_)
 refine Z22 ?_;refine Qo ?_;refine R.fin [3,4,5,21] ?_
 refine W.cond (fun ht21=>?_) (fun ht21=>?_)
 ·have hc:0<x.1∨x.2=[]:=by
   have h:=ht21
   simp only [Bool.or_eq_true,decide_eq_true_eq,beq_iff_eq] at h
   rcases h with h|h
   ·exact .inl (by omega)
   exact .inr h
  have hl21:=hx.2.len hn
  refine nh ?_;refine Z19 ?_
  refine R.go (h:=Q.add) (hr:=?_)
  refine R.buildSl jU jS jZ ?_
  rw [AE2]
  refine R.bytesStr [UInt8.ofNat (48+x.1 % 10)] jU jU jU ?_;refine R.go ?_
  refine R.go (h:=Q.sadd (hl:=fun _=>by simp only [List.length_cons,List.length_nil];omega)) (hr:=?_)
  refine R.go ?_;refine R.fin [3,4,5] ?_;refine Z30 ?_
  rw [AC5 hx.1 hn]
  refine R.go ?_;refine R.fin [3,4,5] ?_;refine K.blN ?_
  refine K.lpN (x.1 / 10,UInt8.ofNat (48+x.1 % 10)::x.2) ⟨DG.le hx.1,hx.2.step hc⟩ (by rw [if_neg (by simp)];rcases hc with h|h;omega;rw [if_pos h];omega) (StCut.of_eq rfl)
 have hl21:=hx.2.len hn
 have hD:x.2=Lib.decDigits a.natAbs:=by
  have h:=ht21
  simp only [Bool.or_eq_false_iff,decide_eq_false_iff_not,beq_eq_false_iff_ne] at h
  exact hx.2.done (by omega) h.2
 refine Z47 ?_;refine Z31 ?_;refine R.fin [5,33] ?_
 refine W.cond (fun ht33=>?_) (fun ht33=>?_)
 ·have hm:=Ze a
  rw [if_pos ht33] at hm
  refine Z66 ?_
  refine R.go (h:=Q.sadd (hl:=fun _=>by simp only [List.length_cons,List.length_nil];omega)) (hr:=?_)
  refine R.go ?_;refine R.fin [5] ?_;refine K.thN ?_;exact AAe
 have hm:=Ze a
 rw [if_neg (by rw [ht33];simp)] at hm
 refine Z5 ?_;exact AAe


/-- What the chapter's print of a tree says. -/
def zl (e:Expr):Prop:=∀Hp:List AObj,AFun Tryz.prog 41 [A5 e] Hp (Aa (A8 e))
theorem AEd (v:Val) (hp:Bd v=true) (hi:Xq v.n) (Hp:List AObj):AFun Tryz.prog 82 [Nk v] Hp (Aa (Bk v)):=by
 by_cases hk:((v.kind==0)=false∧(v.kind==1)=false)∧(v.kind==3)=false
 ·obtain ⟨e,hl⟩:=de hp hk.1.1 hk.1.2 hk.2
  rw [e,dg _ hl]
  exact c82 v.s (by omega) Hp
 refine ACall.body [.tmp 2] [0] Tryz.func82 Tryz.ntmps82 (fun d=>?_)
 refine Z54 ?_;refine Z31 ?_;refine R.fin [1,6] ?_;refine Z69 ?_;refine R.fin [1,6,7] ?_
 refine W.cond (fun ht7=>?_) (fun ht7=>?_)
 ·have h0:v.kind=0:=by simpa using ht7
  refine Z12 ?_;exact Z83
 refine Z3 ?_;refine R.fin [1,6,9] ?_
 refine W.cond (fun ht9=>?_) (fun ht9=>?_)
 ·have h1:v.kind=1:=by simpa using ht9
  refine Z3 ?_;refine R.call Tryz.call111 (AEc v.n hi _) ?_;refine Z70 ?_;exact Z83
 refine Z3 ?_;refine R.fin [1,14] ?_
 refine W.cond (fun ht14=>?_) (fun ht14=>?_)
 ·have h3:v.kind=3:=by simpa using ht14
  refine Z22 ?_;refine R.fin [18] ?_
  refine W.cond (fun ht18=>?_) (fun ht18=>?_)
  ·refine Z85 ?_;exact Z83
  refine Z5 ?_;refine Z12 ?_;exact Z83
 exfalso
 simp at hk ht7 ht9 ht14
 exact ht14 (hk ht7 ht9)

theorem c83 (e:Expr) (Hp:List AObj):AFun Tryz.prog 83 [A5 e] Hp (A3 (M6 e)):=by
 refine ACall.body [.tmp 2] [0] Tryz.func83 Tryz.ntmps83 (fun d=>?_)
 refine Z54 ?_;refine Z22 ?_;refine R.fin [1,5] ?_
 refine W.cond (fun ht5=>?_) (fun ht5=>?_)
 ·exact AA3
 refine Xl ?_;refine R.fin [1,8] ?_
 refine W.cond (fun ht8=>?_) (fun ht8=>?_)
 ·exact AA3
 refine Z5 ?_;refine Z55 ?_;refine Z4 ?_;refine G.call Tryz.call112 (fun hB=>ABs e.text _) ?_;refine Z68 ?_;refine R.fin [1,17] ?_
 refine W.cond (fun ht17=>?_) (fun ht17=>?_)
 ·have hz:M6 e=Ae e.text:=by
   have h:=ht17
   simp only [Bool.and_eq_true,beq_iff_eq,decide_eq_true_eq] at h
   simp [M6,h.1,Oi,h.2]
  refine xn ?_;refine Z70 ?_;refine K.thR ?_;exact xy
 have hz:M6 e=7:=by
  have h:=ht17
  simp only [Bool.and_eq_false_iff,beq_eq_false_iff_ne,decide_eq_false_iff_not] at h
  rcases h with h|h
  ·simp_all [M6]
  simp_all [M6,Oi]
  intro _ h2
  omega
 refine Z5 ?_;refine Z12 ?_;exact xy

theorem c41:∀(n:Nat) (e:Expr),okE n e→sizeE e≤1048576→B0 At e=true→B0 D6 e=true→zl e:=by
 intro n
 induction n with
 | zero=>exact fun e h=>h.elim
 | succ n ih =>
 intro e hok hsz hnd hrg Hp
 have hlen:=Ok _ e (Nat.le_refl _) hnd hrg
 have hnd0:=hnd
 have hrg0:=hrg
 rw [Co,Bool.and_eq_true] at hnd0 hrg0
 have hkn:∀y∈e.kids,B0 At y=true:=fun y hy=>(Bv _ _).1 hnd0.2 y hy
 have hky:∀y∈e.kids,sizeE y≤1048576:=fun y hy=>by
  obtain ⟨i,hi⟩:=List.getElem?_of_mem hy
  obtain ⟨hlt,rfl⟩:=List.getElem?_eq_some_iff.1 hi
  have:=R2 e hlt
  omega
 have hev:∀y∈e.kids,zl y:=fun y hy=>ih y (hok.2.2 y hy) (hky y hy) (hkn y hy) ((Bv _ _).1 hrg0.2 y hy)
 have hnn:∀y∈e.kids,At y=true:=fun y hy=>by have:=hkn y hy;rw [Co,Bool.and_eq_true] at this;exact this.1
 have hlv:∀y∈e.kids,M6 y=(levE y:Int):=fun y hy=>Q3 (hnn y hy)
 obtain ⟨k5,k34,k6,kall⟩:=Yy hnd0.1
 have hi64:Xq e.val.n:=by
  have:=hrg0.1
  simp only [D6,Bool.and_eq_true,decide_eq_true_eq] at this
  exact this
 have hlv0:=Q3 hnd0.1
 have pe:=Ut e
 unfold Lp at pe
 refine ACall.body [.tmp 2] [0] Tryz.func41 Tryz.ntmps41 (fun d=>?_)
 refine Z54 ?_;refine Z31 ?_;refine R.fin [1,13] ?_;refine Z69 ?_;refine R.fin [1,13,14] ?_
 refine W.cond (fun ht14=>?_) (fun ht14=>?_)
 ·rw [if_pos ht14] at pe
  have hpl:Bd e.val=true:=by
   have h:=hnd0.1
   rw [Et] at h
   unfold Dx at h
   rw [if_pos ht14] at h
   simp only [Bool.and_eq_true] at h
   exact h.1.1.1
  refine Z3 ?_;refine R.call Tryz.call82 (AEd e.val hpl hi64 _) ?_;exact Vo
 rw [if_neg (by rw [ht14];simp)] at pe
 refine Z3 ?_;refine R.fin [1,13,19] ?_
 refine W.cond (fun ht19=>?_) (fun ht19=>?_)
 ·rw [if_pos ht19] at pe
  refine Z19 ?_;refine Z2 ?_;exact Z18
 rw [if_neg (by rw [ht19];simp)] at pe
 refine Z3 ?_;refine R.fin [1,13,23] ?_
 refine W.cond (fun ht23=>?_) (fun ht23=>?_)
 ·rw [if_pos ht23] at pe
  have hkl:=k34 (.inl (by simpa using ht23))
  rw [Yz (by omega)] at pe
  rw [pe] at hlen
  simp only [List.length_cons] at hlen
  have hm3:=hnn _ (El (k:=e.kids) (i:=0) (by omega)).2.1
  refine Z3 ?_
  refine R.go (h:=Q.indexAddr (0) (A5 (e.kids.getD 0 Ad)) (fun _=>(El (by omega)).1)) (hr:=?_)
  refine AAs ?_;refine R.go ?_;refine R.fin [1,3] ?_;refine Z31 ?_
  refine R.go (h:=Q.indexAddr (0) (A5 (e.kids.getD 0 Ad)) (fun _=>(El (by omega)).1)) (hr:=?_)
  refine Z1 ?_;refine Z29 ?_
  refine G.go (h:=Q.indexAddr (0) (A5 (e.kids.getD 0 Ad)) (fun _=>(El (by omega)).1)) (hr:=?_)
  refine Z4 ?_;refine Z68 ?_;refine R.fin [3,43] ?_
  refine W.cond (fun ht43=>?_) (fun ht43=>?_)
  ·have hbk:¬6≤levE (e.kids.getD 0 Ad):=by
    have h:=ht43
    rw [AC6] at h
    simpa using h
   rw [Sq hbk] at pe hlen
   simp only [List.length_append,List.length_cons,List.length_nil] at hlen
   refine Z66 ?_
   refine R.go (h:=Q.sadd (hl:=fun _=>by simp only [List.length_append,List.length_cons,List.length_nil,List.length_drop] at *;omega)) (hr:=?_)
   refine R.go (h:=Q.sadd (hl:=fun _=>by simp only [List.length_append,List.length_cons,List.length_nil,List.length_drop] at *;omega)) (hr:=?_)
   refine R.go ?_;refine R.fin [3] ?_;refine K.thN ?_;refine Z0 ?_
   refine R.go (h:=Q.sadd (hl:=fun _=>by simp only [List.length_append,List.length_cons,List.length_nil,List.length_drop] at *;omega)) (hr:=?_)
   exact Vo
  have hbk:6≤levE (e.kids.getD 0 Ad):=by
   have h:=ht43
   rw [AC6] at h
   simpa using h
  rw [Sp hbk] at pe hlen
  refine Mf ?_
  refine R.go (h:=Q.sadd (hl:=fun _=>by simp only [List.length_append,List.length_cons,List.length_nil,List.length_drop] at *;omega)) (hr:=?_)
  exact Vo
 rw [if_neg (by rw [ht23];simp)] at pe
 refine Z3 ?_;refine R.fin [1,13,49] ?_
 refine W.cond (fun ht49=>?_) (fun ht49=>?_)
 ·rw [if_pos ht49] at pe
  have hkl:=k34 (.inr (by simpa using ht49))
  rw [Yz (by omega)] at pe
  rw [pe] at hlen
  simp only [List.length_cons,List.length_append,O1,List.length_nil] at hlen
  have hm3:=hnn _ (El (k:=e.kids) (i:=0) (by omega)).2.1
  refine Z3 ?_
  refine R.go (h:=Q.indexAddr (0) (A5 (e.kids.getD 0 Ad)) (fun _=>(El (by omega)).1)) (hr:=?_)
  refine AAs ?_;refine R.go ?_;refine R.fin [1,4] ?_;refine Z31 ?_
  refine R.go (h:=Q.indexAddr (0) (A5 (e.kids.getD 0 Ad)) (fun _=>(El (by omega)).1)) (hr:=?_)
  refine Z1 ?_;refine Z29 ?_
  refine G.go (h:=Q.indexAddr (0) (A5 (e.kids.getD 0 Ad)) (fun _=>(El (by omega)).1)) (hr:=?_)
  refine Z53 ?_;refine Z4 ?_
  refine G.go (h:=Q.indexAddr (0) (A5 (e.kids.getD 0 Ad)) (fun _=>(El (by omega)).1)) (hr:=?_)
  refine Z53 ?_;refine R.go ?_;refine R.fin [4,77] ?_
  refine W.cond (fun ht77=>?_) (fun ht77=>?_)
  ·have hbk:¬2≤levE (e.kids.getD 0 Ad):=by
    have h:=ht77
    rw [AC7 hm3] at h
    simpa using h
   rw [Sq hbk] at pe hlen
   simp only [List.length_append,List.length_cons,List.length_nil] at hlen
   refine Z66 ?_
   refine R.go (h:=Q.sadd (hl:=fun _=>by simp only [List.length_append,List.length_cons,List.length_nil,List.length_drop] at *;omega)) (hr:=?_)
   refine R.go (h:=Q.sadd (hl:=fun _=>by simp only [List.length_append,List.length_cons,List.length_nil,List.length_drop] at *;omega)) (hr:=?_)
   refine R.go ?_;refine R.fin [4] ?_;refine K.thN ?_;refine Z0 ?_
   refine R.go (h:=Q.sadd (hl:=fun _=>by simp only [List.length_append,List.length_cons,List.length_nil,List.length_drop] at *;omega)) (hr:=?_)
   exact Vo
  have hbk:2≤levE (e.kids.getD 0 Ad):=by
   have h:=ht77
   rw [AC7 hm3] at h
   simpa using h
  rw [Sp hbk] at pe hlen
  refine Mf ?_
  refine R.go (h:=Q.sadd (hl:=fun _=>by simp only [List.length_append,List.length_cons,List.length_nil,List.length_drop] at *;omega)) (hr:=?_)
  exact Vo
 rw [if_neg (by rw [ht49];simp)] at pe
 refine Z3 ?_;refine R.fin [1,83] ?_
 refine W.cond (fun ht83=>?_) (fun ht83=>?_)
 ·rw [if_pos ht83] at pe
  have h5:e.op=5:=by simpa using ht83
  have hkl:=k5 h5
  have hlv5:levE e=(Ae e.text).toNat:=by simp [levE,h5]
  have hl5:=Hz e.text
  rw [Yz (by omega),Yz (by omega)] at pe
  rw [←hlv5] at pe
  rw [pe] at hlen
  simp only [List.length_cons,List.length_append] at hlen
  have hla:=hlv _ (El (k:=e.kids) (i:=0) (by omega)).2.1
  have hlb:=hlv _ (El (k:=e.kids) (i:=1) (by omega)).2.1
  refine W.drawQ [0,1,0,4,12,28,63,0,128,384,896,2047,4095,8191,16383] 11 Ab (by kernel_rfl) ?_;refine D.go ?_;refine D.call Tryz.call83 (c83 e _) ?_;refine Z9 ?_
  refine D.go (h:=Q.indexAddr (0) (A5 (e.kids.getD 0 Ad)) (fun _=>(El (by omega)).1)) (hr:=?_)
  refine D.go ?_;refine D.call Tryz.call83 (c83 (e.kids.getD 0 Ad) _) ?_;refine Z9 ?_
  refine D.go (h:=Q.indexAddr (1) (A5 (e.kids.getD 1 Ad)) (fun _=>(El (by omega)).1)) (hr:=?_)
  refine Z84 ?_;refine R.call Tryz.call83 (c83 (e.kids.getD 1 Ad) _) ?_;refine Z6 ?_;refine R.fin [1,5,6,7] ?_;refine W.drawQ [0,1,3,7,15,0,32,96,224,511,1023,2047] 9 Ab (by kernel_rfl) ?_;refine Z9 ?_
  refine D.go (h:=Q.indexAddr (0) (A5 (e.kids.getD 0 Ad)) (fun _=>(El (by omega)).1)) (hr:=?_)
  refine D.go ?_;refine D.call Tryz.call41 (hev (e.kids.getD 0 Ad) (El (by omega)).2.1 _) ?_;refine Z9 ?_
  refine D.go (h:=Q.indexAddr (1) (A5 (e.kids.getD 1 Ad)) (fun _=>(El (by omega)).1)) (hr:=?_)
  refine Z84 ?_;refine R.call Tryz.call41 (hev (e.kids.getD 1 Ad) (El (by omega)).2.1 _) ?_;refine Z1 ?_;refine R.fin [1,5,6,7,8,9] ?_;refine Z55 ?_;refine Z53 ?_;refine Qo ?_;refine R.fin [1,5,7,8,9,117] ?_
  refine W.cond (fun ht117=>?_) (fun ht117=>?_)
  ·have hbk:¬Bx (levE e)≤levE (e.kids.getD 0 Ad):=by
    have h:=ht117
    rw [hlv0,hla] at h
    simp only [Bool.or_eq_true,Bool.and_eq_true,decide_eq_true_eq,beq_iff_eq] at h
    unfold Bx
    split<;>omega
   rw [Sq hbk] at pe hlen
   simp only [List.length_append,List.length_cons,List.length_nil] at hlen
   refine Z66 ?_
   refine R.go (h:=Q.sadd (hl:=fun _=>by simp only [List.length_append,List.length_cons,List.length_nil,List.length_drop] at *;omega)) (hr:=?_)
   refine R.go (h:=Q.sadd (hl:=fun _=>by simp only [List.length_append,List.length_cons,List.length_nil,List.length_drop] at *;omega)) (hr:=?_)
   refine R.go ?_;refine R.fin [1,5,7,8,9] ?_;refine K.thN ?_;refine Z22 ?_;refine R.fin [1,8,9,123] ?_
   refine W.cond (fun ht123=>?_) (fun ht123=>?_)
   ·have hbk2:¬levE e+1≤levE (e.kids.getD 1 Ad):=by
     have h:=ht123
     rw [hlv0,hlb] at h
     simp only [decide_eq_true_eq] at h
     omega
    rw [Sq hbk2] at pe hlen
    simp only [List.length_append,List.length_cons,List.length_nil] at hlen
    refine Z66 ?_
    refine R.go (h:=Q.sadd (hl:=fun _=>by simp only [List.length_append,List.length_cons,List.length_nil,List.length_drop] at *;omega)) (hr:=?_)
    refine R.go (h:=Q.sadd (hl:=fun _=>by simp only [List.length_append,List.length_cons,List.length_nil,List.length_drop] at *;omega)) (hr:=?_)
    refine R.go ?_;refine R.fin [1,8,9] ?_;refine K.thN ?_;refine Z0 ?_
    refine R.go (h:=Q.sadd (hl:=fun _=>by simp only [List.length_append,List.length_cons,List.length_nil,List.length_drop] at *;omega)) (hr:=?_)
    refine Z1 ?_
    refine R.go (h:=Q.sadd (hl:=fun _=>by simp only [List.length_append,List.length_cons,List.length_nil,List.length_drop] at *;omega)) (hr:=?_)
    refine R.go (h:=Q.sadd (hl:=fun _=>by simp only [List.length_append,List.length_cons,List.length_nil,List.length_drop] at *;omega)) (hr:=?_)
    refine R.go ?_
    refine R.go (h:=Q.sadd (hl:=fun _=>by simp only [List.length_append,List.length_cons,List.length_nil,List.length_drop] at *;omega)) (hr:=?_)
    exact Vo
   have hbk2:levE e+1≤levE (e.kids.getD 1 Ad):=by
    have h:=ht123
    rw [hlv0,hlb] at h
    simp only [decide_eq_false_iff_not] at h
    omega
   rw [Sp hbk2] at pe hlen
   refine Mf ?_
   refine R.go (h:=Q.sadd (hl:=fun _=>by simp only [List.length_append,List.length_cons,List.length_nil,List.length_drop] at *;omega)) (hr:=?_)
   refine Z1 ?_
   refine R.go (h:=Q.sadd (hl:=fun _=>by simp only [List.length_append,List.length_cons,List.length_nil,List.length_drop] at *;omega)) (hr:=?_)
   refine R.go (h:=Q.sadd (hl:=fun _=>by simp only [List.length_append,List.length_cons,List.length_nil,List.length_drop] at *;omega)) (hr:=?_)
   refine R.go ?_
   refine R.go (h:=Q.sadd (hl:=fun _=>by simp only [List.length_append,List.length_cons,List.length_nil,List.length_drop] at *;omega)) (hr:=?_)
   exact Vo
  have hbk:Bx (levE e)≤levE (e.kids.getD 0 Ad):=by
   have h:=ht117
   rw [hlv0,hla] at h
   simp only [Bool.or_eq_false_iff,Bool.and_eq_false_iff,decide_eq_false_iff_not,beq_eq_false_iff_ne] at h
   unfold Bx
   split<;>omega
  rw [Sp hbk] at pe hlen
  refine Xl ?_;refine R.fin [1,8,9,123] ?_
  refine W.cond (fun ht123=>?_) (fun ht123=>?_)
  ·have hbk2:¬levE e+1≤levE (e.kids.getD 1 Ad):=by
    have h:=ht123
    rw [hlv0,hlb] at h
    simp only [decide_eq_true_eq] at h
    omega
   rw [Sq hbk2] at pe hlen
   simp only [List.length_append,List.length_cons,List.length_nil] at hlen
   refine Z66 ?_
   refine R.go (h:=Q.sadd (hl:=fun _=>by simp only [List.length_append,List.length_cons,List.length_nil,List.length_drop] at *;omega)) (hr:=?_)
   refine R.go (h:=Q.sadd (hl:=fun _=>by simp only [List.length_append,List.length_cons,List.length_nil,List.length_drop] at *;omega)) (hr:=?_)
   refine R.go ?_;refine R.fin [1,8,9] ?_;refine K.thN ?_;refine Z0 ?_
   refine R.go (h:=Q.sadd (hl:=fun _=>by simp only [List.length_append,List.length_cons,List.length_nil,List.length_drop] at *;omega)) (hr:=?_)
   refine Z1 ?_
   refine R.go (h:=Q.sadd (hl:=fun _=>by simp only [List.length_append,List.length_cons,List.length_nil,List.length_drop] at *;omega)) (hr:=?_)
   refine R.go (h:=Q.sadd (hl:=fun _=>by simp only [List.length_append,List.length_cons,List.length_nil,List.length_drop] at *;omega)) (hr:=?_)
   refine R.go ?_
   refine R.go (h:=Q.sadd (hl:=fun _=>by simp only [List.length_append,List.length_cons,List.length_nil,List.length_drop] at *;omega)) (hr:=?_)
   exact Vo
  have hbk2:levE e+1≤levE (e.kids.getD 1 Ad):=by
   have h:=ht123
   rw [hlv0,hlb] at h
   simp only [decide_eq_false_iff_not] at h
   omega
  rw [Sp hbk2] at pe hlen
  refine Mf ?_
  refine R.go (h:=Q.sadd (hl:=fun _=>by simp only [List.length_append,List.length_cons,List.length_nil,List.length_drop] at *;omega)) (hr:=?_)
  refine Z1 ?_
  refine R.go (h:=Q.sadd (hl:=fun _=>by simp only [List.length_append,List.length_cons,List.length_nil,List.length_drop] at *;omega)) (hr:=?_)
  refine R.go (h:=Q.sadd (hl:=fun _=>by simp only [List.length_append,List.length_cons,List.length_nil,List.length_drop] at *;omega)) (hr:=?_)
  refine R.go ?_
  refine R.go (h:=Q.sadd (hl:=fun _=>by simp only [List.length_append,List.length_cons,List.length_nil,List.length_drop] at *;omega)) (hr:=?_)
  exact Vo
 rw [if_neg (by rw [ht83];simp)] at pe
 have hsl:∀x,((Dr ((e.kids.take x).map A8)).drop 2).length≤((Dr (e.kids.map A8)).drop 2).length:=fun x=>by have:=ra (k:=e.kids) x;rw [List.length_drop,List.length_drop];omega
 have hkl6:=hok.2.1
 rw [pe] at hlen
 simp only [List.length_cons,List.length_append,List.length_nil] at hlen
 refine Z39 ?_;refine Z3 ?_
 refine R.go (h:=Q.sadd (hl:=fun _=>by simp only [List.length_append,List.length_cons,List.length_nil,List.length_drop] at *;omega)) (hr:=?_)
 refine R.go ?_;refine R.fin [1,10] ?_;refine Z8 ?_;refine R.fin [1,10,11] ?_
 refine AW.loopC (α:=Nat) (fun x=>⟨159,A6 1 (.ro (Cs e)) (A6 10 (Aa (e.text++[40]++(Dr ((e.kids.take x).map A8)).drop 2)) (A6 11 (A3 (x:Nat)) (fun _=>.any))),Hp,[],[],none⟩) (fun x=>x≤e.kids.length) (fun x=>e.kids.length-x) (0) (Nat.zero_le _) (StLe.of_eq (by simp [Dr])) rfl (fun x hx=>?_)
 refine Z73 ?_;refine R.fin [1,10,11,142] ?_
 refine W.cond (fun ht142=>?_) (fun ht142=>?_)
 ·have hlt:x<e.kids.length:=by simpa using ht142
  have hst:=Za hlt
  have hsl1:=hsl (x+1)
  have hslx:=hsl x
  refine Z44 ?_;refine Z31 ?_;refine R.fin [1,10,11,146] ?_
  refine W.cond (fun ht146=>?_) (fun ht146=>?_)
  ·have h0x:0<x:=by simpa using ht146
   rw [if_pos h0x] at hst
   have hstl:=congrArg List.length hst
   simp only [List.length_append,List.length_cons,List.length_nil] at hstl
   refine Z66 ?_
   refine R.go (h:=Q.sadd (hl:=fun _=>by simp only [List.length_append,List.length_cons,List.length_nil,List.length_drop] at *;omega)) (hr:=?_)
   refine R.go ?_;refine R.fin [1,10,11] ?_;refine K.thN ?_;refine Z30 ?_;refine Z1 ?_
   refine R.go (h:=Q.indexAddr (x) (A5 e.kids[x]) (fun _=>Am hlt)) (hr:=?_)
   refine R.go ?_;refine R.call Tryz.call41 (hev _ (List.getElem_mem hlt) _) ?_
   refine R.go (h:=Q.sadd (hl:=fun _=>by simp only [List.length_append,List.length_cons,List.length_nil,List.length_drop] at *;omega)) (hr:=?_)
   refine R.go ?_;refine R.fin [1,10,11] ?_;refine Z35 ?_;exact zq
  have h0x:¬0<x:=by simpa using ht146
  rw [if_neg h0x] at hst
  have hstl:=congrArg List.length hst
  simp only [List.length_append,List.length_cons,List.length_nil] at hstl
  refine Z5 ?_;refine Z30 ?_;refine Z1 ?_
  refine R.go (h:=Q.indexAddr (x) (A5 e.kids[x]) (fun _=>Am hlt)) (hr:=?_)
  refine R.go ?_;refine R.call Tryz.call41 (hev _ (List.getElem_mem hlt) _) ?_
  refine R.go (h:=Q.sadd (hl:=fun _=>by simp only [List.length_append,List.length_cons,List.length_nil,List.length_drop] at *;omega)) (hr:=?_)
  refine R.go ?_;refine R.fin [1,10,11] ?_;refine Z35 ?_;exact zq
 have hxe:e.kids.take x=e.kids:=List.take_of_length_le (by simp at ht142;omega)
 have hslx:=hsl x
 refine Z47 ?_;refine Z0 ?_
 refine R.go (h:=Q.sadd (hl:=fun _=>by simp only [List.length_append,List.length_cons,List.length_nil,List.length_drop] at *;omega)) (hr:=?_)
 refine Z70 ?_;exact ABd

/-! ref18.Print: what it answers. -/
def Dz (l:List Mov):Str×Bool:=if l.all B2 then (l.flatMap mvS,true) else ([],false)
theorem Ku {m:Mov} (hv:Cf m=true):B2 m=true↔(∀e∈m.ahead,(A8 e).length≤4000)∧∀e∈m.back,(A8 e).length≤4000:=by
 unfold Cf at hv
 simp only [Bool.and_eq_true,List.all_eq_true] at hv
 unfold B2
 rw [Bool.and_eq_true,beq_iff_eq,beq_iff_eq,Kr hv.1.1.2,Kr hv.1.2]
theorem Wq (m:Mov):B7 (gvs m (m.ahead.map A8))=Fk m:=by
 unfold Fk gvs Uq
 congr 1
 rw [List.zip_map_right,List.map_map]
 refine List.map_congr_left fun p _=>?_
 simp
theorem AEe {m:Mov} (S:Str) (h:(m.kind==1)=true):((((S++Av m.kind)++[32])++B7 (gvs m (m.ahead.map A8)))++[59,10])=S++mvS m:=by
 unfold mvS I6
 rw [if_pos h,Wq]
 simp
theorem AEf {m:Mov} {s:Str} (S:Str) (h1:(m.kind==1)=false) (h:(m.kind==2)=true) (hs:m.take=[s]):(((((S++Av m.kind)++[32])++s)++[32,98,97,99,107,32])++B7 (m.back.map A8))++[59,10]=S++mvS m:=by
 unfold mvS I6 H3 Fx backW
 rw [h1,if_neg (by simp),if_pos h,hs]
 simp [B7]
theorem AEg {m:Mov} {s:Str} {y:Col} (S:Str) (h1:(m.kind==1)=false) (h2:(m.kind==2)=false) (h:(m.kind==3)=true) (hs:m.take=[s]) (hy:m.give=[y]):(((((S++Av m.kind)++[32])++s)++[32,116,111,32])++y.name)++[59,10]=S++mvS m:=by
 unfold mvS I6 H3 toW
 rw [h1,if_neg (by simp),h2,if_neg (by simp),if_pos h,hs,hy]
 simp [B7]
theorem AEh {m:Mov} (S:Str) (h1:(m.kind==1)=false) (h2:(m.kind==2)=false) (h3:(m.kind==3)=false) (h:(m.kind==6)=true):(((((S++Av m.kind)++[32])++B7 (gvs m (m.ahead.map A8)))++[32,98,97,99,107,32])++B7 (m.back.map A8))++[59,10]=S++mvS m:=by
 unfold mvS I6 Fx backW
 rw [h1,if_neg (by simp),h2,if_neg (by simp),h3,if_neg (by simp),if_pos h,Wq]
 simp
theorem AEi {m:Mov} (S:Str) (h1:(m.kind==1)=false) (h2:(m.kind==2)=false) (h3:(m.kind==3)=false) (h:(m.kind==6)=false):(((((((S++Av m.kind)++[32])++B7 m.take)++[32,105,110,116,111,32])++B7 (gvs m (m.ahead.map A8)))++[32,98,97,99,107,32])++B7 (m.back.map A8))++[59,10]=S++mvS m:=by
 unfold mvS I6 H3 Fx intoW backW
 rw [h1,if_neg (by simp),h2,if_neg (by simp),h3,if_neg (by simp),h,if_neg (by simp),Wq]
 simp
theorem dw {l:List Str} {x:Nat} (h:x<l.length):B7 (l.take (x+1))=(if 0<x then B7 (l.take x)++[44,32] else [])++l[x]:=by
 cases l with
 | nil=>simp at h
 | cons a r =>
  cases x with
  | zero=>simp [B7]
  | succ x =>
   rw [if_pos (by omega),List.take_succ_cons,List.take_succ_cons,B7,B7,List.take_succ_eq_append_getElem (by simpa using h),List.flatMap_append]
   simp
theorem Sv (l:List Str):∀x,(B7 (l.take x)).length≤(B7 l).length:=by
 intro x
 cases l with
 | nil=>simp
 | cons a r =>
  cases x with
  | zero=>exact Nat.zero_le _
  | succ x =>
   rw [List.take_succ_cons,B7,B7,List.length_append,List.length_append]
   have:=List.take_append_drop x r
   have h2:(r.flatMap fun u=>[44,32]++u).length=(((r.take x).flatMap fun u=>[44,32]++u)++((r.drop x).flatMap fun u=>[44,32]++u)).length:=by
    rw [←List.flatMap_append,this]
   rw [List.length_append] at h2
   omega
theorem wn {k:Int} (h1:1≤k) (h6:k≤6):(migWords.map Aa)[k.toNat]? = some (Aa (Av k)):=by
 have:k=1∨k=2∨k=3∨k=4∨k=5∨k=6:=by omega
 rcases this with rfl|rfl|rfl|rfl|rfl|rfl<;>rfl
theorem wo {m:Mov} (hv:Cf m=true):1≤m.kind∧m.kind≤6:=by
 have:=Oh hv
 omega
theorem sa {m:Mov} (hv:Cf m=true) (h:(m.kind==2)=true∨(m.kind==3)=true):∃s,m.take=[s]:=by
 have hc:=Fs hv
 unfold Bs at hc
 split at hc
 ·cases hc
 have h1:(m.kind==1)=false:=by simp at h ⊢;omega
 rw [h1,if_neg (by simp)] at hc
 rcases h with h|h
 ·rw [h,if_pos rfl] at hc
  simp only [Bool.and_eq_true] at hc
  exact Eg hc.1
 have h2:(m.kind==2)=false:=by simp at h ⊢;omega
 rw [h2,if_neg (by simp),h,Bool.true_or,if_pos rfl] at hc
 simp only [Bool.and_eq_true] at hc
 exact Eg hc.1
theorem mb {m:Mov} (h:OkMov m) (hk:∀e∈m.ahead,(A8 e).length≤4000):∀s∈gvs m (m.ahead.map A8),s.length≤1060000:=by
 intro s hs
 unfold gvs at hs
 obtain ⟨p,hp,rfl⟩:=List.mem_map.1 hs
 have h1:=h.gives.2 p.1 (List.of_mem_zip hp).1
 have h2:p.2.length≤4000:=by
  obtain ⟨e,he,h2⟩:=List.mem_map.1 (List.of_mem_zip hp).2
  rw [←h2]
  exact hk e he
 have h3:=He p.1.kind
 simp only [List.length_append,List.length_cons,List.length_nil]
 omega
theorem dx {m:Mov} (h:OkMov m) (ha:m.ahead.length=m.give.length) (hk:∀e∈m.ahead,(A8 e).length≤4000):(B7 (gvs m (m.ahead.map A8))).length≤1100000000000:=by
 have h1:=J4 (mb h hk)
 have h3:=Q6 (m:=m) (T:=m.ahead.map A8) (by rw [List.length_map];omega)
 rw [List.length_map] at h3
 have h4:=h.gives2
 have:(gvs m (m.ahead.map A8)).length*(1060000+2)≤1000000*1060002:=Nat.mul_le_mul_right _ (by omega)
 omega
theorem dy {m:Mov} (h:OkMov m) (hk:∀e∈m.back,(A8 e).length≤4000):(B7 (m.back.map A8)).length≤4300000000:=by
 have h1:=J4 (b:=4000) (l:=m.back.map A8) (fun s hs=>by
  obtain ⟨e,he,rfl⟩:=List.mem_map.1 hs
  exact hk e he)
 rw [List.length_map] at h1
 have h3:=h.back.len
 have:m.back.length*(4000+2)≤1048576*4002:=Nat.mul_le_mul_right _ (by omega)
 omega
theorem Pd {l:List Mov} {m:Mov} (hm:m∈l) (h:B2 m=false):Dz l=([],false):=by
 unfold Dz
 rw [List.all_eq_false.2 ⟨m,hm,by rw [h];simp⟩]
 rfl
theorem Wr {l:List Mov} (h:∀(j:Nat) (y:Mov),l[j]? = some y→B2 y=true):Dz l=(l.flatMap mvS,true):=by
 unfold Dz
 rw [List.all_eq_true.2 fun y hy=>by
  obtain ⟨j,hj,rfl⟩:=List.getElem_of_mem hy
  exact h j _ (List.getElem?_eq_getElem hj)]
 rfl
theorem i7 {α:Type} {l:List α} {p:α→Prop} (h:∀(j:Nat) (y:α),j<l.length→l[j]? = some y→p y):∀y∈l,p y:=fun y hy=>by
 obtain ⟨j,hj,rfl⟩:=List.getElem_of_mem hy
 exact h j _ hj (List.getElem?_eq_getElem hj)
theorem Sw {m:Mov} (h:OkMov m) (hv:Cf m=true) {e:Expr} (he:e∈m.ahead∨e∈m.back):zl e:=by
 unfold Cf at hv
 simp only [Bool.and_eq_true,List.all_eq_true] at hv
 rcases he with he|he
 ·exact c41 61 e (h.ahead.ok e he) (h.ahead.size e he) (Ev (by rw [←Cu];exact hv.1.1.2 e he)) (h.ahead.rng e he)
 exact c41 61 e (h.back.ok e he) (h.back.size e he) (Ev (by rw [←Cu];exact hv.1.2 e he)) (h.back.rng e he)
theorem c10 (Hp:List AObj):AFun Tryz.prog 10 [] Hp (Du migWords):=by
 refine ACall.body [.tmp 0] [] Tryz.func10 Tryz.ntmps10 (fun d=>?_)
 refine Z0 ?_;refine R.fin [] ?_;refine E4 ?_;refine R.buildSl jU jS jZ ?_;refine R.go ?_;refine R.fin [0] ?_;refine AW.ret ?_;exact ay

theorem c43 (l:List Str) (hn:l.length≤140737488355328) (hl:(B7 l).length≤140737488355328) (Hp:List AObj):AFun Tryz.prog 43 [Du l] Hp (Aa (B7 l)):=by
 refine ACall.body [.tmp 2] [0] Tryz.func43 Tryz.ntmps43 (fun d=>?_)
 refine Z46 ?_;refine Z0 ?_;refine Hu ?_;refine Z8 ?_;refine Qp ?_
 refine AW.loopC (α:=Nat) (fun x=>⟨22,A6 0 (Du l) (A6 3 (Aa (B7 (l.take x))) (A6 4 (A3 (x:Nat)) (fun _=>.any))),Hp,[],[],none⟩) (fun x=>x≤l.length) (fun x=>l.length-x) (0) (Nat.zero_le _) (StLe.of_eq (by simp [B7])) rfl (fun x hx=>?_)
 refine Z55 ?_;refine R.fin [0,3,4,8] ?_
 refine W.cond (fun ht8=>?_) (fun ht8=>?_)
 ·have hlt:x<l.length:=by simpa using ht8
  have hb:=Sv l x
  have hb1:=Sv l (x+1)
  have hs:=dw hlt
  refine Z44 ?_;refine Z31 ?_;refine R.fin [0,3,4,12] ?_
  refine W.cond (fun ht12=>?_) (fun ht12=>?_)
  ·have hx0:0<x:=by simpa using ht12
   rw [if_pos hx0] at hs
   rw [hs] at hb1
   simp only [List.length_append,List.length_cons,List.length_nil] at hb1
   refine Z66 ?_
   refine R.go (h:=Q.sadd (hl:=fun _=>by simp only [List.length_cons,List.length_nil];omega)) (hr:=?_)
   refine sx ?_;refine K.thN ?_;refine Z48 ?_
   refine R.go (h:=Q.indexAddr (x) (Aa l[x]) (fun _=>Am hlt)) (hr:=?_)
   refine R.go ?_
   refine R.go (h:=Q.sadd (hl:=fun _=>by simp only [List.length_append,List.length_cons,List.length_nil];omega)) (hr:=?_)
   refine sx ?_;refine Z35 ?_;exact AA0
  have hx0:x=0:=by simpa using ht12
  rw [if_neg (by omega)] at hs
  rw [hs] at hb1
  simp only [List.length_append,List.length_cons,List.length_nil] at hb1
  have hz:B7 (l.take x)=[]:=by rw [hx0];rfl
  rw [hz]
  refine Z5 ?_;refine Z48 ?_
  refine R.go (h:=Q.indexAddr (x) (Aa l[x]) (fun _=>Am hlt)) (hr:=?_)
  refine R.go ?_
  refine R.go (h:=Q.sadd (hl:=fun _=>by simp only [List.length_append,List.length_cons,List.length_nil];omega)) (hr:=?_)
  refine sx ?_;refine Z35 ?_;exact AA0
 have hxe:l.length≤x:=by simpa using ht8
 refine Z47 ?_;refine Xk ?_;exact K.fin (V.one V.tmp) ⟨by rw [List.take_of_length_le hxe],rfl⟩

theorem c18 (l:List Mov) (h:OkMovs l) (hr:I1 l=true) (Hp:List AObj):AFun Tryz.prog 18 [Ca l] Hp (.tup [Aa (Dz l).1,Ap (Dz l).2]):=by
 unfold I1 at hr
 simp only [Bool.and_eq_true,decide_eq_true_eq,List.all_eq_true] at hr
 obtain ⟨h8,hall⟩:=hr
 have h8:l.length≤8:=by omega
 refine ACall.body [.tmp 2,.tmp 3] [0] Tryz.func18 Tryz.ntmps18 (fun d=>?_)
 refine Z3 ?_;refine R.fin [0] ?_;refine Z0 ?_;refine R.fin [0,4] ?_;refine Z8 ?_;refine R.fin [0,4,5] ?_
 refine AW.loopC (α:=Nat) (fun x=>⟨151,A6 0 (Ca l) (A6 4 (Aa ((l.take x).flatMap mvS)) (A6 5 (A3 (x:Nat)) (fun _=>.any))),Hp,[],[],none⟩) (fun x=>x≤l.length∧∀(j:Nat) (y:Mov),j<x→l[j]? = some y→B2 y=true) (fun x=>l.length-x) (0) ⟨Nat.zero_le _,fun j y h=>by omega⟩ (StLe.of_eq (by simp)) rfl (fun x hx=>?_)
 refine Z55 ?_;refine R.fin [0,4,5,16] ?_
 refine W.cond (fun ht16=>?_) (fun ht16=>?_)
 ·have hlt:x<l.length:=by simpa using ht16
  obtain ⟨m,hm⟩:∃m,m=l[x]:=⟨_,rfl⟩
  have hml:m∈l:=by rw [hm];exact List.getElem_mem hlt
  have hmx:(l.map Dp)[x]? = some (Dp m):=by rw [hm];exact Am hlt
  have hmo:=h.each m hml
  have hmv:=hall m hml
  have hcl:=Dq (Fs hmv)
  have hfl:((l.take x).flatMap mvS).length≤x*3000000000000:=Oo fun j y hj hy=>Q7 (h.each _ (List.mem_of_getElem? hy)) (Dq (Fs (hall _ (List.mem_of_getElem? hy)))).1 (hx.2 j y hj hy)
  have hgl:=Q6 (m:=m) (T:=(m.ahead.map A8)) (by rw [List.length_map];omega)
  rw [List.length_map] at hgl
  have hg2:=hmo.gives2
  have hb3:=hmo.back.len
  obtain ⟨hk1,hk6⟩:=wo hmv
  have htk:=On hmo
  have htk2:=hmo.takes
  have hwl:=Kt m.kind
  refine Vp ?_
  refine R.go (h:=Q.indexAddr (x) (Dp m) (fun _=>hmx)) (hr:=?_)
  refine Xi ?_;refine R.fin [0,4,5,6] ?_;refine E4 ?_;refine Jc ?_;refine Z91 ?_;refine R.assignT ?_;refine R.fin [0,4,5,6,7,8] ?_;refine Z8 ?_;refine R.fin [0,4,5,6,7,8,9] ?_
  refine AW.loopC (α:=Nat) (fun k=>⟨151,A6 0 (Ca l) (A6 4 (Aa ((l.take x).flatMap mvS)) (A6 5 (A3 (x:Nat)) (A6 6 (.ptr (oid Hp.length 0) 0) (A6 7 (.slice true 1 (((gvs m (m.ahead.map A8)).take k).map Aa)) (A6 8 (.slice true 1 []) (A6 9 (A3 (k:Nat)) (fun _=>.any))))))),Hp,[.cells 47 (I0 m)],[],none⟩) (fun k=>k≤m.give.length∧∀(j:Nat) (e:Expr),j<k→m.ahead[j]? = some e→(A8 e).length≤4000) (fun k=>m.give.length-k) (0) ⟨Nat.zero_le _,fun j y h=>by omega⟩ (StLe.of_eq (by simp)) rfl (fun k hk=>?_)
  refine Z73 ?_;refine R.fin [0,4,5,6,7,8,9,29] ?_
  refine W.cond (fun ht29=>?_) (fun ht29=>?_)
  ·have hkl:k<m.give.length:=by simpa using ht29
   have hka:k<m.ahead.length:=by omega
   have hn1:=hmo.gives.2 _ (List.getElem_mem hkl)
   have hn2:=He m.give[k].kind
   refine T6 ?_
   refine R.go (h:=Q.indexAddr (k) (A5 m.ahead[k]) (fun _=>Am hka)) (hr:=?_)
   refine R.go ?_;refine R.call Tryz.call41 (Sw hmo hmv (.inl (List.getElem_mem hka)) _) ?_;refine R.go ?_;refine R.fin [0,4,5,6,7,8,9,10] ?_;refine Z22 ?_;refine R.fin [0,4,5,6,7,8,9,10,40] ?_
   refine W.cond (fun ht40=>?_) (fun ht40=>?_)
   ·have hno:B2 m=false:=by
     rw [Bool.eq_false_iff]
     intro e
     have:=((Ku hmv).1 e).1 _ (List.getElem_mem hka)
     have:=of_decide_eq_true ht40
     omega
    have hm:=Pd hml hno
    refine an ?_;refine Z32 ?_;exact xi
   have hn3:(A8 m.ahead[k]).length≤4000:=by have:=of_decide_eq_false ht40;omega
   refine Z5 ?_;refine W.drawY0 [0,0,2,0,14,30,62,126,0,256,0,1792,3840,7936,16128,32766,65534,0,262142,524286,1048575,2097151] [] [.s [7,41] none [] [],.q 19 [] []] (fun _=>Hp) (fun _=>[.cells 47 (I0 m)]) Ab (by kernel_rfl) rfl rfl (fun _=>rfl) ?_;refine Y.moveT ?_
   apply Y.q
   case h1 =>
    intro B hT hF
    refine Z37 ?_
    refine D.go (h:=Q.indexAddr (k) (Bu m.give[k]) (fun _=>Am hkl)) (hr:=?_)
    refine Z9 ?_
    refine D.go (h:=Q.sadd (hl:=fun _=>by simp only [List.length_cons,List.length_nil];omega)) (hr:=?_)
    refine Z37 ?_
    refine D.go (h:=Q.indexAddr (k) (Bu m.give[k]) (fun _=>Am hkl)) (hr:=?_)
    refine Z9 ?_;refine D.call Tryz.call42 (c42 _ _) ?_
    refine D.go (h:=Q.sadd (hl:=fun _=>by simp only [List.length_append,List.length_cons,List.length_nil];omega)) (hr:=?_)
    refine D.go (h:=Q.sadd (hl:=fun _=>by simp only [List.length_append,List.length_cons,List.length_nil];omega)) (hr:=?_)
    refine D.go ?_
    refine D.go (h:=Q.sadd (hl:=fun _=>by simp only [List.length_append,List.length_cons,List.length_nil];omega)) (hr:=?_)
    exact Z33
   case hTF=>decide
   refine Y.tail (tn:=[])  ?_
   refine R.append jU Tryz.type9 ?_ ?_ ?_
   ·simp only [List.length_map,List.length_take,List.length_cons,List.length_nil,Tryz.t9];omega
   ·simp only [List.length_map,List.length_take,List.length_cons,List.length_nil,Tryz.t9];omega
   refine R.assignT ?_;refine R.fin [0,4,5,6,7,8,9] ?_;refine Z35 ?_;refine R.fin [0,4,5,6,7,8,9] ?_;refine K.lpN (k+1) ⟨hkl,Az hka hk.2 hn3⟩ (by omega) ?_
   rw [La (by omega:k<(gvs m (m.ahead.map A8)).length),rq (by rw [List.length_map];omega) hkl,List.getElem_map]
   exact StCut.take (own:=[.cells 47 (I0 m)]) (fun _=>.refl _) (by repeat (first|exact C5|refine C4 (by first|exact Ld|exact Lc|exact Ea|(simp [oid,or_imp,forall_and];done)) ?_)) (by intro z hz;rw [List.mem_singleton.1 hz];exact N8) (by simp)
  have hke:m.give.length≤k:=by simpa using ht29
  rw [List.take_of_length_le (by omega:(gvs m (m.ahead.map A8)).length≤k)]
  have hka:=i7 fun j e hj he=>hk.2 j e (by omega) he
  have hgj:=dx hmo hcl.1 hka
  refine Z47 ?_;refine Z8 ?_;refine R.fin [0,4,5,6,7,8,11] ?_
  refine AW.loopC (α:=Nat) (fun k=>⟨151,A6 0 (Ca l) (A6 4 (Aa ((l.take x).flatMap mvS)) (A6 5 (A3 (x:Nat)) (A6 6 (.ptr (oid Hp.length 0) 0) (A6 7 (.slice true 1 ((gvs m (m.ahead.map A8)).map Aa)) (A6 8 (.slice true 1 (((m.back.take k).map A8).map Aa)) (A6 11 (A3 (k:Nat)) (fun _=>.any))))))),Hp,[.cells 47 (I0 m)],[],none⟩) (fun k=>k≤m.back.length∧∀(j:Nat) (e:Expr),j<k→m.back[j]? = some e→(A8 e).length≤4000) (fun k=>m.back.length-k) (0) ⟨Nat.zero_le _,fun j y h=>by omega⟩ (StLe.of_eq (by simp)) rfl (fun k hk=>?_)
  refine Z73 ?_;refine R.fin [0,4,5,6,7,8,11,66] ?_
  refine W.cond (fun ht66=>?_) (fun ht66=>?_)
  ·have hkl:k<m.back.length:=by simpa using ht66
   refine T6 ?_
   refine R.go (h:=Q.indexAddr (k) (A5 m.back[k]) (fun _=>Am hkl)) (hr:=?_)
   refine R.go ?_;refine R.call Tryz.call41 (Sw hmo hmv (.inr (List.getElem_mem hkl)) _) ?_;refine R.go ?_;refine R.fin [0,4,5,6,7,8,11,12] ?_;refine Z22 ?_;refine R.fin [0,4,5,6,7,8,11,12,77] ?_
   refine W.cond (fun ht77=>?_) (fun ht77=>?_)
   ·have hno:B2 m=false:=by
     rw [Bool.eq_false_iff]
     intro e
     have:=((Ku hmv).1 e).2 _ (List.getElem_mem hkl)
     have:=of_decide_eq_true ht77
     omega
    have hm:=Pd hml hno
    refine an ?_;refine Z32 ?_;exact xi
   have hn3:(A8 m.back[k]).length≤4000:=by have:=of_decide_eq_false ht77;omega
   refine Z5 ?_;refine j8 ?_;refine R.go ?_;refine Jc ?_
   refine R.append jU Tryz.type9 ?_ ?_ ?_
   ·simp only [List.length_map,List.length_take,List.length_cons,List.length_nil,Tryz.t9];omega
   ·simp only [List.length_map,List.length_take,List.length_cons,List.length_nil,Tryz.t9];omega
   refine R.assignT ?_;refine R.fin [0,4,5,6,7,8,11] ?_;refine Z35 ?_;refine R.fin [0,4,5,6,7,8,11] ?_;refine K.lpN (k+1) ⟨hkl,Az hkl hk.2 hn3⟩ (by omega) ?_
   rw [La hkl,List.map_append,List.map_cons,List.map_nil]
   exact StCut.take (own:=[.cells 47 (I0 m)]) (fun _=>.refl _) (by repeat (first|exact C5|refine C4 (by first|exact Ld|exact Lc|exact Ea|(simp [oid,or_imp,forall_and];done)) ?_)) (by intro z hz;rw [List.mem_singleton.1 hz];exact N8) (by simp)
  have hke:m.back.length≤k:=by simpa using ht66
  rw [List.take_of_length_le hke]
  have hkb:=i7 fun j e hj he=>hk.2 j e (by omega) he
  have hbj:=dy hmo hkb
  have hok:B2 m=true:=(Ku hmv).2 ⟨hka,hkb⟩
  have hml2:=Q7 hmo hcl.1 hok
  refine Z47 ?_;refine W.draw [0,0,0,4,14,30,63,127,255] 6 Ab (by kernel_rfl) ?_;refine D.go ?_;refine D.call Tryz.call10 (c10 _) ?_;refine Z9 ?_
  refine D.go (h:=Q.indexAddr (m.kind.toNat) (Aa (Av m.kind)) (fun _=>wn hk1 hk6)) (hr:=?_)
  refine Z84 ?_
  refine R.go (h:=Q.sadd (hl:=fun _=>by omega)) (hr:=?_)
  refine R.go (h:=Q.sadd (hl:=fun _=>by simp only [List.length_append,List.length_cons,List.length_nil];omega)) (hr:=?_)
  refine R.go ?_;refine R.fin [0,4,5,6,7,8] ?_;refine Z31 ?_;refine R.fin [0,4,5,6,7,8,91] ?_;refine Z69 ?_;refine R.fin [0,4,5,6,7,8,91,105] ?_
  refine W.cond (fun ht105=>?_) (fun ht105=>?_)
  ·have hrp:=AEe ((l.take x).flatMap mvS) ht105
   refine AAl ?_
   refine R.go (h:=Q.sadd (hl:=fun _=>by simp only [List.length_append,List.length_cons,List.length_nil];omega)) (hr:=?_)
   refine Z74 ?_;refine ar ?_
   refine R.go (h:=Q.sadd (hl:=fun _=>by simp only [List.length_append,List.length_cons,List.length_nil];omega)) (hr:=?_)
   refine Z74 ?_;refine mz ?_
   refine K.lpN (x+1) ⟨hlt,Az hlt hx.2 (by rw [←hm];exact hok)⟩ (by omega) ?_
   rw [Ho hlt,←hm,←hrp]
   exact StCut.take (own:=[]) (fun _=>.refl _) (by repeat (first|exact C5|refine C4 (by first|exact Ea|(simp [oid,or_imp,forall_and];done)) ?_)) (by simp) (by simp)
  refine Z3 ?_;refine R.fin [0,4,5,6,7,8,91,111] ?_
  refine W.cond (fun ht111=>?_) (fun ht111=>?_)
  ·obtain ⟨s,hs⟩:=sa hmv (.inl ht111)
   have hsl:=hmo.names s (by rw [hs];exact List.mem_cons_self)
   have hrp:=AEf ((l.take x).flatMap mvS) ht105 ht111 hs
   refine W.draw0 [0,0,2,6,14,31,63,0,128,511,1023] 9 Ab (by kernel_rfl) ?_;refine Z37 ?_
   refine D.go (h:=Q.indexAddr (0) (Aa s) (fun _=>by rw [hs];rfl)) (hr:=?_)
   refine D.go ?_
   refine D.go (h:=Q.sadd (hl:=fun _=>by simp only [List.length_append,List.length_cons,List.length_nil];omega)) (hr:=?_)
   refine D.go (h:=Q.sadd (hl:=fun _=>by simp only [List.length_append,List.length_cons,List.length_nil];omega)) (hr:=?_)
   refine D.go ?_
   refine D.call Tryz.call43 (c43 (m.back.map A8) (by rw [List.length_map];omega) (by omega) _) ?_
   refine D.tail ?_
   refine R.go (h:=Q.sadd (hl:=fun _=>by simp only [List.length_append,List.length_cons,List.length_nil];omega)) (hr:=?_)
   refine Z74 ?_;refine ar ?_
   refine R.go (h:=Q.sadd (hl:=fun _=>by simp only [List.length_append,List.length_cons,List.length_nil];omega)) (hr:=?_)
   refine Z74 ?_;refine mz ?_
   refine K.lpN (x+1) ⟨hlt,Az hlt hx.2 (by rw [←hm];exact hok)⟩ (by omega) ?_
   rw [Ho hlt,←hm,←hrp]
   exact StCut.take (own:=[]) (fun _=>.refl _) (by repeat (first|exact C5|refine C4 (by first|exact Ea|(simp [oid,or_imp,forall_and];done)) ?_)) (by simp) (by simp)
  refine Z3 ?_;refine R.fin [0,4,5,6,7,8,91,123] ?_
  refine W.cond (fun ht123=>?_) (fun ht123=>?_)
  ·obtain ⟨s,hs⟩:=sa hmv (.inr ht123)
   have hsl:=hmo.names s (by rw [hs];exact List.mem_cons_self)
   obtain ⟨y,hy⟩:=qv (Iz (Fs hmv) (by rw [ht123];rfl)).2
   have hyl:=hmo.gives.2 y (by rw [hy];exact List.mem_cons_self)
   have hrp:=AEg ((l.take x).flatMap mvS) ht105 ht111 ht123 hs hy
   refine W.draw0 [0,0,2,6,14,31,63,0,128,384,896,1920,4095,8191] 12 Ab (by kernel_rfl) ?_;refine Z37 ?_
   refine D.go (h:=Q.indexAddr (0) (Aa s) (fun _=>by rw [hs];rfl)) (hr:=?_)
   refine D.go ?_
   refine D.go (h:=Q.sadd (hl:=fun _=>by simp only [List.length_append,List.length_cons,List.length_nil];omega)) (hr:=?_)
   refine D.go (h:=Q.sadd (hl:=fun _=>by simp only [List.length_append,List.length_cons,List.length_nil];omega)) (hr:=?_)
   refine Z9 ?_
   refine D.go (h:=Q.indexAddr (0) (Bu y) (fun _=>by rw [hy];rfl)) (hr:=?_)
   refine Z9 ?_;refine D.tail ?_
   refine R.go (h:=Q.sadd (hl:=fun _=>by simp only [List.length_append,List.length_cons,List.length_nil];omega)) (hr:=?_)
   refine Z74 ?_;refine ar ?_
   refine R.go (h:=Q.sadd (hl:=fun _=>by simp only [List.length_append,List.length_cons,List.length_nil];omega)) (hr:=?_)
   refine Z74 ?_;refine mz ?_
   refine K.lpN (x+1) ⟨hlt,Az hlt hx.2 (by rw [←hm];exact hok)⟩ (by omega) ?_
   rw [Ho hlt,←hm,←hrp]
   exact StCut.take (own:=[]) (fun _=>.refl _) (by repeat (first|exact C5|refine C4 (by first|exact Ea|(simp [oid,or_imp,forall_and];done)) ?_)) (by simp) (by simp)
  refine Z3 ?_;refine R.fin [0,4,5,6,7,8,138] ?_
  refine W.cond (fun ht138=>?_) (fun ht138=>?_)
  ·have hrp:=AEh ((l.take x).flatMap mvS) ht105 ht111 ht123 ht138
   refine AAl ?_
   refine R.go (h:=Q.sadd (hl:=fun _=>by simp only [List.length_append,List.length_cons,List.length_nil];omega)) (hr:=?_)
   refine R.go (h:=Q.sadd (hl:=fun _=>by simp only [List.length_append,List.length_cons,List.length_nil];omega)) (hr:=?_)
   refine R.go ?_
   refine R.call Tryz.call43 (c43 (m.back.map A8) (by rw [List.length_map];omega) (by omega) _) ?_
   refine R.go (h:=Q.sadd (hl:=fun _=>by simp only [List.length_append,List.length_cons,List.length_nil];omega)) (hr:=?_)
   refine Z74 ?_;refine ar ?_
   refine R.go (h:=Q.sadd (hl:=fun _=>by simp only [List.length_append,List.length_cons,List.length_nil];omega)) (hr:=?_)
   refine Z74 ?_;refine mz ?_
   refine K.lpN (x+1) ⟨hlt,Az hlt hx.2 (by rw [←hm];exact hok)⟩ (by omega) ?_
   rw [Ho hlt,←hm,←hrp]
   exact StCut.take (own:=[]) (fun _=>.refl _) (by repeat (first|exact C5|refine C4 (by first|exact Ea|(simp [oid,or_imp,forall_and];done)) ?_)) (by simp) (by simp)
  have hrp:=AEi ((l.take x).flatMap mvS) ht105 ht111 ht123 ht138
  refine Z48 ?_;refine R.call Tryz.call43 (c43 m.take (by omega) (by omega) _) ?_
  refine R.go (h:=Q.sadd (hl:=fun _=>by simp only [List.length_append,List.length_cons,List.length_nil];omega)) (hr:=?_)
  refine R.go (h:=Q.sadd (hl:=fun _=>by simp only [List.length_append,List.length_cons,List.length_nil];omega)) (hr:=?_)
  refine R.go ?_;refine R.call Tryz.call43 (c43 (gvs m (m.ahead.map A8)) (by omega) (by omega) _) ?_
  refine R.go (h:=Q.sadd (hl:=fun _=>by simp only [List.length_append,List.length_cons,List.length_nil];omega)) (hr:=?_)
  refine R.go (h:=Q.sadd (hl:=fun _=>by simp only [List.length_append,List.length_cons,List.length_nil];omega)) (hr:=?_)
  refine R.go ?_
  refine R.call Tryz.call43 (c43 (m.back.map A8) (by rw [List.length_map];omega) (by omega) _) ?_
  refine R.go (h:=Q.sadd (hl:=fun _=>by simp only [List.length_append,List.length_cons,List.length_nil];omega)) (hr:=?_)
  refine Z74 ?_;refine ar ?_
  refine R.go (h:=Q.sadd (hl:=fun _=>by simp only [List.length_append,List.length_cons,List.length_nil];omega)) (hr:=?_)
  refine Z74 ?_;refine mz ?_
  refine K.lpN (x+1) ⟨hlt,Az hlt hx.2 (by rw [←hm];exact hok)⟩ (by omega) ?_
  rw [Ho hlt,←hm,←hrp]
  exact StCut.take (own:=[]) (fun _=>.refl _) (by repeat (first|exact C5|refine C4 (by first|exact Ea|(simp [oid,or_imp,forall_and];done)) ?_)) (by simp) (by simp)
 have hxe:l.length≤x:=by simpa using ht16
 have hm:=Wr fun j y hy=>hx.2 j y (by have:=(List.getElem?_eq_some_iff.1 hy).1;omega) hy
 rw [List.take_of_length_le hxe]
 refine Z47 ?_;refine Z19 ?_;exact AAc

def ajS:Str:=[115,112,108,105,116,32,97,32,105,110,116,111,32,98,32,105,110,116,32,61,32,97,32,47,32,49,48,44,32,99,32,105,110,116,32,61,32,97,32,37,32,49,48,32,98,97,99,107,32,98,32,42,32,49,48,32,43,32,99,59]
theorem wq:(I9 ajS).2.1=0:=by kernel_rfl
theorem ACf:(I9 ajS).2.2=0:=by kernel_rfl
theorem sb:H4 (I9 ajS).1=(ajS++[10],0):=by kernel_rfl
theorem sc:(I9 ajS).1.map (fun m=>m.give.length)=[2]:=by kernel_rfl
theorem zm:∃m,(I9 ajS).1=[m]∧m.give.length=2:=by
 have h1:=sc
 match h:(I9 ajS).1 with
 | []=>rw [h] at h1;cases h1
 | [m]=>rw [h] at h1;exact ⟨m,rfl,by simpa using h1⟩
 | a::b::r=>rw [h] at h1;simp at h1
theorem c7 (Hp:List AObj):AFun Tryz.prog 7 [] Hp (Ap true):=by
 obtain ⟨m,hm,hg⟩:=zm
 refine ACall.body [.tmp 0] [] Tryz.func7 Tryz.ntmps7 (fun d=>?_)
 refine Z0 ?_;refine R.fin [] ?_;refine E4 ?_;refine R.call Tryz.call8 (c8 ajS (by decide) _) ?_;refine Z6 ?_;refine ja ?_;refine R.fin [1,2] ?_;refine Z0 ?_;refine R.call Tryz.call13 (c13 (I9 ajS).1 (Zt ajS).ok _) ?_
 rw [sb]
 refine Lu ?_;refine R.fin [1,2,3,4] ?_;refine E4 ?_
 rw [wq,ACf]
 refine Z1 ?_;refine Z29 ?_;refine Z94 ?_
 rw [hm]
 refine Z4 ?_;refine Z94 ?_
 refine G.go (h:=Q.indexAddr (0) (Dp m) (fun _=>rfl)) (hr:=?_)
 refine Z53 ?_;refine Z29 ?_;refine Z1 ?_;refine R.fin [0] ?_;refine AW.ret ?_;exact K.fin (V.one V.tmp) ⟨by rw [List.length_map,hg];simp;rfl,rfl⟩

theorem mc {l:List Mov} (hr:I1 l=true) (h:(!(Dz l).2 || decide ((4000:Int)<((Dz l).1.length:Int)))=true):H4 l=([],3):=by
 unfold H4
 rw [hr]
 unfold Dz at h
 cases ha:l.all B2 with
 | false=>simp
 | true =>
  rw [ha] at h
  simp only [if_true,Bool.not_true,Bool.false_or,decide_eq_true_eq] at h
  simp only [Bool.not_true,Bool.false_eq_true,if_false]
  rw [if_pos (by omega)]
theorem sd {l:List Mov} (hr:I1 l=true) (h:(!(Dz l).2 || decide ((4000:Int)<((Dz l).1.length:Int)))=false):H4 l=(l.flatMap mvS,0)∧Dz l=(l.flatMap mvS,true)∧(l.flatMap mvS).length≤4000:=by
 unfold H4
 rw [hr]
 unfold Dz at h ⊢
 cases ha:l.all B2 with
 | false=>rw [ha] at h;simp at h
 | true =>
  rw [ha] at h
  simp only [if_true,Bool.not_true,Bool.false_or,decide_eq_false_iff_not] at h
  simp only [Bool.not_true,Bool.false_eq_true,if_false,if_true]
  rw [if_neg (by omega)]
  exact ⟨rfl,trivial,by omega⟩
theorem c5 (l m:List Mov) (hrl:∀y∈l,RngMv y) (hrm:∀y∈m,RngMv y) (Hp:List AObj):AFun Tryz.prog 5 [Ca l,Ca m] Hp (Ap true):=by
 refine ACall.body [.tmp 4] [0,1] Tryz.func5 Tryz.ntmps5 (fun d=>?_)
 refine Z59 ?_;refine Z76 ?_;refine R.call Tryz.call7 (c7 _) ?_;refine R.go ?_;refine R.fin [0,1,13] ?_
 refine W.cond (fun ht13=>?_) (fun ht13=>?_)
 ·cases ht13
 refine Mg ?_;refine R.call Tryz.call15 (c15 l _) ?_;refine R.go ?_;refine G.go ?_;refine G.call Tryz.call15 (fun hB=>c15 m _) ?_;refine R.go ?_;refine R.fin [0,1,19] ?_
 refine W.cond (fun ht19=>?_) (fun ht19=>?_)
 ·refine am ?_;exact ay
 have hw:Fl l=false∧Fl m=false:=by simpa using ht19
 have hl:OkMovs l:=V5 hw.1 hrl
 have hm:OkMovs m:=V5 hw.2 hrm
 refine Mf ?_;refine R.call Tryz.call13 (c13 l hl _) ?_;refine Lu ?_;refine R.fin [0,1,5,6] ?_;refine Z0 ?_;refine R.call Tryz.call16 (c16 l hl _) ?_;refine R.go ?_;refine jj ?_;refine Z8 ?_;refine R.call Tryz.call14 (c14 l hl _) ?_;refine Z6 ?_;refine Z4 ?_;refine G.call Tryz.call17 (fun hB=>c17 l m hl _) ?_;refine Z4 ?_;refine G.call Tryz.call11 (fun hB=>c11 l m hl _) ?_;refine Z63 ?_;refine G.call Tryz.call17 (fun hB=>c17 l l hl _) ?_;refine Z68 ?_;refine R.fin [0,5,6,7,45] ?_
 refine W.cond (fun ht45=>?_) (fun ht45=>?_)
 ·rw [V8] at ht45;simp at ht45
 refine Z5 ?_;refine Z31 ?_;refine R.fin [0,5,6,47] ?_
 refine W.cond (fun ht47=>?_) (fun ht47=>?_)
 ·have hp:=V4 ht47
  refine Z19 ?_;refine j6 ?_;refine Z17 ?_;exact AAh
 have hr:I1 l=true:=by simpa using ht47
 refine Mf ?_;refine R.call Tryz.call18 (c18 l hl hr _) ?_;refine Lu ?_;refine R.fin [0,5,6,8,9] ?_;refine Z22 ?_;refine Z4 ?_;refine Z68 ?_;refine R.fin [0,5,6,8,65] ?_
 refine W.cond (fun ht65=>?_) (fun ht65=>?_)
 ·have hp:=mc hr ht65
  refine Z19 ?_;refine j6 ?_;refine Z17 ?_;exact AAh
 obtain ⟨hp1,hp2,hp3⟩:=sd hr ht65
 have hlaw:=da hr (fun y hy=>⟨(hrl y hy).ahead,(hrl y hy).back⟩) hp3
 refine aq ?_
 rw [hp1,hp2]
 refine R.go ?_;refine R.call Tryz.call8 (c8 (l.flatMap mvS) (by omega) _) ?_;refine Z6 ?_;refine ja ?_;refine R.fin [0,5,6,8,10,11] ?_;refine Z34 ?_;refine Z4 ?_;refine Z29 ?_;refine Z53 ?_;refine Z53 ?_;refine G.call Tryz.call11 (fun hB=>c11 (I9 (l.flatMap mvS)).1 l (Zt _).ok _) ?_;refine j6 ?_;refine Z17 ?_
 exact K.fin (V.one V.tmp) ⟨by
  rcases hlaw with e|e
  ·rw [e];simp
  rw [e];simp [V8],rfl⟩

end Go.SX.Nb
