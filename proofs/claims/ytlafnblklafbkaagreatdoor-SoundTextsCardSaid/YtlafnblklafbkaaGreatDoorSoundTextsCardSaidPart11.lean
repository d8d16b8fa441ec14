/- Texts on the way to this: SoundTexts answers true for whatever it is handed: of any columns and any source that is a migration: printed, and parsed again, it is sound, or is not, at the same move, for the same reason (up to 50 columns, 3000 bytes). (part 11) -/
import Derived.Test.YtlafnblklafbkaaGreatDoorSoundTextsCardSaidPart10
set_option linter.all false
namespace Go.SX.Nb
open Go Go.SX Go.Proofs Go.RowKit Go.Sort
variable [ErrAt]
set_option maxRecDepth 4000
theorem ej:Builder.Extra Tryz.prog Tryz.ren156:={ sizeBuilder:=by kernel_rfl,liesBuilder:=by kernel_rfl,t5:=Tryz.underlying5,a5:=Tryz.isAgg5,z5:=Tryz.sizeOf5,v5:=Tryz.zeroValue5,infoByte:=by kernel_rfl,cellsByte:=by kernel_rfl,sizeByte:=by kernel_rfl,neB5:=by decide }
theorem c63 (l:List Str) (sep:Str) (hn:l.length≤140737488355328) (hl:(Lib.join l sep).length≤140737488355328) (Hp:List AObj):AFun Tryz.prog 63 [Ed l,A8 sep] Hp (A8 (Lib.join l sep)):=by
 have e:Ed l=.slice false 1 ((l.map sv).map .v):=by rw [List.map_map];rfl
 rw [e]
 refine AFun.libSl (xs:=[sv sep]) (v:=sv (Lib.join l sep)) (fun G w=>.v _ _) (fun w u hg hs=>?_)
 rcases hs with ⟨rfl,he⟩|⟨ad,c,rfl,hc,hsp,hcell⟩
 ·have:l=[]:=by simpa using he
  subst this
  refine (Any.strings_Join_none Tryz.lays156 ej none 0 ⟨sep.toArray⟩ w).mono ?_
  rintro e w' ⟨rfl,rfl⟩
  exact W8
 rw [List.length_map] at hc
 match l,hn,hl,hc,hsp,hcell with
 | [],_,_,_,_,_ =>
  refine (Any.strings_Join_none Tryz.lays156 ej (some ad) c ⟨sep.toArray⟩ w).mono ?_
  rintro e w' ⟨rfl,rfl⟩
  exact W8
 | [x],_,_,hc,hsp,hcell =>
  obtain ⟨bk,o,spot⟩:=ad
  have hs0:spot=none:=hsp (by simp)
  subst hs0
  refine (Any.strings_Join_one Tryz.lays156 ej bk o c ⟨x.toArray⟩ ⟨sep.toArray⟩ w (by have:=hcell 0 (sv x) rfl;simpa using this)).mono ?_
  rintro e w' ⟨rfl,rfl⟩
  exact ⟨by rw [Lib.join_one],Below.refl _ _⟩
 | x::y::r,hn,hl,hc,hsp,hcell =>
  obtain ⟨bk,o,spot⟩:=ad
  have hs0:spot=none:=hsp (by simp)
  subst hs0
  have h0:=hcell 0 (sv x) rfl
  have hb:bk<w.heap.size:=World.block_lt_of_cell? _ _ h0
  have hd:((x::y::r).map fun z=>(⟨z.toArray⟩:ByteArray)).map (·.data.toList)=x::y::r:=by
   rw [List.map_map]
   exact List.map_id'' (fun z=>by simp) _
  have:=Any.strings_Join_many Tryz.lays156 ej bk o c ((x::y::r).map fun z=>(⟨z.toArray⟩:ByteArray)) ⟨sep.toArray⟩ w (fun j z hz=>by
   rw [List.getElem?_map,Option.map_eq_some_iff] at hz
   obtain ⟨z',hz',rfl⟩:=hz
   exact hcell j _ (by rw [List.getElem?_map,hz'];rfl)) hb (by simp) (by simpa using hn) (by simpa using hc) (by rw [hd];simpa using hl)
  rw [hd,List.length_map] at this
  rw [List.length_map]
  refine this.mono ?_
  rintro e w' ⟨rfl,hb'⟩
  exact ⟨by simp,hb'⟩
end Go.SX.Nb
namespace Go.SX.Nb
open Go Go.SX Go.Proofs
variable [ErrAt]
set_option maxRecDepth 4000
/-! mig.Print: what it answers. -/
/-- mig.trees. -/
def Ao:List Expr→List Str×Int
 | []=>([],0)
 | x::r=>if (Ep x).2 != 0 then ([],(Ep x).2) else if (Ao r).2 != 0 then ([],(Ao r).2) else ((Ep x).1::(Ao r).1,0)
theorem Tw:∀{l:List Expr},(∀(j:Nat) (y:Expr),l[j]? = some y→((Ep y).2 != 0)=false)→Ao l=(l.map (fun e=>(Ep e).1),0)
 | [],_=>rfl
 | x::r,h=>by
  rw [Ao,Tw (l:=r) (fun j y hy=>h (j+1) y hy),if_neg (by rw [h 0 x rfl];simp),if_neg (by simp)]
  rfl
theorem Tx:∀{l:List Expr} {x:Nat} {y:Expr},(∀(j:Nat) (z:Expr),j<x→l[j]? = some z→((Ep z).2 != 0)=false)→l[x]? = some y→((Ep y).2 != 0)=true→Ao l=([],(Ep y).2)
 | [],_,_,_,h,_=>by simp at h
 | a::r,0,y,_,h,h1=>by
  have:a=y:=by simpa using h
  subst this
  rw [Ao,if_pos h1]
 | a::r,x+1,y,h0,h,h1=>by
  rw [Ao,if_neg (by rw [h0 0 a (by omega) rfl];simp),Tx (l:=r) (x:=x) (fun j z hj hz=>h0 (j+1) z (by omega) hz) (by simpa using h) h1,if_pos h1]
theorem Gj:∀(l:List Expr),((Ao l).2≠0∧(Ao l).1=[])∨(Ao l=(l.map A9,0)∧∀e∈l,(A9 e).length≤4000)
 | []=>.inr ⟨rfl,fun e h=>by cases h⟩
 | x::r=>by
  rw [Ao]
  by_cases h1:(Ep x).2=0
  ·obtain ⟨a,b,c⟩:=uj h1
   rw [if_neg (by rw [h1];simp)]
   rcases Gj r with ⟨h2,h3⟩|⟨h2,h3⟩
   ·rw [if_pos (by simpa using h2)]
    exact .inl ⟨h2,rfl⟩
   rw [if_neg (by rw [h2];simp),h2,c]
   exact .inr ⟨rfl,fun e he=>by
    rcases List.mem_cons.1 he with rfl|he
    ·exact b
    exact h3 e he⟩
  rw [if_pos (by simpa using h1)]
  exact .inl ⟨h1,rfl⟩
theorem Vf (l:List Str):Lib.join l [44,32]=Da l:=by
 cases l with
 | nil=>rfl
 | cons a r =>
  rw [Lib.join_cons,Da]
  rfl
theorem Nx {b:Nat} {l:List Str} (h:∀s∈l,s.length≤b):(Da l).length≤l.length*(b+2):=by
 have key:∀r:List Str,(∀s∈r,s.length≤b)→(r.flatMap fun u=>[44,32]++u).length≤r.length*(b+2):=by
  intro r
  induction r with
  | nil=>exact fun _=>Nat.zero_le _
  | cons a r ih =>
   intro h
   have h1:=ih fun s hs=>h s (.tail _ hs)
   have h2:=h a List.mem_cons_self
   rw [List.flatMap_cons,List.length_append,List.length_cons,Nat.succ_mul,List.length_append]
   simp only [List.length_cons,List.length_nil]
   omega
 cases l with
 | nil=>exact Nat.zero_le _
 | cons a r =>
  have h1:=key r fun s hs=>h s (.tail _ hs)
  have h2:=h a List.mem_cons_self
  rw [Da,List.length_append,List.length_cons,Nat.succ_mul]
  omega
/-- The texts of what comes: names, kinds, and these texts. -/
def gvs (m:Mov) (T:List Str):List Str:=(m.give.zip T).map fun p=>((p.1.name++[32])++Ah p.1.kind)++[32,61,32]++p.2
theorem ek {m:Mov} {T:List Str} (h:T.length≤m.give.length):(gvs m T).length=T.length:=by
 unfold gvs
 rw [List.length_map,List.length_zip]
 omega
theorem yb {m:Mov} {T:List Str} {x:Nat} (hx:x<T.length) (hg:x<m.give.length) (hv:x<(gvs m T).length):(gvs m T)[x]=((m.give[x].name++[32])++Ah m.give[x].kind)++[32,61,32]++T[x]:=by
 unfold gvs
 simp
/-- mig.gives. -/
def Fv (m:Mov):Str×Int:=if (Ao m.ahead).2 != 0 then ([],(Ao m.ahead).2) else (Fu m,0)
theorem K6 (m:Mov):Fv m=(Da (gvs m (Ao m.ahead).1),(Ao m.ahead).2):=by
 unfold Fv
 rcases Gj m.ahead with ⟨h1,h2⟩|⟨h1,h2⟩
 ·rw [if_pos (by simpa using h1),h2]
  unfold gvs
  rw [List.zip_nil_right]
  rfl
 rw [h1,if_neg (by simp)]
 congr 1
 unfold Fu gvs Y6
 congr 1
 rw [List.zip_map_right,List.map_map]
 refine List.map_congr_left fun p _=>?_
 simp
theorem F5 (l:List Expr):(Ao l).1.length≤l.length∧∀s∈(Ao l).1,s.length≤4000:=by
 rcases Gj l with ⟨h1,h2⟩|⟨h1,h2⟩
 ·rw [h2]
  exact ⟨Nat.zero_le _,fun s h=>by cases h⟩
 rw [h1]
 refine ⟨by simp,fun s hs=>?_⟩
 obtain ⟨e,he,rfl⟩:=List.mem_map.1 hs
 exact h2 e he
theorem qn {m:Mov} (h:OkMov m):∀s∈gvs m (Ao m.ahead).1,s.length≤1060000:=by
 intro s hs
 unfold gvs at hs
 obtain ⟨p,hp,rfl⟩:=List.mem_map.1 hs
 have h1:=h.gives.2 p.1 (List.of_mem_zip hp).1
 have h2:=(F5 m.ahead).2 p.2 (List.of_mem_zip hp).2
 have h3:=Ly p.1.kind
 simp only [List.length_append,List.length_cons,List.length_nil]
 omega
theorem Ny {m:Mov} (h:OkMov m) (ha:m.ahead.length=m.give.length):(Da (gvs m (Ao m.ahead).1)).length≤1100000000000:=by
 have h1:=Nx (qn h)
 have h2:=(F5 m.ahead).1
 have h3:=ek (m:=m) (T:=(Ao m.ahead).1) (by omega)
 have h4:=h.gives2
 have:(gvs m (Ao m.ahead).1).length*(1060000+2)≤1000000*1060002:=Nat.mul_le_mul_right _ (by omega)
 omega
theorem Ty {m:Mov} (h:OkMov m):(Da m.take).length≤1100000000000:=by
 have h1:=Nx h.names
 have:m.take.length*(1048576+2)≤1048576*1048578:=Nat.mul_le_mul_right _ h.takes
 omega
theorem Tz {m:Mov} (h:OkMov m):(Da (Ao m.back).1).length≤4300000000:=by
 have h1:=Nx (F5 m.back).2
 have h2:=(F5 m.back).1
 have h3:=h.back.len
 have:(Ao m.back).1.length*(4000+2)≤1048576*4002:=Nat.mul_le_mul_right _ (by omega)
 omega
/-- Has a move no tree that has no text? -/
def Br (m:Mov):Bool:=(Ao m.ahead).2==0&&(Ao m.back).2==0
/-- mig.text. -/
def F9 (m:Mov):Str×Int:=if Br m then (mvS m,0) else ([],3)
/-- mig.Print. -/
def F6 (l:List Mov):Str×Int:=if !(Nl l) then ([],1) else if !(l.all Br) then ([],3) else if 4000<(l.flatMap mvS).length then ([],3) else (l.flatMap mvS,0)
theorem v6 {m:Mov} (h:Br m=true):Ao m.ahead=(m.ahead.map A9,0)∧Ao m.back=(m.back.map A9,0):=by
 unfold Br at h
 simp only [Bool.and_eq_true,beq_iff_eq] at h
 rcases Gj m.ahead with ⟨h1,_⟩|⟨h1,_⟩
 ·exact absurd h.1 h1
 rcases Gj m.back with ⟨h2,_⟩|⟨h2,_⟩
 ·exact absurd h.2 h2
 exact ⟨h1,h2⟩
theorem Hy {m:Mov} (h:Br m=true):(Fv m).1=Fu m∧(Da (Ao m.back).1)=Da (m.back.map A9):=by
 obtain ⟨h1,h2⟩:=v6 h
 unfold Fv
 rw [h1,h2]
 exact ⟨rfl,rfl⟩
theorem qo {m:Mov} (h:((Fv m).2 != 0 || (Ao m.back).2 != 0)=true):Br m=false:=by
 rw [K6] at h
 unfold Br
 simp only [Bool.or_eq_true,bne_iff_ne,ne_eq] at h
 rw [Bool.and_eq_false_iff]
 simp only [beq_eq_false_iff_ne,ne_eq]
 exact h
theorem k7 {m:Mov} (h:((Fv m).2 != 0 || (Ao m.back).2 != 0)=false):Br m=true:=by
 rw [K6] at h
 unfold Br
 simpa using h
theorem bq {m:Mov} (h:OkMov m) (ha:m.ahead.length=m.give.length) (hk:Br m=true):(Fu m).length≤1100000000000:=by
 have:=Ny h ha
 rw [←(Hy hk).1,K6]
 exact this
theorem br {m:Mov} (h:OkMov m) (hk:Br m=true):(Da (m.back.map A9)).length≤4300000000:=by
 have:=Tz h
 rw [←(Hy hk).2]
 exact this
theorem Ok (k:Int):(B7 k).length≤10:=by
 unfold B7 migWords
 split
 ·decide
 rename_i h
 simp only [Bool.or_eq_true,decide_eq_true_eq,not_or] at h
 have:k=1∨k=2∨k=3∨k=4∨k=5∨k=6:=by omega
 rcases this with rfl|rfl|rfl|rfl|rfl|rfl<;>decide
theorem el {m:Mov} (h:OkMov m) (ha:m.ahead.length=m.give.length) (hk:Br m=true):(mvS m).length≤3000000000000:=by
 have h1:=bq h ha hk
 have h2:=br h hk
 have h3:=Ty h
 have h4:=Ok m.kind
 have h5:(m.give.getD 0 ⟨[],0⟩).name.length≤1048576:=by
  cases hg:m.give with
  | nil=>exact Nat.zero_le _
  | cons c r=>exact h.gives.2 c (by rw [hg];exact List.mem_cons_self)
 unfold mvS Kz J2 Hl
 rw [List.length_append,List.length_append,List.length_append,List.length_append]
 simp only [List.length_cons,List.length_nil]
 have:∀{b:Bool} {x y:Str} {n:Nat},x.length≤n→y.length≤n→(if b=true then x else y).length≤n:=by
  intro b x y n h1 h2
  split
  ·exact h1
  exact h2
 have key:(if m.kind==1 then Fu m else if m.kind==2 then Da m.take++([32]++(backW++([32]++Da (m.back.map A9)))) else if m.kind==3 then Da m.take++([32]++(toW++([32]++(m.give.getD 0 ⟨[],0⟩).name))) else if m.kind==6 then Fu m++([32]++(backW++([32]++Da (m.back.map A9)))) else Da m.take++([32]++(intoW++([32]++(Fu m++([32]++(backW++([32]++Da (m.back.map A9))))))))).length≤2999999999000:=by
  have e1:backW.length=4:=rfl
  have e2:toW.length=2:=rfl
  have e3:intoW.length=4:=rfl
  refine this (by omega) (this ?_ (this ?_ (this ?_ ?_)))
  all_goals simp only [List.length_append,List.length_cons,List.length_nil,e1,e2,e3];omega
 omega
theorem k8 {l:List Mov} (h:(!(Nl l))=true):F6 l=([],1):=if_pos h
theorem bt {l:List Mov} (h:(!(Nl l))=false) {x:Nat} (hx:x<l.length) (hk:Br l[x]=false):F6 l=([],3):=by
 unfold F6
 rw [if_neg (by rw [h];simp),if_pos]
 rw [List.all_eq_false.2 ⟨_,List.getElem_mem hx,by rw [hk];simp⟩]
 rfl
theorem bu {l:List Mov} (h:(!(Nl l))=false) (hk:∀(j:Nat) (y:Mov),l[j]? = some y→Br y=true):F6 l=if 4000<(l.flatMap mvS).length then ([],3) else (l.flatMap mvS,0):=by
 have:l.all Br=true:=List.all_eq_true.2 fun y hy=>by
  obtain ⟨j,hj,rfl⟩:=List.getElem_of_mem hy
  exact hk j _ (List.getElem?_eq_getElem hj)
 unfold F6
 rw [if_neg (by rw [h];simp),if_neg (by rw [this];simp)]
theorem U0 {l:List Mov} {b:Nat}:∀{x:Nat},(∀(j:Nat) (y:Mov),j<x→l[j]? = some y→(mvS y).length≤b)→((l.take x).flatMap mvS).length≤x*b
 | 0,_=>by simp
 | x+1,h=>by
  have ih:=U0 (l:=l) (x:=x) fun j y hj=>h j y (by omega)
  by_cases hx:x<l.length
  ·have h1:=h x l[x] (by omega) (List.getElem?_eq_getElem hx)
   rw [List.take_succ_eq_append_getElem hx,List.flatMap_append,List.length_append,Nat.succ_mul]
   simp only [List.flatMap_cons,List.flatMap_nil,List.append_nil]
   omega
  rw [List.take_of_length_le (by omega)] at ih ⊢
  rw [Nat.succ_mul]
  omega
theorem k9 {l:List Mov} {x:Nat} (h:x<l.length):(l.take (x+1)).flatMap mvS=(l.take x).flatMap mvS++mvS l[x]:=by
 rw [List.take_succ_eq_append_getElem h,List.flatMap_append]
 simp
theorem AAq (l:List Str) (hn:l.length≤140737488355328) (hl:(Da l).length≤140737488355328) (Hp:List AObj):AFun Tryz.prog 63 [Ed l,A8 [44,32]] Hp (A8 (Da l)):=by
 have:=c63 l [44,32] hn (by rw [Vf];exact hl) Hp
 rw [Vf] at this
 exact this
theorem ACy (bs:Str) (o:Nat) (Hp:List AObj) (ho:Hp[o]? = some (Xu bs)):AFun Tryz.prog 32 [.ptr o 0] Hp (A2 bs.length):=
 AFun.bldLen ho (fun b p v w h=>bldLen Tryz.lays170 (T:=74) (e:=5) b p v _ _ w h)
theorem yd {m:Mov} (hk:Br m=true) (h:(m.kind==1)=true):F9 m=(((B7 m.kind++[32])++(Fv m).1)++[59,10],0):=by
 unfold F9 mvS Kz
 rw [if_pos hk,if_pos h,(Hy hk).1]
 simp
theorem ye {m:Mov} (hk:Br m=true) (h1:(m.kind==1)=false) (h:(m.kind==2)=true):F9 m=(((B7 m.kind++[32])++(Da m.take++([32,98,97,99,107,32]++Da (Ao m.back).1)))++[59,10],0):=by
 unfold F9 mvS Kz J2 Hl backW
 rw [if_pos hk,h1,if_neg (by simp),if_pos h,(Hy hk).2]
 simp
theorem yf {m:Mov} {y:Col} (hk:Br m=true) (h1:(m.kind==1)=false) (h2:(m.kind==2)=false) (h:(m.kind==3)=true) (hy:m.give=[y]):F9 m=(((B7 m.kind++[32])++((Da m.take++[32,116,111,32])++y.name))++[59,10],0):=by
 unfold F9 mvS Kz J2 toW
 rw [if_pos hk,h1,if_neg (by simp),h2,if_neg (by simp),if_pos h,hy]
 simp
theorem yg {m:Mov} (hk:Br m=true) (h1:(m.kind==1)=false) (h2:(m.kind==2)=false) (h3:(m.kind==3)=false) (h:(m.kind==6)=true):F9 m=(((B7 m.kind++[32])++((Fv m).1++([32,98,97,99,107,32]++Da (Ao m.back).1)))++[59,10],0):=by
 unfold F9 mvS Kz J2 Hl backW
 rw [if_pos hk,h1,if_neg (by simp),h2,if_neg (by simp),h3,if_neg (by simp),if_pos h,(Hy hk).1,(Hy hk).2]
 simp
theorem yh {m:Mov} (hk:Br m=true) (h1:(m.kind==1)=false) (h2:(m.kind==2)=false) (h3:(m.kind==3)=false) (h:(m.kind==6)=false):F9 m=(((B7 m.kind++[32])++(((Da m.take++[32,105,110,116,111,32])++(Fv m).1)++([32,98,97,99,107,32]++Da (Ao m.back).1)))++[59,10],0):=by
 unfold F9 mvS Kz J2 Hl backW intoW
 rw [if_pos hk,h1,if_neg (by simp),h2,if_neg (by simp),h3,if_neg (by simp),h,if_neg (by simp),(Hy hk).1,(Hy hk).2]
 simp
theorem qq {m:Mov} (h:((Fv m).2 != 0 || (Ao m.back).2 != 0)=true):F9 m=([],3):=by
 unfold F9
 rw [qo h]
 rfl
theorem Y8 {n:Nat} {m:Mov}:Low n (.ro (aq m)):=.ro _ Vb
/-- sound.Check. -/
def J3 (c:List Col) (l:List Mov):Int×Int:=if V6 c l then (((D7 c l).1.length-1:Nat),(D7 c l).2) else (0,1)
theorem v7 {c:List Col} {ms:List Mov} {k:Nat} {m:Mov} (hk:ms[k]? = some m) (h:NS c ms k) (he:(Cg (colsAt c ms k) m).2≠0):(D7 c ms).1.length=k+1:=by
 unfold NS at h
 rw [h,R9 hk,D7,if_pos (by simpa using he)]
 have:=Ra c ms k
 simp [this]
theorem kb {c:List Col} {l:List Mov} (h:V6 c l=false):J3 c l=(0,1):=if_neg (by rw [h];simp)
theorem kc {c:List Col} {l:List Mov} (h:V6 c l=true) (hr:D7 c l=(F3 c l l.length,0)):J3 c l=((l.length:Int),0):=by
 unfold J3
 rw [if_pos h,hr]
 simp only [Ra]
 rfl
theorem bv {c:List Col} {l:List Mov} {n:Nat} {e:Int} (h:V6 c l=true) (h1:(D7 c l).1.length=n+1) (h2:(D7 c l).2=e):J3 c l=((n:Int),e):=by
 unfold J3
 rw [if_pos h,h1,h2]
 rfl
theorem c21 (c:List Col) (hc:OkCols c) (hc2:c.length≤1000000) (l:List Mov) (h:OkMovs l) (Hp:List AObj):AFun Tryz.prog 21 [Ar c,Gs l] Hp (.tup [A2 (J3 c l).1,A2 (J3 c l).2]):=by
 refine ACall.body [.cell 4 3,.cell 5 24] [0,1] Tryz.func21 Tryz.ntmps21 (fun d=>?_)
 refine Z23 ?_;refine R.alloc jZ ?_;refine R.fin [0,1,4,5] ?_;refine Z21 ?_;refine R.call Tryz.call44 (c44 c hc l h _) ?_;refine R.go ?_;refine R.fin [0,1,4,5,12] ?_
 refine W.cond (fun ht12=>?_) (fun ht12=>?_)
 ·have hm:=kb (by simpa using ht12)
  refine Dq ?_;refine Fk ?_;refine Fk ?_;refine Yo ?_;exact K.fin (V.two (V.cell jA) (V.cell jA)) ⟨by rw [hm]<;>rfl,rfl⟩
 have hmay:V6 c l=true:=by simpa using ht12
 obtain ⟨hmv,hl8⟩:=xv hmay h
 refine Uf ?_;refine Z16 ?_;refine R.fin [0,1,4,5,6] ?_;refine Z49 ?_
 refine R.assumeLow (fun hlow=>?_)
 refine Z0 ?_;refine R.callO Tryz.call45 (c45 c l _) ?_
 rintro _ _ ⟨rfl,rfl⟩
 refine ⟨[.cells 40 [Ar c]],by simp,?_⟩
 rw [show oid (Hp++[AObj.cells 3 [A2 0],AObj.cells 24 [A2 0],AObj.cells 3 [A2 0]]).length 0=oid Hp.length 3 by simp [oid]]
 simp only [List.cons_append,List.nil_append]
 refine R.fin [4,5,6,15] ?_;refine AW.block ?_
 refine W.rangeV (m:=4) Tryz.call85 (fun FR as' bd' hFR has hbd=>?_)
 have hFRl:∀s,Low (Hp.length+6) (FR s):=by
  intro s
  rw [hFR]
  refine Low.strip ?_
  revert s
  repeat (first|exact B0|refine Az (by first|(simp [oid,or_imp,forall_and];done)|(simp [oid,or_imp,forall_and];exact ⟨fun m _ a _=>Ad _ a,fun m _ a _=>Ad _ a⟩)|(simp [oid,or_imp,forall_and]<;>omega)) ?_)
 have hOl:∀{n e k:Int} {q:List Col} {lp:AObj},ObjLow (Hp.length+6) lp→∀x∈Hp++[AObj.cells 3 [A2 n],AObj.cells 24 [A2 e],AObj.cells 3 [A2 k],AObj.cells 40 [Ar (q)],AObj.defs,lp],ObjLow (Hp.length+6) x:=by
  intro n e k q lp hlp x hx
  refine Kg (fun x hx=>ObjLow.le (by omega) (hlow x hx)) (fun x hx=>?_) x hx
  simp only [List.mem_cons,List.mem_nil_iff,or_false] at hx
  rcases hx with rfl|rfl|rfl|rfl|rfl|rfl
  ·intro y hy;rw [List.mem_singleton.1 hy];simp
  ·intro y hy;rw [List.mem_singleton.1 hy];simp
  ·intro y hy;rw [List.mem_singleton.1 hy];simp
  ·intro y hy;rw [List.mem_singleton.1 hy];exact H6
  ·trivial
  exact hlp
 refine ⟨_,c85 (oid Hp.length 5) (oid Hp.length 3) l hmv (by omega) (colsAt c l) (Ns hc fun m hm=>h.each m hm) (fun k=>Hp++[AObj.cells 3 [A2 0],AObj.cells 24 [A2 0],AObj.cells 3 [A2 (k:Int)],AObj.cells 40 [Ar (colsAt c l k)],AObj.defs,AObj.loop LoopState.ready none FR 25 #[16,17] as' bd' (oid Hp.length 4)]) (fun k=>Hp++[AObj.cells 3 [A2 0],AObj.cells 24 [A2 0],AObj.cells 3 [A2 ((k+1:Nat):Int)],AObj.cells 40 [Ar (colsAt c l k)],AObj.defs,AObj.loop LoopState.ready none FR 25 #[16,17] as' bd' (oid Hp.length 4)]) (NS c l) (fun V=>(∃(q:List Col),V=Hp++[AObj.cells 3 [A2 0],AObj.cells 24 [A2 0],AObj.cells 3 [A2 (l.length:Int)],AObj.cells 40 [Ar (q)],AObj.defs,AObj.loop LoopState.ready none FR 25 #[16,17] as' bd' (oid Hp.length 4)]∧D7 c l=(F3 c l l.length,0))∨(∃(e:Int) (n:Nat) (q:List Col),V=Hp++[AObj.cells 3 [A2 (n:Int)],AObj.cells 24 [A2 e],AObj.cells 3 [A2 (n:Int)],AObj.cells 40 [Ar (q)],AObj.defs,AObj.loop LoopState.done (some Code.ret) FR 25 #[16,17] as' bd' (oid Hp.length 4)]∧e≠0∧(D7 c l).2=e∧(D7 c l).1.length=n+1)) (fun k=>by simp) (fun k=>by simp) (by simp [oid]) (by simp [oid]) (fun k=>(fun x hx=>by rw [List.length_append];exact hOl (lp:=AObj.loop LoopState.ready none FR 25 #[16,17] as' bd' (oid Hp.length 4)) (by exact ⟨hFRl,by simp [oid]⟩) x hx)) (fun k=>(fun x hx=>by rw [List.length_append];exact hOl (lp:=AObj.loop LoopState.ready none FR 25 #[16,17] as' bd' (oid Hp.length 4)) (by exact ⟨hFRl,by simp [oid]⟩) x hx)) ACk (fun k=>by rw [Aq];rfl) (fun k=>by rw [Aq];rfl) (fun k m hk he=>by rw [Er];simp only [Tf hk];rfl) (fun k m X hk hN=>?_) (fun hN=>.inl ⟨_,rfl,xu hN⟩),?_⟩
 ·generalize hV:Hp++[AObj.cells 3 [A2 0],AObj.cells 24 [A2 0],AObj.cells 3 [A2 (k:Int)],AObj.cells 40 [Ar (colsAt c l k)],AObj.defs,AObj.loop LoopState.ready none FR 25 #[16,17] as' bd' (oid Hp.length 4)]++X=V
  have hL:V[oid Hp.length 5]? = some (AObj.loop LoopState.ready none FR 25 #[16,17] as' bd' (oid Hp.length 4)):=by rw [←hV,List.append_assoc,Aq];rfl
  have hA0:V[oid Hp.length 2]? = some (AObj.cells 3 [A2 (k:Int)]):=by rw [←hV,List.append_assoc,Aq];rfl
  have hB0:V[oid Hp.length 0]? = some (AObj.cells 3 [A2 0]):=by rw [←hV,List.append_assoc,Aq];rfl
  have hC0:V[oid Hp.length 1]? = some (AObj.cells 24 [A2 0]):=by rw [←hV,List.append_assoc,Aq];rfl
  refine AYield.ofRound (pd:=none) (fr:=FR) (sz:=25) (ps:=#[16,17]) (df:=oid Hp.length 4) (asg:=as') (bd:=bd') hL rfl (by decide) (fun d=>?_)
  subst hFR has hbd
  refine W.keep [4,5,6,17] ?_;refine Z86 ?_;refine R.fin [4,5,6,8] ?_
  refine ⟨rfl,none,hL,?_⟩
  generalize hbz:(AObj.loop LoopState.busy _ _ _ _ _ _ _)=bz
  have hA:(V.set (oid Hp.length 5) bz)[oid Hp.length 2]? = some (AObj.cells 3 [A2 (k:Int)]):=by rw [List.getElem?_set_ne (D5 (by decide))];exact hA0
  have hB:(V.set (oid Hp.length 5) bz)[oid Hp.length 0]? = some (AObj.cells 3 [A2 0]):=by rw [List.getElem?_set_ne (D5 (by decide))];exact hB0
  have hC:(V.set (oid Hp.length 5) bz)[oid Hp.length 1]? = some (AObj.cells 24 [A2 0]):=by rw [List.getElem?_set_ne (D5 (by decide))];exact hC0
  refine AW.block ?_;refine Z21 ?_;refine R.fin [4,5,6,8,19] ?_
  refine W.cond (fun ht19=>?_) (fun ht19=>?_)
  ·have he:(Cg (colsAt c l k) m).2≠0:=by simpa using ht19
   refine Dq ?_
   refine R.go (h:=Q.loadUp hA) (hr:=?_)
   refine R.go ?_
   refine R.storeUp jS hB ?_ ?_
   ·simp
   refine R.storeUp jS (ACl hC (D5 (by decide))) ?_ ?_
   ·simp
   refine R.fin [] ?_;refine Z22 ?_;refine K.blR ?_
   subst hbz
   refine K.rdR (cd hL (D5 (by decide)) (D5 (by decide))) ?_
   refine .inl ⟨he,Hp++[AObj.cells 3 [A2 (k:Int)],AObj.cells 24 [A2 (Cg (colsAt c l k) m).2],AObj.cells 3 [A2 (k:Int)],AObj.cells 40 [Ar (colsAt c l k)],AObj.defs,_],?_,by simp,(fun x hx=>by rw [List.length_append];exact hOl (lp:=_) (by exact ⟨hFRl,by simp [oid]⟩) x hx),.inr ⟨_,_,_,rfl,he,xt hk hN he,v7 hk hN he⟩⟩
   subst hV
   simp only [List.append_assoc,Er,List.cons_append,List.nil_append,List.set_cons_succ,List.set_cons_zero]
  have he:(Cg (colsAt c l k) m).2=0:=by simpa using ht19
  refine Z8 ?_;refine AW.region ?_
  refine R.go (h:=Q.loadUp hA) (hr:=?_)
  refine R.go (h:=Q.add64 (h2:=fun _=>by have hkl:=(List.getElem?_eq_some_iff.1 hk).1;omega)) (hr:=?_)
  refine R.storeUp jS hA ?_ ?_
  ·simp
  refine Z43 ?_
  subst hbz
  refine rf ?_
  refine .inr ⟨he,rfl,ui hk hN he,?_⟩
  subst hV
  simp only [List.append_assoc,Er,List.cons_append,List.nil_append,List.set_cons_succ,List.set_cons_zero]
  rfl
 rintro r H' (⟨q,rfl,hrun⟩|⟨e,n,q,rfl,hne,hrun,hlen⟩)
 ·refine ⟨Hp,_,_,_,rfl,rfl,fun h=>h,?_,rfl,by simp,?_⟩
  ·intro o ho
   have:o=oid Hp.length 4:=by simpa using ho
   subst this
   rw [Aq]
   rfl
  refine Z14 ?_;refine Z3 ?_;refine Fk ?_;refine Fk ?_;refine g7 ?_;exact K.fin (V.two (V.cell jA) (V.cell jA)) ⟨by rw [kc hmay hrun],rfl⟩
 refine ⟨Hp,_,_,_,rfl,rfl,fun h=>h,?_,rfl,by simp,?_⟩
 ·intro o ho
  have:o=oid Hp.length 4:=by simpa using ho
  subst this
  rw [Aq]
  rfl
 refine Z55 ?_;exact K.fin (V.two (V.cell jA) (V.cell jA)) ⟨by rw [bv hmay hlen hrun],rfl⟩

/-! sound.Lost: what is dropped, what has been turned. -/
theorem U1 {n k:Nat} {o:Bool} {a:List Str} {c:Str}:Low n (.slice o k (a.map A8++[A8 c])):=by simp [or_imp,forall_and]
theorem c62 (l:List Expr) (hl:l.length≤1048576) (hlo:∀e∈l,okE 61 e) (hlr:∀e∈l,Bl E8 e=true) (Hp:List AObj):AFun Tryz.prog 62 [It l] Hp (.tup [Ed (Ao l).1,A2 (Ao l).2]):=by
 refine ACall.body [.tmp 2,.tmp 3] [0] Tryz.func62 Tryz.ntmps62 (fun d=>?_)
 refine Z1 ?_;refine R.fin [0] ?_;refine Z3 ?_;refine R.fin [0,4] ?_;refine Z49 ?_;refine R.nilSl 4 1 ?_;refine Z19 ?_;refine R.fin [4,9,10,11] ?_
 refine AW.loopC (α:=Nat) (fun x=>⟨29,A6 4 (.slice true 1 (((l.take x).map fun e=>(Ep e).1).map A8)) (A6 9 (It l) (A6 10 (A2 (l.length:Nat)) (A6 11 (A2 (x:Nat)) (fun _=>.any)))),Hp,[],[],none⟩) (fun x=>x≤l.length∧∀(j:Nat) (y:Expr),j<x→l[j]? = some y→((Ep y).2 != 0)=false) (fun x=>l.length-x) (0) ⟨Nat.zero_le _,fun j y h=>by omega⟩ (StLe.of_eq (by simp)) rfl (fun x hx=>?_)
 refine Z3 ?_;refine R.fin [4,9,10,11,12] ?_
 refine W.condX (fun ht12=>?_) (fun ht12=>?_)
 ·have hlt:x<l.length:=by simpa using ht12
  refine Z88 ?_
  refine R.go (h:=Q.indexAddr (x) (A7 l[x]) (fun _=>C4 hlt)) (hr:=?_)
  refine Uh ?_;refine R.fin [4,6,9,10,11] ?_;refine Z3 ?_;refine R.call Tryz.call101 (ACq 61 l[x] (hlo _ (List.getElem_mem hlt)) (by decide) (hlr _ (List.getElem_mem hlt)) _) ?_;refine Z45 ?_;refine R.fin [4,7,8,9,10,11] ?_;refine Z21 ?_;refine R.fin [4,7,8,9,10,11,21] ?_
  refine W.cond (fun ht21=>?_) (fun ht21=>?_)
  ·have hm:=Tx hx.2 (List.getElem?_eq_getElem hlt) ht21
   refine Z1 ?_;refine R.nilTmp 2 1 false ?_;refine R.go ?_;refine Z70 ?_;refine Z80 ?_;exact ri
  refine Z8 ?_;refine AW.region ?_;refine R.moveT ?_;refine l8 ?_
  refine R.append jU Tryz.type9 ?_ ?_ ?_
  ·simp only [List.length_map,List.length_take,List.length_cons,List.length_nil,Tryz.t9];omega
  ·simp only [List.length_map,List.length_take,List.length_cons,List.length_nil,Tryz.t9];omega
  refine R.assignT ?_;refine R.fin [4,9,10,11] ?_;refine Rq ?_;refine R.fin [4,9,10,11] ?_;refine K.lpN (x+1) ⟨hlt,Eh hlt hx.2 ht21⟩ (by omega) ?_
  rw [Nr hlt,List.map_append,List.map_cons,List.map_nil]
  exact StCut.take (own:=[]) (fun _=>.refl _) (by repeat (first|exact B0|refine Az (by first|exact Rb|exact U1|exact Tg|exact Y8|(simp [or_imp,forall_and];done)) ?_)) (by simp) (by simp)
 have hxe:l.length≤x:=by simpa using ht12
 have hm:=Tw fun j y hy=>hx.2 j y (by have:=(List.getElem?_eq_some_iff.1 hy).1;omega) hy
 rw [List.take_of_length_le hxe]
 refine Z36 ?_;refine Z13 ?_;refine Z34 ?_;exact K.fin (V.two V.tmp V.tmp) ⟨by rw [hm],rfl⟩

theorem c61 (m:Mov) (h:OkMov m) (ha:m.ahead.length=m.give.length) (Hp:List AObj):AFun Tryz.prog 61 [Ge m] Hp (.tup [A8 (Fv m).1,A2 (Fv m).2]):=by
 have hT:=(F5 m.ahead).1
 have hTl:=(F5 m.ahead).2
 have hgl:=ek (m:=m) (T:=(Ao m.ahead).1) (by omega)
 have hg2:=h.gives2
 have hjl:=Ny h ha
 refine ACall.body [.tmp 2,.tmp 3] [0] Tryz.func61 Tryz.ntmps61 (fun d=>?_)
 refine Z13 ?_;refine R.fin [1] ?_;refine Z1 ?_;refine R.call Tryz.call62 (c62 m.ahead h.ahead.len h.ahead.ok h.ahead.rng _) ?_;refine Z45 ?_;refine R.fin [1,4,5] ?_;refine Z3 ?_;refine R.fin [1,4,5,6] ?_;refine Z49 ?_;refine R.nilSl 6 1 ?_;refine Z19 ?_;refine R.fin [1,5,6,15,16,17] ?_
 refine AW.loopC (α:=Nat) (fun x=>⟨47,A6 1 (.ro (aq m)) (A6 5 (A2 (Ao m.ahead).2) (A6 6 (.slice true 1 (((gvs m (Ao m.ahead).1).take x).map A8)) (A6 15 (Ed (Ao m.ahead).1) (A6 16 (A2 ((Ao m.ahead).1.length:Nat)) (A6 17 (A2 (x:Nat)) (fun _=>.any)))))),Hp,[],[],none⟩) (fun x=>x≤(Ao m.ahead).1.length) (fun x=>(Ao m.ahead).1.length-x) (0) (Nat.zero_le _) (StLe.of_eq (by simp)) rfl (fun x hx=>?_)
 refine Z3 ?_;refine R.fin [1,5,6,15,16,17,18] ?_
 refine W.condX (fun ht18=>?_) (fun ht18=>?_)
 ·have hlt:x<(Ao m.ahead).1.length:=by simpa using ht18
  have hxg:x<m.give.length:=by omega
  have hn1:=h.gives.2 _ (List.getElem_mem hxg)
  have hn2:=Ly m.give[x].kind
  have hn3:=hTl _ (List.getElem_mem hlt)
  refine Z92 ?_
  refine R.go (h:=Q.indexAddr (x) (A8 (Ao m.ahead).1[x]) (fun _=>C4 hlt)) (hr:=?_)
  refine Z19 ?_;refine R.fin [1,5,6,7,8,15,16,17] ?_;refine W.drawY0 [0,0,2,0,14,30,62,126,0,256,0,1792,3840,7936,16128,32766,65534,0,262142,524286,1048575,2097151] [] [.s [6,22] none [] [],.q 19 [] []] (fun _=>Hp) (fun _=>[]) Ac (by kernel_rfl) rfl rfl (fun _=>rfl) ?_;refine Y.moveT ?_
  apply Y.q
  case h1 =>
   intro B hT hF
   refine Z54 ?_
   refine D.go (h:=Q.indexAddr (x) (Av m.give[x]) (fun _=>C4 hxg)) (hr:=?_)
   refine Z15 ?_
   refine D.go (h:=Q.sadd (hl:=fun _=>by simp only [List.length_cons,List.length_nil];omega)) (hr:=?_)
   refine Z54 ?_
   refine D.go (h:=Q.indexAddr (x) (Av m.give[x]) (fun _=>C4 hxg)) (hr:=?_)
   refine Z15 ?_;refine D.call Tryz.call68 (c68 _ _) ?_
   refine D.go (h:=Q.sadd (hl:=fun _=>by simp only [List.length_append,List.length_cons,List.length_nil];omega)) (hr:=?_)
   refine D.go (h:=Q.sadd (hl:=fun _=>by simp only [List.length_append,List.length_cons,List.length_nil];omega)) (hr:=?_)
   refine D.go ?_
   refine D.go (h:=Q.sadd (hl:=fun _=>by simp only [List.length_append,List.length_cons,List.length_nil];omega)) (hr:=?_)
   exact Z31
  case hTF=>decide
  refine Y.tail (tn:=[])  ?_
  refine R.append jU Tryz.type9 ?_ ?_ ?_
  ·simp only [List.length_map,List.length_take,List.length_cons,List.length_nil,Tryz.t9];omega
  ·simp only [List.length_map,List.length_take,List.length_cons,List.length_nil,Tryz.t9];omega
  refine R.assignT ?_;refine R.fin [1,5,6,15,16,17] ?_;refine Rq ?_;refine R.fin [1,5,6,15,16,17] ?_;refine K.lpN (x+1) hlt (by omega) ?_
  rw [Nr (by omega:x<(gvs m (Ao m.ahead).1).length),yb hlt hxg]
  exact StCut.take (own:=[]) (fun _=>.refl _) (by repeat (first|exact B0|refine Az (by first|exact Rb|exact U1|exact Tg|exact Y8|(simp [or_imp,forall_and];done)) ?_)) (by simp) (by simp)
 have hxe:(Ao m.ahead).1.length≤x:=by simpa using ht18
 rw [List.take_of_length_le (by omega:(gvs m (Ao m.ahead).1).length≤x)]
 refine Z63 ?_
 refine R.call Tryz.call63 (c63 (gvs m (Ao m.ahead).1) [44,32] (by omega) (by rw [Vf];omega) _) ?_
 refine Z19 ?_;refine Z34 ?_;exact K.fin (V.two V.tmp V.tmp) ⟨by rw [K6,←Vf]<;>rfl,rfl⟩

theorem c30 (m:Mov) (h:OkMov m) (hv:Ek m=true) (Hp:List AObj):AFun Tryz.prog 30 [Ge m] Hp (.tup [A8 (F9 m).1,A2 (F9 m).2]):=by
 have ha:=(Ef (Ib hv)).1
 have hgl:(Fv m).1.length≤1100000000000:=by rw [K6];exact Ny h ha
 have htl:=Ty h
 have hbl:=Tz h
 have hwl:=Ok m.kind
 have htk:=h.takes
 have hbk:=h.back.len
 have hbt:=(F5 m.back).1
 refine ACall.body [.tmp 2,.tmp 3] [0] Tryz.func30 Tryz.ntmps30 (fun d=>?_)
 refine Z13 ?_;refine R.fin [1] ?_;refine Z3 ?_;refine R.call Tryz.call61 (c61 m h ha _) ?_;refine Z45 ?_;refine R.fin [1,4,5] ?_;refine Z1 ?_;refine R.call Tryz.call62 (c62 m.back h.back.len h.back.ok h.back.rng _) ?_;refine Z45 ?_;refine R.fin [1,4,5,6,7] ?_;refine Z35 ?_;refine Rr ?_;refine R.fin [1,4,6,27] ?_
 refine W.cond (fun ht27=>?_) (fun ht27=>?_)
 ·have e:=qq ht27
  refine Z1 ?_;refine Z70 ?_;exact zq
 have hk:=k7 ht27
 refine Z8 ?_;refine Z1 ?_;refine R.call Tryz.call63 (AAq m.take (by omega) (by omega) _) ?_;refine R.go ?_;refine R.fin [1,4,6,8] ?_;refine Z3 ?_;refine R.call Tryz.call63 (AAq (Ao m.back).1 (by omega) (by omega) _) ?_;refine Z0 ?_;refine R.fin [1,4,8,9] ?_;refine Z1 ?_;refine R.call Tryz.call12 (c12 _ _) ?_;refine Z0 ?_;refine R.fin [1,4,8,9,10] ?_;refine Z21 ?_;refine R.fin [1,4,8,9,10,39] ?_;refine Z69 ?_;refine R.fin [1,4,8,9,10,39,48] ?_
 refine W.cond (fun ht48=>?_) (fun ht48=>?_)
 ·have e:=yd hk ht48
  refine Z11 ?_;refine Z0 ?_;exact lj
 refine Z1 ?_;refine R.fin [1,4,8,9,10,39,53] ?_
 refine W.cond (fun ht53=>?_) (fun ht53=>?_)
 ·have e:=ye hk ht48 ht53
  refine Z11 ?_;refine Z62 ?_;exact lj
 refine Z1 ?_;refine R.fin [1,4,8,9,10,39,60] ?_
 refine W.cond (fun ht60=>?_) (fun ht60=>?_)
 ·obtain ⟨y,hy⟩:=az (Jy (Ib hv) (by rw [ht60];rfl)).2
  have e:=yf hk ht48 ht53 ht60 hy
  have hyl:=h.gives.2 y (by rw [hy];exact List.mem_cons_self)
  refine Z11 ?_;refine Z19 ?_
  refine R.go (h:=Q.indexAddr (0) (Av y) (fun _=>by rw [hy];rfl)) (hr:=?_)
  refine Z45 ?_;exact lj
 refine Z1 ?_;refine R.fin [4,8,9,10,72] ?_
 refine W.cond (fun ht72=>?_) (fun ht72=>?_)
 ·have e:=yg hk ht48 ht53 ht60 ht72
  refine Z11 ?_;refine Z62 ?_;exact lj
 have e:=yh hk ht48 ht53 ht60 ht72
 refine Z11 ?_;refine Z0 ?_;refine Z45 ?_;exact lj

theorem c13 (l:List Mov) (h:OkMovs l) (Hp:List AObj):AFun Tryz.prog 13 [Gs l] Hp (.tup [A8 (F6 l).1,A2 (F6 l).2]):=by
 refine ACall.body [.tmp 2,.tmp 3] [0] Tryz.func13 Tryz.ntmps13 (fun d=>?_)
 refine Z1 ?_;refine R.fin [0] ?_;refine Z46 ?_;refine R.call Tryz.call14 (c14 l h _) ?_;refine R.go ?_;refine R.fin [0,11] ?_
 refine W.cond (fun ht11=>?_) (fun ht11=>?_)
 ·have hm:=k8 ht11
  refine Z1 ?_;refine Gn ?_;exact Z56
 have hr:Nl l=true:=by simpa using ht11
 unfold Nl at hr
 simp only [Bool.and_eq_true,decide_eq_true_eq,List.all_eq_true] at hr
 obtain ⟨h8,hall⟩:=hr
 refine Z8 ?_;refine Z23 ?_;refine R.fin [0,4] ?_;refine Z49 ?_;refine R.toBld 0 74 5 ?_;refine Z19 ?_;refine R.fin [4,12,13,14] ?_
 refine AW.loopC (α:=Nat) (fun x=>⟨32,A6 4 (.ptr (oid Hp.length 0) 0) (A6 12 (Gs l) (A6 13 (A2 (l.length:Nat)) (A6 14 (A2 (x:Nat)) (fun _=>.any)))),Hp,[Xu ((l.take x).flatMap mvS)],[],none⟩) (fun x=>x≤l.length∧∀(j:Nat) (y:Mov),j<x→l[j]? = some y→Br y=true) (fun x=>l.length-x) (0) ⟨Nat.zero_le _,fun j y h=>by omega⟩ (StLe.of_eq (by simp)) rfl (fun x hx=>?_)
 refine Z3 ?_;refine R.fin [4,12,13,14,15] ?_
 refine W.condX (fun ht15=>?_) (fun ht15=>?_)
 ·have hlt:x<l.length:=by simpa using ht15
  have hv1:=hall _ (List.getElem_mem hlt)
  have hfl:((l.take x).flatMap mvS).length≤x*3000000000000:=U0 fun j y hj hy=>el (h.each _ (List.mem_of_getElem? hy)) (Ef (Ib (hall _ (List.mem_of_getElem? hy)))).1 (hx.2 j y hj hy)
  refine Z88 ?_
  refine R.go (h:=Q.indexAddr (x) (Ge l[x]) (fun _=>C4 hlt)) (hr:=?_)
  refine Uh ?_;refine R.fin [4,6,12,13,14] ?_;refine Z3 ?_;refine R.call Tryz.call30 (c30 l[x] (h.each _ (List.getElem_mem hlt)) hv1 _) ?_;refine Z45 ?_;refine R.fin [4,7,8,12,13,14] ?_;refine Z21 ?_;refine R.fin [4,7,8,12,13,14,24] ?_
  refine W.cond (fun ht24=>?_) (fun ht24=>?_)
  ·have hk:Br l[x]=false:=by
    cases e:Br l[x] with
    | true=>unfold F9 at ht24;rw [e] at ht24;simp at ht24
    | false=>rfl
   have hm:=bt ht11 hlt hk
   have et:F9 l[x]=([],3):=by unfold F9;rw [hk];rfl
   refine Z13 ?_;refine Z70 ?_;refine Z80 ?_;exact K.fin (V.two V.tmp V.tmp) ⟨by rw [hm,et]<;>rfl,rfl⟩
  have hk:Br l[x]=true:=by
   cases e:Br l[x] with
   | true=>rfl
   | false=>unfold F9 at ht24;rw [e] at ht24;simp at ht24
  have et:F9 l[x]=(mvS l[x],0):=by unfold F9;rw [hk];rfl
  have hml:=el (h.each _ (List.getElem_mem hlt)) (Ef (Ib hv1)).1 hk
  rw [et]
  refine Z8 ?_;refine Z86 ?_
  refine R.callOwn (n:=0) (x:=Xu ((l.take x).flatMap mvS++mvS l[x])) Tryz.call31 (ACr ((l.take x).flatMap mvS) (mvS l[x]) (by omega) (oid Hp.length 0) _ (by rw [Aq];rfl)) ?_ (hset:=List.set_cons_zero)
  refine R.fin [4,12,13,14] ?_;refine Rq ?_;refine R.fin [4,12,13,14] ?_;refine K.lpN (x+1) ⟨hlt,Eh hlt hx.2 hk⟩ (by omega) ?_
  rw [k9 hlt]
  exact StCut.take (own:=[Xu ((l.take x).flatMap mvS++mvS l[x])]) (fun _=>.refl _) (by repeat (first|exact B0|refine Az (by first|exact Mo|(simp [oid,or_imp,forall_and];done)) ?_)) (by intro z hz;rw [List.mem_singleton.1 hz];exact pi) (by simp)
 have hxe:l.length≤x:=by simpa using ht15
 have hm:=bu ht11 fun j y hy=>hx.2 j y (by have:=(List.getElem?_eq_some_iff.1 hy).1;omega) hy
 rw [List.take_of_length_le hxe]
 refine Z36 ?_;refine Z49 ?_
 refine R.call Tryz.call32 (ACy (l.flatMap mvS) (oid Hp.length 0) _ (by rw [Aq];rfl)) ?_
 refine R.go ?_;refine R.fin [4,30] ?_
 refine W.cond (fun ht30=>?_) (fun ht30=>?_)
 ·rw [if_pos (by have:=of_decide_eq_true ht30;omega)] at hm
  refine Z1 ?_;refine Gn ?_;exact Z56
 rw [if_neg (by have:=of_decide_eq_false ht30;omega)] at hm
 refine Uf ?_
 refine R.callOwn (n:=0) (x:=.cells 74 [.any,.any]) Tryz.call33 (ACs (l.flatMap mvS) (oid Hp.length 0) _ (by rw [Aq];rfl)) ?_ (hset:=List.set_cons_zero)
 refine Z0 ?_;refine Z34 ?_;exact ri

/-! What was parsed is parsed again from its text. -/
theorem MvP.prS {m:Mov} (h:MvP m):PrS m:=⟨jz h.one,h.takes,h.gives,h.kinds,fun h3 e=>absurd (Jy h.counts (by rw [h3];rfl)).2 (by rw [e];decide),fun x hx=>⟨Hi (h.aheads x hx).right,(h.aheads x hx).rng⟩,fun x hx=>⟨Hi (h.backs x hx).right,(h.backs x hx).rng⟩⟩
theorem MvP.prM {m:Mov} (h:MvP m):PrM m:=⟨h.one,fun x hx=>⟨(h.aheads x hx).right,(h.aheads x hx).rng,(h.aheads x hx).need⟩,fun x hx=>⟨(h.backs x hx).right,(h.backs x hx).rng,(h.backs x hx).need⟩⟩
theorem MigGood.again {l:List Mov} (h:MigGood l) (hl:(l.flatMap mvS).length≤4000):Ko (l.flatMap mvS)=(l,0,0):=Y7 (fun m hm=>(h.each m hm).prS) (fun m hm=>(h.each m hm).prM) h.len hl
theorem MigGood.text {l:List Mov} (h:MigGood l):F6 l=([],3)∨(F6 l=(l.flatMap mvS,0)∧Ko (l.flatMap mvS)=(l,0,0)):=by
 unfold F6
 rw [h.right]
 cases ha:l.all Br with
 | false=>exact .inl (by simp)
 | true =>
  simp only [Bool.not_true,Bool.false_eq_true,if_false]
  by_cases h4:4000<(l.flatMap mvS).length
  ·rw [if_pos h4]
   exact .inl rfl
  rw [if_neg h4]
  exact .inr ⟨rfl,h.again (by omega)⟩
theorem bw (l:List Mov):(F6 l).1.length≤4000:=by
 unfold F6
 repeat' split
 all_goals first|exact Nat.zero_le _|(show (l.flatMap mvS).length≤4000;omega)
/-! SoundJoins: one behind the other, in one. -/
def snS:Str:=[97,100,100,32,120,32,105,110,116,32,61,32,97,59]
def snM:Mov:=⟨1,[],[⟨[120],1⟩],[B3 [97]],[]⟩
theorem qr:Ko snS=([snM],0,0):=by kernel_rfl
theorem ke:J3 [⟨[97],1⟩] [snM]=(1,0):=by kernel_rfl
theorem kg:J3 [⟨[97],2⟩] [snM]=(0,10):=by kernel_rfl
theorem vo:OkMovs [snM]:=by
 refine ⟨by decide,fun m hm=>?_⟩
 rw [List.mem_singleton.1 hm]
 exact jg (by decide) ⟨fun e he=>by rw [List.mem_singleton.1 he];rfl,fun e he=>by cases he⟩
theorem en (k:Int):OkCols [⟨[97],k⟩]:=⟨by simp,fun y hy=>by rw [List.mem_singleton.1 hy];simp⟩
theorem c19 (Hp:List AObj):AFun Tryz.prog 19 [] Hp (B2 true):=by
 refine ACall.body [.tmp 0] [] Tryz.func19 Tryz.ntmps19 (fun d=>?_)
 refine Z3 ?_;refine R.fin [] ?_;refine Dq ?_;refine R.call Tryz.call8 (c8 snS (by decide) _) ?_
 rw [qr]
 refine Z19 ?_;refine Z87 ?_;refine R.fin [1,2] ?_;refine vw ?_;refine R.buildSl jU jS jZ ?_;refine R.go ?_;refine R.call Tryz.call21 (c21 [⟨[97],1⟩] (en 1) (by decide) [snM] vo _) ?_
 rw [ke]
 refine Z45 ?_;refine R.fin [1,2,3,4] ?_;refine vw ?_;refine R.buildSl jU jS jZ ?_;refine R.go ?_;refine R.call Tryz.call21 (c21 [⟨[97],2⟩] (en 2) (by decide) [snM] vo _) ?_
 rw [kg]
 refine Z45 ?_;refine R.fin [2,3,4,6] ?_;refine Z28 ?_;refine Z9 ?_;refine Z42 ?_;refine Z42 ?_;refine Z0 ?_;refine R.fin [0] ?_;refine AW.ret ?_;exact K.fin (V.one V.tmp) ⟨by rfl,rfl⟩

theorem qt {c:List Col} (h:I8 c=false):c.length≤1000000:=by
 unfold I8 at h
 simp only [Bool.or_eq_false_iff,decide_eq_false_iff_not] at h
 omega
theorem c6 (c:List Col) (s:Str) (Hp:List AObj):AFun Tryz.prog 6 [Ar c,A8 s] Hp (B2 true):=by
 obtain ⟨l,hl⟩:∃l,l=(Ko s).1:=⟨_,rfl⟩
 have hg:MigGood l:=by rw [hl];exact qc s
 have hlaw:=hg.text
 refine ACall.body [.tmp 4] [0,1] Tryz.func6 Tryz.ntmps6 (fun d=>?_)
 refine Z53 ?_;refine Z49 ?_;refine R.call Tryz.call19 (c19 _) ?_;refine R.go ?_;refine R.fin [0,1,16] ?_
 refine W.cond (fun ht16=>?_) (fun ht16=>?_)
 ·cases ht16
 refine Z8 ?_;refine Z46 ?_;refine R.call Tryz.call20 (ABn c _) ?_;refine R.go ?_;refine ga ?_;refine R.fin [0,1,23] ?_
 refine W.cond (fun ht23=>?_) (fun ht23=>?_)
 ·refine Z3 ?_;refine lr ?_;exact lv
 have hw:I8 c=false∧s.length≤3000:=by
  simp only [Bool.or_eq_false_iff,decide_eq_false_iff_not] at ht23
  exact ⟨ht23.1,by omega⟩
 have hc:=cx hw.1
 have hc2:c.length≤1000000:=qt hw.1
 have hs:=hw.2
 refine Rt ?_;refine R.call Tryz.call8 (c8 s (by omega) _) ?_;refine Z19 ?_;refine Z87 ?_;refine R.fin [0,5,6] ?_;refine Z49 ?_
 rw [←hl]
 refine Z19 ?_;refine R.fin [0,5,31] ?_
 refine W.cond (fun ht31=>?_) (fun ht31=>?_)
 ·refine Z3 ?_;refine lr ?_;exact lv
 refine Rt ?_;refine R.call Tryz.call13 (c13 l hg.ok _) ?_;refine Z45 ?_;refine R.fin [0,5,7,8] ?_;refine Z3 ?_
 refine R.call Tryz.call8 (c8 (F6 l).1 (by have:=bw l;omega) _) ?_
 refine Z19 ?_;refine Z87 ?_;refine R.fin [0,5,8,9,10] ?_;refine Z35 ?_;refine ga ?_;refine R.fin [0,5,8,9,48] ?_
 refine W.cond (fun ht48=>?_) (fun ht48=>?_)
 ·have he:(F6 l).2=3:=by
   rcases hlaw with hp|⟨hp,hq⟩
   ·rw [hp]
   rw [hp] at ht48;rw [hq] at ht48;simp at ht48
  refine Z13 ?_;refine lr ?_;exact K.fin (V.one V.tmp) ⟨by rw [he];rfl,rfl⟩
 obtain ⟨hp,hq⟩:F6 l=(l.flatMap mvS,0)∧Ko (l.flatMap mvS)=(l,0,0):=by
  rcases hlaw with hp|hp
  ·rw [hp] at ht48;simp at ht48
  exact hp
 rw [hp,hq]
 refine Z8 ?_;refine Z1 ?_;refine R.call Tryz.call21 (c21 c hc hc2 l hg.ok _) ?_;refine Z45 ?_;refine R.fin [0,9,11,12] ?_;refine Z1 ?_;refine R.call Tryz.call21 (c21 c hc hc2 l hg.ok _) ?_;refine Z45 ?_;refine R.fin [11,12,13,14] ?_;refine Z28 ?_;refine Z65 ?_;refine Z0 ?_;refine Z27 ?_;exact K.fin (V.one V.tmp) ⟨by simp,rfl⟩

end Go.SX.Nb
