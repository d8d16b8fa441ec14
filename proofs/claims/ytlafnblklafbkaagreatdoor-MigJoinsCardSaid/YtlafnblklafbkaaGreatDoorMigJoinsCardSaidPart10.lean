/- Texts on the way to this: MigJoins answers true for whatever it is handed: two sources of up to 1500 bytes that are migrations, one behind the other, are both, if there are not too many moves; its chapter's example is parsed and printed. (part 10) -/
import Derived.Test.YtlafnblklafbkaaGreatDoorMigJoinsCardSaidPart9
set_option linter.all false
namespace Go.SX.Nb
open Go Go.SX Go.Proofs Go.RowKit Go.Sort
variable [ErrAt]
set_option maxRecDepth 4000
theorem Y4:Builder.Extra Tryz.prog Tryz.ren156:={ sizeBuilder:=by kernel_rfl,liesBuilder:=by kernel_rfl,t5:=Tryz.underlying5,a5:=Tryz.isAgg5,z5:=Tryz.sizeOf5,v5:=Tryz.zeroValue5,infoByte:=by kernel_rfl,cellsByte:=by kernel_rfl,sizeByte:=by kernel_rfl,neB5:=by decide }
theorem c63 (l:List Str) (sep:Str) (hn:l.length≤140737488355328) (hl:(Lib.join l sep).length≤140737488355328) (Hp:List AObj):AFun Tryz.prog 63 [Ft l,A8 sep] Hp (A8 (Lib.join l sep)):=by
 have e:Ft l=.slice false 1 ((l.map sv).map .v):=by rw [List.map_map];rfl
 rw [e]
 refine AFun.libSl (xs:=[sv sep]) (v:=sv (Lib.join l sep)) (fun G w=>.v _ _) (fun w u hg hs=>?_)
 rcases hs with ⟨rfl,he⟩|⟨ad,c,rfl,hc,hsp,hcell⟩
 ·have:l=[]:=by simpa using he
  subst this
  refine (Any.strings_Join_none Tryz.lays156 Y4 none 0 ⟨sep.toArray⟩ w).mono ?_
  rintro e w' ⟨rfl,rfl⟩
  exact Sw
 rw [List.length_map] at hc
 match l,hn,hl,hc,hsp,hcell with
 | [],_,_,_,_,_ =>
  refine (Any.strings_Join_none Tryz.lays156 Y4 (some ad) c ⟨sep.toArray⟩ w).mono ?_
  rintro e w' ⟨rfl,rfl⟩
  exact Sw
 | [x],_,_,hc,hsp,hcell =>
  obtain ⟨bk,o,spot⟩:=ad
  have hs0:spot=none:=hsp (by simp)
  subst hs0
  refine (Any.strings_Join_one Tryz.lays156 Y4 bk o c ⟨x.toArray⟩ ⟨sep.toArray⟩ w (by have:=hcell 0 (sv x) rfl;simpa using this)).mono ?_
  rintro e w' ⟨rfl,rfl⟩
  exact ⟨by rw [Lib.join_one],Below.refl _ _⟩
 | x::y::r,hn,hl,hc,hsp,hcell =>
  obtain ⟨bk,o,spot⟩:=ad
  have hs0:spot=none:=hsp (by simp)
  subst hs0
  have h0:=hcell 0 (sv x) rfl
  have hb:bk<w.heap.size:=World.block_lt_of_cell? _ _ h0
  have hd:((x::y::r).map fun z=>(⟨z.toArray⟩:ByteArray)).map (·.data.toList)=x::y::r:=by
   rw [List.map_map]
   exact List.map_id'' (fun z=>by simp) _
  have:=Any.strings_Join_many Tryz.lays156 Y4 bk o c ((x::y::r).map fun z=>(⟨z.toArray⟩:ByteArray)) ⟨sep.toArray⟩ w (fun j z hz=>by
   rw [List.getElem?_map,Option.map_eq_some_iff] at hz
   obtain ⟨z',hz',rfl⟩:=hz
   exact hcell j _ (by rw [List.getElem?_map,hz'];rfl)) hb (by simp) (by simpa using hn) (by simpa using hc) (by rw [hd];simpa using hl)
  rw [hd,List.length_map] at this
  rw [List.length_map]
  refine this.mono ?_
  rintro e w' ⟨rfl,hb'⟩
  exact ⟨by simp,hb'⟩
end Go.SX.Nb
namespace Go.SX.Nb
open Go Go.SX Go.Proofs
variable [ErrAt]
set_option maxRecDepth 4000
/-! mig.Print: what it answers. -/
/-- mig.trees. -/
def Al:List Expr→List Str×Int
 | []=>([],0)
 | x::r=>if (Dz x).2 != 0 then ([],(Dz x).2) else if (Al r).2 != 0 then ([],(Al r).2) else ((Dz x).1::(Al r).1,0)
theorem Ql:∀{l:List Expr},(∀(j:Nat) (y:Expr),l[j]? = some y→((Dz y).2 != 0)=false)→Al l=(l.map (fun e=>(Dz e).1),0)
 | [],_=>rfl
 | x::r,h=>by
  rw [Al,Ql (l:=r) (fun j y hy=>h (j+1) y hy),if_neg (by rw [h 0 x rfl];simp),if_neg (by simp)]
  rfl
theorem Qm:∀{l:List Expr} {x:Nat} {y:Expr},(∀(j:Nat) (z:Expr),j<x→l[j]? = some z→((Dz z).2 != 0)=false)→l[x]? = some y→((Dz y).2 != 0)=true→Al l=([],(Dz y).2)
 | [],_,_,_,h,_=>by simp at h
 | a::r,0,y,_,h,h1=>by
  have:a=y:=by simpa using h
  subst this
  rw [Al,if_pos h1]
 | a::r,x+1,y,h0,h,h1=>by
  rw [Al,if_neg (by rw [h0 0 a (by omega) rfl];simp),Qm (l:=r) (x:=x) (fun j z hj hz=>h0 (j+1) z (by omega) hz) (by simpa using h) h1,if_pos h1]
theorem F7:∀(l:List Expr),((Al l).2≠0∧(Al l).1=[])∨(Al l=(l.map Ab,0)∧∀e∈l,(Ab e).length≤4000)
 | []=>.inr ⟨rfl,fun e h=>by cases h⟩
 | x::r=>by
  rw [Al]
  by_cases h1:(Dz x).2=0
  ·obtain ⟨a,b,c⟩:=ky h1
   rw [if_neg (by rw [h1];simp)]
   rcases F7 r with ⟨h2,h3⟩|⟨h2,h3⟩
   ·rw [if_pos (by simpa using h2)]
    exact .inl ⟨h2,rfl⟩
   rw [if_neg (by rw [h2];simp),h2,c]
   exact .inr ⟨rfl,fun e he=>by
    rcases List.mem_cons.1 he with rfl|he
    ·exact b
    exact h3 e he⟩
  rw [if_pos (by simpa using h1)]
  exact .inl ⟨h1,rfl⟩
theorem Rw (l:List Str):Lib.join l [44,32]=Cv l:=by
 cases l with
 | nil=>rfl
 | cons a r =>
  rw [Lib.join_cons,Cv]
  rfl
theorem Lm {b:Nat} {l:List Str} (h:∀s∈l,s.length≤b):(Cv l).length≤l.length*(b+2):=by
 have key:∀r:List Str,(∀s∈r,s.length≤b)→(r.flatMap fun u=>[44,32]++u).length≤r.length*(b+2):=by
  intro r
  induction r with
  | nil=>exact fun _=>Nat.zero_le _
  | cons a r ih =>
   intro h
   have h1:=ih fun s hs=>h s (.tail _ hs)
   have h2:=h a List.mem_cons_self
   rw [List.flatMap_cons,List.length_append,List.length_cons,Nat.succ_mul,List.length_append]
   simp only [List.length_cons,List.length_nil]
   omega
 cases l with
 | nil=>exact Nat.zero_le _
 | cons a r =>
  have h1:=key r fun s hs=>h s (.tail _ hs)
  have h2:=h a List.mem_cons_self
  rw [Cv,List.length_append,List.length_cons,Nat.succ_mul]
  omega
/-- The texts of what comes: names, kinds, and these texts. -/
def gvs (m:Mov) (T:List Str):List Str:=(m.give.zip T).map fun p=>((p.1.name++[32])++Ax p.1.kind)++[32,61,32]++p.2
theorem Y5 {m:Mov} {T:List Str} (h:T.length≤m.give.length):(gvs m T).length=T.length:=by
 unfold gvs
 rw [List.length_map,List.length_zip]
 omega
theorem nr {m:Mov} {T:List Str} {x:Nat} (hx:x<T.length) (hg:x<m.give.length) (hv:x<(gvs m T).length):(gvs m T)[x]=((m.give[x].name++[32])++Ax m.give[x].kind)++[32,61,32]++T[x]:=by
 unfold gvs
 simp
/-- mig.gives. -/
def Er (m:Mov):Str×Int:=if (Al m.ahead).2 != 0 then ([],(Al m.ahead).2) else (Gn m,0)
theorem Ip (m:Mov):Er m=(Cv (gvs m (Al m.ahead).1),(Al m.ahead).2):=by
 unfold Er
 rcases F7 m.ahead with ⟨h1,h2⟩|⟨h1,h2⟩
 ·rw [if_pos (by simpa using h1),h2]
  unfold gvs
  rw [List.zip_nil_right]
  rfl
 rw [h1,if_neg (by simp)]
 congr 1
 unfold Gn gvs lx
 congr 1
 rw [List.zip_map_right,List.map_map]
 refine List.map_congr_left fun p _=>?_
 simp
theorem E5 (l:List Expr):(Al l).1.length≤l.length∧∀s∈(Al l).1,s.length≤4000:=by
 rcases F7 l with ⟨h1,h2⟩|⟨h1,h2⟩
 ·rw [h2]
  exact ⟨Nat.zero_le _,fun s h=>by cases h⟩
 rw [h1]
 refine ⟨by simp,fun s hs=>?_⟩
 obtain ⟨e,he,rfl⟩:=List.mem_map.1 hs
 exact h2 e he
theorem gu {m:Mov} (h:OkMov m):∀s∈gvs m (Al m.ahead).1,s.length≤1060000:=by
 intro s hs
 unfold gvs at hs
 obtain ⟨p,hp,rfl⟩:=List.mem_map.1 hs
 have h1:=h.gives.2 p.1 (List.of_mem_zip hp).1
 have h2:=(E5 m.ahead).2 p.2 (List.of_mem_zip hp).2
 have h3:=Kf p.1.kind
 simp only [List.length_append,List.length_cons,List.length_nil]
 omega
theorem Ln {m:Mov} (h:OkMov m) (ha:m.ahead.length=m.give.length):(Cv (gvs m (Al m.ahead).1)).length≤1100000000000:=by
 have h1:=Lm (gu h)
 have h2:=(E5 m.ahead).1
 have h3:=Y5 (m:=m) (T:=(Al m.ahead).1) (by omega)
 have h4:=h.gives2
 have:(gvs m (Al m.ahead).1).length*(1060000+2)≤1000000*1060002:=Nat.mul_le_mul_right _ (by omega)
 omega
theorem Qn {m:Mov} (h:OkMov m):(Cv m.take).length≤1100000000000:=by
 have h1:=Lm h.names
 have:m.take.length*(1048576+2)≤1048576*1048578:=Nat.mul_le_mul_right _ h.takes
 omega
theorem Qo {m:Mov} (h:OkMov m):(Cv (Al m.back).1).length≤4300000000:=by
 have h1:=Lm (E5 m.back).2
 have h2:=(E5 m.back).1
 have h3:=h.back.len
 have:(Al m.back).1.length*(4000+2)≤1048576*4002:=Nat.mul_le_mul_right _ (by omega)
 omega
/-- Has a move no tree that has no text? -/
def Bi (m:Mov):Bool:=(Al m.ahead).2==0&&(Al m.back).2==0
/-- mig.text. -/
def Ea (m:Mov):Str×Int:=if Bi m then (mvS m,0) else ([],3)
/-- mig.Print. -/
def Iq (l:List Mov):Str×Int:=if !(Rr l) then ([],1) else if !(l.all Bi) then ([],3) else if 4000<(l.flatMap mvS).length then ([],3) else (l.flatMap mvS,0)
theorem lc {m:Mov} (h:Bi m=true):Al m.ahead=(m.ahead.map Ab,0)∧Al m.back=(m.back.map Ab,0):=by
 unfold Bi at h
 simp only [Bool.and_eq_true,beq_iff_eq] at h
 rcases F7 m.ahead with ⟨h1,_⟩|⟨h1,_⟩
 ·exact absurd h.1 h1
 rcases F7 m.back with ⟨h2,_⟩|⟨h2,_⟩
 ·exact absurd h.2 h2
 exact ⟨h1,h2⟩
theorem Gd {m:Mov} (h:Bi m=true):(Er m).1=Gn m∧(Cv (Al m.back).1)=Cv (m.back.map Ab):=by
 obtain ⟨h1,h2⟩:=lc h
 unfold Er
 rw [h1,h2]
 exact ⟨rfl,rfl⟩
theorem gv {m:Mov} (h:((Er m).2 != 0 || (Al m.back).2 != 0)=true):Bi m=false:=by
 rw [Ip] at h
 unfold Bi
 simp only [Bool.or_eq_true,bne_iff_ne,ne_eq] at h
 rw [Bool.and_eq_false_iff]
 simp only [beq_eq_false_iff_ne,ne_eq]
 exact h
theorem bh {m:Mov} (h:((Er m).2 != 0 || (Al m.back).2 != 0)=false):Bi m=true:=by
 rw [Ip] at h
 unfold Bi
 simpa using h
theorem Wq {m:Mov} (h:OkMov m) (ha:m.ahead.length=m.give.length) (hk:Bi m=true):(Gn m).length≤1100000000000:=by
 have:=Ln h ha
 rw [←(Gd hk).1,Ip]
 exact this
theorem Wr {m:Mov} (h:OkMov m) (hk:Bi m=true):(Cv (m.back.map Ab)).length≤4300000000:=by
 have:=Qo h
 rw [←(Gd hk).2]
 exact this
theorem Mb (k:Int):(Ba k).length≤10:=by
 unfold Ba migWords
 split
 ·decide
 rename_i h
 simp only [Bool.or_eq_true,decide_eq_true_eq,not_or] at h
 have:k=1∨k=2∨k=3∨k=4∨k=5∨k=6:=by omega
 rcases this with rfl|rfl|rfl|rfl|rfl|rfl<;>decide
theorem Y6 {m:Mov} (h:OkMov m) (ha:m.ahead.length=m.give.length) (hk:Bi m=true):(mvS m).length≤3000000000000:=by
 have h1:=Wq h ha hk
 have h2:=Wr h hk
 have h3:=Qn h
 have h4:=Mb m.kind
 have h5:(m.give.getD 0 ⟨[],0⟩).name.length≤1048576:=by
  cases hg:m.give with
  | nil=>exact Nat.zero_le _
  | cons c r=>exact h.gives.2 c (by rw [hg];exact List.mem_cons_self)
 unfold mvS Ok Ik Js
 rw [List.length_append,List.length_append,List.length_append,List.length_append]
 simp only [List.length_cons,List.length_nil]
 have:∀{b:Bool} {x y:Str} {n:Nat},x.length≤n→y.length≤n→(if b=true then x else y).length≤n:=by
  intro b x y n h1 h2
  split
  ·exact h1
  exact h2
 have key:(if m.kind==1 then Gn m else if m.kind==2 then Cv m.take++([32]++(backW++([32]++Cv (m.back.map Ab)))) else if m.kind==3 then Cv m.take++([32]++(toW++([32]++(m.give.getD 0 ⟨[],0⟩).name))) else if m.kind==6 then Gn m++([32]++(backW++([32]++Cv (m.back.map Ab)))) else Cv m.take++([32]++(intoW++([32]++(Gn m++([32]++(backW++([32]++Cv (m.back.map Ab))))))))).length≤2999999999000:=by
  have e1:backW.length=4:=rfl
  have e2:toW.length=2:=rfl
  have e3:intoW.length=4:=rfl
  refine this (by omega) (this ?_ (this ?_ (this ?_ ?_)))
  all_goals simp only [List.length_append,List.length_cons,List.length_nil,e1,e2,e3];omega
 omega
theorem bi {l:List Mov} (h:(!(Rr l))=true):Iq l=([],1):=if_pos h
theorem Ws {l:List Mov} (h:(!(Rr l))=false) {x:Nat} (hx:x<l.length) (hk:Bi l[x]=false):Iq l=([],3):=by
 unfold Iq
 rw [if_neg (by rw [h];simp),if_pos]
 rw [List.all_eq_false.2 ⟨_,List.getElem_mem hx,by rw [hk];simp⟩]
 rfl
theorem Wt {l:List Mov} (h:(!(Rr l))=false) (hk:∀(j:Nat) (y:Mov),l[j]? = some y→Bi y=true):Iq l=if 4000<(l.flatMap mvS).length then ([],3) else (l.flatMap mvS,0):=by
 have:l.all Bi=true:=List.all_eq_true.2 fun y hy=>by
  obtain ⟨j,hj,rfl⟩:=List.getElem_of_mem hy
  exact hk j _ (List.getElem?_eq_getElem hj)
 unfold Iq
 rw [if_neg (by rw [h];simp),if_neg (by rw [this];simp)]
theorem Qp {l:List Mov} {b:Nat}:∀{x:Nat},(∀(j:Nat) (y:Mov),j<x→l[j]? = some y→(mvS y).length≤b)→((l.take x).flatMap mvS).length≤x*b
 | 0,_=>by simp
 | x+1,h=>by
  have ih:=Qp (l:=l) (x:=x) fun j y hj=>h j y (by omega)
  by_cases hx:x<l.length
  ·have h1:=h x l[x] (by omega) (List.getElem?_eq_getElem hx)
   rw [List.take_succ_eq_append_getElem hx,List.flatMap_append,List.length_append,Nat.succ_mul]
   simp only [List.flatMap_cons,List.flatMap_nil,List.append_nil]
   omega
  rw [List.take_of_length_le (by omega)] at ih ⊢
  rw [Nat.succ_mul]
  omega
theorem bj {l:List Mov} {x:Nat} (h:x<l.length):(l.take (x+1)).flatMap mvS=(l.take x).flatMap mvS++mvS l[x]:=by
 rw [List.take_succ_eq_append_getElem h,List.flatMap_append]
 simp
theorem qv (l:List Str) (hn:l.length≤140737488355328) (hl:(Cv l).length≤140737488355328) (Hp:List AObj):AFun Tryz.prog 63 [Ft l,A8 [44,32]] Hp (A8 (Cv l)):=by
 have:=c63 l [44,32] hn (by rw [Rw];exact hl) Hp
 rw [Rw] at this
 exact this
theorem tk (bs:Str) (o:Nat) (Hp:List AObj) (ho:Hp[o]? = some (Ua bs)):AFun Tryz.prog 32 [.ptr o 0] Hp (A5 bs.length):=
 AFun.bldLen ho (fun b p v w h=>bldLen Tryz.lays170 (T:=74) (e:=5) b p v _ _ w h)
theorem nt {m:Mov} (hk:Bi m=true) (h:(m.kind==1)=true):Ea m=(((Ba m.kind++[32])++(Er m).1)++[59,10],0):=by
 unfold Ea mvS Ok
 rw [if_pos hk,if_pos h,(Gd hk).1]
 simp
theorem nu {m:Mov} (hk:Bi m=true) (h1:(m.kind==1)=false) (h:(m.kind==2)=true):Ea m=(((Ba m.kind++[32])++(Cv m.take++([32,98,97,99,107,32]++Cv (Al m.back).1)))++[59,10],0):=by
 unfold Ea mvS Ok Ik Js backW
 rw [if_pos hk,h1,if_neg (by simp),if_pos h,(Gd hk).2]
 simp
theorem nv {m:Mov} {y:Col} (hk:Bi m=true) (h1:(m.kind==1)=false) (h2:(m.kind==2)=false) (h:(m.kind==3)=true) (hy:m.give=[y]):Ea m=(((Ba m.kind++[32])++((Cv m.take++[32,116,111,32])++y.name))++[59,10],0):=by
 unfold Ea mvS Ok Ik toW
 rw [if_pos hk,h1,if_neg (by simp),h2,if_neg (by simp),if_pos h,hy]
 simp
theorem nw {m:Mov} (hk:Bi m=true) (h1:(m.kind==1)=false) (h2:(m.kind==2)=false) (h3:(m.kind==3)=false) (h:(m.kind==6)=true):Ea m=(((Ba m.kind++[32])++((Er m).1++([32,98,97,99,107,32]++Cv (Al m.back).1)))++[59,10],0):=by
 unfold Ea mvS Ok Ik Js backW
 rw [if_pos hk,h1,if_neg (by simp),h2,if_neg (by simp),h3,if_neg (by simp),if_pos h,(Gd hk).1,(Gd hk).2]
 simp
theorem nx {m:Mov} (hk:Bi m=true) (h1:(m.kind==1)=false) (h2:(m.kind==2)=false) (h3:(m.kind==3)=false) (h:(m.kind==6)=false):Ea m=(((Ba m.kind++[32])++(((Cv m.take++[32,105,110,116,111,32])++(Er m).1)++([32,98,97,99,107,32]++Cv (Al m.back).1)))++[59,10],0):=by
 unfold Ea mvS Ok Ik Js backW intoW
 rw [if_pos hk,h1,if_neg (by simp),h2,if_neg (by simp),h3,if_neg (by simp),h,if_neg (by simp),(Gd hk).1,(Gd hk).2]
 simp
theorem gw {m:Mov} (h:((Er m).2 != 0 || (Al m.back).2 != 0)=true):Ea m=([],3):=by
 unfold Ea
 rw [gv h]
 rfl
theorem Ui {n:Nat} {m:Mov}:Low n (.ro (Mi m)):=.ro _ Rv
/-! sound.Lost: what is dropped, what has been turned. -/
theorem Qq {n k:Nat} {o:Bool} {a:List Str} {c:Str}:Low n (.slice o k (a.map A8++[A8 c])):=by simp [or_imp,forall_and]
theorem c62 (l:List Expr) (hl:l.length≤1048576) (hlo:∀e∈l,okE 61 e) (hlr:∀e∈l,Ci Eo e=true) (Hp:List AObj):AFun Tryz.prog 62 [Jp l] Hp (.tup [Ft (Al l).1,A5 (Al l).2]):=by
 refine ACall.body [.tmp 2,.tmp 3] [0] Tryz.func62 Tryz.ntmps62 (fun d=>?_)
 refine Z1 ?_;refine R.fin [0] ?_;refine Z2 ?_;refine R.fin [0,4] ?_;refine Z50 ?_;refine R.nilSl 4 1 ?_;refine Z9 ?_;refine R.fin [4,9,10,11] ?_
 refine AW.loopC (α:=Nat) (fun x=>⟨29,A7 4 (.slice true 1 (((l.take x).map fun e=>(Dz e).1).map A8)) (A7 9 (Jp l) (A7 10 (A5 (l.length:Nat)) (A7 11 (A5 (x:Nat)) (fun _=>.any)))),Hp,[],[],none⟩) (fun x=>x≤l.length∧∀(j:Nat) (y:Expr),j<x→l[j]? = some y→((Dz y).2 != 0)=false) (fun x=>l.length-x) (0) ⟨Nat.zero_le _,fun j y h=>by omega⟩ (StLe.of_eq (by simp)) rfl (fun x hx=>?_)
 refine Z2 ?_;refine R.fin [4,9,10,11,12] ?_
 refine W.condX (fun ht12=>?_) (fun ht12=>?_)
 ·have hlt:x<l.length:=by simpa using ht12
  refine db ?_
  refine R.go (h:=Q.indexAddr (x) (A6 l[x]) (fun _=>C6 hlt)) (hr:=?_)
  refine R.go ?_;refine Z10 ?_;refine R.fin [4,6,9,10,11] ?_;refine Z2 ?_;refine R.call Tryz.call101 (t8 61 l[x] (hlo _ (List.getElem_mem hlt)) (by decide) (hlr _ (List.getElem_mem hlt)) _) ?_;refine Z83 ?_;refine R.fin [4,7,8,9,10,11] ?_;refine Z11 ?_;refine R.fin [4,7,8,9,10,11,21] ?_
  refine W.cond (fun ht21=>?_) (fun ht21=>?_)
  ·have hm:=Qm hx.2 (List.getElem?_eq_getElem hlt) ht21
   refine Z1 ?_;refine R.nilTmp 2 1 false ?_;refine R.go ?_;refine Z62 ?_;refine Z51 ?_;exact mg
  refine Z6 ?_;refine AW.region ?_;refine R.moveT ?_;refine R.go ?_;refine Re ?_
  refine R.append jU Tryz.type9 ?_ ?_ ?_
  ·simp only [List.length_map,List.length_take,List.length_cons,List.length_nil,Tryz.t9];omega
  ·simp only [List.length_map,List.length_take,List.length_cons,List.length_nil,Tryz.t9];omega
  refine R.assignT ?_;refine R.fin [4,9,10,11] ?_;refine Z13 ?_;refine Z17 ?_;refine R.fin [4,9,10,11] ?_;refine K.lpN (x+1) ⟨hlt,Gt hlt hx.2 ht21⟩ (by omega) ?_
  rw [Qb hlt,List.map_append,List.map_cons,List.map_nil]
  exact StCut.take (own:=[]) (fun _=>.refl _) (by repeat (first|exact Da|refine D9 (by first|exact Om|exact Qq|exact Qc|exact Ui|(simp [or_imp,forall_and];done)) ?_)) (by simp) (by simp)
 have hxe:l.length≤x:=by simpa using ht12
 have hm:=Ql fun j y hy=>hx.2 j y (by have:=(List.getElem?_eq_some_iff.1 hy).1;omega) hy
 rw [List.take_of_length_le hxe]
 refine Z33 ?_;refine Z18 ?_;refine Z12 ?_;exact K.fin (V.two V.tmp V.tmp) ⟨by rw [hm],rfl⟩

theorem c61 (m:Mov) (h:OkMov m) (ha:m.ahead.length=m.give.length) (Hp:List AObj):AFun Tryz.prog 61 [Eg m] Hp (.tup [A8 (Er m).1,A5 (Er m).2]):=by
 have hT:=(E5 m.ahead).1
 have hTl:=(E5 m.ahead).2
 have hgl:=Y5 (m:=m) (T:=(Al m.ahead).1) (by omega)
 have hg2:=h.gives2
 have hjl:=Ln h ha
 refine ACall.body [.tmp 2,.tmp 3] [0] Tryz.func61 Tryz.ntmps61 (fun d=>?_)
 refine Z18 ?_;refine R.fin [1] ?_;refine Z1 ?_;refine R.call Tryz.call62 (c62 m.ahead h.ahead.len h.ahead.ok h.ahead.rng _) ?_;refine Z83 ?_;refine R.fin [1,4,5] ?_;refine Z2 ?_;refine R.fin [1,4,5,6] ?_;refine Z50 ?_;refine R.nilSl 6 1 ?_;refine Z9 ?_;refine R.fin [1,5,6,15,16,17] ?_
 refine AW.loopC (α:=Nat) (fun x=>⟨47,A7 1 (.ro (Mi m)) (A7 5 (A5 (Al m.ahead).2) (A7 6 (.slice true 1 (((gvs m (Al m.ahead).1).take x).map A8)) (A7 15 (Ft (Al m.ahead).1) (A7 16 (A5 ((Al m.ahead).1.length:Nat)) (A7 17 (A5 (x:Nat)) (fun _=>.any)))))),Hp,[],[],none⟩) (fun x=>x≤(Al m.ahead).1.length) (fun x=>(Al m.ahead).1.length-x) (0) (Nat.zero_le _) (StLe.of_eq (by simp)) rfl (fun x hx=>?_)
 refine Z2 ?_;refine R.fin [1,5,6,15,16,17,18] ?_
 refine W.condX (fun ht18=>?_) (fun ht18=>?_)
 ·have hlt:x<(Al m.ahead).1.length:=by simpa using ht18
  have hxg:x<m.give.length:=by omega
  have hn1:=h.gives.2 _ (List.getElem_mem hxg)
  have hn2:=Kf m.give[x].kind
  have hn3:=hTl _ (List.getElem_mem hlt)
  refine Z20 ?_;refine Z2 ?_
  refine R.go (h:=Q.indexAddr (x) (A8 (Al m.ahead).1[x]) (fun _=>C6 hlt)) (hr:=?_)
  refine Z9 ?_;refine R.fin [1,5,6,7,8,15,16,17] ?_;refine W.drawY0 [0,0,2,0,14,30,62,126,0,256,0,1792,3840,7936,16128,32766,65534,0,262142,524286,1048575,2097151] [] [.s [6,22] none [] [],.q 19 [] []] (fun _=>Hp) (fun _=>[]) Aa (by kernel_rfl) rfl rfl (fun _=>rfl) ?_;refine Y.moveT ?_
  apply Y.q
  case h1 =>
   intro B hT hF
   refine Z30 ?_
   refine D.go (h:=Q.indexAddr (x) (Bt m.give[x]) (fun _=>C6 hxg)) (hr:=?_)
   refine Z5 ?_
   refine D.go (h:=Q.sadd (hl:=fun _=>by simp only [List.length_cons,List.length_nil];omega)) (hr:=?_)
   refine Z30 ?_
   refine D.go (h:=Q.indexAddr (x) (Bt m.give[x]) (fun _=>C6 hxg)) (hr:=?_)
   refine Z5 ?_;refine D.call Tryz.call68 (c68 _ _) ?_
   refine D.go (h:=Q.sadd (hl:=fun _=>by simp only [List.length_append,List.length_cons,List.length_nil];omega)) (hr:=?_)
   refine D.go (h:=Q.sadd (hl:=fun _=>by simp only [List.length_append,List.length_cons,List.length_nil];omega)) (hr:=?_)
   refine D.go ?_
   refine D.go (h:=Q.sadd (hl:=fun _=>by simp only [List.length_append,List.length_cons,List.length_nil];omega)) (hr:=?_)
   exact Z21
  case hTF=>decide
  refine Y.tail (tn:=[])  ?_
  refine R.append jU Tryz.type9 ?_ ?_ ?_
  ·simp only [List.length_map,List.length_take,List.length_cons,List.length_nil,Tryz.t9];omega
  ·simp only [List.length_map,List.length_take,List.length_cons,List.length_nil,Tryz.t9];omega
  refine R.assignT ?_;refine R.fin [1,5,6,15,16,17] ?_;refine Z13 ?_;refine Z17 ?_;refine R.fin [1,5,6,15,16,17] ?_;refine K.lpN (x+1) hlt (by omega) ?_
  rw [Qb (by omega:x<(gvs m (Al m.ahead).1).length),nr hlt hxg]
  exact StCut.take (own:=[]) (fun _=>.refl _) (by repeat (first|exact Da|refine D9 (by first|exact Om|exact Qq|exact Qc|exact Ui|(simp [or_imp,forall_and];done)) ?_)) (by simp) (by simp)
 have hxe:(Al m.ahead).1.length≤x:=by simpa using ht18
 rw [List.take_of_length_le (by omega:(gvs m (Al m.ahead).1).length≤x)]
 refine Z33 ?_;refine Z2 ?_
 refine R.call Tryz.call63 (c63 (gvs m (Al m.ahead).1) [44,32] (by omega) (by rw [Rw];omega) _) ?_
 refine Z9 ?_;refine Z12 ?_;exact K.fin (V.two V.tmp V.tmp) ⟨by rw [Ip,←Rw]<;>rfl,rfl⟩

theorem c30 (m:Mov) (h:OkMov m) (hv:Fw m=true) (Hp:List AObj):AFun Tryz.prog 30 [Eg m] Hp (.tup [A8 (Ea m).1,A5 (Ea m).2]):=by
 have ha:=(Fx (J3 hv)).1
 have hgl:(Er m).1.length≤1100000000000:=by rw [Ip];exact Ln h ha
 have htl:=Qn h
 have hbl:=Qo h
 have hwl:=Mb m.kind
 have htk:=h.takes
 have hbk:=h.back.len
 have hbt:=(E5 m.back).1
 refine ACall.body [.tmp 2,.tmp 3] [0] Tryz.func30 Tryz.ntmps30 (fun d=>?_)
 refine Z18 ?_;refine R.fin [1] ?_;refine Z2 ?_;refine R.call Tryz.call61 (c61 m h ha _) ?_;refine Z83 ?_;refine R.fin [1,4,5] ?_;refine Z1 ?_;refine R.call Tryz.call62 (c62 m.back h.back.len h.back.ok h.back.rng _) ?_;refine Z83 ?_;refine R.fin [1,4,5,6,7] ?_;refine Z48 ?_;refine Z4 ?_;refine R.go ?_;refine R.fin [1,4,6,27] ?_
 refine W.cond (fun ht27=>?_) (fun ht27=>?_)
 ·have e:=gw ht27
  refine Z1 ?_;refine Z62 ?_;exact pv
 have hk:=bh ht27
 refine Z6 ?_;refine Z1 ?_;refine R.call Tryz.call63 (qv m.take (by omega) (by omega) _) ?_;refine R.go ?_;refine R.fin [1,4,6,8] ?_;refine Z2 ?_;refine R.call Tryz.call63 (qv (Al m.back).1 (by omega) (by omega) _) ?_;refine Z0 ?_;refine R.fin [1,4,8,9] ?_;refine Z1 ?_;refine R.call Tryz.call12 (c12 _ _) ?_;refine Z0 ?_;refine R.fin [1,4,8,9,10] ?_;refine Z11 ?_;refine R.fin [1,4,8,9,10,39] ?_;refine Z64 ?_;refine R.fin [1,4,8,9,10,39,48] ?_
 refine W.cond (fun ht48=>?_) (fun ht48=>?_)
 ·have e:=nt hk ht48
  refine Z17 ?_;refine Z0 ?_;exact d7
 refine Z1 ?_;refine R.fin [1,4,8,9,10,39,53] ?_
 refine W.cond (fun ht53=>?_) (fun ht53=>?_)
 ·have e:=nu hk ht48 ht53
  refine Z17 ?_;refine Z53 ?_;exact d7
 refine Z1 ?_;refine R.fin [1,4,8,9,10,39,60] ?_
 refine W.cond (fun ht60=>?_) (fun ht60=>?_)
 ·obtain ⟨y,hy⟩:=nb (Od (J3 hv) (by rw [ht60];rfl)).2
  have e:=nv hk ht48 ht53 ht60 hy
  have hyl:=h.gives.2 y (by rw [hy];exact List.mem_cons_self)
  refine Z17 ?_;refine Z9 ?_
  refine R.go (h:=Q.indexAddr (0) (Bt y) (fun _=>by rw [hy];rfl)) (hr:=?_)
  refine Z83 ?_;exact d7
 refine Z1 ?_;refine R.fin [4,8,9,10,72] ?_
 refine W.cond (fun ht72=>?_) (fun ht72=>?_)
 ·have e:=nw hk ht48 ht53 ht60 ht72
  refine Z17 ?_;refine Z53 ?_;exact d7
 have e:=nx hk ht48 ht53 ht60 ht72
 refine Z17 ?_;refine Z53 ?_;refine Z9 ?_;exact d7

theorem c13 (l:List Mov) (h:OkMovs l) (Hp:List AObj):AFun Tryz.prog 13 [E8 l] Hp (.tup [A8 (Iq l).1,A5 (Iq l).2]):=by
 refine ACall.body [.tmp 2,.tmp 3] [0] Tryz.func13 Tryz.ntmps13 (fun d=>?_)
 refine Z1 ?_;refine R.fin [0] ?_;refine Z42 ?_;refine R.call Tryz.call14 (c14 l h _) ?_;refine R.go ?_;refine R.fin [0,11] ?_
 refine W.cond (fun ht11=>?_) (fun ht11=>?_)
 ·have hm:=bi ht11
  refine Z1 ?_;exact o9
 have hr:Rr l=true:=by simpa using ht11
 unfold Rr at hr
 simp only [Bool.and_eq_true,decide_eq_true_eq,List.all_eq_true] at hr
 obtain ⟨h8,hall⟩:=hr
 refine Z6 ?_;refine Z15 ?_;refine R.fin [0,4] ?_;refine Z50 ?_;refine R.toBld 0 74 5 ?_;refine Z9 ?_;refine R.fin [4,12,13,14] ?_
 refine AW.loopC (α:=Nat) (fun x=>⟨32,A7 4 (.ptr (oid Hp.length 0) 0) (A7 12 (E8 l) (A7 13 (A5 (l.length:Nat)) (A7 14 (A5 (x:Nat)) (fun _=>.any)))),Hp,[Ua ((l.take x).flatMap mvS)],[],none⟩) (fun x=>x≤l.length∧∀(j:Nat) (y:Mov),j<x→l[j]? = some y→Bi y=true) (fun x=>l.length-x) (0) ⟨Nat.zero_le _,fun j y h=>by omega⟩ (StLe.of_eq (by simp)) rfl (fun x hx=>?_)
 refine Z2 ?_;refine R.fin [4,12,13,14,15] ?_
 refine W.condX (fun ht15=>?_) (fun ht15=>?_)
 ·have hlt:x<l.length:=by simpa using ht15
  have hv1:=hall _ (List.getElem_mem hlt)
  have hfl:((l.take x).flatMap mvS).length≤x*3000000000000:=Qp fun j y hj hy=>Y6 (h.each _ (List.mem_of_getElem? hy)) (Fx (J3 (hall _ (List.mem_of_getElem? hy)))).1 (hx.2 j y hj hy)
  refine db ?_
  refine R.go (h:=Q.indexAddr (x) (Eg l[x]) (fun _=>C6 hlt)) (hr:=?_)
  refine R.go ?_;refine Z10 ?_;refine R.fin [4,6,12,13,14] ?_;refine Z2 ?_;refine R.call Tryz.call30 (c30 l[x] (h.each _ (List.getElem_mem hlt)) hv1 _) ?_;refine Z83 ?_;refine R.fin [4,7,8,12,13,14] ?_;refine Z11 ?_;refine R.fin [4,7,8,12,13,14,24] ?_
  refine W.cond (fun ht24=>?_) (fun ht24=>?_)
  ·have hk:Bi l[x]=false:=by
    cases e:Bi l[x] with
    | true=>unfold Ea at ht24;rw [e] at ht24;simp at ht24
    | false=>rfl
   have hm:=Ws ht11 hlt hk
   have et:Ea l[x]=([],3):=by unfold Ea;rw [hk];rfl
   refine Z18 ?_;refine Z62 ?_;refine Z51 ?_;exact K.fin (V.two V.tmp V.tmp) ⟨by rw [hm,et]<;>rfl,rfl⟩
  have hk:Bi l[x]=true:=by
   cases e:Bi l[x] with
   | true=>rfl
   | false=>unfold Ea at ht24;rw [e] at ht24;simp at ht24
  have et:Ea l[x]=(mvS l[x],0):=by unfold Ea;rw [hk];rfl
  have hml:=Y6 (h.each _ (List.getElem_mem hlt)) (Fx (J3 hv1)).1 hk
  rw [et]
  refine Z6 ?_;refine Z97 ?_
  refine R.callOwn (n:=0) (x:=Ua ((l.take x).flatMap mvS++mvS l[x])) Tryz.call31 (tc ((l.take x).flatMap mvS) (mvS l[x]) (by omega) (oid Hp.length 0) _ (by rw [B5];rfl)) ?_ (hset:=List.set_cons_zero)
  refine R.fin [4,12,13,14] ?_;refine Z13 ?_;refine Z17 ?_;refine R.fin [4,12,13,14] ?_;refine K.lpN (x+1) ⟨hlt,Gt hlt hx.2 hk⟩ (by omega) ?_
  rw [bj hlt]
  exact StCut.take (own:=[Ua ((l.take x).flatMap mvS++mvS l[x])]) (fun _=>.refl _) (by repeat (first|exact Da|refine D9 (by first|exact Ol|(simp [oid,or_imp,forall_and];done)) ?_)) (by intro z hz;rw [List.mem_singleton.1 hz];exact gg) (by simp)
 have hxe:l.length≤x:=by simpa using ht15
 have hm:=Wt ht11 fun j y hy=>hx.2 j y (by have:=(List.getElem?_eq_some_iff.1 hy).1;omega) hy
 rw [List.take_of_length_le hxe]
 refine Z33 ?_;refine Z50 ?_
 refine R.call Tryz.call32 (tk (l.flatMap mvS) (oid Hp.length 0) _ (by rw [B5];rfl)) ?_
 refine R.go ?_;refine R.fin [4,30] ?_
 refine W.cond (fun ht30=>?_) (fun ht30=>?_)
 ·rw [if_pos (by have:=of_decide_eq_true ht30;omega)] at hm
  refine Z1 ?_;exact o9
 rw [if_neg (by have:=of_decide_eq_false ht30;omega)] at hm
 refine Z6 ?_;refine Dn ?_
 refine R.callOwn (n:=0) (x:=.cells 74 [.any,.any]) Tryz.call33 (td (l.flatMap mvS) (oid Hp.length 0) _ (by rw [B5];rfl)) ?_ (hset:=List.set_cons_zero)
 refine Z0 ?_;refine Z12 ?_;exact mg

/-! What mig.Parse hands back is right, and may be walked. -/
structure TrE (e:Expr):Prop where
 right:Cm e=true
 rng:Ci Eo e=true
 need:Bh e≤30
theorem lf {l:List Tok} {i:Nat} (h0:(atM l i).2.2.1=0):Bh (atM l i).1≤30:=by
 unfold atM at h0 ⊢
 split
 ·exact ah
 rename_i hc
 have hc:(atS l i (atR l i)).code=0:=by simpa using hc
 have hr:(atR l i).2.code=0:=by
  unfold atS at hc
  split at hc
  ·exact hc
  rename_i hh;simpa using hh
 have:=((Wd l 30 0 rfl).1 ⟨i,0,0,0⟩ rfl).need hr
 have h2:=(Kp 0 (atR l i).1 (Bh (atR l i).1)).1
 show Bh (atR l i).1≤30
 unfold atR at h2 ⊢
 omega
theorem gx {L:List Tok} (hw:∀i,WordOk (A2 L i)) {i:Nat} (ha:(atM L i).2.2.1=0):TrE (atM L i).1:=by
 have hneed:=lf ha
 revert hneed
 unfold atM at ha ⊢
 by_cases hc:((atS L i (atR L i)).code != 0)=true
 ·rw [if_pos hc] at ha
  rw [show (atS L i (atR L i)).code=0 from ha] at hc
  cases hc
 rw [if_neg hc]
 have hc:(atS L i (atR L i)).code=0:=by simpa using hc
 have h0:(atR L i).2.code=0∧depthE (atR L i).1≤30∧sizeE (atR L i).1≤300:=by
  unfold atS at hc
  split at hc
  ·rename_i hh;exact absurd hc (by simpa using hh)
  rename_i hh
  split at hc
  ·exact me
  rename_i h2
  split at hc
  ·exact me
  rename_i h3
  simp only [decide_eq_true_eq,Int.not_lt] at h2 h3
  exact ⟨by simpa using hh,by omega,by omega⟩
 have:=(fl _ hw 30 0 rfl).1 ⟨i,0,0,0⟩ rfl h0.1
 refine fun hneed=>⟨?_,this.2,hneed⟩
 unfold Cm
 rw [Bool.and_eq_true,Bool.and_eq_true]
 exact ⟨⟨by simpa using h0.2.1,by simpa using h0.2.2⟩,this.1⟩
theorem Wu {s:Str} (hl:(Bv s).2.1=0):∀i,WordOk (A2 (Bv s).1 i):=fun i=>by
 obtain ⟨_,hi,hM⟩:=Kd hl
 have hall:∀t∈(Bv s).1,WordOk t:=fun t ht=>by
  rw [hM] at ht
  rcases List.mem_append.1 ht with ht|ht
  ·obtain ⟨it,hit,rfl⟩:=List.mem_map.1 ht
   exact U1 _ _ _ it hit (hi it hit)
  rw [List.mem_singleton.1 ht]
  exact na _
 unfold A2
 rw [List.getD_eq_getElem?_getD]
 cases hg:(Bv s).1[i]? with
 | none=>exact ⟨(fun h=>by cases h),(fun h=>by cases h)⟩
 | some t=>exact hall t (List.mem_of_getElem? hg)
theorem Y7 {L:List Tok} (hw:∀i,WordOk (A2 L i)) {i:Nat} {x:Expr} {j:Nat} (h:E9 L i=.ok x j):TrE x:=by
 unfold E9 at h
 split at h
 ·cases h
 rename_i h1
 injection h with h2 _
 rw [←h2]
 exact gx hw (by simpa using h1)
theorem J5 {L:List Tok} (hw:∀i,WordOk (A2 L i)) {i:Nat} {s:Str} {j:Nat} (h:Cz L i=.ok s j):Fc s=true:=by
 unfold Cz at h
 split at h
 ·cases h
 rename_i h1
 injection h with h2 _
 rw [←h2]
 exact (hw i).name (by simpa using h1)
theorem Qr {s:Str} (h:(Gy s==0)=false):1≤Gy s∧Gy s≤3:=by
 unfold Gy at h ⊢
 repeat' split at h
 all_goals simp_all
structure ColG (c:Col):Prop where
 name:Fc c.name=true
 lo:1≤c.kind
 hi:c.kind≤3
theorem bn {L:List Tok} (hw:∀i,WordOk (A2 L i)) {i:Nat} {c:Col} {j:Nat} (h:E1 L i=.ok c j):ColG c:=by
 obtain ⟨s,j1,h1,h2⟩:=PR.bind_ok h
 unfold M7 at h2
 split at h2
 ·cases h2
 rename_i h3
 injection h2 with h2 _
 have h3:(Gy (A2 L j1).text==0)=false:=by
  simp only [Bool.or_eq_true,not_or,Bool.not_eq_true] at h3
  exact h3.2
 rw [←h2]
 exact ⟨J5 hw h1,(Qr h3).1,(Qr h3).2⟩
/-- The parts of a move, so far. -/
structure MvG (m:Mov):Prop where
 takes:∀s∈m.take,Fc s=true
 gives:∀c∈m.give,ColG c
 len:m.ahead.length=m.give.length
 aheads:∀x∈m.ahead,TrE x
 backs:∀x∈m.back,TrE x
theorem MvG.nil (k:Int):MvG ⟨k,[],[],[],[]⟩:=⟨(fun s h=>by cases h),(fun s h=>by cases h),rfl,(fun s h=>by cases h),(fun s h=>by cases h)⟩
theorem Mx {L:List Tok} (hw:∀i,WordOk (A2 L i)) {m:Mov} (hm:MvG m) {i:Nat} {m':Mov} {j:Nat} (h:C1 L m i=.ok m' j):MvG m'∧∃c x,ColG c∧m'=Q8 (Bd m c) x:=by
 obtain ⟨c,j1,h1,h2⟩:=PR.bind_ok h
 obtain ⟨u,j2,h3,h4⟩:=PR.bind_ok h2
 obtain ⟨x,j3,h5,h6⟩:=PR.bind_ok h4
 injection h6 with h6 _
 have hc:=bn hw h1
 have hx:=Y7 hw h5
 subst h6
 refine ⟨⟨hm.takes,fun y hy=>?_,?_,fun y hy=>?_,hm.backs⟩,c,x,hc,rfl⟩
 ·rcases List.mem_append.1 hy with h|h
  ·exact hm.gives y h
  rw [List.mem_singleton.1 h];exact hc
 ·show (m.ahead++[x]).length=(m.give++[c]).length
  rw [List.length_append,List.length_append,hm.len]
  rfl
 rcases List.mem_append.1 hy with h|h
 ·exact hm.aheads y h
 rw [List.mem_singleton.1 h];exact hx
theorem Uj {L:List Tok} (hl:TokEnd L) {n:Int} {one:Mov→Nat→PR Mov} {P:Nat→Mov→Prop} (hP:∀k m i m' j,P k m→i<L.length→one m i=.ok m' j→P (k+1) m'∧i≤j∧j<L.length):
  ∀(f k:Nat) (m:Mov) (i:Nat) (m':Mov) (j:Nat),i<L.length→L.length≤i+f→P k m→Ei L n one f k m i=.ok m' j→(∃c,P c m'∧(n=0→2≤c)∧(0<n→(k:Int)≤n→(c:Int)=n))∧j<L.length
 | 0,k,m,i,m',j,hi,hf,hm,h=>by omega
 | f+1,k,m,i,m',j,hi,hf,hm,h=>by
  rw [Ei] at h
  split at h
  ·rename_i hq
   obtain ⟨u,j1,h1,h2⟩:=PR.bind_ok h
   obtain ⟨m1,j2,h3,h4⟩:=PR.bind_ok h2
   have e:=Fy h1
   have a1:=C2 hl hi _ _ h1
   obtain ⟨b1,b2,b3⟩:=hP k m j1 m1 j2 hm a1.2 h3
   obtain ⟨⟨c,c1,c2,c3⟩,c4⟩:=Uj hl hP f (k+1) m1 j2 m' j b3 (by omega) b1 h4
   refine ⟨⟨c,c1,c2,fun h0 hk=>c3 h0 ?_⟩,c4⟩
   unfold Ga at hq
   have:(n==0)=false:=by simp;omega
   rw [this] at hq
   simp at hq
   omega
  rename_i hq
  injection h with h1 h2
  subst h1;subst h2
  unfold Ga at hq
  refine ⟨⟨k,hm,fun h0=>?_,fun h0 hk=>?_⟩,hi⟩
  ·rw [h0] at hq
   simp at hq
   omega
  simp at hq
  omega
theorem Rx {L:List Tok} (hl:TokEnd L) {n:Int} {one:Mov→Nat→PR Mov} {P:Nat→Mov→Prop} (hP:∀k m i m' j,P k m→i<L.length→one m i=.ok m' j→P (k+1) m'∧i≤j∧j<L.length) {m:Mov} {i:Nat} {m':Mov} {j:Nat} (hi:i<L.length) (hm:P 0 m) (h:Ds L n one m i=.ok m' j):(∃c,P c m'∧(n=0→2≤c)∧(0<n→(c:Int)=n))∧j<L.length:=by
 obtain ⟨m1,j1,h1,h2⟩:=PR.bind_ok h
 obtain ⟨b1,b2,b3⟩:=hP 0 m i m1 j1 hm hi h1
 obtain ⟨⟨c,c1,c2,c3⟩,c4⟩:=Uj hl hP _ 1 m1 j1 m' j b3 (by omega) b1 h2
 exact ⟨⟨c,c1,c2,fun h0=>c3 h0 (by omega)⟩,c4⟩
theorem Lo {L:List Tok} (hl:TokEnd L) (hll:L.length≤500000) {m:Mov} {i:Nat} {m':Mov} {j:Nat} (hi:i<L.length) (h:C1 L m i=.ok m' j):i≤j∧j<L.length:=by
 obtain ⟨c,j1,h1,h2⟩:=PR.bind_ok h
 obtain ⟨u,j2,h3,h4⟩:=PR.bind_ok h2
 obtain ⟨x,j3,h5,h6⟩:=PR.bind_ok h4
 injection h6 with _ h7
 subst h7
 have a1:=Lg hl hi _ _ h1
 have a2:=C2 hl a1.2 _ _ h3
 have a3:=Gb hl hll a2.2 h5
 exact ⟨by omega,a3.2⟩
/-- The trees back. -/
theorem My {L:List Tok} (hl:TokEnd L) (hll:L.length≤500000) (hw:∀i,WordOk (A2 L i)) {m:Mov} (hm:MvG m) (h0:m.back=[]) (h1:1≤m.take.length) {i:Nat} (hi:i<L.length) {m':Mov} {j:Nat} (h:Ct L m i=.ok m' j):MvG m'∧∃b,b.length=m.take.length∧m'=⟨m.kind,m.take,m.give,m.ahead,b⟩:=by
 obtain ⟨u,j1,h2,h3⟩:=PR.bind_ok h
 have a1:=C2 hl hi _ _ h2
 obtain ⟨⟨c,⟨c1,b,hb,e⟩,c2,c3⟩,_⟩:=Rx (P:=fun k m'=>MvG m'∧∃b:List Expr,b.length=k∧m'=⟨m.kind,m.take,m.give,m.ahead,b⟩) hl (fun k m1 i m2 j hq hi h=>by
  obtain ⟨g,b,hb,e⟩:=hq
  obtain ⟨x,j1,h1,h2⟩:=PR.bind_ok h
  injection h2 with h2 h3
  subst h3
  have a:=Gb hl hll hi h1
  have hx:=Y7 hw h1
  subst h2
  refine ⟨⟨⟨g.takes,g.gives,g.len,g.aheads,fun y hy=>?_⟩,b++[x],by rw [List.length_append,hb];rfl,by rw [e];rfl⟩,a.1,a.2⟩
  rcases List.mem_append.1 hy with h|h
  ·exact g.backs y h
  rw [List.mem_singleton.1 h];exact hx) a1.2 ⟨hm,[],rfl,by rw [←h0]⟩ h3
 have:=c3 (by omega)
 exact ⟨c1,b,by omega,e⟩
/-- A move that is parsed, its counts and last words. -/
structure MvP (m:Mov):Prop where
 takes:∀s∈m.take,Fc s=true
 gives:∀c∈m.give,Fc c.name=true
 kinds:m.kind≠3→∀c∈m.give,1≤c.kind∧c.kind≤3
 kind3:m.kind=3→∀c∈m.give,c.kind=0
 counts:Cs m=true
 last:Ep m=true
 aheads:∀x∈m.ahead,TrE x
 backs:∀x∈m.back,TrE x
theorem Uk {s:Str} (h:Fc s=true):TrE (Bk s):=⟨by
 have:=W5 s
 rw [←Hi]
 rw [this]
 exact h,rfl,by rw [Bk];simp [Bh,M6,Kj]⟩
theorem MvG.p {m:Mov} (h:MvG m) (hk:m.kind≠3) (hc:Cs m=true) (hl:Ep m=true):MvP m:=⟨h.takes,fun c hc=>(h.gives c hc).name,fun _ c hc=>⟨(h.gives c hc).lo,(h.gives c hc).hi⟩,fun h3=>absurd h3 hk,hc,hl,h.aheads,h.backs⟩
theorem Fo {m:Mov} (h1:m.ahead.length=m.give.length) (h2:m.back.length=m.take.length) (h:(m.kind=1∧m.take.length=0∧m.give.length=1)∨(m.kind=2∧m.take.length=1∧m.give.length=0)∨((m.kind=3∨m.kind=6)∧m.take.length=1∧m.give.length=1)∨(m.kind=4∧m.take.length=1∧1<m.give.length)∨(m.kind=5∧1<m.take.length∧m.give.length=1)):Cs m=true:=by
 unfold Cs
 rw [if_neg (by simp [h1,h2])]
 rcases h with ⟨e,a,b⟩|⟨e,a,b⟩|⟨e|e,a,b⟩|⟨e,a,b⟩|⟨e,a,b⟩<;>rw [e]<;>simp [a,b]<;>omega
theorem Mz {m:Mov} (h3:m.kind≠3) (h6:m.kind≠6):Ep m=true:=by
 unfold Ep
 rw [if_neg (by simpa using h3),if_neg (by simpa using h6)]
theorem lg {L:List Tok} (hl:TokEnd L) (hll:L.length≤500000) (hw:∀i,WordOk (A2 L i)) {k:Int} (hk:1≤k∧k≤6) {i:Nat} (hi:i<L.length) {m:Mov} {j:Nat} (h:Di L ⟨k,[],[],[],[]⟩ i=.ok m j):MvP m:=by
 have hg:=MvG.nil k
 unfold Di at h
 split at h
 ·rename_i hk1
  have hk1:k=1:=by simpa using hk1
  obtain ⟨g,c,x,hc,e⟩:=Mx hw hg h
  subst e
  exact g.p (by show k≠3;omega) (Fo g.len rfl (.inl ⟨hk1,rfl,rfl⟩)) (Mz (by show k≠3;omega) (by show k≠6;omega))
 split at h
 ·rename_i hk1
  have hk1:k=2:=by simpa using hk1
  obtain ⟨s,j1,h1,h2⟩:=PR.bind_ok h
  have hs:=J5 hw h1
  have a1:=D8 hl hi _ _ h1
  have g0:MvG (takeS ⟨k,[],[],[],[]⟩ s):=⟨fun y hy=>by rw [List.mem_singleton.1 hy];exact hs,hg.gives,rfl,hg.aheads,hg.backs⟩
  obtain ⟨g,b,hb,e⟩:=My hl hll hw g0 rfl (Nat.le_refl _) a1.2 h2
  subst e
  exact g.p (by show k≠3;omega) (Fo rfl hb (.inr (.inl ⟨hk1,rfl,rfl⟩))) (Mz (by show k≠3;omega) (by show k≠6;omega))
 split at h
 ·rename_i hk1
  have hk1:k=3:=by simpa using hk1
  obtain ⟨s,j1,h1,h2⟩:=PR.bind_ok h
  obtain ⟨u,j2,h3,h4⟩:=PR.bind_ok h2
  obtain ⟨t,j3,h5,h6⟩:=PR.bind_ok h4
  injection h6 with h6 _
  have hs:=J5 hw h1
  have ht:=J5 hw h5
  subst h6
  refine ⟨fun y hy=>by rw [List.mem_singleton.1 hy];exact hs,fun y hy=>by rw [List.mem_singleton.1 hy];exact ht,fun h=>absurd hk1 h,fun _ y hy=>by rw [List.mem_singleton.1 hy],Fo rfl rfl (.inr (.inr (.inl ⟨.inl hk1,rfl,rfl⟩))),?_,fun y hy=>by rw [List.mem_singleton.1 hy];exact Uk hs,fun y hy=>by rw [List.mem_singleton.1 hy];exact Uk ht⟩
  unfold Ep
  rw [if_pos (by simpa using hk1)]
  show (eqE (Bk s) (Bk s)&&eqE (Bk t) (Bk t))=true
  rw [O9,O9]
  rfl
 split at h
 ·rename_i hk1
  have hk1:k=4:=by simpa using hk1
  obtain ⟨s,j1,h1,h2⟩:=PR.bind_ok h
  obtain ⟨u,j2,h3,h4⟩:=PR.bind_ok h2
  obtain ⟨m1,j3,h5,h6⟩:=PR.bind_ok h4
  have hs:=J5 hw h1
  have a1:=D8 hl hi _ _ h1
  have a2:=C2 hl a1.2 _ _ h3
  have g0:MvG (takeS ⟨k,[],[],[],[]⟩ s):=⟨fun y hy=>by rw [List.mem_singleton.1 hy];exact hs,hg.gives,rfl,hg.aheads,hg.backs⟩
  obtain ⟨⟨c,⟨g1,e1,e2,e3,e4⟩,c2,_⟩,c4⟩:=Rx (P:=fun n m'=>MvG m'∧m'.kind=k∧m'.take=[s]∧m'.back=[]∧m'.give.length=n) hl (fun n m1 i m2 j hq hi h=>by
   obtain ⟨g,e1,e2,e3,e4⟩:=hq
   obtain ⟨g',c,x,hc,e⟩:=Mx hw g h
   have a:=Lo hl hll hi h
   subst e
   exact ⟨⟨g',e1,e2,e3,by show (m1.give++[c]).length=_;rw [List.length_append,e4];rfl⟩,a.1,a.2⟩) a2.2 ⟨g0,rfl,rfl,rfl,rfl⟩ h5
  have c2:=c2 rfl
  obtain ⟨g,b,hb,e⟩:=My hl hll hw g1 e3 (by rw [e2];exact Nat.le_refl _) c4 h6
  subst e
  exact g.p (by show m1.kind≠3;omega) (Fo g1.len hb (.inr (.inr (.inr (.inl ⟨by show m1.kind=4;omega,by show m1.take.length=1;rw [e2];rfl,by show 1<m1.give.length;omega⟩))))) (Mz (by show m1.kind≠3;omega) (by show m1.kind≠6;omega))
 split at h
 ·rename_i hk1
  have hk1:k=5:=by simpa using hk1
  obtain ⟨m1,j1,h1,h2⟩:=PR.bind_ok h
  obtain ⟨u,j2,h3,h4⟩:=PR.bind_ok h2
  obtain ⟨m2,j3,h5,h6⟩:=PR.bind_ok h4
  obtain ⟨⟨c,⟨g1,e1,e2,e3,e4,e5⟩,c2,_⟩,c4⟩:=Rx (P:=fun n m'=>MvG m'∧m'.kind=k∧m'.give=[]∧m'.ahead=[]∧m'.back=[]∧m'.take.length=n) hl (fun n m1 i m2 j hq hi h=>by
   obtain ⟨g,e1,e2,e3,e4,e5⟩:=hq
   obtain ⟨s,j1,h1,h2⟩:=PR.bind_ok h
   injection h2 with h2 h3
   have hs:=J5 hw h1
   have a:=D8 hl hi _ _ h1
   subst h3
   subst h2
   refine ⟨⟨⟨fun y hy=>?_,g.gives,g.len,g.aheads,g.backs⟩,e1,e2,e3,e4,by show (m1.take++[s]).length=_;rw [List.length_append,e5];rfl⟩,by omega,a.2⟩
   rcases List.mem_append.1 hy with h|h
   ·exact g.takes y h
   rw [List.mem_singleton.1 h];exact hs) hi ⟨hg,rfl,rfl,rfl,rfl,rfl⟩ h1
  have c2:=c2 rfl
  have a2:=C2 hl c4 _ _ h3
  obtain ⟨g2,cc,x,hc,e⟩:=Mx hw g1 h5
  have a3:=Lo hl hll a2.2 h5
  subst e
  obtain ⟨g,b,hb,e⟩:=My hl hll hw g2 e4 (by show 1≤m1.take.length;omega) a3.2 h6
  subst e
  exact g.p (by show m1.kind≠3;omega) (Fo g2.len hb (.inr (.inr (.inr (.inr ⟨by show m1.kind=5;omega,by show 1<m1.take.length;omega,by show (m1.give++[cc]).length=1;rw [e2];rfl⟩))))) (Mz (by show m1.kind≠3;omega) (by show m1.kind≠6;omega))
 split at h
 ·rename_i hk1
  have hk1:k=6:=by simpa using hk1
  obtain ⟨m1,j1,h1,h2⟩:=PR.bind_ok h
  obtain ⟨g,c,x,hc,e⟩:=Mx hw hg h1
  have a:=Lo hl hll hi h1
  subst e
  have g0:MvG (takeS (Q8 (Bd ⟨k,[],[],[],[]⟩ c) x) c.name):=⟨fun y hy=>by rw [List.mem_singleton.1 hy];exact hc.name,g.gives,g.len,g.aheads,g.backs⟩
  obtain ⟨g1,b,hb,e⟩:=My hl hll hw g0 rfl (Nat.le_refl _) a.2 h2
  subst e
  refine g1.p (by show k≠3;omega) (Fo g0.len hb (.inr (.inr (.inl ⟨.inr hk1,rfl,rfl⟩)))) ?_
  unfold Ep
  rw [if_neg (by show ¬((k==3)=true);simp;omega),if_pos (by show (k==6)=true;simp;omega)]
  show (c.name==c.name)=true
  simp
 rename_i h1 h2 h3 h4 h5 h6
 simp only [beq_iff_eq] at h1 h2 h3 h4 h5 h6
 omega
theorem Wv {s:Str} (h:(C8 s==0)=false):1≤C8 s∧C8 s≤6:=by
 unfold C8 at h ⊢
 repeat' split at h
 all_goals simp_all
theorem lh {L:List Tok} (hl:TokEnd L) (hll:L.length≤500000) (hw:∀i,WordOk (A2 L i)) {i:Nat} (hi:i<L.length) {m:Mov} {j:Nat} (h:Dy L i=.ok m j):MvP m:=by
 unfold Dy at h
 split at h
 ·cases h
 rename_i h1
 simp only [Bool.or_eq_true,not_or,Bool.not_eq_true] at h1
 obtain ⟨m1,j1,h2,h3⟩:=PR.bind_ok h
 obtain ⟨u,j2,h4,h5⟩:=PR.bind_ok h3
 injection h5 with h5 _
 subst h5
 exact lg hl hll hw (Wv h1.2) (hl.step hi (by have:=h1.1;simp at this;omega)) h2
theorem Qs {s:Str} (h:Fc s=true):s.length≤16:=by
 rw [←Hh] at h
 unfold C0 at h
 simp only [Bool.and_eq_true,decide_eq_true_eq] at h
 omega
theorem gy {l:List Expr} (hl:l.length≤1048576) (h:∀x∈l,TrE x):OkEs l:=⟨hl,fun e he=>Ed (by decide) (Qg (h e he).right).1,fun e he=>Nat.le_trans (Qg (h e he).right).2 (by decide),fun e he=>(h e he).rng⟩
theorem MvP.ok {m:Mov} (h:MvP m) {n:Nat} (hn:MvLe m n) (h1:n≤1000000):OkMov m:=
 ⟨by have:=hn.take;omega,fun s hs=>by have:=Qs (h.takes s hs);omega,⟨by have:=hn.give;omega,fun y hy=>by have:=Qs (h.gives y hy);omega⟩,by have:=hn.give;omega,gy (by have:=hn.ahead;omega) h.aheads,gy (by have:=hn.back;omega) h.backs⟩
/-! The same moves. -/
def H3 (x y:Mov):Bool:=((((x.kind==y.kind)&&decide (x.take=y.take))&&decide (x.give=y.give))&&eqL x.ahead y.ahead)&&eqL x.back y.back
def Jw (a b:List Mov):Bool:=decide (a.length=b.length)&&(a.zip b).all fun p=>H3 p.1 p.2
theorem Ul (l:List Expr):eqL l l=true:=(G8 l l).2 rfl
theorem bo (m:Mov):H3 m m=true:=by
 unfold H3
 rw [Ul,Ul]
 simp
theorem bq (a:List Mov):Jw a a=true:=by
 unfold Jw
 rw [decide_eq_true rfl,Bool.true_and,List.all_eq_true]
 intro p hp
 obtain ⟨j,hj,rfl⟩:=List.getElem_of_mem hp
 rw [List.getElem_zip]
 exact bo _
theorem gz {a b:List Mov} (h:a.length≠b.length):Jw a b=false:=by
 unfold Jw
 rw [decide_eq_false h]
 rfl
theorem N0 {a b:List Mov} {x:Nat} {p q:Mov} (hx:a[x]? = some p) (hb:b[x]? = some q) (h:H3 p q=false):Jw a b=false:=by
 unfold Jw
 have:(a.zip b).all (fun p=>H3 p.1 p.2)=false:=by
  rw [List.all_eq_false]
  refine ⟨(p,q),List.mem_of_getElem? (i:=x) ?_,by rw [h];simp⟩
  rw [List.getElem?_zip_eq_some]
  exact ⟨hx,hb⟩
 rw [this,Bool.and_false]
theorem i6 {a b:List Mov} (hl:a.length=b.length) (h:∀(j:Nat) (y z:Mov),j<a.length→a[j]? = some y→b[j]? = some z→H3 y z=true):Jw a b=true:=by
 unfold Jw
 rw [decide_eq_true hl,Bool.true_and,List.all_eq_true]
 intro p hp
 obtain ⟨j,hj,rfl⟩:=List.getElem_of_mem hp
 have h1:j<a.length:=by rw [List.length_zip] at hj;omega
 rw [List.getElem_zip]
 exact h j _ _ h1 (List.getElem?_eq_getElem h1) (List.getElem?_eq_getElem (by omega))
theorem qw {a b:List Mov} {x:Nat} {p q:Mov} (hx:a[x]? = some p) (hb:b[x]? = some q) (h:∀(j:Nat) (y z:Mov),j<x→a[j]? = some y→b[j]? = some z→H3 y z=true) (he:H3 p q=true):∀(j:Nat) (y z:Mov),j<x+1→a[j]? = some y→b[j]? = some z→H3 y z=true:=by
 intro j y z hj h1 h2
 rcases Nat.lt_or_ge j x with h3|h3
 ·exact h j y z h3 h1 h2
 have:j=x:=by omega
 subst this
 rw [hx] at h1
 rw [hb] at h2
 injection h1 with h1
 injection h2 with h2
 rw [←h1,←h2]
 exact he
theorem br {p q:Mov} (h:(((((p.kind != q.kind) || !(decide (p.take=q.take))) || ((p.give.length:Int) != (q.give.length:Int))) || ((p.ahead.length:Int) != (q.ahead.length:Int))) || ((p.back.length:Int) != (q.back.length:Int)))=true):H3 p q=false:=by
 rw [Bool.eq_false_iff]
 intro e
 unfold H3 at e
 simp only [Bool.and_eq_true,beq_iff_eq,decide_eq_true_eq] at e
 obtain ⟨⟨⟨⟨e1,e2⟩,e3⟩,e4⟩,e5⟩:=e
 rw [e1,e2,e3,(G8 _ _).1 e4,(G8 _ _).1 e5] at h
 simp at h
structure MvHead (p q:Mov):Prop where
 kind:p.kind=q.kind
 take:p.take=q.take
 give:p.give.length=q.give.length
 ahead:p.ahead.length=q.ahead.length
 back:p.back.length=q.back.length
theorem li {p q:Mov} (h:(((((p.kind != q.kind) || !(decide (p.take=q.take))) || ((p.give.length:Int) != (q.give.length:Int))) || ((p.ahead.length:Int) != (q.ahead.length:Int))) || ((p.back.length:Int) != (q.back.length:Int)))=false):MvHead p q:=by
 simp only [Bool.or_eq_false_iff,bne_eq_false_iff_eq,Bool.not_eq_false',decide_eq_true_eq] at h
 obtain ⟨⟨⟨⟨e1,e2⟩,e3⟩,e4⟩,e5⟩:=h
 exact ⟨e1,e2,by omega,by omega,by omega⟩
theorem bt {p q:Mov} {k:Nat} (h1:k<p.give.length) (h2:k<q.give.length) (h:p.give[k]≠q.give[k]):H3 p q=false:=by
 unfold H3
 have:decide (p.give=q.give)=false:=decide_eq_false fun e=>h (by simp only [e])
 rw [this]
 simp
theorem Ww {p q:Mov} (h:eqL p.ahead q.ahead=false):H3 p q=false:=by
 unfold H3
 rw [h]
 simp
theorem bu {p q:Mov} (h:eqL p.back q.back=false):H3 p q=false:=by
 unfold H3
 rw [h]
 simp
theorem i7 {p q:Mov} (h:MvHead p q) (h3:p.give=q.give) (h4:eqL p.ahead q.ahead=true) (h5:eqL p.back q.back=true):H3 p q=true:=by
 unfold H3
 rw [h.kind,h.take,h3,h4,h5]
 simp
theorem c11 (a b:List Mov) (ha:OkMovs a) (Hp:List AObj):AFun Tryz.prog 11 [E8 a,E8 b] Hp (B2 (Jw a b)):=by
 refine ACall.body [.tmp 4] [0,1] Tryz.func11 Tryz.ntmps11 (fun d=>?_)
 refine Z47 ?_;refine Su ?_;refine R.fin [0,1,15] ?_
 refine W.cond (fun ht15=>?_) (fun ht15=>?_)
 ·rw [List.length_map,List.length_map] at ht15
  have hm:Jw a b=false:=gz (by simp at ht15;omega)
  refine Z55 ?_;exact Z22
 rw [List.length_map,List.length_map] at ht15
 have hab:a.length=b.length:=by simp at ht15;omega
 refine Z6 ?_;refine Z42 ?_;refine R.fin [0,1,5] ?_
 refine AW.loopC (α:=Nat) (fun x=>⟨126,A7 0 (E8 a) (A7 1 (E8 b) (A7 5 (A5 (x:Nat)) (fun _=>.any))),Hp,[],[],none⟩) (fun x=>x≤a.length∧∀(j:Nat) (y z:Mov),j<x→a[j]? = some y→b[j]? = some z→H3 y z=true) (fun x=>a.length-x) (0) ⟨Nat.zero_le _,fun j y z h=>by omega⟩ (StLe.refl _) rfl (fun x hx=>?_)
 refine Z58 ?_;refine R.fin [0,1,5,19] ?_
 refine W.cond (fun ht19=>?_) (fun ht19=>?_)
 ·have hal:=ha.len
  have hlt:x<a.length:=by simpa using ht19
  obtain ⟨p,hp⟩:∃p,p=a[x]:=⟨_,rfl⟩
  obtain ⟨q,hq⟩:∃q,q=b[x]:=⟨_,rfl⟩
  have hpa:a[x]? = some p:=by rw [hp];exact List.getElem?_eq_getElem hlt
  have hqb:b[x]? = some q:=by rw [hq];exact List.getElem?_eq_getElem (by omega)
  have hax:(a.map Eg)[x]? = some (Eg p):=by rw [List.getElem?_map,hpa];rfl
  have hbx:(b.map Eg)[x]? = some (Eg q):=by rw [List.getElem?_map,hqb];rfl
  have hpo:=ha.each p (List.mem_of_getElem? hpa)
  have hb1:=hpo.gives2
  have hb2:=hpo.ahead.len
  have hb3:=hpo.back.len
  refine Z79 ?_;refine W.drawY [0,0,3,7,0,0,48,112,0,0,783,2047] [] [.q 8 [] [],.s [6] none [] [],.s [7] none [] [],.s [6] none [] [],.s [7] none [] []] (fun _=>Hp) (fun _=>[]) Aa (by kernel_rfl) rfl rfl (fun _=>rfl) ?_
  apply Y.q
  case h1 =>
   intro B hT hF
   refine Z5 ?_
   refine D.go (h:=Q.indexAddr (x) (Eg p) (fun _=>hax)) (hr:=?_)
   refine Z30 ?_
   refine D.go (h:=Q.indexAddr (x) (Eg q) (fun _=>hbx)) (hr:=?_)
   exact Z38
  case hTF=>decide
  refine Y.allocP Tryz.zeroValue47 ?_;refine Y.allocP Tryz.zeroValue47 ?_;refine Y.storeP Tryz.sizeOf47 ?_;refine Y.storeP Tryz.sizeOf47 ?_;refine Y.tail (tn:=[])  ?_;refine R.fin [0,1,5,6,7] ?_;refine Z58 ?_;refine Z34 ?_;refine G.call Tryz.call27 (fun hB=>c27 p.take q.take hpo.takes _) ?_;refine Z69 ?_;refine Z4 ?_;refine Z69 ?_;refine Z4 ?_;refine Z69 ?_;refine Z4 ?_;refine Z59 ?_;refine R.fin [0,1,5,6,7,69] ?_
  refine W.cond (fun ht69=>?_) (fun ht69=>?_)
  ·simp only [List.length_map] at ht69
   have hm:Jw a b=false:=N0 hpa hqb (br ht69)
   refine Z55 ?_;refine K.thR ?_;exact Z99
  simp only [List.length_map] at ht69
  have hh:=li ht69
  refine Z6 ?_;refine Z42 ?_;refine R.fin [0,1,5,6,7,8] ?_
  refine AW.loopC (α:=Nat) (fun k=>⟨126,A7 0 (E8 a) (A7 1 (E8 b) (A7 5 (A5 (x:Nat)) (A7 6 (.ro (Mi p)) (A7 7 (.ro (Mi q)) (A7 8 (A5 (k:Nat)) (fun _=>.any)))))),Hp,[],[],none⟩) (fun k=>k≤p.give.length∧∀(j:Nat) (y:Col),j<k→p.give[j]? = some y→q.give[j]? = some y) (fun k=>p.give.length-k) (0) ⟨Nat.zero_le _,fun j y h=>by omega⟩ (StLe.refl _) rfl (fun k hk=>?_)
  refine Su ?_;refine R.fin [0,1,5,6,7,8,74] ?_
  refine W.cond (fun ht74=>?_) (fun ht74=>?_)
  ·have hkl:k<p.give.length:=by simpa using ht74
   have hkq:k<q.give.length:=by have:=hh.give;omega
   refine Z79 ?_;refine W.draw [0,1,0,7,15,0,32,0,224,480,1023] 10 Aa (by kernel_rfl) ?_;refine Z30 ?_
   refine D.go (h:=Q.indexAddr (k) (Bt p.give[k]) (fun _=>C6 hkl)) (hr:=?_)
   refine Z90 ?_
   refine D.go (h:=Q.indexAddr (k) (Bt q.give[k]) (fun _=>C6 hkq)) (hr:=?_)
   refine Z93 ?_
   refine R.go (h:=Q.neqAgg s9 (jn p.give[k].kind q.give[k].kind p.give[k].name q.give[k].name)) (hr:=?_)
   refine R.fin [0,1,5,6,7,8,87] ?_
   refine W.cond (fun ht87=>?_) (fun ht87=>?_)
   ·rw [X9] at ht87
    have hm:Jw a b=false:=N0 hpa hqb (bt hkl hkq (by simpa using ht87))
    refine Z55 ?_;refine Z51 ?_;exact Z99
   rw [X9] at ht87
   refine Va ?_;refine R.fin [0,1,5,6,7,8] ?_
   exact K.lpN (k+1) ⟨hkl,Vh (p:=fun j y=>q.give[j]? = some y) hkl hk.2 (by rw [List.getElem?_eq_getElem hkq];simpa using (Eq.symm (by simpa using ht87):q.give[k]=p.give[k]))⟩ (by omega) (StCut.of_eq rfl)
  have hke:k=p.give.length:=by simp at ht74;omega
  subst hke
  have hge:p.give=q.give:=Gm hh.give fun j y hj hy=>by rw [hk.2 j y hj hy]
  refine Z87 ?_;refine Z42 ?_;refine R.fin [0,1,5,6,7,9] ?_
  refine AW.loopC (α:=Nat) (fun k=>⟨126,A7 0 (E8 a) (A7 1 (E8 b) (A7 5 (A5 (x:Nat)) (A7 6 (.ro (Mi p)) (A7 7 (.ro (Mi q)) (A7 9 (A5 (k:Nat)) (fun _=>.any)))))),Hp,[],[],none⟩) (fun k=>k≤p.ahead.length∧∀(j:Nat) (y z:Expr),j<k→p.ahead[j]? = some y→q.ahead[j]? = some z→eqE y z=true) (fun k=>p.ahead.length-k) (0) ⟨Nat.zero_le _,fun j y z h=>by omega⟩ (StLe.refl _) rfl (fun k hk=>?_)
  refine Su ?_;refine R.fin [0,1,5,6,7,9,92] ?_
  refine W.cond (fun ht92=>?_) (fun ht92=>?_)
  ·have hkl:k<p.ahead.length:=by simpa using ht92
   have hkq:k<q.ahead.length:=by have:=hh.ahead;omega
   refine od ?_;refine Z30 ?_
   refine D.go (h:=Q.indexAddr (k) (A6 p.ahead[k]) (fun _=>C6 hkl)) (hr:=?_)
   refine Z90 ?_
   refine D.go (h:=Q.indexAddr (k) (A6 q.ahead[k]) (fun _=>C6 hkq)) (hr:=?_)
   refine Z93 ?_;refine R.call Tryz.call28 (c28 61 p.ahead[k] (hpo.ahead.ok _ (List.getElem_mem hkl)) q.ahead[k] _) ?_;refine R.go ?_;refine R.fin [0,1,5,6,7,9,106] ?_
   refine W.cond (fun ht106=>?_) (fun ht106=>?_)
   ·have hm:Jw a b=false:=N0 hpa hqb (Ww (Rp hkl hkq (by simpa using ht106)))
    refine Z55 ?_;refine Z51 ?_;exact Z99
   refine Va ?_;refine R.fin [0,1,5,6,7,9] ?_;exact K.lpN (k+1) ⟨hkl,Xo hkl hkq hk.2 (by simpa using ht106)⟩ (by omega) (StCut.of_eq rfl)
  have hke:k=p.ahead.length:=by simp at ht92;omega
  subst hke
  have hae:eqL p.ahead q.ahead=true:=Kk hh.ahead hk.2
  refine Z87 ?_;refine Z2 ?_;refine R.fin [0,1,5,6,7,10] ?_
  refine AW.loopC (α:=Nat) (fun k=>⟨126,A7 0 (E8 a) (A7 1 (E8 b) (A7 5 (A5 (x:Nat)) (A7 6 (.ro (Mi p)) (A7 7 (.ro (Mi q)) (A7 10 (A5 (k:Nat)) (fun _=>.any)))))),Hp,[],[],none⟩) (fun k=>k≤p.back.length∧∀(j:Nat) (y z:Expr),j<k→p.back[j]? = some y→q.back[j]? = some z→eqE y z=true) (fun k=>p.back.length-k) (0) ⟨Nat.zero_le _,fun j y z h=>by omega⟩ (StLe.refl _) rfl (fun k hk=>?_)
  refine Su ?_;refine R.fin [0,1,5,6,7,10,111] ?_
  refine W.cond (fun ht111=>?_) (fun ht111=>?_)
  ·have hkl:k<p.back.length:=by simpa using ht111
   have hkq:k<q.back.length:=by have:=hh.back;omega
   refine od ?_;refine Z30 ?_
   refine D.go (h:=Q.indexAddr (k) (A6 p.back[k]) (fun _=>C6 hkl)) (hr:=?_)
   refine Z90 ?_
   refine D.go (h:=Q.indexAddr (k) (A6 q.back[k]) (fun _=>C6 hkq)) (hr:=?_)
   refine Z93 ?_;refine R.call Tryz.call28 (c28 61 p.back[k] (hpo.back.ok _ (List.getElem_mem hkl)) q.back[k] _) ?_;refine R.go ?_;refine R.fin [0,1,5,6,7,10,125] ?_
   refine W.cond (fun ht125=>?_) (fun ht125=>?_)
   ·have hm:Jw a b=false:=N0 hpa hqb (bu (Rp hkl hkq (by simpa using ht125)))
    refine Z55 ?_;refine Z37 ?_;exact Z99
   refine Va ?_;refine R.fin [0,1,5,6,7,10] ?_;exact K.lpN (k+1) ⟨hkl,Xo hkl hkq hk.2 (by simpa using ht125)⟩ (by omega) (StCut.of_eq rfl)
  have hke:k=p.back.length:=by simp at ht111;omega
  subst hke
  have hbe:eqL p.back q.back=true:=Kk hh.back hk.2
  refine Z46 ?_;refine K.lpE ?_;refine Z13 ?_;refine Z28 ?_;refine R.fin [0,1,5] ?_
  refine K.lpN (x+1) ⟨hlt,qw hpa hqb hx.2 (i7 hh hge hae hbe)⟩ (by omega) (StCut.of_eq rfl)
 have hxe:x=a.length:=by simp at ht19;omega
 subst hxe
 have hm:Jw a b=true:=i6 hab hx.2
 refine Z87 ?_;refine Z55 ?_;exact dg

/-! Words that stand among others are parsed as they are alone. -/
structure Agr (l l':List Tok) (p m:Nat):Prop where
 kind:∀i,i≤m→(A2 l' (i+p)).kind=(A2 l i).kind
 text:∀i,i≤m→(A2 l' (i+p)).text=(A2 l i).text
 len:l.length≤l'.length
 tend:TokEnd l
 big:l.length≤1048576
def sh (p:Nat) (S:PS):PS:=⟨S.i+p,S.nest,S.code,S.at_⟩
theorem Ge {p:Nat} {S:PS}:A3 (sh p S)=sh p (A3 S):=by unfold A3 sh;simp only [PS.mk.injEq,and_true];omega
theorem E2 {l l':List Tok} {p m:Nat} (A:Agr l l' p m) {of:Str} {S:PS} (h:S.i≤m):isM l' of (sh p S)=isM l of S:=by
 unfold isM
 rw [show (sh p S).i=S.i+p from rfl,A.kind _ h,A.text _ h]
theorem N1 {e a:Int} {S:PS} (h:S.code=0) (he:e≠0):(Bu e a S).code≠0:=by
 unfold Bu
 rw [if_pos (by simpa using h)]
 exact he
theorem Qt {l l':List Tok} {p m:Nat} (A:Agr l l' p m) {s:Str} {S:PS} (h0:S.code=0) (hc:(Bl l s S).code=0) (hm:(Bl l s S).i≤m):Bl l' s (sh p S)=sh p (Bl l s S)∧S.i+1=(Bl l s S).i:=by
 unfold Bl at hc hm ⊢
 have h1:¬(S.code != 0)=true:=by simp [h0]
 rw [if_neg h1] at hc hm ⊢
 have h2:¬((sh p S).code != 0)=true:=h1
 rw [if_neg h2]
 by_cases h3:(((A2 l S.i).kind != 5) || !((A2 l S.i).text==s))=true
 ·rw [if_pos h3] at hc
  exact di
 rw [if_neg h3] at hm ⊢
 have hi:S.i≤m:=by have:S.i+1≤m:=hm;omega
 rw [show (sh p S).i=S.i+p from rfl,A.kind _ hi,A.text _ hi,if_neg h3,Ge]
 exact ⟨rfl,rfl⟩
def Sim (l:List Tok) (p m n:Nat) (f f':PS→Expr×PS):Prop:=∀S,S.i<l.length→S.nest=n→S.code=0→(f S).2.code=0→(f S).2.i≤m→f' (sh p S)=((f S).1,sh p (f S).2)
theorem Ov {l:List Tok} {of:Str} {f:PS→Expr×PS} {r:Expr×PS} (h:r.2.code≠0):∀k,Cx l of f k r=r
 | 0=>rfl
 | k+1=>by rw [Cx,if_neg (by simp [h])]
theorem i8 {l:List Tok} {of:Str} {f:PS→Expr×PS} {k:Nat} {r:Expr×PS} (h:((r.2.code==0)&&isM l of r.2)=false):Cx l of f (k+1) r=r:=by rw [Cx,if_neg (by rw [h];simp)]
theorem ic {l:List Tok} {of:Str} {f:PS→Expr×PS} {k:Nat} {r:Expr×PS} (h:((r.2.code==0)&&isM l of r.2)=true):Cx l of f (k+1) r=Cx l of f k (Cp (A2 l r.2.i).text r.1 (f (A3 r.2)).1,(f (A3 r.2)).2):=by rw [Cx,if_pos h]
theorem ie {l:List Tok} {f:PS→Expr×PS} {k:Nat} {r:List Expr×PS} (h:((r.2.code==0)&&isM l Fv r.2)=false):argsF l f (k+1) r=r:=by rw [argsF,if_neg (by rw [h];simp)]
theorem ig {l:List Tok} {f:PS→Expr×PS} {k:Nat} {r:List Expr×PS} (h:((r.2.code==0)&&isM l Fv r.2)=true):argsF l f (k+1) r=argsF l f k (r.1++[(f (A3 r.2)).1],(f (A3 r.2)).2):=by rw [argsF,if_pos h]
theorem Ry {l:List Tok} (hl:TokEnd l) {of:Str} {f:PS→Expr×PS} {n:Nat} (hf:Bf l n f):∀(k:Nat) (r:Expr×PS),r.2.i<l.length→r.2.nest=n→r.2.i≤(Cx l of f k r).2.i∧(l.length-r.2.i≤k→(((Cx l of f k r).2.code==0)&&isM l of (Cx l of f k r).2)=false)
 | 0,r,hi,hn=>⟨Nat.le_refl _,fun h=>by omega⟩
 | k+1,r,hi,hn=>by
  rw [Cx]
  cases hc:((r.2.code==0)&&isM l of r.2) with
  | false =>
   rw [if_neg (by simp)]
   exact ⟨Nat.le_refl _,fun _=>hc⟩
  | true =>
   rw [if_pos rfl]
   rw [Bool.and_eq_true] at hc
   have h1:=hl.stepIs hi hc.2
   have h2:=hf (A3 r.2) h1 hn
   have h3:=Ry hl (of:=of) hf k (Cp (A2 l r.2.i).text r.1 (f (A3 r.2)).1,(f (A3 r.2)).2) h2.lt (h2.nest.trans hn)
   have h4:r.2.i+1≤(f (A3 r.2)).2.i:=h2.le
   exact ⟨Nat.le_trans (Nat.le_trans (Nat.le_succ _) h4) h3.1,fun h=>h3.2 (by show l.length-(f (A3 r.2)).2.i≤k;omega)⟩
theorem Qu {l l':List Tok} {p m:Nat} (A:Agr l l' p m) {of:Str} {f f':PS→Expr×PS} {n:Nat} (hf:Bf l n f) (hs:Sim l p m n f f'):∀(k k':Nat) (r:Expr×PS),k≤k'→r.2.i<l.length→r.2.nest=n→r.2.code=0→l.length-r.2.i≤k→(Cx l of f k r).2.code=0→(Cx l of f k r).2.i≤m→Cx l' of f' k' (r.1,sh p r.2)=((Cx l of f k r).1,sh p (Cx l of f k r).2)
 | 0,k',r,_,hi,_,_,hk,_,_=>by omega
 | k+1,0,r,h,_,_,_,_,_,_=>by omega
 | k+1,k'+1,r,hkk,hi,hn,h0,hk,hc,hm=>by
  cases hq:((r.2.code==0)&&isM l of r.2) with
  | false =>
   rw [i8 hq] at hc hm ⊢
   refine i8 ?_
   show (((sh p r.2).code==0)&&isM l' of (sh p r.2))=false
   rw [E2 A hm]
   exact hq
  | true =>
   rw [ic hq] at hc hm ⊢
   rw [Bool.and_eq_true] at hq
   have h1:=A.tend.stepIs hi hq.2
   have h2:=hf (A3 r.2) h1 hn
   have h3:=Ry A.tend hf k (Cp (A2 l r.2.i).text r.1 (f (A3 r.2)).1,(f (A3 r.2)).2) h2.lt (h2.nest.trans hn) (of:=of)
   have h4:r.2.i+1≤(f (A3 r.2)).2.i:=h2.le
   have h5:(f (A3 r.2)).2.i≤(Cx l of f k (Cp (A2 l r.2.i).text r.1 (f (A3 r.2)).1,(f (A3 r.2)).2)).2.i:=h3.1
   have hi2:r.2.i≤m:=by omega
   have h6:(f (A3 r.2)).2.code=0:=by
    by_cases e:(f (A3 r.2)).2.code=0
    ·exact e
    rw [Ov (show (Cp (A2 l r.2.i).text r.1 (f (A3 r.2)).1,(f (A3 r.2)).2).2.code≠0 from e)] at hc;exact hc
   have h7:=hs (A3 r.2) h1 hn h0 h6 (by omega)
   have h8:(((r.1,sh p r.2).2.code==0)&&isM l' of (r.1,sh p r.2).2)=true:=by
    rw [show (r.1,sh p r.2).2=sh p r.2 from rfl,E2 A hi2,show (sh p r.2).code=r.2.code from rfl,hq.1,hq.2]
    rfl
   rw [ic h8]
   rw [show A3 (r.1,sh p r.2).2=sh p (A3 r.2) from Ge,h7,show (A2 l' (r.1,sh p r.2).2.i).text=(A2 l r.2.i).text from A.text _ hi2]
   exact Qu A hf hs k k' (Cp (A2 l r.2.i).text r.1 (f (A3 r.2)).1,(f (A3 r.2)).2) (by omega) h2.lt (h2.nest.trans hn) h6 (by show l.length-(f (A3 r.2)).2.i≤k;omega) hc hm
theorem J6 {l l':List Tok} {p m:Nat} (A:Agr l l' p m) {of:Str} {f f':PS→Expr×PS} {n:Nat} (hf:Bf l n f) (hs:Sim l p m n f f'):Sim l p m n (Cq l of f) (Cq l' of f'):=fun S hi hn h0 hc hm=>by
 unfold Cq at hc hm ⊢
 have h2:=hf S hi hn
 have h6:(f S).2.code=0:=by
  by_cases e:(f S).2.code=0
  ·exact e
  rw [Ov e] at hc;exact hc
 have h3:=Ry A.tend hf l.length (f S) h2.lt (h2.nest.trans hn) (of:=of)
 rw [hs S hi hn h0 h6 (by have:=h3.1;omega)]
 exact Qu A hf hs l.length l'.length (f S) A.len h2.lt (h2.nest.trans hn) h6 (by omega) hc hm
theorem Ir {l:List Tok} {p m:Nat} {a a':Int} {f f':PS→Expr×PS} {S:PS} (hi:S.i<l.length) (hs:S.nest≠30→Sim l p m (S.nest+1) f f') (h0:S.code=0) (hc:(Af a f S).2.code=0) (hm:(Af a f S).2.i≤m):Af a' f' (sh p S)=((Af a f S).1,sh p (Af a f S).2):=by
 unfold Af at hc hm ⊢
 by_cases h:((S.nest:Int)==30)=true
 ·rw [if_pos h] at hc
  exact di
 rw [if_neg h] at hc hm ⊢
 rw [if_neg (show ¬(((sh p S).nest:Int)==30)=true from h)]
 have h30:S.nest≠30:=fun e=>h (by rw [e];rfl)
 have:=hs h30 (Ah S) hi rfl h0 hc hm
 rw [show Ah (sh p S)=sh p (Ah S) from rfl,this]
 rfl
theorem Ow {l:List Tok} {f:PS→Expr×PS} {r:List Expr×PS} (h:r.2.code≠0):∀k,argsF l f k r=r
 | 0=>rfl
 | k+1=>by rw [argsF,if_neg (by simp [h])]
theorem Rz {l:List Tok} (hl:TokEnd l) {f:PS→Expr×PS} {n:Nat} (hf:Bf l n f):∀(k:Nat) (r:List Expr×PS),r.2.i<l.length→r.2.nest=n→r.2.i≤(argsF l f k r).2.i
 | 0,r,hi,hn=>Nat.le_refl _
 | k+1,r,hi,hn=>by
  rw [argsF]
  cases hc:((r.2.code==0)&&isM l Fv r.2) with
  | false =>
   rw [if_neg (by simp)]
   exact Nat.le_refl _
  | true =>
   rw [if_pos rfl]
   rw [Bool.and_eq_true] at hc
   have h1:=hl.stepIs hi hc.2
   have h2:=hf (A3 r.2) h1 hn
   have h3:=Rz hl hf k (r.1++[(f (A3 r.2)).1],(f (A3 r.2)).2) h2.lt (h2.nest.trans hn)
   have h4:r.2.i+1≤(f (A3 r.2)).2.i:=h2.le
   exact Nat.le_trans (Nat.le_trans (Nat.le_succ _) h4) h3
theorem Qv {l l':List Tok} {p m:Nat} (A:Agr l l' p m) {f f':PS→Expr×PS} {n:Nat} (hf:Bf l n f) (hs:Sim l p m n f f'):∀(k k':Nat) (r:List Expr×PS),k≤k'→r.2.i<l.length→r.2.nest=n→r.2.code=0→l.length-r.2.i≤k→(argsF l f k r).2.code=0→(argsF l f k r).2.i≤m→argsF l' f' k' (r.1,sh p r.2)=((argsF l f k r).1,sh p (argsF l f k r).2)
 | 0,k',r,_,hi,_,_,hk,_,_=>by omega
 | k+1,0,r,h,_,_,_,_,_,_=>by omega
 | k+1,k'+1,r,hkk,hi,hn,h0,hk,hc,hm=>by
  cases hq:((r.2.code==0)&&isM l Fv r.2) with
  | false =>
   rw [ie hq] at hc hm ⊢
   refine ie ?_
   show (((sh p r.2).code==0)&&isM l' Fv (sh p r.2))=false
   rw [E2 A hm]
   exact hq
  | true =>
   rw [ig hq] at hc hm ⊢
   rw [Bool.and_eq_true] at hq
   have h1:=A.tend.stepIs hi hq.2
   have h2:=hf (A3 r.2) h1 hn
   have h3:=Rz A.tend hf k (r.1++[(f (A3 r.2)).1],(f (A3 r.2)).2) h2.lt (h2.nest.trans hn)
   have h4:r.2.i+1≤(f (A3 r.2)).2.i:=h2.le
   have h5:(f (A3 r.2)).2.i≤(argsF l f k (r.1++[(f (A3 r.2)).1],(f (A3 r.2)).2)).2.i:=h3
   have hi2:r.2.i≤m:=by omega
   have h6:(f (A3 r.2)).2.code=0:=by
    by_cases e:(f (A3 r.2)).2.code=0
    ·exact e
    rw [Ow (show (r.1++[(f (A3 r.2)).1],(f (A3 r.2)).2).2.code≠0 from e)] at hc;exact hc
   have h7:=hs (A3 r.2) h1 hn h0 h6 (by omega)
   have h8:(((r.1,sh p r.2).2.code==0)&&isM l' Fv (r.1,sh p r.2).2)=true:=by
    rw [show (r.1,sh p r.2).2=sh p r.2 from rfl,E2 A hi2,show (sh p r.2).code=r.2.code from rfl,hq.1,hq.2]
    rfl
   rw [ig h8]
   rw [show A3 (r.1,sh p r.2).2=sh p (A3 r.2) from Ge,h7]
   exact Qv A hf hs k k' (r.1++[(f (A3 r.2)).1],(f (A3 r.2)).2) (by omega) h2.lt (h2.nest.trans hn) h6 (by show l.length-(f (A3 r.2)).2.i≤k;omega) hc hm
theorem bv {l l':List Tok} {p m:Nat} (A:Agr l l' p m) {a a':Int} {f f':PS→Expr×PS} {S:PS} (hi:S.i<l.length) (hf:S.nest≠30→Bf l (S.nest+1) f) (hs:S.nest≠30→Sim l p m (S.nest+1) f f') (h0:S.code=0) (hc:(Dx l a f S).2.code=0) (hm:(Dx l a f S).2.i≤m):Dx l' a' f' (sh p S)=((Dx l a f S).1,sh p (Dx l a f S).2):=by
 unfold Dx at hc hm ⊢
 by_cases h:((S.nest:Int)==30)=true
 ·rw [if_pos h] at hc
  exact di
 rw [if_neg h] at hc hm ⊢
 rw [if_neg (show ¬(((sh p S).nest:Int)==30)=true from h)]
 have h30:S.nest≠30:=fun e=>h (by rw [e];rfl)
 rw [show Ah (sh p S)=sh p (Ah S) from rfl]
 unfold Dw at hc hm ⊢
 have h2:=hf h30 (Ah S) hi rfl
 have h6:(f (Ah S)).2.code=0:=by
  by_cases e:(f (Ah S)).2.code=0
  ·exact e
  have hc2:(argsF l f l.length ([(f (Ah S)).1],(f (Ah S)).2)).2.code=0:=hc
  rw [Ow (show ([(f (Ah S)).1],(f (Ah S)).2).2.code≠0 from e)] at hc2;exact hc2
 have h3:=Rz A.tend (hf h30) l.length ([(f (Ah S)).1],(f (Ah S)).2) h2.lt h2.nest
 have hm2:(argsF l f l.length ([(f (Ah S)).1],(f (Ah S)).2)).2.i≤m:=hm
 have h5:(f (Ah S)).2.i≤m:=Nat.le_trans h3 hm2
 rw [hs h30 (Ah S) hi rfl h0 h6 h5]
 have:=Qv A (hf h30) (hs h30) l.length l'.length ([(f (Ah S)).1],(f (Ah S)).2) A.len h2.lt h2.nest h6 (by show l.length-_≤_;omega) hc hm
 rw [show argsF l' f' l'.length ([((f (Ah S)).1,sh p (f (Ah S)).2).1],((f (Ah S)).1,sh p (f (Ah S)).2).2)=_ from this]
 rfl
theorem Ox {l:List Tok} {s:Str} {S:PS} (h:(Bl l s S).code=0):S.code=0:=by
 by_cases e:S.code=0
 ·exact e
 unfold Bl at h
 rw [if_pos (by simpa using e)] at h
 exact h
theorem bw {l l':List Tok} {p m:Nat} (A:Agr l l' p m) {D D':Fam} {t t':Tok} (ht:t'.text=t.text) {S:PS} (hi:(A3 S).i<l.length) (hf:S.nest≠30→Bf l (S.nest+1) D.ei) (hs:S.nest≠30→Sim l p m (S.nest+1) D.ei D'.ei) (h0:S.code=0) (hc:(D0 l D t S).2.code=0) (hm:(D0 l D t S).2.i≤m):D0 l' D' t' (sh p S)=((D0 l D t S).1,sh p (D0 l D t S).2):=by
 unfold D0 at hc hm ⊢
 rw [ht]
 by_cases h1:Az t.text<0
 ·rw [if_pos h1] at hc
  exact di
 rw [if_neg h1] at hc hm ⊢
 rw [if_neg h1]
 by_cases h2:(((Bl l C7 (Ar l D S).2).code==0) && !(((Ar l D S).1.length:Int)==Az t.text))=true
 ·rw [if_pos h2] at hc
  rw [Bool.and_eq_true] at h2
  exact absurd hc (N1 (by simpa using h2.1) (by decide))
 rw [if_neg h2] at hc hm ⊢
 have hk0:=Ox hc
 have hw:=Qt A hk0 hc hm
 have hk:Ar l' D' (sh p S)=((Ar l D S).1,sh p (Ar l D S).2):=by
  unfold Ar at hk0 hw ⊢
  rw [Ge]
  exact bv A hi hf hs h0 hk0 (by have h3:=hw.2;have h4:(Bl l C7 (Dx l (A2 l S.i).at_ D.ei (A3 S)).2).i≤m:=hm;omega)
 rw [hk]
 simp only
 rw [hw.1]
 have h3:¬(((sh p (Bl l C7 (Ar l D S).2)).code==0) && !(((Ar l D S).1.length:Int)==Az t.text))=true:=h2
 rw [if_neg h3]
theorem bx {l l':List Tok} {p m:Nat} (A:Agr l l' p m) {D D':Fam} {n:Nat} (hf:n≠30→Bf l (n+1) D.ei) (hs:n≠30→Sim l p m (n+1) D.ei D'.ei):Sim l p m n (Cr l D) (Cr l' D'):=fun S hi hn h0 hc hm=>by
 subst hn
 have hSm:S.i≤m:=Nat.le_trans (O1 A.tend A.big hf S hi rfl).le hm
 unfold Cr at hc hm ⊢
 have e0:¬(S.code != 0)=true:=by simp [h0]
 have e0':¬((sh p S).code != 0)=true:=e0
 rw [if_neg e0] at hc hm ⊢
 rw [if_neg e0']
 rw [show (sh p S).i=S.i+p from rfl,A.kind _ hSm,A.text _ hSm,E2 A hSm,E2 A hSm,Ge]
 by_cases h1:(((A2 l S.i).kind==3) || isM l Wa S)=true
 ·rw [if_pos h1,if_pos h1]
 rw [if_neg h1] at hc hm ⊢
 rw [if_neg h1]
 by_cases h2:((A2 l S.i).kind==4)=true
 ·rw [if_pos h2,if_pos h2]
 rw [if_neg h2] at hc hm ⊢
 rw [if_neg h2]
 by_cases h3:((A2 l S.i).kind==1)=true
 ·rw [if_pos h3] at hc hm ⊢
  rw [if_pos h3]
  have hk0:(A2 l S.i).kind≠0:=by
   have:(A2 l S.i).kind=1:=by simpa using h3
   omega
  have hn1:=A.tend.step hi hk0
  by_cases h4:isM l opT (A3 S)=true
  ·rw [if_pos h4] at hc hm ⊢
   have hle:=(O0 (D:=D) A.tend A.big (t:=A2 l S.i) (A.tend.text S.i) (S:=A3 S) (A.tend.stepIs hn1 h4) hf).le
   have h5:(A3 S).i≤m:=Nat.le_trans hle hm
   rw [E2 A h5,if_pos h4]
   exact bw A (A.text _ hSm) (A.tend.stepIs hn1 h4) hf hs h0 hc hm
  rw [if_neg h4] at hc hm ⊢
  have h5:(A3 S).i≤m:=hm
  rw [E2 A h5,if_neg h4]
 rw [if_neg h3] at hc hm ⊢
 rw [if_neg h3]
 by_cases h4:isM l opT S=true
 ·rw [if_pos h4] at hc hm ⊢
  rw [if_pos h4]
  have hn1:=A.tend.stepIs hi h4
  have hk0:=Ox hc
  have hw:=Qt A hk0 hc hm
  have hm2:(Bl l C7 (Af (A2 l S.i).at_ D.ei (A3 S)).2).i≤m:=hm
  have h5:=Ir (p:=p) (m:=m) (a:=(A2 l S.i).at_) (a':=(A2 l' (S.i+p)).at_) (f:=D.ei) (f':=D'.ei) (S:=A3 S) hn1 hs h0 hk0 (by have:=hw.2;omega)
  rw [h5]
  simp only
  rw [hw.1]
 rw [if_neg h4] at hc
 exact di
theorem Um {l l':List Tok} {p m:Nat} (A:Agr l l' p m) {D D':Fam} {n:Nat} (hf:n≠30→Bf l (n+1) D.ei) (hg:n≠30→Bf l (n+1) D.ne) (hs:n≠30→Sim l p m (n+1) D.ei D'.ei) (ht:n≠30→Sim l p m (n+1) D.ne D'.ne):Sim l p m n (Gj l D) (Gj l' D'):=fun S hi hn h0 hc hm=>by
 subst hn
 have hSm:S.i≤m:=Nat.le_trans (Fl A.tend A.big hf hg S hi rfl).le hm
 unfold Gj at hc hm ⊢
 rw [E2 A hSm]
 cases h:isM l ju S with
 | false =>
  rw [h,if_pos (by rfl)] at hc hm
  rw [if_pos (by rfl),if_pos (by rfl)]
  exact bx A hf hs S hi rfl h0 hc hm
 | true =>
  rw [h,if_neg (by simp)] at hc hm
  rw [if_neg (by simp),if_neg (by simp)]
  rw [Ge,Ir (p:=p) (m:=m) (a:=(A2 l S.i).at_) (a':=(A2 l' (sh p S).i).at_) (f:=D.ne) (f':=D'.ne) (S:=A3 S) (A.tend.stepIs hi h) ht h0 hc hm]
theorem ii {l l':List Tok} {p m:Nat} (A:Agr l l' p m) {D D':Fam} {n:Nat} (hf:n≠30→Bf l (n+1) D.ei) (hg:n≠30→Bf l (n+1) D.ne) (hs:n≠30→Sim l p m (n+1) D.ei D'.ei) (ht:n≠30→Sim l p m (n+1) D.ne D'.ne):Sim l p m n (Au l D) (Au l' D'):=
 J6 A (D7 A.tend (Fl A.tend A.big hf hg)) (J6 A (Fl A.tend A.big hf hg) (Um A hf hg hs ht))
theorem S1 {l l':List Tok} {p m:Nat} (A:Agr l l' p m) {D D':Fam} {n:Nat} (hf:n≠30→Bf l (n+1) D.ei) (hg:n≠30→Bf l (n+1) D.ne) (hs:n≠30→Sim l p m (n+1) D.ei D'.ei) (ht:n≠30→Sim l p m (n+1) D.ne D'.ne):Sim l p m n (Bo l D) (Bo l' D'):=fun S hi hn h0 hc hm=>by
 have hG:=Lc A.tend A.big hf hg
 have hS:=ii A hf hg hs ht
 have h1:=hG S hi hn
 unfold Bo at hc hm ⊢
 by_cases h:(((Au l D S).2.code != 0) || !isM l Rn (Au l D S).2)=true
 ·rw [if_pos h] at hc hm ⊢
  rw [hS S hi hn h0 hc hm]
  simp only
  rw [E2 A hm]
  exact if_pos h
 rw [if_neg h] at hc hm ⊢
 have h2:(Au l D S).2.code=0∧isM l Rn (Au l D S).2=true:=by simpa using h
 have h3:=A.tend.stepIs h1.lt h2.2
 have h4:=hG (A3 (Au l D S).2) h3 (h1.nest.trans hn)
 have h5:(Au l D S).2.i+1≤(Au l D (A3 (Au l D S).2)).2.i:=h4.le
 have hm2:(Au l D (A3 (Au l D S).2)).2.i≤m:=hm
 have h6:(Au l D S).2.i≤m:=by omega
 rw [hS S hi hn h0 h2.1 h6]
 simp only
 rw [E2 A h6,if_neg (show ¬(((sh p (Au l D S).2).code != 0) || !isM l Rn (Au l D S).2)=true from h),Ge,hS _ h3 (h1.nest.trans hn) h2.1 hc hm,show (sh p (Au l D S).2).i=(Au l D S).2.i+p from rfl,A.text _ h6]
theorem Un {l l':List Tok} {p m:Nat} (A:Agr l l' p m) {D D':Fam} {n:Nat} (hf:n≠30→Bf l (n+1) D.ei) (hg:n≠30→Bf l (n+1) D.ne) (hh:n≠30→Bf l (n+1) D.no) (hs:n≠30→Sim l p m (n+1) D.ei D'.ei) (ht:n≠30→Sim l p m (n+1) D.ne D'.ne) (hu:n≠30→Sim l p m (n+1) D.no D'.no):Sim l p m n (Gk l D) (Gk l' D'):=fun S hi hn h0 hc hm=>by
 have hSm:S.i≤m:=Nat.le_trans (Gz A.tend A.big hf hg hh S hi hn).le hm
 unfold Gk at hc hm ⊢
 rw [E2 A hSm]
 cases h:isM l jt S with
 | false =>
  rw [h,if_pos (by rfl)] at hc hm
  rw [if_pos (by rfl),if_pos (by rfl)]
  exact S1 A hf hg hs ht S hi hn h0 hc hm
 | true =>
  subst hn
  rw [h,if_neg (by simp)] at hc hm
  rw [if_neg (by simp),if_neg (by simp)]
  rw [Ge,Ir (p:=p) (m:=m) (a:=(A2 l S.i).at_) (a':=(A2 l' (sh p S).i).at_) (f:=D.no) (f':=D'.no) (S:=A3 S) (A.tend.stepIs hi h) hu h0 hc hm]
theorem Mc {l l':List Tok} {p m:Nat} (A:Agr l l' p m) {D D':Fam} {n:Nat} (hf:n≠30→Bf l (n+1) D.ei) (hg:n≠30→Bf l (n+1) D.ne) (hh:n≠30→Bf l (n+1) D.no) (hs:n≠30→Sim l p m (n+1) D.ei D'.ei) (ht:n≠30→Sim l p m (n+1) D.ne D'.ne) (hu:n≠30→Sim l p m (n+1) D.no D'.no):Sim l p m n (Fh l D) (Fh l' D'):=
 J6 A (D7 A.tend (Gz A.tend A.big hf hg hh)) (J6 A (Gz A.tend A.big hf hg hh) (Un A hf hg hh hs ht hu))
theorem Uo {l l':List Tok} {p m:Nat} (A:Agr l l' p m):∀(d n:Nat),n+d=31→n≠31→Sim l p m n (B4 l d).ei (B4 l' d).ei∧Sim l p m n (B4 l d).no (B4 l' d).no∧Sim l p m n (B4 l d).ne (B4 l' d).ne
 | 0,n,h,hn=>absurd (by omega) hn
 | d+1,n,h,hn=>by
  have G:n≠30→_:=fun h30=>H0 A.tend A.big d (n+1) (by omega) (by omega)
  have R:n≠30→_:=fun h30=>Uo A d (n+1) (by omega) (by omega)
  have gf:=fun h=>(G h).1
  have gn:=fun h=>(G h).2.1
  have ge:=fun h=>(G h).2.2
  have rf:=fun h=>(R h).1
  have rn:=fun h=>(R h).2.1
  have re:=fun h=>(R h).2.2
  exact ⟨Mc A gf ge gn rf re rn,Un A gf ge gn rf re rn,Um A gf ge rf re⟩
/-! Moves that stand among others are parsed as they are alone. -/
def SimP {α:Type} (l:List Tok) (p m:Nat) (F F':Nat→PR α):Prop:=∀i r j,i<l.length→F i=.ok r j→i≤j∧j<l.length∧(j≤m→F' (i+p)=.ok r (j+p))
section
variable {l l':List Tok} {p m:Nat}
theorem SimP.bind {α β:Type} {F F':Nat→PR α} {G G':α→Nat→PR β} (h1:SimP l p m F F') (h2:∀a,SimP l p m (G a) (G' a)):SimP l p m (fun i=>(F i).bind (G)) (fun i=>(F' i).bind (G')):=fun i r j hi h=>by
 obtain ⟨a,k,e1,e2⟩:=PR.bind_ok h
 obtain ⟨a1,a2,a3⟩:=h1 i a k hi e1
 obtain ⟨b1,b2,b3⟩:=h2 a k r j a2 e2
 refine ⟨by omega,b2,fun hj=>?_⟩
 show (F' (i+p)).bind G'=_
 rw [a3 (by omega)]
 exact b3 hj
theorem SimP.pure {α:Type} (r:α):SimP l p m (fun i=>.ok r i) (fun i=>.ok r i):=fun i r' j hi h=>by
 injection h with h1 h2
 subst h1 h2
 exact ⟨Nat.le_refl _,hi,fun _=>rfl⟩
theorem ij (A:Agr l l' p m) {s:Str} {i:Nat} (h:i≤m):isP l' s (i+p)=isP l s i:=by unfold isP;rw [A.kind _ h,A.text _ h]
theorem S3 (A:Agr l l' p m) {s:Str} {i:Nat} {r:Unit} {j:Nat} (hi:i<l.length) (h:Ay l s i=.ok r j):j=i+1∧j<l.length∧(i≤m→Ay l' s (i+p)=.ok r (j+p)):=by
 have h0:=C2 A.tend hi r j h
 unfold Ay at h ⊢
 split at h
 ·rename_i h1
  injection h with _ h2
  subst h2
  exact ⟨rfl,h0.2,fun hm=>by rw [ij A hm,if_pos h1,Nat.add_right_comm]⟩
 cases h
theorem Is (A:Agr l l' p m) {s:Str}:SimP l p m (Ay l s) (Ay l' s):=fun i r j hi h=>by
 obtain ⟨h1,h2,h3⟩:=S3 A hi h
 exact ⟨by omega,h2,fun hj=>h3 (by omega)⟩
theorem H4 (A:Agr l l' p m):SimP l p m (Cz l) (Cz l'):=fun i r j hi h=>by
 have h0:=D8 A.tend hi r j h
 refine ⟨by omega,h0.2,fun hj=>?_⟩
 have hm:i≤m:=by omega
 unfold Cz at h ⊢
 rw [A.kind _ hm,A.text _ hm]
 split at h
 ·cases h
 rename_i h1
 rw [if_neg h1]
 injection h with h2 h3
 subst h2 h3
 rw [Nat.add_right_comm]
theorem ik (A:Agr l l' p m) (nm:Str):SimP l p m (M7 l nm) (M7 l' nm):=fun i r j hi h=>by
 have h0:=Xr A.tend hi r j h
 refine ⟨by omega,h0.2,fun hj=>?_⟩
 have hm:i≤m:=by omega
 unfold M7 at h ⊢
 rw [A.kind _ hm,A.text _ hm]
 split at h
 ·cases h
 rename_i h1
 rw [if_neg h1]
 injection h with h2 h3
 subst h2 h3
 rw [Nat.add_right_comm]
theorem Wx (A:Agr l l' p m):SimP l p m (E1 l) (E1 l'):=(H4 A).bind (fun nm=>ik A nm)
theorem Up (A:Agr l l' p m) (hll:l.length≤500000):SimP l p m (E9 l) (E9 l'):=fun i x k hi h=>by
 have h0:=Gb A.tend hll hi h
 refine ⟨h0.1,h0.2,fun hk=>?_⟩
 unfold E9 at h
 split at h
 ·cases h
 rename_i h1
 injection h with h2 h3
 have hc:(atS l i (atR l i)).code=0:=by
  by_cases e:(atS l i (atR l i)).code=0
  ·exact e
  unfold atM at h1
  rw [if_pos (by simpa using e)] at h1
  exact absurd (by simpa using e) h1
 have hr:(atR l i).2.code=0∧¬(30:Int)<depthE (atR l i).1∧¬(300:Int)<sizeE (atR l i).1∧atS l i (atR l i)=(atR l i).2:=by
  have hc':=hc
  unfold atS at hc' ⊢
  split at hc'
  ·rename_i e;rw [hc'] at e;simp at e
  rename_i e1
  have e1':(atR l i).2.code=0:=by simpa using e1
  split at hc'
  ·exact absurd hc' (N1 e1' (by decide))
  rename_i e2
  split at hc'
  ·exact absurd hc' (N1 e1' (by decide))
  rename_i e3
  rw [if_neg e1,if_neg e2,if_neg e3]
  exact ⟨e1',by simpa using e2,by simpa using e3,rfl⟩
 have e:atM l i=((atR l i).1,((atR l i).2.i:Int),0,0):=by
  unfold atM
  rw [hc,hr.2.2.2]
  rfl
 rw [e] at h2 h3
 have hki:(atR l i).2.i=k:=by simpa using h3
 have G:=H0 A.tend A.big 30 1 (by decide) (by decide)
 have R:=Uo A 30 1 (by decide) (by decide)
 have hs:atR l' (i+p)=((atR l i).1,sh p (atR l i).2):=Mc A (n:=0) (fun _=>G.1) (fun _=>G.2.2) (fun _=>G.2.1) (fun _=>R.1) (fun _=>R.2.2) (fun _=>R.2.1) ⟨i,0,0,0⟩ hi rfl rfl hr.1 (by rw [show (Fh l (B4 l 30) ⟨i,0,0,0⟩).2.i=(atR l i).2.i from rfl,hki];exact hk)
 have hs2:atS l' (i+p) (atR l' (i+p))=sh p (atR l i).2:=by
  rw [hs]
  unfold atS
  rw [if_neg (show ¬((sh p (atR l i).2).code != 0)=true by rw [show (sh p (atR l i).2).code=(atR l i).2.code from rfl,hr.1];simp),if_neg (by simpa using hr.2.1),if_neg (by simpa using hr.2.2.1)]
 have e':atM l' (i+p)=((atR l i).1,(((atR l i).2.i+p:Nat):Int),0,0):=by
  unfold atM
  rw [hs2,show (sh p (atR l i).2).code=0 from hr.1,hs]
  rfl
 unfold E9
 rw [e']
 rw [if_neg (by simp)]
 rw [←h2,←hki]
 rfl
theorem Ku (A:Agr l l' p m) (hll:l.length≤500000) (v:Mov):SimP l p m (C1 l v) (C1 l' v):=
 (Wx A).bind fun c=>(Is A).bind fun _=>(Up A hll).bind fun x=>.pure _
theorem c6 (A:Agr l l' p m) (hll:l.length≤500000) (v:Mov):SimP l p m (Ii l v) (Ii l' v):=(Up A hll).bind fun x=>.pure _
theorem ca (A:Agr l l' p m) (v:Mov):SimP l p m (Hr l v) (Hr l' v):=(H4 A).bind fun x=>.pure _
theorem Uq (A:Agr l l' p m) {n:Int} {k i:Nat} (h:i≤m):Ga l' n k (i+p)=Ga l n k i:=by unfold Ga;rw [ij A h]
theorem Qw (A:Agr l l' p m) {n:Int} {one one':Mov→Nat→PR Mov} (ho:∀v,SimP l p m (one v) (one' v)):∀(f f' k:Nat) (v:Mov) (i:Nat),f≤f'→l.length-i<f→∀r j,i<l.length→Ei l n one f k v i=.ok r j→i≤j∧j<l.length∧(j≤m→Ei l' n one' f' k v (i+p)=.ok r (j+p))
 | 0,f',k,v,i,_,h,r,j,hi,_=>by omega
 | f+1,0,k,v,i,h,_,r,j,hi,_=>by omega
 | f+1,f'+1,k,v,i,hf,hfi,r,j,hi,h=>by
  rw [Ei] at h
  cases hc:Ga l n k i with
  | false =>
   rw [hc,if_neg (by simp)] at h
   injection h with h1 h2
   subst h1 h2
   exact ⟨Nat.le_refl _,hi,fun hm=>by rw [Ei,Uq A hm,hc,if_neg (by simp)]⟩
  | true =>
   rw [hc,if_pos rfl] at h
   obtain ⟨u,a,e1,h⟩:=PR.bind_ok h
   obtain ⟨w,b,e2,h⟩:=PR.bind_ok h
   obtain ⟨a1,a2,a3⟩:=S3 A hi e1
   obtain ⟨b1,b2,b3⟩:=ho v a w b a2 e2
   obtain ⟨c1,c2,c3⟩:=Qw A ho f f' (k+1) w b (by omega) (by omega) r j b2 h
   refine ⟨by omega,c2,fun hm=>?_⟩
   rw [Ei,Uq A (by omega),hc,if_pos rfl,a3 (by omega)]
   show (one' v (a+p)).bind _=_
   rw [b3 (by omega)]
   exact c3 hm
theorem Oy (A:Agr l l' p m) {n:Int} {one one':Mov→Nat→PR Mov} (ho:∀v,SimP l p m (one v) (one' v)) (v:Mov):SimP l p m (Ds l n one v) (Ds l' n one' v):=
 (ho v).bind fun w=>fun i r j hi h=>Qw A ho (l.length+1) (l'.length+1) 1 w i (by have:=A.len;omega) (by omega) r j hi h
theorem J7 (A:Agr l l' p m) (hll:l.length≤500000) (v:Mov):SimP l p m (Ct l v) (Ct l' v):=(Is A).bind fun _=>Oy A (c6 A hll) v
theorem Wy (A:Agr l l' p m) (v:Mov):SimP l p m (Eh l v) (Eh l' v):=(H4 A).bind fun s=>(Is A).bind fun _=>(H4 A).bind fun t=>.pure _
theorem SimP.ite {α:Type} {b:Bool} {F F' G G':Nat→PR α} (h1:SimP l p m F F') (h2:SimP l p m G G'):SimP l p m (fun i=>if b=true then F i else G i) (fun i=>if b=true then F' i else G' i):=by
 cases b
 ·exact h2
 exact h1
theorem il (A:Agr l l' p m) (hll:l.length≤500000) (v:Mov):SimP l p m (Di l v) (Di l' v):=
 .ite (Ku A hll v) <| .ite ((H4 A).bind fun s=>J7 A hll _) <| .ite (Wy A v) <|
  .ite ((H4 A).bind fun s=>(Is A).bind fun _=>(Oy A (Ku A hll) _).bind fun w=>J7 A hll w) <|
  .ite ((Oy A (ca A) v).bind fun w=>(Is A).bind fun _=>(Ku A hll w).bind fun u=>J7 A hll u) <|
  .ite ((Ku A hll v).bind fun w=>J7 A hll _) (.pure v)
/-- A move, with the mark that ends it: what stands behind plays no part. -/
theorem Ur (A:Agr l l' p m) (hll:l.length≤500000) {i:Nat} {r:Mov} {j:Nat} (hi:i<l.length) (h:Dy l i=.ok r j):i<j∧j<l.length∧(j≤m+1→Dy l' (i+p)=.ok r (j+p)):=by
 unfold Dy at h ⊢
 by_cases h1:(((A2 l i).kind != 2) || (C8 (A2 l i).text==0))=true
 ·rw [if_pos h1] at h;cases h
 rw [if_neg h1] at h
 have hk:(A2 l i).kind≠0:=by
  simp only [Bool.or_eq_true,bne_iff_ne,not_or,ne_eq,Classical.not_not] at h1
  rw [h1.1];decide
 have hn:=A.tend.step hi hk
 obtain ⟨w,k,e1,h⟩:=PR.bind_ok h
 obtain ⟨u,q,e2,h⟩:=PR.bind_ok h
 injection h with h3 h4
 subst h3 h4
 obtain ⟨a1,a2,a3⟩:=il A hll _ (i+1) w k hn e1
 obtain ⟨b1,b2,b3⟩:=S3 A a2 e2
 refine ⟨by omega,b2,fun hj=>?_⟩
 have hm:i≤m:=by omega
 rw [A.kind _ hm,A.text _ hm,if_neg h1,show i+p+1=i+1+p by omega,a3 (by omega)]
 show (Ay l' [59] (k+p)).bind _=_
 rw [b3 (by omega)]
 rfl
end
/-! MigJoins: the moves of two sources, one behind the other. -/
theorem Kv {l:List Tok} {f:Nat} {ms:List Mov} {i:Nat} (h:(A2 l i).kind=0):B9 l (f+1) ms i=.ok ms i:=by rw [B9,if_neg (by rw [h];decide)]
theorem Us {l:List Tok} {f:Nat} {ms:List Mov} {i:Nat} (h:(A2 l i).kind≠0) (h8:ms.length=8):B9 l (f+1) ms i=.bad 3 (A2 l i).at_:=by
 rw [B9,if_pos (by simpa using h),if_pos (by rw [h8];rfl)];rfl
theorem Oz {l:List Tok} {f:Nat} {ms:List Mov} {i:Nat} (h:(A2 l i).kind≠0) (h8:ms.length≠8):B9 l (f+1) ms i=(Dy l i).bind fun m j=>B9 l f (ms++[m]) j:=by
 rw [B9,if_pos (by simpa using h),if_neg (by simp only [beq_iff_eq];omega)]
theorem It {l:List Tok} {f:Nat} {ms:List Mov} {i:Nat} {x:List Mov} {ia:Nat} (h:B9 l (f+1) ms i=.ok x ia):((A2 l i).kind=0∧x=ms∧ia=i)∨((A2 l i).kind≠0∧ms.length≠8∧∃v j,Dy l i=.ok v j∧B9 l f (ms++[v]) j=.ok x ia):=by
 by_cases hk:(A2 l i).kind=0
 ·rw [Kv hk] at h
  injection h with h1 h2
  exact .inl ⟨hk,h1.symm,h2.symm⟩
 by_cases h8:ms.length=8
 ·rw [Us hk h8] at h;cases h
 rw [Oz hk h8] at h
 obtain ⟨v,j,e1,e2⟩:=PR.bind_ok h
 exact .inr ⟨hk,h8,v,j,e1,e2⟩
theorem Y8 {l l':List Tok} {m:Nat} (A:Agr l l' 0 m) (hll:l.length≤500000) (hm:m+2=l.length):∀(f:Nat) (ms:List Mov) (i:Nat) (x:List Mov) (ia:Nat),i<l.length→ms.length≤8→ms.length+f=9→B9 l f ms i=.ok x ia→ia<l.length∧(A2 l ia).kind=0∧x.length≤8∧B9 l' f ms i=B9 l' (9-x.length) x ia
 | 0,ms,i,x,ia,_,h1,h2,_=>by omega
 | f+1,ms,i,x,ia,hi,h8,hf,h=>by
  rcases It h with ⟨hk,rfl,rfl⟩|⟨hk,hn,v,j,e1,e2⟩
  ·exact ⟨hi,hk,h8,by rw [show 9-x.length=f+1 by omega]⟩
  obtain ⟨a1,a2,a3⟩:=Ur A hll hi e1
  obtain ⟨b1,b2,b3,b4⟩:=Y8 A hll hm f (ms++[v]) j x ia a2 (by rw [List.length_append];simp;omega) (by rw [List.length_append];simp;omega) e2
  refine ⟨b1,b2,b3,?_⟩
  rw [Oz (by have:=A.kind i (by omega);rw [Nat.add_zero] at this;rw [this];exact hk) hn]
  have:=a3 (by omega)
  rw [Nat.add_zero,Nat.add_zero] at this
  rw [this]
  exact b4
theorem Y9 {l l':List Tok} {p m:Nat} (A:Agr l l' p m) (hll:l.length≤500000) (hm:m+1=l.length) (x:List Mov):∀(f:Nat) (ms:List Mov) (i:Nat) (y:List Mov) (ib f':Nat),i<l.length→ms.length≤8→ms.length+f=9→B9 l f ms i=.ok y ib→x.length+ms.length≤8→x.length+ms.length+f'=9→ms.length≤y.length∧y.length≤8∧(x.length+y.length≤8→B9 l' f' (x++ms) (i+p)=.ok (x++y) (ib+p))∧(8<x.length+y.length→∃q,q<l.length∧B9 l' f' (x++ms) (i+p)=.bad 3 (A2 l' (q+p)).at_)
 | 0,ms,i,y,ib,f',_,h1,h2,_,_,_=>by omega
 | f+1,ms,i,y,ib,0,_,_,_,_,h1,h2=>by omega
 | f+1,ms,i,y,ib,f'+1,hi,h8,hf,h,hx,hf'=>by
  rcases It h with ⟨hk,rfl,rfl⟩|⟨hk,hn,v,j,e1,e2⟩
  ·exact ⟨Nat.le_refl _,h8,fun _=>Kv (by rw [A.kind _ (by omega)];exact hk),fun h=>by omega⟩
  obtain ⟨a1,a2,a3⟩:=Ur A hll hi e1
  have hlen:(ms++[v]).length=ms.length+1:=by simp
  have hk':(A2 l' (i+p)).kind≠0:=by rw [A.kind _ (by omega)];exact hk
  by_cases h9:x.length+ms.length=8
  ·have hle:=moves_le f (ms++[v]) j y ib e2
   rw [hlen] at hle
   have hy8:=moves_le8 f (ms++[v]) j y ib (by omega) (by omega) e2
   exact ⟨by omega,hy8,fun h=>by omega,fun _=>⟨i,hi,Us hk' (by rw [List.length_append];exact h9)⟩⟩
  obtain ⟨b1,b2,b3,b4⟩:=Y9 A hll hm x f (ms++[v]) j y ib f' a2 (by omega) (by omega) e2 (by omega) (by omega)
  have e:B9 l' (f'+1) (x++ms) (i+p)=B9 l' f' (x++(ms++[v])) (j+p):=by
   rw [Oz hk' (by rw [List.length_append];omega),a3 (by omega),←List.append_assoc]
   rfl
  rw [e]
  exact ⟨by omega,b2,b3,b4⟩
where
 moves_le {l:List Tok}:∀(f:Nat) (ms:List Mov) (i:Nat) (y:List Mov) (ib:Nat),B9 l f ms i=.ok y ib→ms.length≤y.length
  | 0,ms,i,y,ib,h=>by
   injection h with h1 h2
   rw [h1]
   exact Nat.le_refl _
  | f+1,ms,i,y,ib,h=>by
   rcases It h with ⟨_,rfl,_⟩|⟨_,_,v,j,_,e2⟩
   ·exact Nat.le_refl _
   have:=moves_le f _ j y ib e2
   rw [List.length_append] at this
   exact Nat.le_trans (Nat.le_add_right _ _) this
 moves_le8 {l:List Tok}:∀(f:Nat) (ms:List Mov) (i:Nat) (y:List Mov) (ib:Nat),ms.length≤8→ms.length+f=9→B9 l f ms i=.ok y ib→y.length≤8
  | 0,ms,i,y,ib,h1,h2,h=>by omega
  | f+1,ms,i,y,ib,h1,h2,h=>by
   rcases It h with ⟨_,rfl,_⟩|⟨_,hn,v,j,_,e2⟩
   ·exact h1
   exact moves_le8 f (ms++[v]) j y ib (by rw [List.length_append];simp;omega) (by rw [List.length_append];simp;omega) e2
/-- A fault has a code. -/
def NZ {α:Type} (x:PR α):Prop:=∀e a,x=.bad e a→e≠0
theorem NZ.ok {α:Type} {r:α} {i:Nat}:NZ (.ok r i):=fun _ _ h=>by cases h
theorem NZ.fail {α:Type} {L:List Tok} {i:Nat} {e:Int} (h:e≠0):NZ (Oe (α:=α) L i e):=fun _ _ h'=>by injection h' with h1 _;rw [←h1];exact h
theorem NZ.bind {α β:Type} {x:PR α} {f:α→Nat→PR β} (h:NZ x) (h2:∀a i,NZ (f a i)):NZ (x.bind f):=by
 cases x with
 | ok r i=>exact h2 r i
 | bad e a=>exact fun e' a' h'=>h e' a' (by injection h' with h1 h2;rw [h1,h2])
theorem NZ.ite {α:Type} {c:Prop} [Decidable c] {x y:PR α} (hx:NZ x) (hy:NZ y):NZ (if c then x else y):=by split;exact hx;exact hy
theorem Hn {L:List Tok} {s:Str} {i:Nat}:NZ (Ay L s i):=.ite .ok (.fail (by decide))
theorem J8 {L:List Tok} {i:Nat}:NZ (Cz L i):=.ite (.fail (by decide)) .ok
theorem Ya {L:List Tok} {i:Nat}:NZ (E9 L i):=by
 unfold E9
 split
 ·rename_i h
  intro e a h'
  injection h' with h1 _
  rw [←h1]
  simpa using h
 exact .ok
theorem N2 {L:List Tok} {m:Mov} {i:Nat}:NZ (C1 L m i):=.bind (.bind J8 fun _ _=>.ite (.fail (by decide)) .ok) fun _ _=>.bind Hn fun _ _=>.bind Ya fun _ _=>.ok
theorem Ut {L:List Tok} {n:Int} {one:Mov→Nat→PR Mov} (h:∀m i,NZ (one m i)):∀(f k:Nat) (m:Mov) (i:Nat),NZ (Ei L n one f k m i)
 | 0,_,_,_=>.ok
 | f+1,k,m,i=>by rw [Ei];exact .ite (.bind Hn fun _ _=>.bind (h _ _) fun m j=>Ut h f _ m j) .ok
theorem S4 {L:List Tok} {n:Int} {one:Mov→Nat→PR Mov} (h:∀m i,NZ (one m i)) {m:Mov} {i:Nat}:NZ (Ds L n one m i):=.bind (h _ _) fun _ _=>Ut h _ _ _ _
theorem N3 {L:List Tok} {m:Mov} {i:Nat}:NZ (Ct L m i):=.bind Hn fun _ _=>S4 fun _ _=>.bind Ya fun _ _=>.ok
theorem lj {L:List Tok} {m:Mov} {i:Nat}:NZ (Di L m i):=
 .ite N2 <| .ite (.bind J8 fun _ _=>N3) <| .ite (.bind J8 fun _ _=>.bind Hn fun _ _=>.bind J8 fun _ _=>.ok) <|
  .ite (.bind J8 fun _ _=>.bind Hn fun _ _=>.bind (S4 fun _ _=>N2) fun _ _=>N3) <|
  .ite (.bind (S4 fun _ _=>.bind J8 fun _ _=>.ok) fun _ _=>.bind Hn fun _ _=>.bind N2 fun _ _=>N3) <|
  .ite (.bind N2 fun _ _=>N3) .ok
theorem ll {L:List Tok} {i:Nat}:NZ (Dy L i):=.ite (.fail (by decide)) (.bind lj fun _ _=>.bind Hn fun _ _=>.ok)
theorem Qx {L:List Tok}:∀(f:Nat) (ms:List Mov) (i:Nat),NZ (B9 L f ms i)
 | 0,_,_=>.ok
 | f+1,ms,i=>by rw [B9];exact .ite (.ite (.fail (by decide)) (.bind ll fun m j=>Qx f _ j)) .ok
/-- A source without a fault. -/
theorem Yb {s:Str} (h:(Cl s).2.1=0):(Bv s).2.1=0∧∃i,Dg (Bv s).1=.ok (Cl s).1 i:=by
 unfold Cl at h ⊢
 by_cases h1:((Bv s).2.1 != 0)=true
 ·rw [if_pos h1] at h
  exact absurd (show (Bv s).2.1=0 from h) (by simpa using h1)
 rw [if_neg h1] at h ⊢
 refine ⟨by simpa using h1,?_⟩
 cases hm:Dg (Bv s).1 with
 | ok l i=>exact ⟨i,rfl⟩
 | bad e a =>
  rw [hm] at h
  exact absurd (show e=0 from h) (Qx 9 [] 0 e a hm)
theorem Iu {A B:List Tok} {i:Nat} (h:i<A.length):A2 (A++B) i=A2 A i:=by
 unfold A2
 rw [List.getD_eq_getElem?_getD,List.getD_eq_getElem?_getD,List.getElem?_append_left h]
theorem cb {A B:List Tok} {i:Nat}:A2 (A++B) (i+A.length)=A2 B i:=by
 unfold A2
 rw [List.getD_eq_getElem?_getD,List.getD_eq_getElem?_getD,List.getElem?_append_right (Nat.le_add_left _ _),Nat.add_sub_cancel]
theorem im {a b:Str} (hl:a.length+b.length+1≤4000) (ha:(Cl a).2.1=0) (hb:(Cl b).2.1=0):(Cl a).1.length≤8 ∧
  ((Cl a).1.length+(Cl b).1.length≤8→Cl (a++10::b)=((Cl a).1++(Cl b).1,0,0))∧(8<(Cl a).1.length+(Cl b).1.length→∃q:Nat,Cl (a++10::b)=([],3,(q:Int))∧a.length≤q):=by
 obtain ⟨la,ia,hA⟩:=Yb ha
 obtain ⟨lb,ib,hB⟩:=Yb hb
 have tea:=Mr la
 have teb:=Mr lb
 have lla:=Nu la
 have llb:=Nu lb
 obtain ⟨A,B,eA,eB,eJ⟩:=ap hl la lb
 generalize (Cl a).1=x at *
 generalize (Cl b).1=y at *
 rw [eA] at hA tea lla
 rw [eB] at hB teb llb
 simp only [List.length_append,List.length_cons,List.length_nil] at lla llb
 have eM:Cl (a++10::b)=match Dg (A++(B.map (Ke (a.length+1))++[⟨0,[],a.length+1+b.length⟩])) with|.ok l _=>(l,0,0)|.bad e q=>([],e,q):=by
  unfold Cl
  rw [eJ]
  rfl
 obtain ⟨L',hL'⟩:∃L',L'=A++(B.map (Ke (a.length+1))++[⟨0,[],a.length+1+b.length⟩]):=⟨_,rfl⟩
 rw [←hL'] at eM
 have hlen:L'.length=A.length+(B.length+1):=by rw [hL'];simp
 have tb:∀i,i≤B.length→(A2 L' (i+A.length)).kind=(A2 (B++[⟨0,[],b.length⟩]) i).kind∧(A2 L' (i+A.length)).text=(A2 (B++[⟨0,[],b.length⟩]) i).text∧a.length≤(A2 L' (i+A.length)).at_:=by
  intro i hi
  rw [hL',cb]
  unfold A2
  rw [List.getD_eq_getElem?_getD,List.getD_eq_getElem?_getD]
  rcases Nat.lt_or_ge i B.length with h|h
  ·rw [List.getElem?_append_left (by simpa using h),List.getElem?_append_left h,List.getElem?_map,List.getElem?_eq_getElem h]
   exact ⟨rfl,rfl,by show a.length≤_+(a.length+1);omega⟩
  have e:i=B.length:=by omega
  subst e
  rw [List.getElem?_append_right (by simp),List.getElem?_append_right (Nat.le_refl _)]
  simp
  omega
 -- the first source
 have G:A.length=0∨Agr (A++[⟨0,[],a.length⟩]) L' 0 (A.length-1):=by
  rcases Nat.eq_zero_or_pos A.length with h0|h0
  ·exact .inl h0
  refine .inr ⟨fun i hi=>?_,fun i hi=>?_,by rw [hlen];simp,tea,by simp;omega⟩
  ·rw [hL']
   show (A2 _ i).kind=_
   rw [Iu (by omega),Iu (by omega)]
  rw [hL']
  show (A2 _ i).text=_
  rw [Iu (by omega),Iu (by omega)]
 have s1:x.length≤8∧ia=A.length∧B9 L' 9 [] 0=B9 L' (9-x.length) x (0+A.length):=by
  rcases G with h0|G
  ·have hAn:A=[]:=List.eq_nil_of_length_eq_zero h0
   subst hAn
   unfold Dg at hA
   rw [Kv (by rfl)] at hA
   injection hA with h1 h2
   subst h1 h2
   exact ⟨by decide,rfl,rfl⟩
  by_cases h0:A.length=0
  ·have hAn:A=[]:=List.eq_nil_of_length_eq_zero h0
   subst hAn
   unfold Dg at hA
   rw [Kv (by rfl)] at hA
   injection hA with h1 h2
   subst h1 h2
   exact ⟨by decide,rfl,rfl⟩
  obtain ⟨c1,c2,c3,c4⟩:=Y8 G (by simp;omega) (by simp;omega) 9 [] 0 x ia (by simp) (by decide) (by decide) hA
  have hia:ia=A.length:=by
   obtain ⟨M,z,e,_,hM⟩:=tea.split
   have hMA:M=A:=by
    have:=congrArg List.dropLast e
    simpa using this.symm
   subst hMA
   rcases Nat.lt_or_ge ia M.length with h|h
   ·have h2:(A2 (M++[⟨0,[],a.length⟩]) ia).kind=0:=c2
    rw [Iu h] at h2
    refine absurd h2 (hM _ ?_)
    unfold A2
    rw [List.getD_eq_getElem?_getD,List.getElem?_eq_getElem h]
    exact List.getElem_mem h
   simp at c1;omega
  refine ⟨c3,hia,?_⟩
  rw [c4,hia,Nat.zero_add]
 have GB:Agr (B++[⟨0,[],b.length⟩]) L' A.length B.length:=⟨fun i hi=>(tb i hi).1,fun i hi=>(tb i hi).2.1,by rw [hlen];simp,teb,by simp;omega⟩
 obtain ⟨d1,d2,d3,d4⟩:=Y9 GB (by simp;omega) (by simp) x 9 [] 0 y ib (9-x.length) (by simp) (by decide) (by decide) hB (by simpa using s1.1) (by simp;omega)
 rw [List.append_nil,←s1.2.2] at d3 d4
 refine ⟨s1.1,fun h=>?_,fun h=>?_⟩
 ·rw [eM,show Dg L'=B9 L' 9 [] 0 from rfl,d3 h]
 obtain ⟨q,hq,e⟩:=d4 h
 refine ⟨(A2 L' (q+A.length)).at_,?_,(tb q (by simp at hq;omega)).2.2⟩
 rw [eM,show Dg L'=B9 L' 9 [] 0 from rfl,e]
/-! What mig.Parse hands back may be walked. -/
theorem lm {L:List Tok} (hl:TokEnd L) (hll:L.length≤500000) {i:Nat} (hi:i<L.length) {m:Mov} {j:Nat} (h:Dy L i=.ok m j):MvLe m (2*L.length):=by
 unfold Dy at h
 split at h
 ·cases h
 rename_i h0
 have hi1:i+1<L.length:=hl.step hi (by
  simp only [Bool.or_eq_true,not_or,Bool.not_eq_true,bne_eq_false_iff_eq] at h0
  rw [h0.1];decide)
 obtain ⟨m1,k,h1,h2⟩:=PR.bind_ok h
 obtain ⟨u,j2,h3,h4⟩:=PR.bind_ok h2
 injection h4 with h5 h6
 subst h5
 obtain ⟨_,a2,a3⟩:=Rt hl hll _ (i+1) ⟨Nat.zero_le _,Nat.zero_le _,Nat.zero_le _,Nat.zero_le _⟩ (by omega) hi1 _ _ h1
 exact a3.mono (by omega)
theorem Md {L:List Tok} (hl:TokEnd L) (hll:L.length≤500000) (hw:∀i,WordOk (A2 L i)):∀(f:Nat) (l:List Mov) (i:Nat) (x:List Mov) (j:Nat),i<L.length→l.length≤8→l.length+f=9→(∀m∈l,MvP m∧MvLe m (2*L.length))→B9 L f l i=.ok x j→(∀m∈x,MvP m∧MvLe m (2*L.length))∧x.length≤8
 | 0,l,i,x,j,_,h1,h2,_,_=>by omega
 | f+1,l,i,x,j,hi,h8,hf,hg,h=>by
  rcases It h with ⟨_,rfl,_⟩|⟨_,hn,v,k,e1,e2⟩
  ·exact ⟨hg,h8⟩
  have a:=Y1 hl hll hi e1
  have b:=lh hl hll hw hi e1
  have c:=lm hl hll hi e1
  have hlen:(l++[v]).length=l.length+1:=by simp
  refine Md hl hll hw f (l++[v]) k x j a.2 (by omega) (by omega) (fun m hm=>?_) e2
  rcases List.mem_append.1 hm with h|h
  ·exact hg m h
  rw [List.mem_singleton.1 h]
  exact ⟨b,c⟩
structure MigGood (l:List Mov):Prop where
 ok:OkMovs l
 each:∀m∈l,MvP m
 len:l.length≤8
theorem MigGood.nil:MigGood []:=⟨⟨Nat.zero_le _,fun m h=>(List.not_mem_nil h).elim⟩,fun m h=>(List.not_mem_nil h).elim,Nat.zero_le _⟩
theorem P0 (s:Str):MigGood (Cl s).1:=by
 by_cases h0:((Bv s).2.1 != 0)=true
 ·rw [Y3 h0]
  exact .nil
 have h0:(Bv s).2.1=0:=by simpa using h0
 unfold Cl
 rw [if_neg (by rw [h0];simp)]
 cases hm:Dg (Bv s).1 with
 | bad e a=>exact .nil
 | ok l i =>
  have hl:=Mr h0
  have hll:=Xm h0
  obtain ⟨h1,h2⟩:=Md hl (by omega) (Wu h0) 9 [] 0 l i (by have:=Nu h0;omega) (by decide) rfl (fun m h=>by cases h) hm
  exact ⟨⟨by show l.length≤1048576;omega,fun m hm=>(h1 m hm).1.ok (h1 m hm).2 (by omega)⟩,fun m hm=>(h1 m hm).1,h2⟩
def ajS:Str:=[115,112,108,105,116,32,97,32,105,110,116,111,32,98,32,105,110,116,32,61,32,97,32,47,32,49,48,44,32,99,32,105,110,116,32,61,32,97,32,37,32,49,48,32,98,97,99,107,32,98,32,42,32,49,48,32,43,32,99,59]
theorem ln:(Cl ajS).2.1=0:=by kernel_rfl
theorem qx:(Cl ajS).2.2=0:=by kernel_rfl
theorem io:Iq (Cl ajS).1=(ajS++[10],0):=by kernel_rfl
theorem ip:(Cl ajS).1.map (fun m=>m.give.length)=[2]:=by kernel_rfl
theorem ny:∃m,(Cl ajS).1=[m]∧m.give.length=2:=by
 have h1:=ip
 match h:(Cl ajS).1 with
 | []=>rw [h] at h1;cases h1
 | [m]=>rw [h] at h1;exact ⟨m,rfl,by simpa using h1⟩
 | a::b::r=>rw [h] at h1;simp at h1
theorem c7 (Hp:List AObj):AFun Tryz.prog 7 [] Hp (B2 true):=by
 obtain ⟨m,hm,hg⟩:=ny
 refine ACall.body [.tmp 0] [] Tryz.func7 Tryz.ntmps7 (fun d=>?_)
 refine Z2 ?_;refine R.fin [] ?_;refine Dn ?_;refine R.call Tryz.call8 (c8 ajS (by decide) _) ?_;refine Z9 ?_;refine Z89 ?_;refine R.fin [1,2] ?_;refine Z2 ?_;refine R.call Tryz.call13 (c13 (Cl ajS).1 (P0 ajS).ok _) ?_
 rw [io]
 refine Z83 ?_;refine R.fin [1,2,3,4] ?_;refine Dn ?_
 rw [ln,qx]
 refine Z0 ?_;refine Z19 ?_;refine Z88 ?_
 rw [hm]
 refine Z4 ?_;refine Z88 ?_
 refine G.go (h:=Q.indexAddr (0) (Eg m) (fun _=>rfl)) (hr:=?_)
 refine Z4 ?_;refine Z4 ?_;refine Z19 ?_;refine Z0 ?_;refine R.fin [0] ?_;refine AW.ret ?_;exact K.fin (V.one V.tmp) ⟨by rw [List.length_map,hg];simp;rfl,rfl⟩

theorem c4 (a b:Str) (Hp:List AObj):AFun Tryz.prog 4 [A8 a,A8 b] Hp (B2 true):=by
 refine ACall.body [.tmp 4] [0,1] Tryz.func4 Tryz.ntmps4 (fun d=>?_)
 refine Z47 ?_;refine Z50 ?_;refine R.call Tryz.call7 (c7 _) ?_;refine R.go ?_;refine R.fin [0,1,12] ?_
 refine W.cond (fun ht12=>?_) (fun ht12=>?_)
 ·cases ht12
 refine Z6 ?_;refine Z11 ?_;refine Z19 ?_;refine Z59 ?_;refine R.fin [0,1,20] ?_
 refine W.cond (fun ht20=>?_) (fun ht20=>?_)
 ·refine Z55 ?_;refine K.thR ?_;exact Yz
 have hl1:a.length≤1500∧b.length≤1500:=by
  simp only [Bool.or_eq_false_iff,decide_eq_false_iff_not] at ht20
  omega
 have hcat:a++[10]++b=a++10::b:=by simp
 refine Rd ?_;refine R.call Tryz.call8 (c8 a (by omega) _) ?_;refine Z9 ?_;refine Z89 ?_;refine R.fin [0,1,5,6] ?_;refine Z2 ?_;refine R.call Tryz.call8 (c8 b (by omega) _) ?_;refine Z9 ?_;refine Z89 ?_;refine R.fin [0,1,5,6,7,8] ?_;refine Z11 ?_;refine Z19 ?_;refine Z59 ?_;refine R.fin [0,1,5,7,38] ?_
 refine W.cond (fun ht38=>?_) (fun ht38=>?_)
 ·refine Z55 ?_;refine K.thR ?_;exact Yz
 have hco:=ht38
 refine Rd ?_
 refine R.go (h:=Q.sadd (hl:=fun _=>by simp only [List.length_cons,List.length_nil];omega)) (hr:=?_)
 refine R.go ?_
 refine R.go (h:=Q.sadd (hl:=fun _=>by simp only [List.length_append,List.length_cons,List.length_nil];omega)) (hr:=?_)
 refine R.call Tryz.call8 (c8 (a++[10]++b) (by simp only [List.length_append,List.length_cons,List.length_nil];omega) _) ?_
 rw [hcat]
 refine Z9 ?_;refine Z89 ?_;refine R.fin [0,5,7,9,10] ?_;refine Z50 ?_
 have hga:=P0 a
 have hgb:=P0 b
 have hla:=hga.len
 have hlb:=hgb.len
 have hla2:((Cl a).1.map Eg).length≤8:=by rw [List.length_map];exact hla
 have hlb2:((Cl b).1.map Eg).length≤8:=by rw [List.length_map];exact hlb
 obtain ⟨hj1,hj2,hj3⟩:=im (a:=a) (b:=b) (by omega) (by have:=hco;simp at this;exact this.1) (by have:=hco;simp at this;exact this.2)
 refine Z53 ?_;refine Z0 ?_;refine R.fin [0,5,7,9,10,52] ?_
 refine W.cond (fun ht52=>?_) (fun ht52=>?_)
 ·have h8:8<(Cl a).1.length+(Cl b).1.length:=by simp only [List.length_map] at ht52;have:=of_decide_eq_true ht52;omega
  obtain ⟨q,hq,hqa⟩:=hj3 h8
  refine Z1 ?_;refine Z19 ?_;refine Z69 ?_;refine G.go ?_;refine Z19 ?_;refine G.go ?_;refine Z0 ?_;refine Z14 ?_;refine K.thR ?_;exact K.fin (V.one V.tmp) ⟨by rw [hq];simp;omega,rfl⟩
 have h8:(Cl a).1.length+(Cl b).1.length≤8:=by simp only [List.length_map] at ht52;have:=of_decide_eq_false ht52;omega
 rw [hj2 h8]
 have hjo:OkMovs ((Cl a).1++(Cl b).1):=⟨by rw [List.length_append];omega,fun m hm=>by
  rcases List.mem_append.1 hm with h|h
  ·exact hga.ok.each m h
  exact hgb.ok.each m h⟩
 refine Z6 ?_;refine Z27 ?_;refine G.go ?_;refine G.buildSlice jU jS jZ ?_;refine G.go ?_
 refine G.append jU Tryz.type47 (fun hB=>?_) (fun hB=>?_) ?_
 ·simp only [List.length_map,List.length_nil,List.length_append,Tryz.t47] at *;omega
 ·simp only [List.length_map,List.length_nil,List.length_append,Tryz.t47] at *;omega
 refine G.go ?_
 refine G.append jU Tryz.type47 (fun hB=>?_) (fun hB=>?_) ?_
 ·simp only [List.length_map,List.length_nil,List.length_append,Tryz.t47] at *;omega
 ·simp only [List.length_map,List.length_nil,List.length_append,Tryz.t47] at *;omega
 simp only [List.nil_append,←List.map_append]
 refine G.call Tryz.call11 (fun hB=>c11 ((Cl a).1++(Cl b).1) ((Cl a).1++(Cl b).1) hjo _) ?_;refine Z0 ?_;refine Z14 ?_;exact K.fin (V.one V.tmp) ⟨by rw [bq];simp,rfl⟩

end Go.SX.Nb
