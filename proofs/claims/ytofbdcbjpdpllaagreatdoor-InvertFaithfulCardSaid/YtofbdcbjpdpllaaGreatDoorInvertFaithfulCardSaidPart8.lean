/- On the way (part 8). -/
import Derived.Lib.SliceRun
import Derived.Test.YtofbdcbjpdpllaaGreatDoorInvertFaithfulCardSaidPart7
set_option linter.all false
namespace Go.SX.Nb
open Go Go.SX Go.Proofs
variable [ErrAt]
set_option maxRecDepth 4000
section
variable {x:Expr} {s:Sd} {y:Expr}
theorem AMq (a:((x.op==3) || (x.op==4))=true):Fm x s y=(.mk x.op [] noV [y],true):=if_pos a
theorem AMr (a:((x.op==3) || (x.op==4))=false) (b:((x.op==6)&&(x.text==Ml))=true):Fm x s y=(E4 cp [y],true):=by unfold Fm;rw [a,b];rfl
theorem AMs (a:((x.op==3) || (x.op==4))=false) (b:((x.op==6)&&(x.text==Ml))=false) (c:((x.op==5)&&((x.text==[43]) || (x.text==[45])))=true):Fm x s y=Q0 x.text s y:=by unfold Fm;rw [a,b,c];rfl
theorem AMt (a:((x.op==3) || (x.op==4))=false) (b:((x.op==6)&&(x.text==Ml))=false) (c:((x.op==5)&&((x.text==[43]) || (x.text==[45])))=false) (e:((x.op==5)&&(x.text==[38]))=true):Fm x s y=O2 s y:=by unfold Fm;rw [a,b,c,e];rfl
theorem AMu (a:((x.op==3) || (x.op==4))=false) (b:((x.op==6)&&(x.text==Ml))=false) (c:((x.op==5)&&((x.text==[43]) || (x.text==[45])))=false) (e:((x.op==5)&&(x.text==[38]))=false):Fm x s y=(A9,false):=by unfold Fm;rw [a,b,c,e];rfl
end
theorem L1 {n:Nat} {t:TypeId} {x:Expr}:ObjLow n (.cells t (Bw x)):=by
 intro z hz
 have h:=Ab n x
 rw [Ad] at h
 cases h with
 | agg _ h=>exact h z hz
theorem sj {Hp:List AObj} {x y:Expr} (h:∀z∈Hp,ObjLow Hp.length z):∀z∈Hp++[AObj.cells 26 (Bw x),AObj.cells 26 (Bw y)],ObjLow (Hp.length+2) z:=by
 intro z hz
 rcases Ds.1 hz with hz|hz
 ·exact Ld (by omega) (h z hz)
 simp only [Bj,Ev,or_false] at hz
 rcases hz with rfl|rfl
 ·exact L1
 exact L1
theorem c85 (n:Nat) (x:Expr) (s:Sd) (hok:okE n s.c) (hn:n≤1000000) (hg:Be Ci s.c=true) (y:Expr) (Hp:List AObj):AFun Tryz.prog 85 [Aa x,Zg s,Aa y] Hp (.tup [Aa (Fm x s y).1,B6 (Fm x s y).2]):=by
 refine Ak [.cell 6 26,.tmp 7] [0,1,2] Tryz.func85 Tryz.ntmps85 (fun d=>?_)
 refine Z13 ?_;refine Z37 ?_;refine A2 [3,4,5,6] ?_;refine Z22 ?_;refine be ?_;refine A2 [3,4,5,6,8] ?_
 refine A3 (fun ht8=>?_) (fun ht8=>?_)
 ·refine Z13 ?_;refine U7 ?_;refine dx ?_;refine jk ?_;exact A7 (Aw (As jA jS) A6) ⟨by rw [AMq ht8];show _=AV.tup [Aa (.mk x.op [] noV [y]),B6 true];rw [ACv];rfl,rfl⟩ (hlow:=by simp [or_imp,forall_and,Ab])
 refine be ?_;refine A2 [3,4,5,6,22] ?_
 refine A3 (fun ht22=>?_) (fun ht22=>?_)
 ·refine Z2 ?_;refine U7 ?_;refine A8 Tryz.call133 (ld cp y _) ?_;refine jk ?_;exact A7 (Aw (As jA jS) A6) ⟨by rw [AMr ht8 ht22];simp only [Ad];try rfl,rfl⟩ (hlow:=by simp [or_imp,forall_and,Ab])
 refine Z18 ?_;refine Z47 ?_;refine dp ?_;refine A2 [3,4,5,6,34] ?_
 refine A3 (fun ht34=>?_) (fun ht34=>?_)
 ·refine Z18 ?_;refine A8 Tryz.call134 (AMo x.text n s hok hn hg y _) ?_;refine Z0 ?_;refine jk ?_;exact A7 (Aw (As jA jS) A6) ⟨by rw [AMs ht8 ht22 ht34];simp only [Ad];try rfl,rfl⟩ (hlow:=by simp [or_imp,forall_and,Ab])
 refine be ?_;refine A2 [4,5,6,55] ?_
 refine A3 (fun ht55=>?_) (fun ht55=>?_)
 ·refine Z1 ?_;refine A8 Tryz.call135 (AMp n s hok hn hg y _) ?_;refine Z0 ?_;refine jk ?_;exact A7 (Aw (As jA jS) A6) ⟨by rw [AMt ht8 ht22 ht34 ht55];simp only [Ad];try rfl,rfl⟩ (hlow:=by simp [or_imp,forall_and,Ab])
 refine Z20 ?_;refine Z28 ?_;refine Ek 69 _ G6 ?_;refine Z78 ?_;exact A7 (Aw (As jA jS) A6) ⟨by rw [AMu ht8 ht22 ht34 ht55];simp only [Ad];try rfl,rfl⟩ (hlow:=by simp [or_imp,forall_and,Ab])

theorem c41 (x y:Expr) (Hp:List AObj):ACallO Tryz.prog 41 [Aa x,Aa y] Hp (fun r H'=>r=.fn (.func 83) [] [.ptr (oid Hp.length 0) 0,.ptr (oid Hp.length 1) 0]∧H'=Hp++[.cells 26 (Bw x),.cells 26 (Bw y)]):=by
 refine ACallO.body [.tmp 4] [0,1] Tryz.func41 Tryz.ntmps41 (fun d=>?_)
 refine Es ?_;refine R.box ?_;refine R.box ?_;refine A5 ?_;refine A2 [2,3] ?_;refine Es ?_
 refine Ii (fun hlow=>?_)
 refine AEo ?_;refine Z21 ?_;exact K.finO 2 (A6 (t:=4)) ⟨rfl,rfl⟩ (hlow:=by simp [oid]) (hobj:=sj hlow)

set_option maxRecDepth 8000
/-! The document's kinds of trees are infer's. -/
/-! Moves: what mig.Right, sound.* and the document's layers 18, 19 answer. -/
structure Mov where
 kind:Int
 take:List Str
 give:List Col
 ahead:List Expr
 back:List Expr
abbrev Iq (l:List Expr):AV:=.slice false 6 (l.map Aa)
abbrev Ua (m:Mov):List AV:=[A4 m.kind,Ho m.take,Ax m.give,Iq m.ahead,Iq m.back]
abbrev Jn (m:Mov):AV:=.agg (Ua m)
abbrev H2 (l:List Mov):AV:=.slice false 5 (l.map Jn)
/-- Trees that may be walked. -/
structure OkEs (l:List Expr):Prop where
 len:l.length≤1048576
 ok:∀e∈l,okE 61 e
 size:∀e∈l,sizeE e≤1048576
 rng:∀e∈l,Be Ci e=true
structure OkMov (m:Mov):Prop where
 takes:m.take.length≤1048576
 names:∀s∈m.take,s.length≤1048576
 gives:OkCols m.give
 gives2:m.give.length≤1000000
 ahead:OkEs m.ahead
 back:OkEs m.back
structure OkMovs (l:List Mov):Prop where
 len:l.length≤1048576
 each:∀m∈l,OkMov m
def Gk (m:Mov):Bool:=
 if ((m.ahead.length:Int) != (m.give.length:Int)) || ((m.back.length:Int) != (m.take.length:Int)) then false
 else if m.kind==1 then ((m.take.length:Int)==0)&&((m.give.length:Int)==1)
 else if m.kind==2 then ((m.take.length:Int)==1)&&((m.give.length:Int)==0)
 else if (m.kind==3) || (m.kind==6) then ((m.take.length:Int)==1)&&((m.give.length:Int)==1)
 else if m.kind==4 then ((m.take.length:Int)==1)&&decide ((1:Int)<(m.give.length:Int))
 else if m.kind==5 then decide ((1:Int)<(m.take.length:Int))&&((m.give.length:Int)==1)
 else false
def O3 (m:Mov) (c:Col):Bool:=Cx c.name&&(((Gx c.kind==[])==(m.kind==3)) && !((m.kind==3)&&(c.kind != 0)))
def Q2 (m:Mov):Bool:=
 if m.kind==3 then eqE (m.ahead.getD 0 A9) (Bb (m.take.getD 0 []))&&eqE (m.back.getD 0 A9) (Bb (m.give.getD 0 ⟨[],0⟩).name)
 else if m.kind==6 then m.take.getD 0 []==(m.give.getD 0 ⟨[],0⟩).name else true
def Jd (m:Mov):Bool:=(((((Gk m&&m.give.all (O3 m))&&m.take.all Cx)&&m.ahead.all Am)&&m.back.all Am)&&Q2 m)
def sk (l:List Mov):Bool:=decide ((l.length:Int)≤8)&&l.all Jd
/-! Columns behind moves. -/
def Zh (e:Expr) (c:List Col) (w:Int):Bool:=((Hq e c).2==0)&&(((Hq e c).1==w) || ((Hq e c).1==0))
def Bs (c:List Col) (m:Mov):List Col:=
 if m.kind==3 then (if Br (m.take.getD 0 []) c<0 then m.give else match m.give with
  | []=>[]
  | y::r=>⟨y.name,(c.getD (Br (m.take.getD 0 []) c).toNat ⟨[],0⟩).kind⟩::r)
 else m.give
def Sz (e:Expr) (c:List Col) (w:Int):Int:=if (Hq e c).2 != 0 then (Hq e c).2 else if !Zh e c w then 10 else 0
def D9 (over:List Col):List Expr→List Col→Int
 | x::r,w::ws=>if Sz x over w.kind != 0 then Sz x over w.kind else D9 over r ws
 | _,_=>0
def Ir (c:List Col) (m:Mov):List Col:=m.take.map fun s=>c.getD (Br s c).toNat ⟨[],0⟩
def Bn (c:List Col) (m:Mov):List Col×Int:=
 if (Dh c m.take (Bs c m)).2 != 0 then ([],(Dh c m.take (Bs c m)).2)
 else if D9 c m.ahead (Bs c m) != 0 then ([],D9 c m.ahead (Bs c m))
 else if D9 (Dh c m.take (Bs c m)).1 m.back (Ir c m) != 0 then ([],D9 (Dh c m.take (Bs c m)).1 m.back (Ir c m))
 else ((Dh c m.take (Bs c m)).1,0)
/-- The columns ahead of each move and behind the last one, till one is wrong; the error. -/
def Cq (c:List Col):List Mov→List (List Col)×Int
 | []=>([c],0)
 | m::r=>if (Bn c m).2 != 0 then ([c],(Bn c m).2) else (c::(Cq (Bn c m).1 r).1,(Cq (Bn c m).1 r).2)
def Mz (c:List Col) (l:List Mov):Bool:=Ee c&&sk l
/-- ref19.Steps. -/
def Q3 (c:List Col) (l:List Mov):List (List Col)×Int:=if Mz c l then Cq c l else ([],1)
/-- sound.Steps. -/
def Du (c:List Col) (l:List Mov):List (List Col)×Int:=if (Q3 c l).2 != 0 then ([],(Q3 c l).2) else Q3 c l
theorem T0 {m:Mov} (h:Jd m=true):Gk m=true:=by
 unfold Jd at h
 simp only [Ai] at h
 exact h.1.1.1.1.1
theorem Is {m:Mov} (h:Gk m=true):m.ahead.length=m.give.length∧m.back.length=m.take.length:=by
 unfold Gk at h
 split at h
 ·cases h
 rename_i h1
 simp only [Di,bne_iff_ne,ne_eq,not_or,Classical.not_not] at h1
 omega
theorem X8 {m:Mov} (h:Gk m=true) (h3:((m.kind==3) || (m.kind==6))=true):m.take.length=1∧m.give.length=1:=by
 unfold Gk at h
 split at h
 ·cases h
 have h1:(m.kind==1)=false:=by simp at h3 ⊢;omega
 have h2:(m.kind==2)=false:=by simp at h3 ⊢;omega
 simp only [h1,h2,h3,if_true,if_false,Bd,Ai,beq_iff_eq] at h
 omega
theorem Ly (c:List Col) (m:Mov):(Bs c m).length=m.give.length:=by
 unfold Bs
 split
 ·split
  ·rfl
  split<;>simp_all
 rfl
set_option maxRecDepth 4000
theorem E3 {n k:Nat} {o:Bool} {l:List Col}:Low n (.slice o k (l.map El)):=by simp [or_imp,forall_and]
theorem AD1 {α β:Type} {f:α→β} {l:List α} {k:Nat} {y:α} (h:l[k]? = some y):(l.map f)[k]? = some (f y):=by rw [Cm,h];rfl
theorem AMv (c:List Col) (hc:OkCols c) (take:List Str) (ht:take.length≤1048576) (give:List Col) (hg:OkCols give) (hg2:give.length≤1000000) (Hp:List AObj):AFun Tryz.prog 186 [Ax c,Ho take,Ax give] Hp (.tup [Ax (Dh c take give).1,A4 (Dh c take give).2]):=by
 refine Ak [.tmp 6,.tmp 7] [0,1,2,9] Tryz.func186 Tryz.ntmps186 (fun d=>?_)
 refine Z1 ?_;refine A2 [0,1,2,9] ?_;refine Z36 ?_;refine AEs ?_;refine A2 [0,1,2,9,12] ?_
 refine A3 (fun ht12=>?_) (fun ht12=>?_)
 ·have hr:Ee c=false:=by rw [H6] at ht12;simpa using ht12
  refine Z2 ?_;refine vr ?_;refine Cu ?_;exact A7 (Aw A6 A6) ⟨by rw [xi hr];try rfl,rfl⟩
 have hr:Ee c=true:=by rw [H6] at ht12;simpa using ht12
 refine Z6 ?_;refine Z31 ?_;refine A8 Tryz.call241 (AKq c hc take ht _) ?_;refine A5 ?_;refine A2 [0,1,2,9,16] ?_
 refine A3 (fun ht16=>?_) (fun ht16=>?_)
 ·have hk:I5 c take=false:=by simpa using ht16
  refine Z2 ?_;refine vr ?_;refine Cu ?_;exact A7 (Aw A6 A6) ⟨by rw [xj hr hk];try rfl,rfl⟩
 have hk:I5 c take=true:=by simpa using ht16
 refine Z6 ?_;refine Z27 ?_;refine A2 [0,1,2,8,9] ?_;refine Z56 ?_;refine Vl 0 2 ?_
 refine Ii (fun hlow=>?_)
 refine Z0 ?_;refine A8 Tryz.call242 (AKs c take _) ?_;refine A2 [2,8,9,19] ?_;refine Ia ?_
 refine Kf (m:=1) Tryz.call286 (fun FR as' bd' hFR has hbd=>?_)
 have hFRl:∀s,Low (Hp.length+3) (FR s):=by
  intro s
  rw [hFR]
  refine L7 ?_
  revert s
  repeat (first|exact Bg|refine Bf (by simp [oid,or_imp,forall_and]<;>try omega) ?_)
 have hOl:∀{k:Nat},∀x∈[AObj.cells 27 [.slice true 2 ((Df (c.take k) take).map El)],AObj.defs,AObj.loop LoopState.ready none FR 41 #[20] as' bd' (oid Hp.length 1)],ObjLow (Hp.length+3) x:=by
  intro k x hx
  simp only [Bj,Ev,or_false] at hx
  rcases hx with rfl|rfl|rfl
  ·intro y hy
   rw [B2.1 hy]
   exact E3
  ·trivial
  exact jo
 refine ⟨_,AKt (oid Hp.length 2) c take hc.len ht (fun k=>Hp++[AObj.cells 27 [.slice true 2 ((Df (c.take k) take).map El)],AObj.defs,AObj.loop LoopState.ready none FR 41 #[20] as' bd' (oid Hp.length 1)]) (fun k=>by simp) (by simp [oid]) (fun k x hx=>?_) (fun k y hk hcn=>by simp only [re hk hcn]) (fun k y X hk hcn=>?_),?_⟩
 ·have:=J1 (fun x hx=>Ld (by omega) (hlow x hx)) hOl x hx
  simpa using this
 ·generalize hV:Hp++[AObj.cells 27 [.slice true 2 ((Df (c.take k) take).map El)],AObj.defs,AObj.loop LoopState.ready none FR 41 #[20] as' bd' (oid Hp.length 1)]++X=V
  have hL:V[oid Hp.length 2]? = some (AObj.loop LoopState.ready none FR 41 #[20] as' bd' (oid Hp.length 1)):=by rw [←hV,B9,B0];rfl
  have hA0:V[oid Hp.length 0]? = some (AObj.cells 27 [.slice true 2 ((Df (c.take k) take).map El)]):=by rw [←hV,B9,B0];rfl
  refine K8 (pd:=none) (fr:=FR) (sz:=41) (ps:=#[20]) (df:=oid Hp.length 1) (asg:=as') (bd:=bd') hL rfl (by decide) (fun d=>?_)
  subst hFR has hbd
  refine Fu [8,20] ?_;refine pq ?_;refine A2 [8,9] ?_
  refine ⟨rfl,none,hL,?_⟩
  generalize hbz:(AObj.loop LoopState.busy _ _ _ _ _ _ _)=bz
  have hA:(V.set (oid Hp.length 2) bz)[oid Hp.length 0]? = some (AObj.cells 27 [.slice true 2 ((Df (c.take k) take).map El)]):=by rw [D7 (By (by decide))];exact hA0
  refine Ia ?_;refine Mp ?_;refine ax jA hA ?_;refine Z76 ?_
  refine Gq jU Tryz.type41 ?_ ?_ ?_
  ·have h1:=Nv (c.take k) take;have h2:=hc.len;simp only [Da] at h1;simp [Tryz.t41];omega
  ·have h1:=Nv (c.take k) take;have h2:=hc.len;simp only [Da] at h1;simp [Tryz.t41];omega
  refine Vi jS (getset hA) ?_ ?_
  ·exact rd
  refine Xr ?_
  subst hbz
  refine qe ?_
  refine ⟨rfl,?_⟩
  subst hV
  simp only [B9,Dy,Dd,Cz,List.set_cons_succ,List.set_cons_zero]
  rw [ABx hk hcn,Cr]
  rfl
 rintro r H' rfl
 simp only [Ob]
 refine ⟨Hp,_,_,_,rfl,rfl,fun h=>h,?_,rfl,by simp,?_⟩
 ·intro o ho
  have:o=oid Hp.length 1:=by simpa using ho
  subst this
  rw [B0]
  rfl
 refine Z15 ?_;refine Es ?_;refine R.loadOwnT jA ?_;refine A5 ?_
 refine Gq jU Tryz.type41 ?_ ?_ ?_
 ·have h1:=Nv c take;have h2:=Sn hr;simp [Tryz.t41];omega
 ·have h1:=Nv c take;have h2:=Sn hr;simp [Tryz.t41];omega
 refine R.storeOwnT jS ?_;refine A2 [8] ?_;refine Z92 ?_
 have e10:(Df c take).map El++give.map El=(Df c take++give).map El:=(Cr ..).symm
 rw [e10]
 generalize hout:Df c take++give=out
 have ho:OkCols out:=xq hc hr hg hg2 hout
 refine A5 ?_;refine A8 Tryz.call243 (AKr out ho _) ?_;refine Z0 ?_;refine A2 [8,28] ?_
 refine A3 (fun ht28=>?_) (fun ht28=>?_)
 ·have hn:Kk out=false:=by simpa using ht28
  refine Z2 ?_;refine vr ?_;refine Z5 ?_;exact A7 (Aw A6 A6) ⟨by rw [xl hr hk hout hn];try rfl,rfl⟩
 have hn:Kk out=true:=by simpa using ht28
 refine Z2 ?_;refine A8 Tryz.call36 (c36 out ho _) ?_;refine Z0 ?_;refine A2 [8,32] ?_
 refine A3 (fun ht32=>?_) (fun ht32=>?_)
 ·have hq:Ic out=false:=by rw [Mh] at ht32;simpa using ht32
  refine Z2 ?_;refine vr ?_;refine Z5 ?_;exact A7 (Aw A6 A6) ⟨by rw [xm hr hk hout hn hq];try rfl,rfl⟩
 have hq:Ic out=true:=by rw [Mh] at ht32;simpa using ht32
 refine Z18 ?_;refine A2 [8,36] ?_
 refine A3 (fun ht36=>?_) (fun ht36=>?_)
 ·have h12:12<out.length:=by simp at ht36;omega
  refine Z2 ?_;refine vr ?_;refine Z5 ?_;exact A7 (Aw A6 A6) ⟨by rw [xn hr hk hout hn hq h12];try rfl,rfl⟩
 have h12:¬12<out.length:=by simp at ht36;omega
 refine Z20 ?_;refine Z13 ?_;refine Z30 ?_;exact A7 (Aw A6 A6) ⟨by rw [xp hr hk hout hn hq h12];try rfl,rfl⟩

theorem c6u (c:List Col) (Hp:List AObj):AFun Tryz.prog 10 [Ax c] Hp (B6 (Lp c)):=by
 refine Ak [.tmp 2] [0] Tryz.func10 Tryz.ntmps10 (fun d=>?_)
 refine Z57 ?_;refine Z34 ?_;refine A2 [0,6] ?_
 refine A3 (fun ht6=>?_) (fun ht6=>?_)
 ·rw [Au] at ht6
  have hm:Lp c=true:=by unfold Lp;rw [ht6];rfl
  refine Z98 ?_;exact Z32
 rw [Au] at ht6
 have hl50:c.length≤50:=by simp at ht6;omega
 refine bc ?_;refine S4 ?_
 refine Dp (α:=Nat) (fun x=>⟨20,Af 0 (Ax c) (Af 3 (A4 (x:Nat)) (fun _=>.any)),Hp,[],[],none⟩) (fun x=>x≤c.length∧∀(j:Nat) (v:Col),j<x→c[j]? = some v→decide ((100:Int)<(v.name.length:Int))=false) (fun x=>c.length-x) (0) ⟨Bc _,fun j v h=>by omega⟩ (Co (by simp)) rfl (fun x hx=>?_)
 refine Z59 ?_;refine A2 [0,3,10] ?_
 refine A3 (fun ht10=>?_) (fun ht10=>?_)
 ·have hlt:x<c.length:=by simpa using ht10
  refine Z6 ?_;refine vo ?_
  refine A5 (h:=Ap (x) (El c[x]) (fun _=>Bv hlt)) (hr:=?_)
  refine Z69 ?_;refine A2 [0,3,19] ?_
  refine A3 (fun ht19=>?_) (fun ht19=>?_)
  ·have hm:Lp c=true:=by unfold Lp;rw [Di];exact .inr (L5.2 ⟨c[x],C4 hlt,ht19⟩)
   refine dv ?_;exact AAv
  refine Z20 ?_;refine Z93 ?_
  refine A5 (h:=Q.add64 (h1:=fun _=>by omega) (h2:=fun _=>by omega)) (hr:=?_)
  refine A5 ?_;refine S4 ?_;exact AGz
 have hxe:c.length≤x:=by simpa using ht10
 have hm:Lp c=false:=by
  unfold Lp
  rw [ht6,Fd,Pa]
  intro v hv
  obtain ⟨j,hj⟩:=Ct hv
  have:=hx.2 j v (by have:=(Ac.1 hj).1;omega) hj
  rw [this]
  simp
 refine py ?_;exact AHo

theorem gu {α:Type} {p:α→Bool} {l:List α} {x:Nat} (h:l.length≤x) (hp:∀(j:Nat) (v:α),j<x→l[j]? = some v→p v=false):l.any p=false:=by
 rw [Pa]
 intro v hv
 obtain ⟨j,hj⟩:=Ct hv
 rw [hp j v (by have:=(Ac.1 hj).1;omega) hj]
 simp
theorem L2 {n:Nat} {m:Mov}:∀y∈Ua m,Low n y:=by
 intro y hy
 simp only [Ua,Bj,Ev,or_false] at hy
 rcases hy with rfl|rfl|rfl|rfl|rfl<;>simp [or_imp,forall_and,Ab]
theorem zl {n:Nat} {m:Mov}:Low n (Jn m):=Go.SX.low_agg.2 L2
theorem Je {n k:Nat} {o:Bool} {l:List Mov}:Low n (.slice o k (l.map Jn)):=low_slice.2 fun y hy=>by
 obtain ⟨m,_,rfl⟩:=Cw.1 hy
 exact zl
theorem L3 {α:Type} {p:α→Bool} (l:List α):(l.any fun s => !(p s)) = !(l.all p):=by
 induction l with
 | nil=>rfl
 | cons a r ih=>rw [List.any_cons,List.all_cons,ih];cases p a<;>simp
theorem AMw (n:Nat) (e:Expr) (hok:okE n e) (hn:n≤1048576) (c:List Col) (hc:OkCols c) (w:Int) (Hp:List AObj):AFun Tryz.prog 244 [Aa e,Ax c,A4 w] Hp (B6 (Zh e c w)):=by
 refine Ak [.tmp 6] [0,1,2] Tryz.func244 Tryz.ntmps244 (fun d=>?_)
 refine Z1 ?_;refine A2 [1,2,3] ?_;refine Z1 ?_;refine A8 Tryz.call13 (c13 n e hok hn c hc _) ?_;refine Z82 ?_;refine A2 [2,7,8] ?_;refine Z13 ?_;refine Z47 ?_;refine Z73 ?_;refine Z75 ?_;exact A7 (An A6) ⟨by unfold Zh;rfl,rfl⟩

theorem AD2 {c:List Col} {m:Mov} (h:(m.kind==3)=false):Bs c m=m.give:=by unfold Bs;rw [if_neg (by rw [h];simp)]
theorem AD3 {c:List Col} {m:Mov} {s:Str} {y:Col} (h:(m.kind==3)=true) (ht:m.take=[s]) (hg:m.give=[y]) (hf:Br s c<0):Bs c m=[y]:=by
 unfold Bs
 rw [if_pos h,ht,hg]
 exact if_pos hf
theorem zm {c:List Col} {m:Mov} {s:Str} {y:Col} (h:(m.kind==3)=true) (ht:m.take=[s]) (hg:m.give=[y]) (hf:¬Br s c<0):Bs c m=[⟨y.name,(c.getD (Br s c).toNat ⟨[],0⟩).kind⟩]:=by
 unfold Bs
 rw [if_pos h,ht,hg]
 exact if_neg hf
theorem gw (l:List Col):∀x∈l.map El,x.cells.length=2:=by
 intro x hx
 obtain ⟨c,_,rfl⟩:=Cw.1 hx
 rfl
theorem nn {c:Col} {y:AV} (h:y∈(El c).cells):y=Ah c.name∨y=A4 c.kind:=by
 have h':y∈[Ah c.name,A4 c.kind]:=h
 simpa using h'
theorem gy (l:List Col):∀x∈l.map El,∀y∈x.cells,y.one=true:=by
 intro x hx y hy
 obtain ⟨c,_,rfl⟩:=Cw.1 hx
 rcases nn hy with rfl|rfl<;>rfl
theorem X9 (l:List Col):∀x∈l.map El,∀y∈x.cells,y.strip=y:=by
 intro x hx y hy
 obtain ⟨c,_,rfl⟩:=Cw.1 hx
 rcases nn hy with rfl|rfl<;>rfl
theorem zn {α:Type} {l:List α} (h:l.length=1):∃y,l=[y]:=by
 match l,h with
 | [y],_=>exact ⟨y,rfl⟩
theorem np {c:List Col} {s:Str} (hf:¬Br s c<0):(c.map El)[(Br s c).toNat]? = some (El (c.getD (Br s c).toNat ⟨[],0⟩)):=by
 obtain ⟨j,hj,hjl⟩:=Ny hf
 rw [hj,Int.toNat_natCast,Cm,Ae hjl,Ch,Ae hjl]
 rfl
end Go.SX.Nb
namespace Go.SX
variable [GI:GlobInv]
open Classical
variable {P:Program} {d:Nat} {ops:Array Oper} {rest:List Oper} {sz:Nat} {fr:Nat→AV} {up own:List AObj} {dfs:List Nat} {rnd:Option Nat} {Q:St→Prop} {s:Nat} {ty:TypeId} {pos:String} {aft:Array Edge}
/-- Whether a slice is nil is known only of one that has elements. -/
theorem R.eqlNil {t e u:TypeId} {x y:Operand} {o:Bool} {k:Nat} {xs:List AV} (ht:P.underlying t=some (.slice e)) (hg:P.eqGuardType P.depth t=false)
  (hr:∀b:Bool,(b=true→xs=[])→ARun P d ops rest ⟨sz,Af s (.v (.bool b)) fr,up,own,dfs,rnd⟩ Q)
  (hx:Bl fr x=.slice o k xs:=by exact sL0) (hy:Bl fr y=.nil:=by exact sL0) (hs:Nat.blt s sz=true:=by rfl):
  ARun P d ops (⟨some s,.binOp .eql t x y u,ty,pos,aft,none⟩::rest) ⟨sz,fr,up,own,dfs,rnd⟩ Q:=by
 refine Ya rfl (Q1:=fun s'=>∃b:Bool,(b=true→xs=[])∧s'=⟨sz,Af s (.v (.bool b)) fr,up,own,dfs,rnd⟩) ?_ (by rintro _ ⟨b,hb,rfl⟩;exact hr b hb)
 intro G a w hrel Q'
 have h1:=hrel.eval x
 rw [show St.ev ⟨sz,fr,up,own,dfs,rnd⟩ x=.slice o k xs from hx] at h1
 have h2:=hrel.eval y
 rw [show St.ev ⟨sz,fr,up,own,dfs,rnd⟩ y=.nil from hy] at h2
 have key:∀b:Bool,(b=true→xs=[])→(execOp a.eval ⟨some s,.binOp .eql t x y u,ty,pos,aft,none⟩).run P w=.ok (.value (.bool b)) w →
   Oper.wpIn (Fr ((St.mk sz fr up own dfs rnd).rnd.map G.blk)) 0 P ⟨some s,.binOp .eql t x y u,ty,pos,aft,none⟩ a w (Post d ⟨sz,fr,up,own,dfs,rnd⟩ G w (fun s'=>∃b:Bool,(b=true→xs=[])∧s'=⟨sz,Af s (.v (.bool b)) fr,up,own,dfs,rnd⟩)) Q':=fun b hb hv =>
  Dj (by intro c h;cases h) hv ⟨G,_,hrel.put (y:=.v (.bool b)) (by simpa using hs) (.v _ _),Gc d G w,rfl,rfl,rfl,b,hb,rfl⟩
 generalize hya:a.eval y=vy at h2
 generalize hxa:a.eval x=vx at h1
 cases h2
 cases h1 with
 | slice0=>exact key true (fun _=>rfl) (by simp only [execOp,hxa,hya,eqGuard];simp [Lib.run_eql_slice_nil _ _ _ _ _ _ _ _ ht,hg])
 | sliceE=>exact key false (fun h=>by cases h) (by simp only [execOp,hxa,hya,eqGuard];simp [Lib.run_eql_slice_nil _ _ _ _ _ _ _ _ ht,hg])
 | slice=>exact key false (fun h=>by cases h) (by simp only [execOp,hxa,hya,eqGuard];simp [Lib.run_eql_slice_nil _ _ _ _ _ _ _ _ ht,hg])
/-! A guarded slice that may be appended to. -/
end Go.SX
