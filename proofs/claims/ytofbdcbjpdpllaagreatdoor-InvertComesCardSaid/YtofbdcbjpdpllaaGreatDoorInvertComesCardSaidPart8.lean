/- On the way (part 8). -/
import Derived.Lib.SliceRun
import Derived.Test.YtofbdcbjpdpllaaGreatDoorInvertComesCardSaidPart7
set_option linter.all false
namespace Go.SX.Nb
open Go Go.SX Go.Proofs
variable [ErrAt]
set_option maxRecDepth 4000
section
variable {x:Expr} {s:Sd} {y:Expr}
theorem ACp (a:((x.op==3) || (x.op==4))=true):Ek x s y=(.mk x.op [] noV [y],true):=if_pos a
theorem ACq (a:((x.op==3) || (x.op==4))=false) (b:((x.op==6)&&(x.text==Kf))=true):Ek x s y=(D6 X8 [y],true):=by unfold Ek;rw [a,b];rfl
theorem ACr (a:((x.op==3) || (x.op==4))=false) (b:((x.op==6)&&(x.text==Kf))=false) (c:((x.op==5)&&((x.text==[43]) || (x.text==[45])))=true):Ek x s y=Ni x.text s y:=by unfold Ek;rw [a,b,c];rfl
theorem ACs (a:((x.op==3) || (x.op==4))=false) (b:((x.op==6)&&(x.text==Kf))=false) (c:((x.op==5)&&((x.text==[43]) || (x.text==[45])))=false) (e:((x.op==5)&&(x.text==[38]))=true):Ek x s y=Lp s y:=by unfold Ek;rw [a,b,c,e];rfl
theorem ACt (a:((x.op==3) || (x.op==4))=false) (b:((x.op==6)&&(x.text==Kf))=false) (c:((x.op==5)&&((x.text==[43]) || (x.text==[45])))=false) (e:((x.op==5)&&(x.text==[38]))=false):Ek x s y=(A8,false):=by unfold Ek;rw [a,b,c,e];rfl
end
theorem J8 {n:Nat} {t:TypeId} {x:Expr}:ObjLow n (.cells t (Bg x)):=by
 intro z hz
 have h:=Ag n x
 rw [Ad] at h
 cases h with
 | agg _ h=>exact h z hz
theorem ke {Hp:List AObj} {x y:Expr} (h:∀z∈Hp,ObjLow Hp.length z):∀z∈Hp++[AObj.cells 26 (Bg x),AObj.cells 26 (Bg y)],ObjLow (Hp.length+2) z:=by
 intro z hz
 rcases Dy.1 hz with hz|hz
 ·exact Wr (by omega) (h z hz)
 simp only [By,Ha,or_false] at hz
 rcases hz with rfl|rfl
 ·exact J8
 exact J8
theorem c85 (n:Nat) (x:Expr) (s:Sd) (hok:okE n s.c) (hn:n≤1000000) (hg:B9 Cg s.c=true) (y:Expr) (Hp:List AObj):AFun Tryz.prog 85 [Aa x,Vg s,Aa y] Hp (.tup [Aa (Ek x s y).1,B8 (Ek x s y).2]):=by
 refine Aq [.cell 6 26,.tmp 7] [0,1,2] Tryz.func85 Tryz.ntmps85 (fun d=>?_)
 refine Z14 ?_;refine Z43 ?_;refine A2 [3,4,5,6] ?_;refine Z27 ?_;refine Wh ?_;refine A2 [3,4,5,6,8] ?_
 refine A4 (fun ht8=>?_) (fun ht8=>?_)
 ·refine Z14 ?_;refine x9 ?_;refine S3 ?_;exact A5 (Ab (Ai jA jS) A3) ⟨by rw [ACp ht8];show _=AV.tup [Aa (.mk x.op [] noV [y]),B8 true];rw [sk];rfl,rfl⟩ (hlow:=by simp [or_imp,forall_and,Ag])
 refine Wh ?_;refine A2 [3,4,5,6,22] ?_
 refine A4 (fun ht22=>?_) (fun ht22=>?_)
 ·refine Z3 ?_;refine bc ?_;refine Ac Tryz.call133 (d8 X8 y _) ?_;refine S3 ?_;exact A5 (Ab (Ai jA jS) A3) ⟨by rw [ACq ht8 ht22];simp only [Ad];try rfl,rfl⟩ (hlow:=by simp [or_imp,forall_and,Ag])
 refine Z17 ?_;refine Z45 ?_;refine Xw ?_;refine A2 [3,4,5,6,34] ?_
 refine A4 (fun ht34=>?_) (fun ht34=>?_)
 ·refine Z17 ?_;refine Ac Tryz.call134 (ACn x.text n s hok hn hg y _) ?_;refine Z0 ?_;refine S3 ?_;exact A5 (Ab (Ai jA jS) A3) ⟨by rw [ACr ht8 ht22 ht34];simp only [Ad];try rfl,rfl⟩ (hlow:=by simp [or_imp,forall_and,Ag])
 refine Wh ?_;refine A2 [4,5,6,55] ?_
 refine A4 (fun ht55=>?_) (fun ht55=>?_)
 ·refine Z1 ?_;refine Ac Tryz.call135 (ACo n s hok hn hg y _) ?_;refine Z0 ?_;refine S3 ?_;exact A5 (Ab (Ai jA jS) A3) ⟨by rw [ACs ht8 ht22 ht34 ht55];simp only [Ad];try rfl,rfl⟩ (hlow:=by simp [or_imp,forall_and,Ag])
 refine Z22 ?_;refine Z25 ?_;refine Ef 69 _ F4 ?_;refine Z62 ?_;exact A5 (Ab (Ai jA jS) A3) ⟨by rw [ACt ht8 ht22 ht34 ht55];simp only [Ad];try rfl,rfl⟩ (hlow:=by simp [or_imp,forall_and,Ag])

theorem c41 (x y:Expr) (Hp:List AObj):ACallO Tryz.prog 41 [Aa x,Aa y] Hp (fun r H'=>r=.fn (.func 83) [] [.ptr (oid Hp.length 0) 0,.ptr (oid Hp.length 1) 0]∧H'=Hp++[.cells 26 (Bg x),.cells 26 (Bg y)]):=by
 refine ACallO.body [.tmp 4] [0,1] Tryz.func41 Tryz.ntmps41 (fun d=>?_)
 refine Ey ?_;refine R.box ?_;refine R.box ?_;refine A7 ?_;refine A2 [2,3] ?_;refine Ey ?_
 refine Mx (fun hlow=>?_)
 refine H2 ?_;refine A7 ?_;refine Z29 ?_;exact K.finO 2 (A3 (t:=4)) ⟨rfl,rfl⟩ (hlow:=by simp [oid]) (hobj:=ke hlow)

set_option maxRecDepth 8000
/-! The document's kinds of trees are infer's. -/
/-! Moves: what mig.Right, sound.* and the document's layers 18, 19 answer. -/
/-! Columns behind moves. -/
set_option maxRecDepth 4000
theorem c6u (c:List Col) (Hp:List AObj):AFun Tryz.prog 10 [Gq c] Hp (B8 (Ld c)):=by
 refine Aq [.tmp 2] [0] Tryz.func10 Tryz.ntmps10 (fun d=>?_)
 refine Z76 ?_;refine Z39 ?_;refine A2 [0,6] ?_
 refine A4 (fun ht6=>?_) (fun ht6=>?_)
 ·rw [Bp] at ht6
  have hm:Ld c=true:=by unfold Ld;rw [ht6];rfl
  refine Z57 ?_;exact Z30
 rw [Bp] at ht6
 have hl50:c.length≤50:=by simp at ht6;omega
 refine Wg ?_;refine P5 ?_
 refine Ff (α:=Nat) (fun x=>⟨20,Ao 0 (Gq c) (Ao 3 (A6 (x:Nat)) (fun _=>.any)),Hp,[],[],none⟩) (fun x=>x≤c.length∧∀(j:Nat) (v:Col),j<x→c[j]? = some v→decide ((100:Int)<(v.name.length:Int))=false) (fun x=>c.length-x) (0) ⟨Bk _,fun j v h=>by omega⟩ (E9 (by simp)) rfl (fun x hx=>?_)
 refine Z60 ?_;refine A2 [0,3,10] ?_
 refine A4 (fun ht10=>?_) (fun ht10=>?_)
 ·have hlt:x<c.length:=by simpa using ht10
  refine Z9 ?_;refine Z27 ?_;refine Z1 ?_
  refine A7 (h:=Ax (x) (U6 c[x]) (fun _=>Cu hlt)) (hr:=?_)
  refine Z64 ?_;refine A2 [0,3,19] ?_
  refine A4 (fun ht19=>?_) (fun ht19=>?_)
  ·have hm:Ld c=true:=by unfold Ld;rw [Dj];exact .inr (Jv.2 ⟨c[x],Db hlt,ht19⟩)
   refine Z57 ?_;exact m6
  refine Z22 ?_;refine Z97 ?_
  refine A7 (h:=Q.add64 (h1:=fun _=>by omega) (h2:=fun _=>by omega)) (hr:=?_)
  refine A7 ?_;refine P5 ?_;exact wy
 have hxe:c.length≤x:=by simpa using ht10
 have hm:Ld c=false:=by
  unfold Ld
  rw [ht6,J9,Om]
  intro v hv
  obtain ⟨j,hj⟩:=Cf hv
  have:=hx.2 j v (by have:=(Ae.1 hj).1;omega) hj
  rw [this]
  simp
 refine Z95 ?_;refine Z58 ?_;exact xp

end Go.SX.Nb
namespace Go.SX
variable [GI:GlobInv]
open Classical
variable {P:Program} {d:Nat} {ops:Array Oper} {rest:List Oper} {sz:Nat} {fr:Nat→AV} {up own:List AObj} {dfs:List Nat} {rnd:Option Nat} {Q:St→Prop} {s:Nat} {ty:TypeId} {pos:String} {aft:Array Edge}
/-! A guarded slice that may be appended to. -/
end Go.SX
