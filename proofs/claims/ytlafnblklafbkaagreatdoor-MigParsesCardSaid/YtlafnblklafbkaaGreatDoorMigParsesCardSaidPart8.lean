/- On the way (part 8). -/
import Derived.Lib.SliceRun
import Derived.Test.YtlafnblklafbkaaGreatDoorMigParsesCardSaidPart7
set_option linter.all false
namespace Go.SX.Nb
open Go Go.SX Go.Proofs
variable [ErrAt]
set_option maxRecDepth 4000
/-! The text of moves, and its words. -/
def Fq:List Str→Str
 | []=>[]
 | s::r=>s++r.flatMap fun u=>[44,32]++u
def qn (c:Col) (x:Expr):Str:=c.name++([32]++(Av c.kind++([32]++([61]++([32]++As x)))))
def L8 (m:Mov):Str:=Fq ((m.give.zip m.ahead).map fun p=>qn p.1 p.2)
def Qc (m:Mov):Str:=Fq m.take
def Nr (m:Mov):Str:=[32]++(backW++([32]++Fq (m.back.map As)))
def Th (m:Mov):Str:=if m.kind==1 then L8 m else if m.kind==2 then Qc m++Nr m else if m.kind==3 then Qc m++([32]++(toW++([32]++(m.give.getD 0 ⟨[],0⟩).name))) else if m.kind==6 then L8 m++Nr m else Qc m++([32]++(intoW++([32]++(L8 m++Nr m))))
/-- A move's text. -/
def mvS (m:Mov):Str:=B3 m.kind++([32]++(Th m++([59]++[10])))
theorem Lx.nl (R:Str):Lx [10] [] R:=fun f q hf=>⟨[],rfl,by
 have h:gapM (10::R)=1+gapM R:=by
  unfold gapM
  rw [Cx,if_pos (by decide)]
  have:=O9 R false
  simp only [Aq]
  omega
 show Ou f q (10::R)=_
 unfold Ou
 rw [h,Gu,Fi,Sf 1,Ok,show q+(gapM R+1)=q+[(10:UInt8)].length+gapM R by simp;omega]⟩
theorem f5 {u R:Str} {T:List TK} (h:Lx u T R):Lx ([32]++u) T R:=Zj h
theorem AKa {k:Int} (h1:1≤k) (h3:k≤3) {R:Str} (hR:G8 R):Lx (Av k) [(2,Av k)] R:=by
 have:k=1∨k=2∨k=3:=by omega
 rcases this with rfl|rfl|rfl<;>exact cp (by kernel_rfl) hR
theorem ASu (Z:Str):Lx [61] [(5,[61])] ([32]++Z):=Q7 (by kernel_rfl) (fun d r e=>by injection e with e1 e2;rw [←e1];decide)
theorem ANd {c:Col} {x:Expr} (hn:H8 c.name=true) (h1:1≤c.kind) (h3:c.kind≤3) (hx:PL x) {R:Str} (hR:G8 R):Lx (qn c x) (Ki c x) R:=by
 have a1:=f5 (hx.1 R hR)
 have a2:Lx ([61]++([32]++As x)) ([(5,[61])]++Au x) R:=E6 (by rw [C8];exact ASu _) a1
 have a3:Lx (Av c.kind++([32]++([61]++([32]++As x)))) ([(2,Av c.kind)]++([(5,[61])]++Au x)) R:=E6 (AKa h1 h3 (Iv _)) (f5 a2)
 have a4:Lx (qn c x) ([(1,c.name)]++([(2,Av c.kind)]++([(5,[61])]++Au x))) R:=E6 (co hn (Iv _)) (f5 a3)
 exact a4
theorem AGh {α:Type} {s:α→Str} {tk:α→List TK}:∀(its:List α),(∀it∈its,∀R,G8 R→Lx (s it) (tk it) R)→∀R,G8 R→Lx ((its.map s).flatMap fun u=>[44,32]++u) (its.flatMap fun it=>(5,[44])::tk it) R∧G8 (((its.map s).flatMap fun u=>[44,32]++u)++R)
 | [],_,R,hR=>⟨Lx.nil R,hR⟩
 | a::r,h,R,hR=>by
  obtain ⟨h1,h2⟩:=AGh r (fun it hit=>h it (.tail _ hit)) R hR
  refine ⟨?_,?_⟩
  ·have b1:Lx (s a++(r.map s).flatMap fun u=>[44,32]++u) (tk a++r.flatMap fun it=>(5,[44])::tk it) R:=E6 (h a Ev _ h2) h1
   have b2:=E6 (z7 _) b1
   rw [Bs,Ia,Ia]
   simpa using b2
  rw [Bs,Ia]
  exact yz _
theorem ma {α:Type} {s:α→Str} {tk:α→List TK} {its:List α} (h:∀it∈its,∀R,G8 R→Lx (s it) (tk it) R) {R:Str} (hR:G8 R):Lx (Fq (its.map s)) (Jr (its.map tk)) R:=by
 cases its with
 | nil=>exact Lx.nil R
 | cons a r =>
  obtain ⟨h1,h2⟩:=AGh r (fun it hit=>h it (.tail _ hit)) R hR
  have:=E6 (h a Ev _ h2) h1
  rw [Bs,Bs,Fq,Jr,List.flatMap_map (f:=tk)]
  exact this
/-- A tree that may be printed. -/
structure PrT (x:Expr):Prop where
 node:E5 Cl x=true
 rng:E5 J0 x=true
theorem PrT.pl {x:Expr} (h:PrT x):PL x:=qi (sizeE x) x (Ae _) h.node h.rng
/-- What the text of a move needs. -/
structure PrS (m:Mov):Prop where
 kinds:m.kind=1∨m.kind=2∨m.kind=3∨m.kind=4∨m.kind=5∨m.kind=6
 takes:∀s∈m.take,H8 s=true
 gives:∀c∈m.give,H8 c.name=true
 cols:m.kind≠3→∀c∈m.give,1≤c.kind∧c.kind≤3
 one:m.kind=3→m.give≠[]
 ahead:∀x∈m.ahead,PrT x
 back:∀x∈m.back,PrT x
theorem zg {m:Mov} (h:PrS m) (hk:m.kind≠3) {R:Str} (hR:G8 R):Lx (L8 m) (Qa m) R:=
 ma (s:=fun p:Col×Expr=>qn p.1 p.2) (tk:=fun p=>Ki p.1 p.2) (fun p hp R hR=>by
  have hc:=(Sd hp).1
  have hb:=h.cols hk p.1 hc
  exact ANd (h.gives _ hc) hb.1 hb.2 (h.ahead _ (Sd hp).2).pl hR) hR
theorem mb {m:Mov} (h:PrS m) {R:Str} (hR:G8 R):Lx (Qc m) (U6 m) R:=by
 have:=ma (s:=fun s:Str=>s) (tk:=fun s=>[((1:Int),s)]) (its:=m.take) (fun s hs R hR=>co (h.takes s hs) hR) hR
 rw [List.map_id'] at this
 exact this
theorem zh {m:Mov} (h:PrS m) {R:Str} (hR:G8 R):Lx (Nr m) (Qb m) R:=by
 have a:=ma (s:=As) (tk:=Au) (its:=m.back) (fun x hx R hR=>(h.back x hx).pl.1 R hR) hR
 have b:Lx (backW++([32]++Fq (m.back.map As))) ([(2,backW)]++Jr (m.back.map Au)) R:=E6 (cp (by kernel_rfl) (Iv _)) (f5 a)
 exact f5 b
theorem cz {m:Mov} {R:Str}:G8 (Nr m++R):=Iv _
theorem ANe {m:Mov} (h:PrS m) {R:Str} (hR:G8 R):Lx (Th m) (Pa m) R:=by
 unfold Th Pa
 by_cases k1:(m.kind==1)=true
 ·rw [if_pos k1,if_pos k1]
  exact zg h (by
   have:m.kind=1:=by simpa using k1
   omega) hR
 rw [if_neg k1,if_neg k1]
 by_cases k2:(m.kind==2)=true
 ·rw [if_pos k2,if_pos k2]
  exact E6 (mb h cz) (zh h hR)
 rw [if_neg k2,if_neg k2]
 by_cases k3:(m.kind==3)=true
 ·rw [if_pos k3,if_pos k3]
  have e:m.kind=3:=by simpa using k3
  have hn:H8 (m.give.getD 0 ⟨[],0⟩).name=true:=by
   have:=h.one e
   cases hg:m.give with
   | nil=>exact absurd hg this
   | cons c r=>exact h.gives c (by rw [hg];exact Ev)
  have a:Lx (toW++([32]++(m.give.getD 0 ⟨[],0⟩).name)) ([(2,toW)]++[(1,(m.give.getD 0 ⟨[],0⟩).name)]) R:=E6 (cp (by kernel_rfl) (Iv _)) (f5 (co hn hR))
  exact E6 (mb h (Iv _)) (f5 a)
 rw [if_neg k3,if_neg k3]
 have n3:m.kind≠3:=by simpa using k3
 have gb:Lx (L8 m++Nr m) (Qa m++Qb m) R:=E6 (zg h n3 cz) (zh h hR)
 by_cases k6:(m.kind==6)=true
 ·rw [if_pos k6,if_pos k6]
  exact gb
 rw [if_neg k6,if_neg k6]
 have a:Lx (intoW++([32]++(L8 m++Nr m))) ([(2,intoW)]++(Qa m++Qb m)) R:=E6 (cp (by kernel_rfl) (Iv _)) (f5 gb)
 exact E6 (mb h (Iv _)) (f5 a)
theorem ASv {m:Mov} (h:PrS m) (R:Str):Lx (mvS m) (mvT m) R:=by
 have a:Lx ([59]++[10]) ([(5,[59])]++[]) R:=E6 (Q7 (by kernel_rfl) (fun d r e=>by injection e with e1 e2;rw [←e1];decide)) (Lx.nl R)
 have b:Lx (Th m++([59]++[10])) (Pa m++[(5,[59])]) R:=E6 (ANe h (AK0 _)) a
 have w:∀Z,Lx (B3 m.kind) [(2,B3 m.kind)] (32::Z):=fun Z=>by
  rcases h.kinds with e|e|e|e|e|e<;>rw [e]<;>exact cp (by kernel_rfl) (Iv _)
 exact E6 (w _) (f5 b)
theorem ALo:∀(ms:List Mov),(∀m∈ms,PrS m)→∀R,Lx (ms.flatMap mvS) (ms.flatMap mvT) R
 | [],_,R=>Lx.nil R
 | m::ms,h,R=>by
  rw [Ia,Ia]
  exact E6 (ASv (h m Ev) _) (ALo ms (fun x hx=>h x (.tail _ hx)) R)
/-- The words of what is printed. -/
theorem wl {ms:List Mov} (h:∀m∈ms,PrS m) (hl:(ms.flatMap mvS).length≤4000):∃(L:List Tok) (n:Nat),C4 (ms.flatMap mvS)=(L++[⟨0,[],n⟩],0,0)∧L.map ktT=ms.flatMap mvT:=by
 obtain ⟨M,hM,e⟩:=ALo ms h [] ((ms.flatMap mvS).length+1) 0 (by simp)
 rw [Ep] at e
 have e0:Ou ((ms.flatMap mvS).length+1) (0+(ms.flatMap mvS).length) []=[]:=by
  unfold Ou
  rw [List.drop_nil,Gc]
  rfl
 rw [e0,Ep] at e
 have hi:C0 (ms.flatMap mvS)=M.map (fun t=>(t,0)):=by rw [oy];exact e
 have:=AJa hl (by rw [hi];intro it hit;obtain ⟨t,_,rfl⟩:=F4.1 hit;rfl)
 refine ⟨M,(ms.flatMap mvS).length,?_,hM⟩
 rw [this,hi,Mo]
 simp [Function.comp_def]
/-- What is printed is parsed, where brackets do not nest too deep. -/
theorem qo {ms:List Mov} (h:∀m∈ms,PrS m) (h2:∀m∈ms,PrM m) (h8:ms.length≤8) (hl:(ms.flatMap mvS).length≤4000):M1 (ms.flatMap mvS)=(ms,0,0):=by
 obtain ⟨L,n,e,hL⟩:=wl h hl
 exact wj e hL h2 h8
/-! The same where brackets may nest too deep: then 18 is told. -/
theorem ACc {m:Mov} (h1:Ix m=true):Ew m=true∧(m.kind≠3→∀c∈m.give,1≤c.kind∧c.kind≤3)∧(m.kind=3→∀c∈m.give,c.kind=0)∧Jp m=true:=by
 unfold Ix at h1
 simp only [Ah,Ay] at h1
 refine ⟨h1.1.1.1.1.1,fun hk c hc=>?_,fun hk c hc=>?_,h1.2⟩
 ·have:=h1.1.1.1.1.2 c hc
  unfold L5 at this
  simp only [Ah] at this
  have e:(m.kind==3)=false:=by simpa using hk
  rw [e] at this
  exact qm (by simpa using this.2.1)
 have:=h1.1.1.1.1.2 c hc
 unfold L5 at this
 simp only [Ah] at this
 rw [hk] at this
 simpa using this.2.2
theorem ACd {m:Mov} (h:Ix m=true):m.kind=1∨m.kind=2∨m.kind=3∨m.kind=4∨m.kind=5∨m.kind=6:=by
 have hc:=(ACc h).1
 unfold Ew at hc
 split at hc
 ·cases hc
 split at hc
 ·rename_i h;exact .inl (by simpa using h)
 split at hc
 ·rename_i h;exact .inr (.inl (by simpa using h))
 split at hc
 ·rename_i h
  rw [Cz] at h
  rcases h with h|h
  ·exact .inr (.inr (.inl (by simpa using h)))
  exact .inr (.inr (.inr (.inr (.inr (by simpa using h)))))
 split at hc
 ·rename_i h;exact .inr (.inr (.inr (.inl (by simpa using h))))
 split at hc
 ·rename_i h;exact .inr (.inr (.inr (.inr (.inl (by simpa using h)))))
 cases hc
theorem zi {n:Nat} {e:Expr}:Low n (.ro (E3 e)):=by have:=At n e;rw [Ad] at this;simpa using this
theorem ACe {n k:Nat} {o:Bool} {l:List Col}:Low n (.slice o k (l.map Hz)):=by simp [or_imp,forall_and]
theorem qq {α:Type} {p:α→Bool} {l:List α} {x:Nat} (h:l.length≤x) (hp:∀(j:Nat) (v:α),j<x→l[j]? = some v→p v=false):l.any p=false:=by
 rw [jv]
 intro v hv
 obtain ⟨j,hj⟩:=Dp hv
 rw [hp j v (by have:=(Aa.1 hj).1;omega) hj]
 simp
theorem mc {n:Nat} {m:Mov}:∀y∈Yb m,Low n y:=by
 intro y hy
 simp only [Yb,C9,Ph,or_false] at hy
 rcases hy with rfl|rfl|rfl|rfl|rfl<;>simp [or_imp,forall_and,At]
theorem Vo {n:Nat} {m:Mov}:Low n (K5 m):=Go.SX.low_agg.2 mc
theorem Vp {n k:Nat} {o:Bool} {l:List Mov}:Low n (.slice o k (l.map K5)):=low_slice.2 fun y hy=>by
 obtain ⟨m,_,rfl⟩:=F4.1 hy
 exact Vo
theorem Oe {α:Type} {p:α→Bool} (l:List α):(l.any fun s => !(p s)) = !(l.all p):=by
 induction l with
 | nil=>rfl
 | cons a r ih=>rw [List.any_cons,List.all_cons,ih];cases p a<;>simp
theorem ANf {α:Type} {l:List α} (h:l.length=1):∃y,l=[y]:=by
 match l,h with
 | [y],_=>exact ⟨y,rfl⟩
end Go.SX.Nb
namespace Go.SX
variable [GI:GlobInv]
open Classical
variable {P:Program} {d:Nat} {ops:Array Oper} {rest:List Oper} {sz:Nat} {fr:Nat→AV} {up own:List AObj} {dfs:List Nat} {rnd:Option Nat} {Q:St→Prop} {s:Nat} {ty:TypeId} {pos:String} {aft:Array Edge}
/-! A guarded slice that may be appended to. -/
end Go.SX
namespace Go.SX
variable [GI:GlobInv]
open Classical
section
variable {P:Program} {d:Nat}
end
section
variable {P:Program} {d:Nat} {ops:Array Oper} {rest:List Oper} {sz s:Nat} {fr:Nat→AV} {up own:List AObj} {dfs:List Nat} {rnd:Option Nat} {Q:St→Prop} {ty:TypeId} {pos:String} {aft:Array Edge}
end
end Go.SX
