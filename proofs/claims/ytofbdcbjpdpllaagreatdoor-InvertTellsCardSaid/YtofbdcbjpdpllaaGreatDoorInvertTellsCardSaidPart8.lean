/- On the way (part 8). -/
import Derived.Lib.SliceRun
import Derived.Test.YtofbdcbjpdpllaaGreatDoorInvertTellsCardSaidPart7
set_option linter.all false
namespace Go.SX.Nb
open Go Go.SX Go.Proofs
variable [ErrAt]
set_option maxRecDepth 4000
section
variable {x:Expr} {s:Sd} {y:Expr}
theorem AUq (a:((x.op==3) || (x.op==4))=true):Gk x s y=(.mk x.op [] noV [y],true):=if_pos a
theorem AUr (a:((x.op==3) || (x.op==4))=false) (b:((x.op==6)&&(x.text==lm))=true):Gk x s y=(Eo qb [y],true):=by unfold Gk;rw [a,b];rfl
theorem AUs (a:((x.op==3) || (x.op==4))=false) (b:((x.op==6)&&(x.text==lm))=false) (c:((x.op==5)&&((x.text==[43]) || (x.text==[45])))=true):Gk x s y=Rx x.text s y:=by unfold Gk;rw [a,b,c];rfl
theorem AUt (a:((x.op==3) || (x.op==4))=false) (b:((x.op==6)&&(x.text==lm))=false) (c:((x.op==5)&&((x.text==[43]) || (x.text==[45])))=false) (e:((x.op==5)&&(x.text==[38]))=true):Gk x s y=Pg s y:=by unfold Gk;rw [a,b,c,e];rfl
theorem AUu (a:((x.op==3) || (x.op==4))=false) (b:((x.op==6)&&(x.text==lm))=false) (c:((x.op==5)&&((x.text==[43]) || (x.text==[45])))=false) (e:((x.op==5)&&(x.text==[38]))=false):Gk x s y=(A6,false):=by unfold Gk;rw [a,b,c,e];rfl
end
theorem M3 {n:Nat} {t:TypeId} {x:Expr}:ObjLow n (.cells t (B7 x)):=by
 intro z hz
 have h:=Ag n x
 rw [Af] at h
 cases h with
 | agg _ h=>exact h z hz
theorem yd {Hp:List AObj} {x y:Expr} (h:∀z∈Hp,ObjLow Hp.length z):∀z∈Hp++[AObj.cells 26 (B7 x),AObj.cells 26 (B7 y)],ObjLow (Hp.length+2) z:=by
 intro z hz
 rcases Ek.1 hz with hz|hz
 ·exact P4 (by omega) (h z hz)
 simp only [C0,Fb,or_false] at hz
 rcases hz with rfl|rfl
 ·exact M3
 exact M3
theorem c85 (n:Nat) (x:Expr) (s:Sd) (hok:okE n s.c) (hn:n≤1000000) (hg:Bq Cw s.c=true) (y:Expr) (Hp:List AObj):AFun Tryz.prog 85 [Ab x,dd s,Ab y] Hp (.tup [Ab (Gk x s y).1,At (Gk x s y).2]):=by
 refine Aj [.cell 6 26,.tmp 7] [0,1,2] Tryz.func85 Tryz.ntmps85 (fun d=>?_)
 refine Z14 ?_;refine Z49 ?_;refine A2 [3,4,5,6] ?_;refine Z16 ?_;refine O7 ?_;refine A2 [3,4,5,6,8] ?_
 refine A3 (fun ht8=>?_) (fun ht8=>?_)
 ·refine Z14 ?_;refine Z80 ?_;refine Z93 ?_;exact A8 (As (Ap jA jS) A7) ⟨by rw [AUq ht8];show _=AV.tup [Ab (.mk x.op [] noV [y]),At true];rw [AHi];rfl,rfl⟩ (hlow:=by simp [or_imp,forall_and,Ag])
 refine O7 ?_;refine A2 [3,4,5,6,22] ?_
 refine A3 (fun ht22=>?_) (fun ht22=>?_)
 ·refine Z2 ?_;refine Wi ?_;refine A9 Tryz.call133 (qh qb y _) ?_;refine Z93 ?_;exact A8 (As (Ap jA jS) A7) ⟨by rw [AUr ht8 ht22];simp only [Af];try rfl,rfl⟩ (hlow:=by simp [or_imp,forall_and,Ag])
 refine Z21 ?_;refine ap ?_;refine Z0 ?_;refine A2 [3,4,5,6,34] ?_
 refine A3 (fun ht34=>?_) (fun ht34=>?_)
 ·refine Z21 ?_;refine A9 Tryz.call134 (AUo x.text n s hok hn hg y _) ?_;refine wi ?_;exact A8 (As (Ap jA jS) A7) ⟨by rw [AUs ht8 ht22 ht34];simp only [Af];try rfl,rfl⟩ (hlow:=by simp [or_imp,forall_and,Ag])
 refine O7 ?_;refine A2 [4,5,6,55] ?_
 refine A3 (fun ht55=>?_) (fun ht55=>?_)
 ·refine Z1 ?_;refine A9 Tryz.call135 (AUp n s hok hn hg y _) ?_;refine wi ?_;exact A8 (As (Ap jA jS) A7) ⟨by rw [AUt ht8 ht22 ht34 ht55];simp only [Af];try rfl,rfl⟩ (hlow:=by simp [or_imp,forall_and,Ag])
 refine Z18 ?_;refine Z19 ?_;refine D7 69 _ Du ?_;refine jb ?_;exact A8 (As (Ap jA jS) A7) ⟨by rw [AUu ht8 ht22 ht34 ht55];simp only [Af];try rfl,rfl⟩ (hlow:=by simp [or_imp,forall_and,Ag])

theorem c41 (x y:Expr) (Hp:List AObj):ACallO Tryz.prog 41 [Ab x,Ab y] Hp (fun r H'=>r=.fn (.func 83) [] [.ptr (oid Hp.length 0) 0,.ptr (oid Hp.length 1) 0]∧H'=Hp++[.cells 26 (B7 x),.cells 26 (B7 y)]):=by
 refine ACallO.body [.tmp 4] [0,1] Tryz.func41 Tryz.ntmps41 (fun d=>?_)
 refine vr ?_;refine R.box ?_;refine A4 ?_;refine Ua ?_;refine E9 ?_
 refine L8 (fun hlow=>?_)
 refine vm ?_;refine Z33 ?_;exact K.finO 2 (A7 (t:=4)) ⟨rfl,rfl⟩ (hlow:=by simp [oid]) (hobj:=yd hlow)

set_option maxRecDepth 8000
/-! The document's kinds of trees are infer's. -/
def Ff (k w:Int):Bool:=(k==0) || (k==w)
def H1 (o:Int) (t:Str) (ks:List Int):Int×Bool:=
 if o==3 then (1,Ff (ks.getD 0 0) 1) else if o==4 then (3,Ff (ks.getD 0 0) 3)
 else if (o==5)&&((t==[111,114]) || (t==[97,110,100])) then (3,Ff (ks.getD 0 0) 3&&Ff (ks.getD 1 0) 3)
 else if (o==5)&&(Bt t==3) then (3,(ks.getD 0 0==0) || Ff (ks.getD 1 0) (ks.getD 0 0))
 else if (o==5)&&(t==[38]) then (2,Ff (ks.getD 0 0) 2&&Ff (ks.getD 1 0) 2)
 else if o==5 then (1,Ff (ks.getD 0 0) 1&&Ff (ks.getD 1 0) 1)
 else if (t==[108,101,110]) || (t==[110,117,109]) then (1,Ff (ks.getD 0 0) 2)
 else if t==[115,116,114] then (2,Ff (ks.getD 0 0) 1)
 else if (t==[108,101,102,116]) || (t==[114,105,103,104,116]) then (2,Ff (ks.getD 0 0) 2&&Ff (ks.getD 1 0) 1)
 else if t==[105,115,110,117,108,108] then (3,true)
 else (if ks.getD (ks.length-2) 0==0 then ks.getD (ks.length-1) 0 else ks.getD (ks.length-2) 0,
  ((ks.getD (ks.length-2) 0==0) || Ff (ks.getD (ks.length-1) 0) (ks.getD (ks.length-2) 0))&&((t==[110,118,108]) || Ff (ks.getD 0 0) 3))
def V1 (o:Int) (t:Str) (ks:List Int):Int×Int:=if (H1 o t ks).2 then ((H1 o t ks).1,0) else (0,10)
theorem Qf (w k:Int) (hw:(w==0)=false):(H3 w k).2=Ff k w:=by
 unfold H3 Ff
 rw [hw]
 simp only [An,if_false]
 by_cases h:(k==0)=true
 ·simp [h]
 have h':(k==0)=false:=by simpa using h
 rw [h']
 by_cases h2:w=k
 ·subst h2;simp
 have:¬k=w:=fun e=>h2 e.symm
 simp [h2,this]
theorem AHp (t:Str):(Bt t==3)=((((((t==[61]) || (t==[33,61])) || (t==[60])) || (t==[60,61])) || (t==[62])) || (t==[62,61])):=by
 by_cases h:t∈[[61],[33,61],[60],[60,61],[62],[62,61]]
 ·simp only [C0,Fb,or_false] at h
  rcases h with rfl|rfl|rfl|rfl|rfl|rfl<;>rfl
 have e:((((((t==[61]) || (t==[33,61])) || (t==[60])) || (t==[60,61])) || (t==[62])) || (t==[62,61]))=false:=by
  simp only [C0,Fb,or_false,not_or] at h
  simp [h]
 rw [e]
 unfold Bt
 split
 ·rename_i i hi
  rw [N5] at hi
  obtain ⟨hl,hc,_⟩:=hi
  by_cases h3:i=3
  ·subst h3
   exact (h (by simp [levels] at hc;simpa using hc)).elim
  have:¬((i:Int)=3):=by omega
  simp [this]
 rfl
theorem td {s:Sign} {a w:Int} (hk:s.kids=[w]) (hw:(w==0)=false) (h1:(w == -1)=false) (h2:(w == -2)=false) (ho:(s.own == -1)=false):Mi s [a]=if Ff a w then (s.own,0) else (0,10):=by
 unfold Mi
 rw [hk]
 simp only [Qk,h1,h2,An,if_false,Qf w a hw]
 cases Ff a w<;>simp [ho]
theorem tg {s:Sign} {a b v w:Int} (hk:s.kids=[v,w]) (hv:(v==0)=false) (hv1:(v == -1)=false) (hv2:(v == -2)=false) (hw:(w==0)=false) (h1:(w == -1)=false) (h2:(w == -2)=false) (ho:(s.own == -1)=false):Mi s [a,b]=if Ff a v&&Ff b w then (s.own,0) else (0,10):=by
 unfold Mi
 rw [hk]
 simp only [Qk,hv1,hv2,h1,h2,An,if_false,Qf w b hw,Qf v a hv]
 cases Ff a v<;>cases Ff b w<;>simp [ho]
theorem AJg {s:Sign} {a b:Int} (hk:s.kids=[-1, -1]):Mi s [a,b]=if (a==0) || Ff b a then (if s.own == -1 then (if a==0 then b else a,0) else (s.own,0)) else (0,10):=by
 unfold Mi Ff
 rw [hk]
 simp only [Qk,H3]
 by_cases ha:a=0
 ·subst ha;simp
 by_cases hb:b=0
 ·subst hb;simp [ha]
 by_cases he:a=b
 ·subst he;simp [ha]
 have:¬b=a:=fun e=>he e.symm
 simp [ha,hb,he,this]
theorem ALz {s:Sign} {x a b:Int} (hk:s.kids=[3, -1, -1]):Mi s [x,a,b]=if ((a==0) || Ff b a)&&Ff x 3 then (if s.own == -1 then (if a==0 then b else a,0) else (s.own,0)) else (0,10):=by
 unfold Mi Ff
 rw [hk]
 simp only [Qk,Qf 3 x rfl,Ff]
 simp only [H3]
 by_cases hx:((x==0) || (x==3))=true
 ·by_cases ha:a=0
  ·subst ha;simp [hx]
  by_cases hb:b=0
  ·subst hb;simp [ha,hx]
  by_cases he:a=b
  ·subst he;simp [ha,hx]
  have:¬b=a:=fun e=>he e.symm
  simp [ha,hb,he,this,hx]
 simp [hx]
theorem AQl {s:Sign} {x:Int} (hk:s.kids=[-2]) (ho:(s.own == -1)=false):Mi s [x]=(s.own,0):=by
 unfold Mi
 rw [hk]
 simp [Qk,ho]
theorem lu {ks:List Int} (h:ks.length=1):∃a,ks=[a]:=by
 match ks,h with
 | [a],_=>exact ⟨a,rfl⟩
theorem ADt {ks:List Int} (h:ks.length=2):∃a b,ks=[a,b]:=by
 match ks,h with
 | [a,b],_=>exact ⟨a,b,rfl⟩
theorem AQm {ks:List Int} (h:ks.length=3):∃a b c,ks=[a,b,c]:=by
 match ks,h with
 | [a,b,c],_=>exact ⟨a,b,c,rfl⟩
theorem qi (t:Str) (a b:Int):V1 5 t [a,b]=Mi (Hr t) [a,b]:=by
 unfold V1 H1 Hr
 simp only [AHp,show ((5:Int)==3)=false from rfl,show ((5:Int)==4)=false from rfl,show ((5:Int)==5)=true from rfl,Dc,An,if_false]
 by_cases h1:((t==[111,114]) || (t==[97,110,100]))=true
 ·simp only [h1,if_true]
  rw [tg (v:=3) (w:=3) rfl rfl rfl rfl rfl rfl rfl rfl]
  rfl
 simp only [h1,if_false,An]
 by_cases h2:((((((t==[61]) || (t==[33,61])) || (t==[60])) || (t==[60,61])) || (t==[62])) || (t==[62,61]))=true
 ·simp only [h2,if_true]
  rw [AJg rfl]
  rfl
 simp only [h2,if_false,An]
 by_cases h3:(t==[38])=true
 ·simp only [h3,if_true]
  rw [tg (v:=2) (w:=2) rfl rfl rfl rfl rfl rfl rfl rfl]
  rfl
 simp only [h3,if_false,An,if_true]
 rw [tg (v:=1) (w:=1) rfl rfl rfl rfl rfl rfl rfl rfl]
 rfl
theorem qj {t:Str} {ks:List Int} (h:(G8 t).kids.length=ks.length):V1 6 t ks=Mi (G8 t) ks:=by
 unfold V1 H1
 simp only [show ((6:Int)==3)=false from rfl,show ((6:Int)==4)=false from rfl,show ((6:Int)==5)=false from rfl,Es,An,if_false]
 unfold G8 at h ⊢
 by_cases h1:((t==[108,101,110]) || (t==[110,117,109]))=true
 ·simp only [h1,if_true] at h ⊢
  obtain ⟨a,rfl⟩:=lu h.symm
  rw [td (w:=2) rfl rfl rfl rfl rfl]
  rfl
 simp only [h1,if_false,An] at h ⊢
 by_cases h2:(t==[115,116,114])=true
 ·simp only [h2,if_true] at h ⊢
  obtain ⟨a,rfl⟩:=lu h.symm
  rw [td (w:=1) rfl rfl rfl rfl rfl]
  rfl
 simp only [h2,if_false,An] at h ⊢
 by_cases h3:((t==[108,101,102,116]) || (t==[114,105,103,104,116]))=true
 ·simp only [h3,if_true] at h ⊢
  obtain ⟨a,b,rfl⟩:=ADt h.symm
  rw [tg (v:=2) (w:=1) rfl rfl rfl rfl rfl rfl rfl rfl]
  rfl
 simp only [h3,if_false,An] at h ⊢
 by_cases h4:(t==[105,115,110,117,108,108])=true
 ·simp only [h4,if_true] at h ⊢
  obtain ⟨a,rfl⟩:=lu h.symm
  rw [AQl rfl rfl]
 simp only [h4,if_false,An] at h ⊢
 by_cases h5:(t==[110,118,108])=true
 ·simp only [h5,if_true] at h ⊢
  obtain ⟨a,b,rfl⟩:=ADt h.symm
  rw [AJg rfl]
  simp
 simp only [h5,if_false,An] at h ⊢
 obtain ⟨a,b,c,rfl⟩:=AQm h.symm
 rw [ALz rfl]
 simp
theorem AHq {e:Expr} (h:Ch e=true) (h1:(e.op==1)=false) (h2:(e.op==2)=false) {ks:List Int} (hl:ks.length=e.kids.length):V1 e.op e.text ks=Mi (Qw e.op e.text) ks:=by
 have hs:=Mv h h1 h2
 unfold Qw at hs ⊢
 unfold Ch at h
 rw [h1,h2] at h
 simp only [An,if_false] at h
 by_cases h3:e.op=3
 ·rw [h3] at hs ⊢
  simp only [beq_self_eq_true,if_true] at hs ⊢
  obtain ⟨a,rfl⟩:=lu (by rw [hl,←hs];rfl)
  rw [td (w:=1) rfl rfl rfl rfl rfl]
  rfl
 by_cases h4:e.op=4
 ·rw [h4] at hs ⊢
  obtain ⟨a,rfl⟩:=lu (by rw [hl,←hs];rfl)
  rw [show (if ((4:Int)==3)=true then (⟨[1],1⟩:Sign) else if ((4:Int)==4)=true then ⟨[3],3⟩ else if ((4:Int)==5)=true then Hr e.text else G8 e.text)=⟨[3],3⟩ from rfl,td (w:=3) rfl rfl rfl rfl rfl]
  rfl
 by_cases h5:e.op=5
 ·rw [h5] at hs ⊢
  rw [show (if ((5:Int)==3)=true then (⟨[1],1⟩:Sign) else if ((5:Int)==4)=true then ⟨[3],3⟩ else if ((5:Int)==5)=true then Hr e.text else G8 e.text)=Hr e.text from rfl] at hs ⊢
  obtain ⟨a,b,rfl⟩:=ADt (by rw [hl,←hs,Ro])
  exact qi _ _ _
 have h6:e.op=6:=by
  simp [h3,h4,h5] at h
  exact h.1
 rw [h6] at hs ⊢
 rw [show (if ((6:Int)==3)=true then (⟨[1],1⟩:Sign) else if ((6:Int)==4)=true then ⟨[3],3⟩ else if ((6:Int)==5)=true then Hr e.text else G8 e.text)=G8 e.text from rfl] at hs ⊢
 exact qj (by rw [hs,hl])
/-! Moves: what mig.Right, sound.* and the document's layers 18, 19 answer. -/
structure Mov where
 kind:Int
 take:List Str
 give:List Col
 ahead:List Expr
 back:List Expr
abbrev Jp (l:List Expr):AV:=.slice false 6 (l.map Ab)
abbrev Ph (m:Mov):List AV:=[A5 m.kind,En m.take,B0 m.give,Jp m.ahead,Jp m.back]
abbrev Ir (m:Mov):AV:=.agg (Ph m)
abbrev Gi (l:List Mov):AV:=.slice false 5 (l.map Ir)
/-- Trees that may be walked. -/
structure OkEs (l:List Expr):Prop where
 len:l.length≤1048576
 ok:∀e∈l,okE 61 e
 size:∀e∈l,sizeE e≤1048576
 rng:∀e∈l,Bq Cw e=true
structure OkMov (m:Mov):Prop where
 takes:m.take.length≤1048576
 names:∀s∈m.take,s.length≤1048576
 gives:OkCols m.give
 gives2:m.give.length≤1000000
 ahead:OkEs m.ahead
 back:OkEs m.back
structure OkMovs (l:List Mov):Prop where
 len:l.length≤1048576
 each:∀m∈l,OkMov m
def Fw (m:Mov):Bool:=
 if ((m.ahead.length:Int) != (m.give.length:Int)) || ((m.back.length:Int) != (m.take.length:Int)) then false
 else if m.kind==1 then ((m.take.length:Int)==0)&&((m.give.length:Int)==1)
 else if m.kind==2 then ((m.take.length:Int)==1)&&((m.give.length:Int)==0)
 else if (m.kind==3) || (m.kind==6) then ((m.take.length:Int)==1)&&((m.give.length:Int)==1)
 else if m.kind==4 then ((m.take.length:Int)==1)&&decide ((1:Int)<(m.give.length:Int))
 else if m.kind==5 then decide ((1:Int)<(m.take.length:Int))&&((m.give.length:Int)==1)
 else false
def Jq (m:Mov) (c:Col):Bool:=Cg c.name&&(((Er c.kind==[])==(m.kind==3)) && !((m.kind==3)&&(c.kind != 0)))
def Ll (m:Mov):Bool:=
 if m.kind==3 then eqE (m.ahead.getD 0 A6) (Bh (m.take.getD 0 []))&&eqE (m.back.getD 0 A6) (Bh (m.give.getD 0 ⟨[],0⟩).name)
 else if m.kind==6 then m.take.getD 0 []==(m.give.getD 0 ⟨[],0⟩).name else true
def H4 (m:Mov):Bool:=(((((Fw m&&m.give.all (Jq m))&&m.take.all Cg)&&m.ahead.all Ar)&&m.back.all Ar)&&Ll m)
def Ql (l:List Mov):Bool:=decide ((l.length:Int)≤8)&&l.all H4
/-! Columns behind moves. -/
def lv (e:Expr) (c:List Col) (w:Int):Bool:=((G5 e c).2==0)&&(((G5 e c).1==w) || ((G5 e c).1==0))
def Bu (c:List Col) (m:Mov):List Col:=
 if m.kind==3 then (if C6 (m.take.getD 0 []) c<0 then m.give else match m.give with
  | []=>[]
  | y::r=>⟨y.name,(c.getD (C6 (m.take.getD 0 []) c).toNat ⟨[],0⟩).kind⟩::r)
 else m.give
def Qm (e:Expr) (c:List Col) (w:Int):Int:=if (G5 e c).2 != 0 then (G5 e c).2 else if !lv e c w then 10 else 0
def Dr (over:List Col):List Expr→List Col→Int
 | x::r,w::ws=>if Qm x over w.kind != 0 then Qm x over w.kind else Dr over r ws
 | _,_=>0
def Il (c:List Col) (m:Mov):List Col:=m.take.map fun s=>c.getD (C6 s c).toNat ⟨[],0⟩
def Do (c:List Col) (m:Mov):List Col×Int:=
 if (Dt c m.take (Bu c m)).2 != 0 then ([],(Dt c m.take (Bu c m)).2)
 else if Dr c m.ahead (Bu c m) != 0 then ([],Dr c m.ahead (Bu c m))
 else if Dr (Dt c m.take (Bu c m)).1 m.back (Il c m) != 0 then ([],Dr (Dt c m.take (Bu c m)).1 m.back (Il c m))
 else ((Dt c m.take (Bu c m)).1,0)
/-- The columns ahead of each move and behind the last one, till one is wrong; the error. -/
def Ej (c:List Col):List Mov→List (List Col)×Int
 | []=>([c],0)
 | m::r=>if (Do c m).2 != 0 then ([c],(Do c m).2) else (c::(Ej (Do c m).1 r).1,(Ej (Do c m).1 r).2)
def V2 (c:List Col) (l:List Mov):Bool:=Ew c&&Ql l
/-- ref19.Steps. -/
def Lm (c:List Col) (l:List Mov):List (List Col)×Int:=if V2 c l then Ej c l else ([],1)
theorem ye {m:Mov} (h:H4 m=true):Fw m=true:=by
 unfold H4 at h
 simp only [Ah] at h
 exact h.1.1.1.1.1
theorem Ln {m:Mov} (h:Fw m=true):m.ahead.length=m.give.length∧m.back.length=m.take.length:=by
 unfold Fw at h
 split at h
 ·cases h
 rename_i h1
 simp only [Dg,bne_iff_ne,ne_eq,not_or,Classical.not_not] at h1
 omega
theorem Pi {m:Mov} (h:Fw m=true) (h3:((m.kind==3) || (m.kind==6))=true):m.take.length=1∧m.give.length=1:=by
 unfold Fw at h
 split at h
 ·cases h
 have h1:(m.kind==1)=false:=by simp at h3 ⊢;omega
 have h2:(m.kind==2)=false:=by simp at h3 ⊢;omega
 simp only [h1,h2,h3,if_true,if_false,An,Ah,beq_iff_eq] at h
 omega
theorem Ky (c:List Col) (m:Mov):(Bu c m).length=m.give.length:=by
 unfold Bu
 split
 ·split
  ·rfl
  split<;>simp_all
 rfl
set_option maxRecDepth 4000
theorem Io {n k:Nat} {o:Bool} {l:List Col}:Low n (.slice o k (l.map D8)):=by simp [or_imp,forall_and]
theorem AUv (c:List Col) (hc:OkCols c) (take:List Str) (ht:take.length≤1048576) (give:List Col) (hg:OkCols give) (hg2:give.length≤1000000) (Hp:List AObj):AFun Tryz.prog 186 [B0 c,En take,B0 give] Hp (.tup [B0 (Dt c take give).1,A5 (Dt c take give).2]):=by
 refine Aj [.tmp 6,.tmp 7] [0,1,2,9] Tryz.func186 Tryz.ntmps186 (fun d=>?_)
 refine Z1 ?_;refine A2 [0,1,2,9] ?_;refine Z25 ?_;refine A9 Tryz.call57 (c57 c hc _) ?_;refine A4 ?_;refine A2 [0,1,2,9,12] ?_
 refine A3 (fun ht12=>?_) (fun ht12=>?_)
 ·have hr:Ew c=false:=by rw [Hh] at ht12;simpa using ht12
  refine Xs ?_;exact ANt
 have hr:Ew c=true:=by rw [Hh] at ht12;simpa using ht12
 refine Re ?_;refine A9 Tryz.call241 (ASm c hc take ht _) ?_;refine A4 ?_;refine A2 [0,1,2,9,16] ?_
 refine A3 (fun ht16=>?_) (fun ht16=>?_)
 ·have hk:Hy c take=false:=by simpa using ht16
  refine Xs ?_;refine Z10 ?_;exact A8 (As A7 A7) ⟨by rw [ACn hr hk];try rfl,rfl⟩
 have hk:Hy c take=true:=by simpa using ht16
 refine Z3 ?_;refine Z34 ?_;refine A2 [0,1,2,8,9] ?_;refine Z89 ?_;refine R.nilOwn 0 2 ?_
 refine L8 (fun hlow=>?_)
 refine Z0 ?_;refine A9 Tryz.call242 (ASo c take _) ?_;refine A2 [2,8,9,19] ?_;refine J6 ?_
 refine Nh (m:=1) Tryz.call286 (fun FR as' bd' hFR has hbd=>?_)
 have hFRl:∀s,Low (Hp.length+3) (FR s):=by
  intro s
  rw [hFR]
  refine Og ?_
  revert s
  repeat (first|exact By|refine Bx (by simp [oid,or_imp,forall_and]<;>try omega) ?_)
 have hOl:∀{k:Nat},∀x∈[AObj.cells 27 [.slice true 2 ((Fd (c.take k) take).map D8)],AObj.defs,AObj.loop LoopState.ready none FR 41 #[20] as' bd' (oid Hp.length 1)],ObjLow (Hp.length+3) x:=by
  intro k x hx
  simp only [C0,Fb,or_false] at hx
  rcases hx with rfl|rfl|rfl
  ·intro y hy
   rw [Br.1 hy]
   exact Io
  ·trivial
  exact o5
 refine ⟨_,ASp (oid Hp.length 2) c take hc.len ht (fun k=>Hp++[AObj.cells 27 [.slice true 2 ((Fd (c.take k) take).map D8)],AObj.defs,AObj.loop LoopState.ready none FR 41 #[20] as' bd' (oid Hp.length 1)]) (fun k=>by simp) (by simp [oid]) (fun k x hx=>?_) (fun k y hk hcn=>by simp only [cg hk hcn]) (fun k y X hk hcn=>?_),?_⟩
 ·have:=Lz (fun x hx=>P4 (by omega) (hlow x hx)) hOl x hx
  simpa using this
 ·generalize hV:Hp++[AObj.cells 27 [.slice true 2 ((Fd (c.take k) take).map D8)],AObj.defs,AObj.loop LoopState.ready none FR 41 #[20] as' bd' (oid Hp.length 1)]++X=V
  have hL:V[oid Hp.length 2]? = some (AObj.loop LoopState.ready none FR 41 #[20] as' bd' (oid Hp.length 1)):=by rw [←hV,C1,Bv];rfl
  have hA0:V[oid Hp.length 0]? = some (AObj.cells 27 [.slice true 2 ((Fd (c.take k) take).map D8)]):=by rw [←hV,C1,Bv];rfl
  refine Na (pd:=none) (fr:=FR) (sz:=41) (ps:=#[20]) (df:=oid Hp.length 1) (asg:=as') (bd:=bd') hL rfl (by decide) (fun d=>?_)
  subst hFR has hbd
  refine Di [8,20] ?_;refine ABm ?_;refine A2 [8,9] ?_
  refine ⟨rfl,none,hL,?_⟩
  generalize hbz:(AObj.loop LoopState.busy _ _ _ _ _ _ _)=bz
  have hA:(V.set (oid Hp.length 2) bz)[oid Hp.length 0]? = some (AObj.cells 27 [.slice true 2 ((Fd (c.take k) take).map D8)]):=by rw [F8 (E8 (by decide))];exact hA0
  refine J6 ?_;refine Kd ?_;refine R.loadUpT jA hA ?_;refine fc ?_
  refine Gz jU Tryz.type41 ?_ ?_ ?_
  ·have h1:=J1 (c.take k) take;have h2:=hc.len;simp only [E7] at h1;simp [Tryz.t41];omega
  ·have h1:=J1 (c.take k) take;have h2:=hc.len;simp only [E7] at h1;simp [Tryz.t41];omega
  refine eu jS (Ay hA) ?_ ?_
  ·exact xh
  refine fe ?_
  subst hbz
  refine AG8 ?_
  refine ⟨rfl,?_⟩
  subst hV
  simp only [C1,Fu,Ef,Dx,List.set_cons_succ,List.set_cons_zero]
  rw [sc hk hcn,Cs]
  rfl
 rintro r H' rfl
 simp only [Pr]
 refine ⟨Hp,_,_,_,rfl,rfl,fun h=>h,?_,rfl,by simp,?_⟩
 ·intro o ho
  have:o=oid Hp.length 1:=by simpa using ho
  subst this
  rw [Bv]
  rfl
 refine Z12 ?_;refine E9 ?_;refine R.loadOwnT jA ?_;refine A4 ?_
 refine Gz jU Tryz.type41 ?_ ?_ ?_
 ·have h1:=J1 c take;have h2:=Mu hr;simp [Tryz.t41];omega
 ·have h1:=J1 c take;have h2:=Mu hr;simp [Tryz.t41];omega
 refine R.storeOwnT jS ?_;refine A2 [8] ?_;refine Wc ?_
 have e10:(Fd c take).map D8++give.map D8=(Fd c take++give).map D8:=(Cs ..).symm
 rw [e10]
 generalize hout:Fd c take++give=out
 have ho:OkCols out:=pt hc hr hg hg2 hout
 refine A4 ?_;refine A9 Tryz.call243 (ASn out ho _) ?_;refine Z0 ?_;refine A2 [8,28] ?_
 refine A3 (fun ht28=>?_) (fun ht28=>?_)
 ·have hn:J0 out=false:=by simpa using ht28
  refine Xs ?_;refine Z13 ?_;exact A8 (As A7 A7) ⟨by rw [ACo hr hk hout hn];try rfl,rfl⟩
 have hn:J0 out=true:=by simpa using ht28
 refine Z2 ?_;refine A9 Tryz.call36 (c36 out ho _) ?_;refine Z0 ?_;refine A2 [8,32] ?_
 refine A3 (fun ht32=>?_) (fun ht32=>?_)
 ·have hq:J8 out=false:=by rw [Nr] at ht32;simpa using ht32
  refine Xs ?_;refine Z13 ?_;exact A8 (As A7 A7) ⟨by rw [ACp hr hk hout hn hq];try rfl,rfl⟩
 have hq:J8 out=true:=by rw [Nr] at ht32;simpa using ht32
 refine Z21 ?_;refine A2 [8,36] ?_
 refine A3 (fun ht36=>?_) (fun ht36=>?_)
 ·have h12:12<out.length:=by simp at ht36;omega
  refine Xs ?_;refine Z13 ?_;exact A8 (As A7 A7) ⟨by rw [ACq hr hk hout hn hq h12];try rfl,rfl⟩
 have h12:¬12<out.length:=by simp at ht36;omega
 refine Z18 ?_;refine Z14 ?_;refine A2 [6,7] ?_;refine Fg ?_;exact A8 (As A7 A7) ⟨by rw [ACr hr hk hout hn hq h12];try rfl,rfl⟩

theorem c6u (c:List Col) (Hp:List AObj):AFun Tryz.prog 10 [B0 c] Hp (At (O4 c)):=by
 refine Aj [.tmp 2] [0] Tryz.func10 Tryz.ntmps10 (fun d=>?_)
 refine Z56 ?_;refine Z31 ?_;refine A2 [0,6] ?_
 refine A3 (fun ht6=>?_) (fun ht6=>?_)
 ·rw [B8] at ht6
  have hm:O4 c=true:=by unfold O4;rw [ht6];rfl
  refine Z26 ?_;exact AFk
 rw [B8] at ht6
 have hl50:c.length≤50:=by simp at ht6;omega
 refine Nk ?_;refine Lr ?_
 refine B9 (α:=Nat) (fun x=>⟨20,Aa 0 (B0 c) (Aa 3 (A5 (x:Nat)) (fun _=>.any)),Hp,[],[],none⟩) (fun x=>x≤c.length∧∀(j:Nat) (v:Col),j<x→c[j]? = some v→decide ((100:Int)<(v.name.length:Int))=false) (fun x=>c.length-x) (0) ⟨Av _,fun j v h=>by omega⟩ (Az (by simp)) rfl (fun x hx=>?_)
 refine Z46 ?_;refine A2 [0,3,10] ?_
 refine A3 (fun ht10=>?_) (fun ht10=>?_)
 ·have hlt:x<c.length:=by simpa using ht10
  refine Xt ?_
  refine A4 (h:=Ad (x) (D8 c[x]) (fun _=>B3 hlt)) (hr:=?_)
  refine Z72 ?_;refine A2 [0,3,19] ?_
  refine A3 (fun ht19=>?_) (fun ht19=>?_)
  ·have hm:O4 c=true:=by unfold O4;rw [Dg];exact .inr (M5.2 ⟨c[x],Bb hlt,ht19⟩)
   refine Z26 ?_;exact AB3
  refine Z18 ?_;refine Z48 ?_
  refine A4 (h:=Q.add64 (h1:=fun _=>by omega) (h2:=fun _=>by omega)) (hr:=?_)
  refine A4 ?_;refine Lr ?_;refine B2 (x+1) ⟨hlt,D3 hlt hx.2 ht19⟩ (by omega) ?_;exact Bz (by simp)
 have hxe:c.length≤x:=by simpa using ht10
 have hm:O4 c=false:=by
  unfold O4
  rw [ht6,Cj,R2]
  intro v hv
  obtain ⟨j,hj⟩:=Cr hv
  have:=hx.2 j v (by have:=(Ak.1 hj).1;omega) hj
  rw [this]
  simp
 refine Z52 ?_;exact AKi

theorem My {α:Type} {p:α→Bool} {l:List α} {x:Nat} (h:l.length≤x) (hp:∀(j:Nat) (v:α),j<x→l[j]? = some v→p v=false):l.any p=false:=by
 rw [R2]
 intro v hv
 obtain ⟨j,hj⟩:=Cr hv
 rw [hp j v (by have:=(Ak.1 hj).1;omega) hj]
 simp
theorem th {n:Nat} {m:Mov}:∀y∈Ph m,Low n y:=by
 intro y hy
 simp only [Ph,C0,Fb,or_false] at hy
 rcases hy with rfl|rfl|rfl|rfl|rfl<;>simp [or_imp,forall_and,Ag]
theorem ADu {n:Nat} {m:Mov}:Low n (Ir m):=Go.SX.low_agg.2 th
theorem ADv {n k:Nat} {o:Bool} {l:List Mov}:Low n (.slice o k (l.map Ir)):=low_slice.2 fun y hy=>by
 obtain ⟨m,_,rfl⟩:=Dm.1 hy
 exact ADu
theorem Ib {α:Type} {p:α→Bool} (l:List α):(l.any fun s => !(p s)) = !(l.all p):=by
 induction l with
 | nil=>rfl
 | cons a r ih=>rw [List.any_cons,List.all_cons,ih];cases p a<;>simp
theorem AQn (l:List Expr) (h:OkEs l) (Hp:List AObj):AFun Tryz.prog 149 [Jp l] Hp (At (l.all Ax)):=by
 refine Aj [.tmp 2] [0] Tryz.func149 Tryz.ntmps149 (fun d=>?_)
 refine Z56 ?_;refine Z25 ?_;refine Lr ?_
 refine B9 (α:=Nat) (fun x=>⟨16,Aa 0 (Jp l) (Aa 3 (A5 (x:Nat)) (fun _=>.any)),Hp,[],[],none⟩) (fun x=>x≤l.length∧∀(j:Nat) (v:Expr),j<x→l[j]? = some v→(!Ax v)=false) (fun x=>l.length-x) (0) ⟨Av _,fun j v h=>by omega⟩ (Az (by simp)) rfl (fun x hx=>?_)
 refine Z46 ?_;refine A2 [0,3,7] ?_
 refine A3 (fun ht7=>?_) (fun ht7=>?_)
 ·have hlt:x<l.length:=by simpa using ht7
  have hlen:=h.len
  refine Xt ?_
  refine A4 (h:=Ad (x) (Ab l[x]) (fun _=>B3 hlt)) (hr:=?_)
  refine A4 ?_;refine A9 Tryz.call22 (c22 61 l[x] (h.ok _ (Bb hlt)) (by decide) (h.size _ (Bb hlt)) _) ?_;refine A4 ?_;refine A2 [0,3,15] ?_
  refine A3 (fun ht15=>?_) (fun ht15=>?_)
  ·have hm:l.all Ax=false:=by rw [Od];exact ⟨_,Bb hlt,by simpa using ht15⟩
   refine Z26 ?_;exact AB3
  refine Z87 ?_;refine Lr ?_;exact B2 (x+1) ⟨hlt,D3 hlt hx.2 ht15⟩ (by omega) (Bz rfl)
 have hxe:l.length≤x:=by simpa using ht7
 have hm:l.all Ax=true:=by have:=My hxe hx.2;rw [Ib] at this;simpa using this
 refine Z52 ?_;exact AKi

theorem Zn (k w:Int) (Hp:List AObj):AFun Tryz.prog 250 [A5 k,A5 w] Hp (At (Ff k w)):=by
 refine Aj [.tmp 4] [0,1] Tryz.func250 Tryz.ntmps250 (fun d=>?_)
 refine Z60 ?_;refine Z14 ?_;refine Z67 ?_;exact nt

theorem AUw (n:Nat) (e:Expr) (hok:okE n e) (hn:n≤1048576) (c:List Col) (hc:OkCols c) (w:Int) (Hp:List AObj):AFun Tryz.prog 244 [Ab e,B0 c,A5 w] Hp (At (lv e c w)):=by
 refine Aj [.tmp 6] [0,1,2] Tryz.func244 Tryz.ntmps244 (fun d=>?_)
 refine Z1 ?_;refine A2 [1,2,3] ?_;refine Z1 ?_;refine A9 Tryz.call13 (c13 n e hok hn c hc _) ?_;refine L9 ?_;refine A2 [2,7,8] ?_;refine Z14 ?_;refine Z70 ?_;refine Z67 ?_;refine AB2 ?_;exact A8 (Ai A7) ⟨by unfold lv;rfl,rfl⟩

theorem Fc {ks:List Int} {i:Nat} (h:i<ks.length):(ks.map A5)[i]? = some (A5 (ks.getD i 0)):=by
 rw [Cp,Ae h,Cz,Ae h]
 rfl
theorem AM0 {e:Expr} (h:Ch e=true) (h3:(e.op==3)=true):e.kids.length=1:=by
 have h3':e.op=3:=by simpa using h3
 have:=Mv h (by rw [h3'];rfl) (by rw [h3'];rfl)
 rw [←this,h3'];rfl
theorem AM1 {e:Expr} (h:Ch e=true) (h4:(e.op==4)=true):e.kids.length=1:=by
 have h4':e.op=4:=by simpa using h4
 have:=Mv h (by rw [h4'];rfl) (by rw [h4'];rfl)
 rw [←this,h4'];rfl
theorem i3 {e:Expr} (h:Ch e=true) (h5:(e.op==5)=true):e.kids.length=2:=by
 have h5':e.op=5:=by simpa using h5
 have:=Mv h (by rw [h5'];rfl) (by rw [h5'];rfl)
 rw [←this,h5']
 exact Ro _
theorem AM2 {e:Expr} (h:Ch e=true) (h1:(e.op==1)=false) (h2:(e.op==2)=false) (h3:(e.op==3)=false) (h4:(e.op==4)=false) (h5:(e.op==5)=false):e.kids.length=(G8 e.text).kids.length:=by
 have:=Mv h h1 h2
 rw [←this]
 unfold Qw
 rw [h3,h4,h5]
 rfl
theorem AHr {a b:Bool} (h:(a&&b)=true):a=true:=by cases a<;>simp_all
theorem AUx (c:List Col) (hc:OkCols c):∀(n:Nat) (e:Expr),okE n e→Bq Ch e=true→∀Hp:List AObj,AFun Tryz.prog 196 [Ab e,B0 c] Hp (.tup [A5 (F4 c e).1,A5 (F4 c e).2]):=by
 intro n
 induction n with
 | zero=>exact fun e h=>h.elim
 | succ n ih =>
 intro e hok hnd Hp
 have hnd0:=hnd
 rw [Cb,Ah] at hnd0
 refine Aj [.tmp 4,.tmp 5] [0,1] Tryz.func196 Tryz.ntmps196 (fun d=>?_)
 refine ABj ?_;refine Z31 ?_;refine A2 [1,2,17] ?_
 refine A3 (fun ht17=>?_) (fun ht17=>?_)
 ·have hk:=l9 (c:=c) ht17
  refine fh ?_;exact AKe
 refine Nm ?_;refine A2 [1,2,23] ?_
 refine A3 (fun ht23=>?_) (fun ht23=>?_)
 ·have hk:=cx (c:=c) ht17 ht23
  refine Z14 ?_;refine A9 Tryz.call25 (c25 c hc e.text _) ?_;refine A4 ?_;refine A2 [1,6] ?_;refine Z8 ?_;refine A2 [1,6,29] ?_
  refine A3 (fun ht29=>?_) (fun ht29=>?_)
  ·have hk2:Vu c e.text=(0,9):=if_pos (by simpa using ht29)
   refine vz ?_;refine Fm ?_;exact AGa
  have hneg:¬(C6 e.text c<0):=by simpa using ht29
  obtain ⟨j,hj,hjl⟩:=J4 hneg
  have hk2:Vu c e.text=(c[j].kind,0):=by
   unfold Vu
   rw [if_neg hneg,hj,Int.toNat_natCast,Cz,Ae hjl]
   rfl
  rw [hj]
  refine Z98 ?_
  refine A4 (h:=Ad (j) (D8 c[j]) (fun _=>B3 hjl)) (hr:=?_)
  refine Z72 ?_;refine Z68 ?_;exact AGa
 refine Xr ?_;refine j3 ?_;refine A2 [1,2,7] ?_;refine Z25 ?_;refine A2 [1,2,7,8] ?_
 refine B9 (α:=Nat) (fun x=>⟨237,Aa 1 (B0 c) (Aa 2 (.ro (B7 e)) (Aa 7 (.slice true 1 (((e.kids.take x).map fun y=>(F4 c y).1).map A5)) (Aa 8 (A5 (x:Nat)) (fun _=>.any)))),Hp,[],[],none⟩) (fun x=>x≤e.kids.length∧∀(j:Nat) (y:Expr),j<x→e.kids[j]? = some y→((F4 c y).2 != 0)=false) (fun x=>e.kids.length-x) (0) ⟨Av _,fun j y h=>by omega⟩ (Az (by simp)) rfl (fun x hx=>?_)
 refine O8 ?_;refine A2 [1,2,7,8,40] ?_
 refine A3 (fun ht40=>?_) (fun ht40=>?_)
 ·have hlt:x<e.kids.length:=by simpa using ht40
  have hkl:=hok.2.1
  refine jh ?_
  refine A4 (h:=Ad (x) (Ab e.kids[x]) (fun _=>B3 hlt)) (hr:=?_)
  refine Z0 ?_;refine A9 Tryz.call196 (ih e.kids[x] (hok.2.2 _ (Bb hlt)) ((Bd _ _).1 hnd0.2 _ (Bb hlt)) _) ?_;refine L9 ?_;refine A2 [1,2,7,8,9,10] ?_;refine Z8 ?_;refine A2 [1,2,7,8,9,10,54] ?_
  refine A3 (fun ht54=>?_) (fun ht54=>?_)
  ·have hkb:=la (c:=c) ht17 ht23 hlt hx.2 ht54
   refine Z14 ?_;refine Z68 ?_;exact AOd
  refine Z3 ?_;refine j6 ?_;refine fc ?_
  refine Gz jU Tryz.type3 ?_ ?_ ?_
  ·simp only [B8,E7,B6,Bc,Tryz.t3];omega
  ·simp only [B8,E7,B6,Bc,Tryz.t3];omega
  refine Jh ?_;refine A2 [1,2,7,8] ?_;refine Me ?_;refine A2 [1,2,7,8] ?_
  refine B2 (x+1) ⟨hlt,D3 hlt hx.2 ht54⟩ (by omega) (Bz ?_)
  simp only [show Tryz.t3.size=1 from rfl,cy]
  rfl
 have hxe:e.kids.take x=e.kids:=Dn (by simp at ht40;omega)
 have hka:=lb (c:=c) ht17 ht23 (fun j y hj hy=>hx.2 j y (by have:=hx.1;simp at ht40;omega) hy)
 have hrf:=AHq hnd0.1 ht17 ht23 (ks:=e.kids.map fun y=>(F4 c y).1) (by simp)
 have hks:(e.kids.map fun y=>(F4 c y).1).length=e.kids.length:=by simp
 rw [hxe]
 generalize (e.kids.map fun y=>(F4 c y).1)=ks at *
 refine Z52 ?_;refine Z1 ?_;refine A2 [2,7,12] ?_
 refine Hw ⟨237,Aa 11 (A5 (H1 e.op e.text ks).1) (Aa 12 (At (H1 e.op e.text ks).2) (fun _=>.any)),Hp,[],[],none⟩ ?_ ?_
 ·refine J6 ?_;refine Z21 ?_;refine A2 [2,7,12,94] ?_
  refine A3 (fun ht94=>?_) (fun ht94=>?_)
  ·have hl:=AM0 hnd0.1 ht94
   refine Z48 ?_
   refine A4 (h:=Ad (0) (A5 (ks.getD 0 0)) (fun _=>Fc (by omega))) (hr:=?_)
   refine AKj ?_;refine Z0 ?_;refine Xq ?_
   unfold H1
   simp only [ht17,ht23,ht40,ht94,Es,Dc,Dd,Cj,An,↓reduceIte]<;>rfl
  refine Z21 ?_;refine A2 [2,7,12,102] ?_
  refine A3 (fun ht102=>?_) (fun ht102=>?_)
  ·have hl:=AM1 hnd0.1 ht102
   refine Z48 ?_
   refine A4 (h:=Ad (0) (A5 (ks.getD 0 0)) (fun _=>Fc (by omega))) (hr:=?_)
   refine A4 ?_;refine A9 Tryz.call250 (Zn (ks.getD 0 0) 3 _) ?_;refine Z0 ?_;refine Xq ?_
   unfold H1
   simp only [ht17,ht23,ht40,ht94,ht102,Es,Dc,Dd,Cj,An,↓reduceIte]<;>rfl
  refine Z21 ?_;refine ap ?_;refine Z0 ?_;refine A2 [2,7,12,110] ?_
  refine A3 (fun ht110=>?_) (fun ht110=>?_)
  ·have hl:=i3 hnd0.1 (AHr ht110)
   refine Z48 ?_
   refine A4 (h:=Ad (0) (A5 (ks.getD 0 0)) (fun _=>Fc (by omega))) (hr:=?_)
   refine A4 ?_;refine A9 Tryz.call250 (Zn (ks.getD 0 0) 3 _) ?_;refine o0 ?_
   refine Bl (h:=Ad (1) (A5 (ks.getD 1 0)) (fun _=>Fc (by omega))) (hr:=?_)
   refine Bl ?_;refine Bk Tryz.call250 (fun hB=>Zn (ks.getD 1 0) 3 _) ?_;refine Z11 ?_;refine Xq ?_
   unfold H1
   simp only [ht17,ht23,ht40,ht94,ht102,ht110,Es,Dc,Dd,Cj,An,↓reduceIte]<;>rfl
  refine Z21 ?_;refine Z5 ?_;refine Bk Tryz.call147 (fun hB=>AH5 e.text _) ?_;refine U7 ?_;refine A2 [2,7,12,134] ?_
  refine A3 (fun ht134=>?_) (fun ht134=>?_)
  ·have hl:=i3 hnd0.1 (AHr ht134)
   refine U6 [0,1,3,7,15,31,63,127,31,287,799,2047,4095,4095,16383] 14 Am (by kernel_rfl) ?_;refine Aq ?_
   refine Aq (h:=Ad (0) (A5 (ks.getD 0 0)) (fun _=>Fc (by omega))) (hr:=?_)
   refine Z37 ?_;refine Fh ?_
   refine Fh (h:=Ad (1) (A5 (ks.getD 1 0)) (fun _=>Fc (by omega))) (hr:=?_)
   refine Z57 ?_
   refine Fh (h:=Ad (0) (A5 (ks.getD 0 0)) (fun _=>Fc (by omega))) (hr:=?_)
   refine Fh ?_;refine Xj Tryz.call250 (fun hB=>Zn (ks.getD 1 0) (ks.getD 0 0) _) ?_;refine Z85 ?_;refine A4 ?_;refine Xq ?_
   unfold H1
   simp only [ht17,ht23,ht40,ht94,ht102,ht110,ht134,Es,Dc,Dd,Cj,An,↓reduceIte]<;>rfl
  refine O7 ?_;refine A2 [2,7,12,157] ?_
  refine A3 (fun ht157=>?_) (fun ht157=>?_)
  ·have hl:=i3 hnd0.1 (AHr ht157)
   refine Z48 ?_
   refine A4 (h:=Ad (0) (A5 (ks.getD 0 0)) (fun _=>Fc (by omega))) (hr:=?_)
   refine AKk ?_;refine o0 ?_
   refine Bl (h:=Ad (1) (A5 (ks.getD 1 0)) (fun _=>Fc (by omega))) (hr:=?_)
   refine Bl ?_;refine Bk Tryz.call250 (fun hB=>Zn (ks.getD 1 0) 2 _) ?_;refine Z11 ?_;refine Xq ?_
   unfold H1
   simp only [ht17,ht23,ht40,ht94,ht102,ht110,ht134,ht157,Es,Dc,Dd,Cj,An,↓reduceIte]<;>rfl
  refine Z21 ?_;refine A2 [2,7,12,176] ?_
  refine A3 (fun ht176=>?_) (fun ht176=>?_)
  ·have hl:=i3 hnd0.1 ht176
   rw [ht176,Dc] at ht110 ht134 ht157
   refine Z48 ?_
   refine A4 (h:=Ad (0) (A5 (ks.getD 0 0)) (fun _=>Fc (by omega))) (hr:=?_)
   refine AKj ?_;refine o0 ?_
   refine Bl (h:=Ad (1) (A5 (ks.getD 1 0)) (fun _=>Fc (by omega))) (hr:=?_)
   refine Bl ?_;refine Bk Tryz.call250 (fun hB=>Zn (ks.getD 1 0) 1 _) ?_;refine Z11 ?_;refine Xq ?_
   unfold H1
   simp only [ht17,ht23,ht40,ht94,ht102,ht110,ht134,ht157,ht176,Es,Dc,Dd,Cj,An,↓reduceIte]<;>rfl
  have hl0:=AM2 hnd0.1 ht17 ht23 ht94 ht102 ht176
  unfold G8 at hl0
  refine O7 ?_;refine A2 [2,7,12,190] ?_
  refine A3 (fun ht190=>?_) (fun ht190=>?_)
  ·have hl:e.kids.length=1:=by rw [hl0,if_pos ht190];rfl
   refine Z48 ?_
   refine A4 (h:=Ad (0) (A5 (ks.getD 0 0)) (fun _=>Fc (by omega))) (hr:=?_)
   refine AKk ?_;refine Z0 ?_;refine Xq ?_
   unfold H1
   simp only [ht17,ht23,ht40,ht94,ht102,ht110,ht134,ht157,ht176,ht190,Es,Dc,Dd,Cj,An,↓reduceIte]<;>rfl
  rw [if_neg (by rw [ht190];simp)] at hl0
  refine Z21 ?_;refine A2 [2,7,12,203] ?_
  refine A3 (fun ht203=>?_) (fun ht203=>?_)
  ·have hl:e.kids.length=1:=by rw [hl0,if_pos ht203];rfl
   refine Z48 ?_
   refine A4 (h:=Ad (0) (A5 (ks.getD 0 0)) (fun _=>Fc (by omega))) (hr:=?_)
   refine AKj ?_;refine Z0 ?_;refine Xq ?_
   unfold H1
   simp only [ht17,ht23,ht40,ht94,ht102,ht110,ht134,ht157,ht176,ht190,ht203,Es,Dc,Dd,Cj,An,↓reduceIte]<;>rfl
  rw [if_neg (by rw [ht203];simp)] at hl0
  refine O7 ?_;refine A2 [2,7,12,211] ?_
  refine A3 (fun ht211=>?_) (fun ht211=>?_)
  ·have hl:e.kids.length=2:=by rw [hl0,if_pos ht211];rfl
   refine Z48 ?_
   refine A4 (h:=Ad (0) (A5 (ks.getD 0 0)) (fun _=>Fc (by omega))) (hr:=?_)
   refine AKk ?_;refine o0 ?_
   refine Bl (h:=Ad (1) (A5 (ks.getD 1 0)) (fun _=>Fc (by omega))) (hr:=?_)
   refine Bl ?_;refine Bk Tryz.call250 (fun hB=>Zn (ks.getD 1 0) 1 _) ?_;refine Z11 ?_;refine Xq ?_
   unfold H1
   simp only [ht17,ht23,ht40,ht94,ht102,ht110,ht134,ht157,ht176,ht190,ht203,ht211,Es,Dc,Dd,Cj,An,↓reduceIte]<;>rfl
  rw [if_neg (by rw [ht211];simp)] at hl0
  refine Z21 ?_;refine A2 [2,7,12,230] ?_
  refine A3 (fun ht230=>?_) (fun ht230=>?_)
  ·have hl:e.kids.length=1:=by rw [hl0,if_pos ht230];rfl
   refine Z48 ?_;refine Xq ?_
   unfold H1
   simp only [ht17,ht23,ht40,ht94,ht102,ht110,ht134,ht157,ht176,ht190,ht203,ht211,ht230,Es,Dc,Dd,Cj,An,↓reduceIte]<;>rfl
  rw [if_neg (by rw [ht230];simp)] at hl0
  have hl:2≤e.kids.length:=by rw [hl0];split<;>simp
  have hl3:=hok.2.1
  refine C3 [0,0,2,6,15,31,0,0,128,384,960,1984,63,8191] 13 Am (by kernel_rfl) ?_;refine Z37 ?_
  rw [B8]
  refine Aq ?_
  refine Aq (h:=Ad ((ks.length-2)) (A5 (ks.getD (ks.length-2) 0)) (fun _=>Fc (by omega))) (hr:=?_)
  refine O6 ?_
  rw [B8]
  refine Aq ?_
  refine Aq (h:=Ad ((ks.length-1)) (A5 (ks.getD (ks.length-1) 0)) (fun _=>Fc (by omega))) (hr:=?_)
  refine Z85 ?_;refine A4 ?_;refine A2 [2,7,13,14] ?_;refine Xv ?_;refine Bk Tryz.call250 (fun hB=>Zn (ks.getD (ks.length-1) 0) (ks.getD (ks.length-2) 0) _) ?_;refine Z42 ?_;refine Z27 ?_
  refine Bl (h:=Ad (0) (A5 (ks.getD 0 0)) (fun _=>Fc (by omega))) (hr:=?_)
  refine Bl ?_;refine Bk Tryz.call250 (fun hB=>Zn (ks.getD 0 0) 3 _) ?_;refine U7 ?_;refine A2 [12,13,14] ?_;refine Z1 ?_;refine A2 [11,12,13,14] ?_;refine Z1 ?_;refine A2 [11,12,14,92] ?_
  refine A3 (fun ht92=>?_) (fun ht92=>?_)
  ·refine Z29 ?_;refine Xq ?_
   unfold H1
   simp only [ht17,ht23,ht40,ht94,ht102,ht110,ht134,ht157,ht176,ht190,ht203,ht211,ht230,ht92,Es,Dc,Dd,Cj,An,↓reduceIte]<;>rfl
  refine Di [11,12] ?_;refine Jf ?_;refine Z76 ?_;refine Az ?_
  unfold H1
  simp only [ht17,ht23,ht40,ht94,ht102,ht110,ht134,ht157,ht176,ht190,ht203,ht211,ht230,ht92,Es,Dc,Dd,Cj,An,↓reduceIte]<;>rfl
 refine Z8 ?_;refine A2 [11,235] ?_
 refine A3 (fun ht235=>?_) (fun ht235=>?_)
 ·refine vz ?_;exact APk
 refine Nl ?_;refine Z73 ?_;exact APk
theorem AUy (n:Nat) (e:Expr) (hok:okE n e) (hn:n≤1048576) (hs:sizeE e≤1048576) (c:List Col) (hc:OkCols c) (Hp:List AObj):AFun Tryz.prog 150 [Ab e,B0 c] Hp (.tup [A5 (G5 e c).1,A5 (G5 e c).2]):=by
 refine Aj [.tmp 4,.tmp 5] [0,1] Tryz.func150 Tryz.ntmps150 (fun d=>?_)
 refine ABj ?_;refine Z25 ?_;refine A9 Tryz.call22 (c22 n e hok hn hs _) ?_;refine Wf ?_;refine Bk Tryz.call60 (fun hB=>c60 c hc _) ?_;refine Z92 ?_;refine A2 [1,2,13] ?_
 refine A3 (fun ht13=>?_) (fun ht13=>?_)
 ·have hk:G5 e c=(0,1):=by unfold G5;rw [C4,Nr,if_pos ht13]
  refine Z1 ?_;exact AKe
 have hk:G5 e c=F4 c e:=by unfold G5;rw [C4,Nr,if_neg (by rw [ht13];simp)]
 have hr:Ar e=true:=by rw [C4];simp only [Df,Ka] at ht13;exact ht13.1
 refine Z98 ?_;refine A9 Tryz.call196 (AUx c hc n e hok (K7 hr) _) ?_;refine Z72 ?_;exact AOj

theorem lw {e:Expr} {c:List Col} {w:Int} (h:((G5 e c).2 != 0)=false):((((G5 e c).1 != 0)&&((G5 e c).1 != w))) = !lv e c w:=by
 unfold lv
 have h0:(G5 e c).2=0:=by simpa using h
 rw [h0]
 show (!((G5 e c).1==0) && !((G5 e c).1==w)) = !(true&&(((G5 e c).1==w) || ((G5 e c).1==0)))
 cases (G5 e c).1==0<;>cases (G5 e c).1==w<;>rfl
theorem AHs {c:List Col} {m:Mov} (h:(m.kind==3)=false):Bu c m=m.give:=by unfold Bu;rw [if_neg (by rw [h];simp)]
theorem tj {c:List Col} {m:Mov} {s:Str} {y:Col} (h:(m.kind==3)=true) (ht:m.take=[s]) (hg:m.give=[y]) (hf:C6 s c<0):Bu c m=[y]:=by
 unfold Bu
 rw [if_pos h,ht,hg]
 exact if_pos hf
theorem lx {c:List Col} {m:Mov} {s:Str} {y:Col} (h:(m.kind==3)=true) (ht:m.take=[s]) (hg:m.give=[y]) (hf:¬C6 s c<0):Bu c m=[⟨y.name,(c.getD (C6 s c).toNat ⟨[],0⟩).kind⟩]:=by
 unfold Bu
 rw [if_pos h,ht,hg]
 exact if_neg hf
theorem lz (l:List Col):∀x∈l.map D8,x.cells.length=2:=by
 intro x hx
 obtain ⟨c,_,rfl⟩:=Dm.1 hx
 rfl
theorem tm {c:Col} {y:AV} (h:y∈(D8 c).cells):y=Ac c.name∨y=A5 c.kind:=by
 have h':y∈[Ac c.name,A5 c.kind]:=h
 simpa using h'
theorem m3 (l:List Col):∀x∈l.map D8,∀y∈x.cells,y.one=true:=by
 intro x hx y hy
 obtain ⟨c,_,rfl⟩:=Dm.1 hx
 rcases tm hy with rfl|rfl<;>rfl
theorem Zo (l:List Col):∀x∈l.map D8,∀y∈x.cells,y.strip=y:=by
 intro x hx y hy
 obtain ⟨c,_,rfl⟩:=Dm.1 hx
 rcases tm hy with rfl|rfl<;>rfl
theorem i4 {α:Type} {l:List α} (h:l.length=1):∃y,l=[y]:=by
 match l,h with
 | [y],_=>exact ⟨y,rfl⟩
theorem X1 {c:List Col} {s:Str} (hf:¬C6 s c<0):(c.map D8)[(C6 s c).toNat]? = some (D8 (c.getD (C6 s c).toNat ⟨[],0⟩)):=by
 obtain ⟨j,hj,hjl⟩:=J4 hf
 rw [hj,Int.toNat_natCast,Cp,Ae hjl,Cz,Ae hjl]
 rfl
theorem AQo (n:Nat) (e:Expr) (hok:okE n e) (hn:n≤1048576) (hs:sizeE e≤1048576) (w:Int) (c:List Col) (hc:OkCols c) (Hp:List AObj):AFun Tryz.prog 109 [Ab e,A5 w,B0 c] Hp (A5 (Qm e c w)):=by
 refine Aj [.tmp 6] [0,1,2] Tryz.func109 Tryz.ntmps109 (fun d=>?_)
 refine Z1 ?_;refine A2 [1,2,3] ?_;refine Z1 ?_;refine A9 Tryz.call150 (AUy n e hok hn hs c hc _) ?_;refine L9 ?_;refine A2 [1,7,8] ?_;refine Z8 ?_;refine A2 [1,7,8,16] ?_
 refine A3 (fun ht16=>?_) (fun ht16=>?_)
 ·have hm:Qm e c w=(G5 e c).2:=if_pos ht16
  refine Z1 ?_;refine A2 [6] ?_;exact Z66
 refine Nm ?_;refine Mf ?_;refine A2 [24] ?_
 refine A3 (fun ht24=>?_) (fun ht24=>?_)
 ·rw [lw ht16] at ht24
  have hm:Qm e c w=10:=by unfold Qm;rw [if_neg (by rw [ht16];simp),if_pos ht24]
  refine vq ?_;exact Z66
 rw [lw ht16] at ht24
 have hm:Qm e c w=0:=by unfold Qm;rw [if_neg (by rw [ht16];simp),if_neg (by rw [ht24];simp)]
 refine Z58 ?_;exact AOr

theorem AUz (c:List Col) (hc:OkCols c) (m:Mov) (h:OkMov m) (h3:(m.kind==3)=false) (Hp:List AObj):AFun Tryz.prog 107 [B0 c,Ir m] Hp (B0 (Bu c m)):=by
 refine Aj [.tmp 4] [0,1] Tryz.func107 Tryz.ntmps107 (fun d=>?_)
 refine nx ?_;refine E9 ?_;refine Sq ?_;refine Z0 ?_
 refine Gz jU Tryz.type41 ?_ ?_ ?_
 ·have:=h.gives2;simp [Tryz.t41];omega
 ·have:=h.gives2;simp [Tryz.t41];omega
 refine Jh ?_;refine AG7 ?_;refine A2 [0,3,5,13] ?_
 refine A3 (fun ht13=>?_) (fun ht13=>?_)
 ·rw [h3] at ht13;cases ht13
 refine Z98 ?_;exact AO4

theorem AV0 (c:List Col) (hc:OkCols c) (m:Mov) (h:OkMov m) (h3:(m.kind==3)=true) (s:Str) (y:Col) (ht:m.take=[s]) (hg:m.give=[y]) (Hp:List AObj):AFun Tryz.prog 107 [B0 c,Ir m] Hp (B0 (Bu c m)):=by
 have hgv:=tj (c:=c) h3 ht hg
 have hgy:=lx (c:=c) h3 ht hg
 obtain ⟨kd,tk,gv,ah,bk⟩:=m
 simp only at ht hg h3
 subst ht hg
 refine Aj [.tmp 4] [0,1] Tryz.func107 Tryz.ntmps107 (fun d=>?_)
 refine nx ?_;refine E9 ?_;refine R.buildObj0 (n:=0) jU Tryz.sizeOf41 ?_;refine Z0 ?_
 refine R.appendObj (k:=2) (n:=1) jU Tryz.type41 (show [D8 y]≠[] by simp) ?_ ?_ (fun cc hcc=>?_)
 ·simp [Tryz.t41]
 ·simp
 have e0:Mr [D8 y]++List.replicate ((cc-[D8 y].length)*2) AV.any=Ac y.name::A5 y.kind::List.replicate ((cc-1)*2) AV.any:=rfl
 rw [e0]
 clear e0
 refine A4 ?_;refine AG7 ?_;refine A2 [0,3,5,13] ?_
 refine A3 (fun ht13=>?_) (fun ht13=>?_)
 ·refine Z14 ?_
  refine A4 (h:=Ad (0) (Ac s) (fun _=>rfl)) (hr:=?_)
  refine A4 ?_;refine A9 Tryz.call25 (c25 c hc s _) ?_;refine A4 ?_;refine A2 [0,5,6] ?_;refine Z1 ?_;refine A2 [0,5,6,21] ?_
  refine A3 (fun ht21=>?_) (fun ht21=>?_)
  ·have hf:¬C6 s c<0:=by simp at ht21;omega
   obtain ⟨jj,hjj,hjc⟩:=J4 hf
   refine Z22 ?_
   refine A4 (h:=Ad ((C6 s c).toNat) (D8 (c.getD (C6 s c).toNat ⟨[],0⟩)) (fun _=>X1 hf)) (hr:=?_)
   refine Z0 ?_;refine R.indexAddrSl (n:=1) 0 jU Tryz.sizeOf41 (by decide) ?_
   refine A4 (h:=Q.fieldAddrPtr (hc:=rfl)) (hr:=?_)
   refine Mb (y:=A5 (c.getD (C6 s c).toNat ⟨[],0⟩).kind) (ys:=[A5 (c.getD (C6 s c).toNat ⟨[],0⟩).kind]) (n:=1) (cs:=Ac y.name::A5 y.kind::List.replicate ((cc-1)*2) AV.any) (cs':=Ac y.name::A5 (c.getD (C6 s c).toNat ⟨[],0⟩).kind::List.replicate ((cc-1)*2) AV.any) (t':=41) jS ?_ (hc:=rfl) (hput:=rfl) (hfit:=by simp)
   refine A2 [5] ?_;refine Fl ?_;refine AMx ?_;exact AG1
  have hf:C6 s c<0:=by simp at ht21;omega
  refine AN4 ?_;exact AG1
 rw [h3] at ht13;cases ht13

end Go.SX.Nb
namespace Go.SX
variable [GI:GlobInv]
open Classical
variable {P:Program} {d:Nat} {ops:Array Oper} {rest:List Oper} {sz:Nat} {fr:Nat→AV} {up own:List AObj} {dfs:List Nat} {rnd:Option Nat} {Q:St→Prop} {s:Nat} {ty:TypeId} {pos:String} {aft:Array Edge}
/-- Whether a slice is nil is known only of one that has elements. -/
theorem R.eqlNil {t e u:TypeId} {x y:Operand} {o:Bool} {k:Nat} {xs:List AV} (ht:P.underlying t=some (.slice e)) (hg:P.eqGuardType P.depth t=false)
  (hr:∀b:Bool,(b=true→xs=[])→ARun P d ops rest ⟨sz,Aa s (.v (.bool b)) fr,up,own,dfs,rnd⟩ Q)
  (hx:Bm fr x=.slice o k xs:=by exact sL0) (hy:Bm fr y=.nil:=by exact sL0) (hs:Nat.blt s sz=true:=by rfl):
  ARun P d ops (⟨some s,.binOp .eql t x y u,ty,pos,aft,none⟩::rest) ⟨sz,fr,up,own,dfs,rnd⟩ Q:=by
 refine bh rfl (Q1:=fun s'=>∃b:Bool,(b=true→xs=[])∧s'=⟨sz,Aa s (.v (.bool b)) fr,up,own,dfs,rnd⟩) ?_ (by rintro _ ⟨b,hb,rfl⟩;exact hr b hb)
 intro G a w hrel Q'
 have h1:=hrel.eval x
 rw [show St.ev ⟨sz,fr,up,own,dfs,rnd⟩ x=.slice o k xs from hx] at h1
 have h2:=hrel.eval y
 rw [show St.ev ⟨sz,fr,up,own,dfs,rnd⟩ y=.nil from hy] at h2
 have key:∀b:Bool,(b=true→xs=[])→(execOp a.eval ⟨some s,.binOp .eql t x y u,ty,pos,aft,none⟩).run P w=.ok (.value (.bool b)) w →
   Oper.wpIn (Fr ((St.mk sz fr up own dfs rnd).rnd.map G.blk)) 0 P ⟨some s,.binOp .eql t x y u,ty,pos,aft,none⟩ a w (Post d ⟨sz,fr,up,own,dfs,rnd⟩ G w (fun s'=>∃b:Bool,(b=true→xs=[])∧s'=⟨sz,Aa s (.v (.bool b)) fr,up,own,dfs,rnd⟩)) Q':=fun b hb hv =>
  Dj (by intro c h;cases h) hv ⟨G,_,hrel.put (y:=.v (.bool b)) (by simpa using hs) (.v _ _),H7 d G w,rfl,rfl,rfl,b,hb,rfl⟩
 generalize hya:a.eval y=vy at h2
 generalize hxa:a.eval x=vx at h1
 cases h2
 cases h1 with
 | slice0=>exact key true (fun _=>rfl) (by simp only [execOp,hxa,hya,eqGuard];simp [Lib.run_eql_slice_nil _ _ _ _ _ _ _ _ ht,hg])
 | sliceE=>exact key false (fun h=>by cases h) (by simp only [execOp,hxa,hya,eqGuard];simp [Lib.run_eql_slice_nil _ _ _ _ _ _ _ _ ht,hg])
 | slice=>exact key false (fun h=>by cases h) (by simp only [execOp,hxa,hya,eqGuard];simp [Lib.run_eql_slice_nil _ _ _ _ _ _ _ _ ht,hg])
/-! A guarded slice that may be appended to. -/
end Go.SX
