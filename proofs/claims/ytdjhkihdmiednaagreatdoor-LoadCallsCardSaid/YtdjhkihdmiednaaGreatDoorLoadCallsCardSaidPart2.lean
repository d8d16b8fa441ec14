/- On the way (part 2). -/
import Derived.Attr
import GoSem.Builtin.Min
import GoSem.Builtin.Max
import Derived.Lib.UnsafeStr
import Derived.Laws.BytesString
import Derived.Test.YtdjhkihdmiednaaGreatDoorLoadCallsCardSaidPart1
set_option linter.all false
namespace Go.SX
variable [GI:GlobInv]
open Classical

variable {a c hi p x:Operand} {args cs cs' ys zs:List AV} {b r r' y' y1 y2:AV} {e ft t t' u:TypeId} {f:Nat→AV} {fs:Array Field} {i o off:Nat} {k kh:IntKind} {l:List Oper} {m n:Int} {parts:List (Nat×Operand)} {r1 r2:ResultVar} {xs:List Operand} {z:Value}
def oid (n i:Nat):Nat:=n+i

theorem Wv (d:Nat) (y:AV) (f:Nat→AV) (s:Nat):Aa d y f s=if s=d then y else f s:=rfl
theorem Zw (f:Nat→AV):Jg [] f=fun _=>.any:=rfl
theorem Ww (s:Nat) (l:List Nat) (f:Nat→AV):Jg (s::l) f=Aa s (f s) (Jg l f):=rfl
theorem Ui (l:List AV) (s:Nat):argsF l s=l.getD s (.v undef):=rfl
theorem Zx (s:Nat) (d:AV):([]:List AV).getD s d=d:=rfl
theorem Wx (x:AV) (l:List AV) (d:AV):(x::l).getD 0 d=x:=rfl
theorem Wy (x:AV) (l:List AV) (s:Nat) (d:AV):(x::l).getD (s+1) d=l.getD s d:=rfl
theorem Zy (cs:List AV):(AV.agg cs).cells=cs:=rfl
theorem i7 (x:Value):(AV.v x).cells=[.v x]:=rfl
theorem Zz:AV.nil.cells=[.nil]:=rfl
theorem Uj (o:Bool) (k:Nat) (xs:List AV):(AV.slice o k xs).cells=[.slice o k xs]:=rfl
theorem aa (o off:Nat):(AV.ptr o off).cells=[.ptr o off]:=rfl
theorem dj (f:Fn) (a c:List AV):(AV.fn f a c).cells=[.fn f a c]:=rfl
theorem Uk (o:Nat):(AV.yield o).cells=[.yield o]:=rfl
theorem Wz (cs:Array Value):(Value.agg cs).cells=cs:=rfl
theorem X0 (k:IntKind) (n:Int):(Value.int k n).cells=#[.int k n]:=rfl
theorem Ul (b:Bool):(Value.bool b).cells=#[.bool b]:=rfl
theorem Qw (b:ByteArray):(Value.string b).cells=#[.string b]:=rfl
theorem Sz (a:Option Addr) (n c:Nat):(Value.slice a n c).cells=#[.slice a n c]:=rfl
theorem P6:(Value.nilFunc).cells=#[.nilFunc]:=rfl
theorem P7 (a:Option Addr):(Value.pointer a).cells=#[.pointer a]:=rfl
theorem O3:(Value.nilIface).cells=#[.nilIface]:=rfl
theorem nl (x:Value):(AV.v x).one=x.oneCell':=rfl
theorem i8:AV.nil.one=true:=rfl
theorem ae (o:Bool) (k:Nat) (xs:List AV):(AV.slice o k xs).one=true:=rfl
theorem i9 (o off:Nat):(AV.ptr o off).one=true:=rfl
theorem lj (f:Fn) (a c:List AV):(AV.fn f a c).one=true:=rfl
theorem af (o:Nat):(AV.yield o).one=true:=rfl
theorem ag (t:TypeId) (x:AV):(AV.iface t x).one=true:=rfl
theorem dk (k:IntKind) (n:Int):(Value.int k n).oneCell'=true:=rfl
theorem ah (b:Bool):(Value.bool b).oneCell'=true:=rfl
theorem Um (b:ByteArray):(Value.string b).oneCell'=true:=rfl
theorem T0:(Value.nilFunc).oneCell'=true:=rfl
theorem T3 (a:Option Addr):(Value.pointer a).oneCell'=true:=rfl
theorem Qx:(Value.nilIface).oneCell'=true:=rfl
theorem Un (cs:List AV) (off:Nat) (ys:List AV):Bl cs off ys=cs.take off++(ys++cs.drop (off+ys.length)):=Br _ _ _
theorem btt:(true==true)=true:=rfl
theorem bff:(false==false)=true:=rfl
theorem btf:(true==false)=false:=rfl
theorem bft:(false==true)=false:=rfl
attribute [go_sem] Wv Zw Ww Ui Zx Wx Wy de Wo Zp U8 Ss P2 U9 O1 Mi O2
attribute [go_sem] i6 Zq Zr Zs Zt Ua dg Zu dh Ub Uc Zv U7 Rd
attribute [go_sem] Zy i7 Zz Uj aa dj Uk Wz X0 Ul Qw Sz P6 P7 O3
attribute [go_sem] nl i8 ae i9 lj af ag dk ah Um T0 T3 Qx Un
attribute [go_sem] List.length_set List.map_cons List.map_nil List.toList_toArray List.cons_append List.nil_append List.append_nil List.take_succ_cons List.take_zero List.take_nil List.drop_succ_cons List.drop_zero List.drop_nil List.length_cons List.length_nil Nat.zero_add Nat.add_zero
attribute [go_sem] List.set_cons_zero List.set_cons_succ List.all_cons List.all_nil Bool.and_self Bool.and_true Bool.true_and btt bff btf bft

/-- A value that is there where c holds. -/
inductive Ug (c:Bool):AV→AV→Prop
 | g (y:AV):Ug c (gAV c y) y
 | same (y:AV):Ug c y y
 | g1 (b d:Bool) (y:AV) (h:c=(b&&d)):Ug c (gAV b y) y
 | g2 (b d e:Bool) (y:AV) (h:c=((b&&d)&&e)):Ug c (gAV b y) y
theorem Ug.out {c:Bool} {x y:AV} (h:Ug c x y) (hc:c=true):x=y:=by
 subst hc
 cases h with
 | g=>rfl
 | same=>rfl
 | g1 b d _ h=>cases b<;>simp_all
 | g2 b d e _ h=>cases b<;>simp_all
inductive UgL (c:Bool):List AV→List AV→Prop
 | nil:UgL c [] []
 | cons {x y:AV} {xs ys:List AV} (h:Ug c x y) (t:UgL c xs ys):UgL c (x::xs) (y::ys)
theorem UgL.out {c:Bool} {xs ys:List AV} (h:UgL c xs ys) (hc:c=true):xs=ys:=by
 induction h with
 | nil=>rfl
 | cons h t ih=>rw [h.out hc,ih]

theorem agr {l:List Oper} {o:Oper} {f fr:Nat→AV} {x:Operand} (hf:∀t∈lk l o,f t=fr t) (hm:x∈o.op.operands.toList):B6 f x=B6 fr x:=by
 cases x with
 | tmp t =>
  show (f t).strip=(fr t).strip
  rw [hf t]
  unfold lk Sv
  exact List.mem_append_left _ (List.mem_filterMap.2 ⟨_,hm,rfl⟩)
 | const v=>rfl
 | global g=>rfl
 | func g=>rfl

variable {P:Program} {d:Nat} {l0:List Oper} {kd:Nat} {ops:Array Oper} {rest:List Oper} {sz:Nat} {fr fr':Nat→AV} {up own own' up':List AObj} {dfs:List Nat} {rnd:Option Nat} {Q:St→Prop} {E:List Oper→(Nat→AV)→Prop} {s:Nat} {ty:TypeId} {pos:String} {aft:Array Edge}

class JU (P:Program) (t:TypeId) (u:outParam TypeDesc):Prop where h:P.underlying t=some u
class JS (P:Program) (t:TypeId) (u:outParam Nat):Prop where
 h:∀w,(Go.sizeOf t).run P w=.ok u w
 pos:u≠0:=by decide
class JA (P:Program) (t:TypeId) (u:outParam Bool):Prop where h:∀w,(Go.isAgg t).run P w=.ok u w
class JZ (P:Program) (t:TypeId) (u:outParam Value):Prop where h:∀w,(Go.zeroValue t).run P w=.ok u w
theorem jU {P:Program} {u:TypeDesc} [i:JU P t u]:P.underlying t=some u:=i.h
theorem jS {P:Program} {u:Nat} [i:JS P t u]:∀w,(Go.sizeOf t).run P w=.ok u w:=i.h
theorem jA {P:Program} {u:Bool} [i:JA P t u]:∀w,(Go.isAgg t).run P w=.ok u w:=i.h
theorem jZ {P:Program} {u:Value} [i:JZ P t u]:∀w,(Go.zeroValue t).run P w=.ok u w:=i.h
/-- Where C holds, the operation, its operands being us, yields y. -/
def OpW (P:Program) (d:Nat) (up own:List AObj) (op:Op) (C:Bool) (us:List AV) (y:AV):Prop:=
 C=true→∀{sz:Nat} {f:Nat→AV} {dfs:List Nat} {rnd:Option Nat} {dst:Option Nat} {ty:TypeId} {pos:String} {aft:Array Edge} {gd:Option (Nat×Bool)},op.operands.toList.map (B6 f)=us→OpV P d ⟨dst,op,ty,pos,aft,gd⟩ ⟨sz,f,up,own,dfs,rnd⟩ y
/-- The operands in a frame that agrees where the operation looks. -/
theorem OpW.at {up own:List AObj} {op:Op} {C:Bool} {vs us:List AV} {y:AV} {P:Program} {d sz:Nat} {dfs:List Nat} {rnd:Option Nat} {dst:Option Nat} {ty:TypeId} {pos:String} {aft:Array Edge} {gd:Option (Nat×Bool)} {fr:Nat→AV} (h:OpW P d up own op C us y) (hB:C=true) (hv:op.operands.toList.map (B6 fr)=vs) (hu:UgL C vs us)
  (hf:∀t∈lk l ⟨dst,op,ty,pos,aft,gd⟩,f t=fr t):OpV P d ⟨dst,op,ty,pos,aft,gd⟩ ⟨sz,f,up,own,dfs,rnd⟩ y:=
 h hB ((List.map_congr_left fun x hx=>agr hf hx).trans (hv.trans (hu.out hB)))
theorem o1 {f:Operand→AV} {l:List Operand} {m:List AV} (h:(a::l).map f=b::m):f a=b:=(List.cons.inj h).1
theorem o2 {f:Operand→AV} {a':Operand} {l:List Operand} {b':AV} {m:List AV} (h:(a::a'::l).map f=b::b'::m):f a'=b':=o1 (List.cons.inj h).2
theorem o3 {f:Operand→AV} {a' a2:Operand} {l:List Operand} {b' b2:AV} {m:List AV} (h:(a::a'::a2::l).map f=b::b'::b2::m):f a2=b2:=o2 (List.cons.inj h).2
theorem UgL.refl:∀xs:List AV,UgL true xs xs
 | []=>.nil
 | x::r=>.cons (.same x) (UgL.refl r)
section
variable {C:Bool}
theorem Q.move {y:AV}:OpW P d up own (.move x) C [y] (y):=fun hB=>fun hs=>OpV.move (o1 hs)
theorem Q.assign {y:AV}:OpW P d up own (.assign x) C [y] (y):=fun hB=>fun hs=>OpV.assign (o1 hs)
theorem Q.not {b:Bool}:OpW P d up own (.unOp .not t x) C [.v (.bool b)] (.v (.bool (!b))):=fun hB=>fun hs=>OpV.not (o1 hs)
theorem Q.neg:OpW P d up own (.unOp .neg t x) C [.v (.int k n)] (.v (.int k (k.wrap (0-n)))):=fun hB=>fun hs=>OpV.neg (o1 hs)
theorem Q.add {y:Operand}:OpW P d up own (.binOp .add t x y u) C [.v (.int k m),.v (.int k n)] (.v (.int k (k.wrap (m+n)))):=fun hB=>fun hs=>OpV.add (o1 hs) (o2 hs)
theorem Q.sub {y:Operand}:OpW P d up own (.binOp .sub t x y u) C [.v (.int k m),.v (.int k n)] (.v (.int k (k.wrap (m-n)))):=fun hB=>fun hs=>OpV.sub (o1 hs) (o2 hs)
theorem Q.mul {y:Operand}:OpW P d up own (.binOp .mul t x y u) C [.v (.int k m),.v (.int k n)] (.v (.int k (k.wrap (m*n)))):=fun hB=>fun hs=>OpV.mul (o1 hs) (o2 hs)
theorem Q.add64 {y:Operand} (h1:C=true → -9223372036854775808≤m+n:=by intro hB;omega) (h2:C=true→m+n≤9223372036854775807:=by intro hB;omega):OpW P d up own (.binOp .add t x y u) C [.v (.int .i64 m),.v (.int .i64 n)] (.v (.int .i64 (m+n))):=fun hB=>fun hs=>OpV.add64 (o1 hs) (o2 hs) (h1 hB) (h2 hB)
theorem Q.sub64 {y:Operand} (h1:C=true → -9223372036854775808≤m-n:=by intro hB;omega) (h2:C=true→m-n≤9223372036854775807:=by intro hB;omega):OpW P d up own (.binOp .sub t x y u) C [.v (.int .i64 m),.v (.int .i64 n)] (.v (.int .i64 (m-n))):=fun hB=>fun hs=>OpV.sub64 (o1 hs) (o2 hs) (h1 hB) (h2 hB)
theorem Q.quo {y:Operand} (h0:C=true→n≠0:=by intro hB;omega):OpW P d up own (.binOp .quo t x y u) C [.v (.int k m),.v (.int k n)] (.v (.int k (k.wrap (m.tdiv n)))):=fun hB=>fun hs=>OpV.quo (o1 hs) (o2 hs) (h0 hB)
theorem Q.rem {y:Operand} (h0:C=true→n≠0:=by intro hB;omega):OpW P d up own (.binOp .rem t x y u) C [.v (.int k m),.v (.int k n)] (.v (.int k (m.tmod n))):=fun hB=>fun hs=>OpV.rem (o1 hs) (o2 hs) (h0 hB)
theorem Q.lss {y:Operand}:OpW P d up own (.binOp .lss t x y u) C [.v (.int k m),.v (.int k n)] (.v (.bool (decide (m<n)))):=fun hB=>fun hs=>OpV.lss (o1 hs) (o2 hs)
theorem Q.leq {y:Operand}:OpW P d up own (.binOp .leq t x y u) C [.v (.int k m),.v (.int k n)] (.v (.bool (decide (m≤n)))):=fun hB=>fun hs=>OpV.leq (o1 hs) (o2 hs)
theorem Q.gtr {y:Operand}:OpW P d up own (.binOp .gtr t x y u) C [.v (.int k m),.v (.int k n)] (.v (.bool (decide (n<m)))):=fun hB=>fun hs=>OpV.gtr (o1 hs) (o2 hs)
theorem Q.geq {y:Operand}:OpW P d up own (.binOp .geq t x y u) C [.v (.int k m),.v (.int k n)] (.v (.bool (decide (n≤m)))):=fun hB=>fun hs=>OpV.geq (o1 hs) (o2 hs)
theorem Q.eql {y:Operand}:OpW P d up own (.binOp .eql t x y u) C [.v (.int k m),.v (.int k n)] (.v (.bool (m==n))):=fun hB=>fun hs=>OpV.eql (o1 hs) (o2 hs)
theorem Q.neq {y:Operand}:OpW P d up own (.binOp .neq t x y u) C [.v (.int k m),.v (.int k n)] (.v (.bool (m != n))):=fun hB=>fun hs=>OpV.neq (o1 hs) (o2 hs)
theorem Q.seql {y:Operand} {m n:List UInt8}:OpW P d up own (.binOp .eql t x y u) C [.v (sv m),.v (sv n)] (.v (.bool (m==n))):=fun hB=>fun hs=>OpV.seql (o1 hs) (o2 hs)
theorem Q.sneq {y:Operand} {m n:List UInt8}:OpW P d up own (.binOp .neq t x y u) C [.v (sv m),.v (sv n)] (.v (.bool (!(m==n)))):=fun hB=>fun hs=>OpV.sneq (o1 hs) (o2 hs)
theorem Q.slss {y:Operand} {m n:List UInt8}:OpW P d up own (.binOp .lss t x y u) C [.v (sv m),.v (sv n)] (.v (.bool (Op.bytesLess m n))):=fun hB=>fun hs=>OpV.slss (o1 hs) (o2 hs)
theorem Q.sgtr {y:Operand} {m n:List UInt8}:OpW P d up own (.binOp .gtr t x y u) C [.v (sv m),.v (sv n)] (.v (.bool (!(Op.bytesLess m n || m==n)))):=fun hB=>fun hs=>OpV.sgtr (o1 hs) (o2 hs)
theorem Q.sleq {y:Operand} {m n:List UInt8}:OpW P d up own (.binOp .leq t x y u) C [.v (sv m),.v (sv n)] (.v (.bool (Op.bytesLess m n || m==n))):=fun hB=>fun hs=>OpV.sleq (o1 hs) (o2 hs)
theorem Q.sgeq {y:Operand} {m n:List UInt8}:OpW P d up own (.binOp .geq t x y u) C [.v (sv m),.v (sv n)] (.v (.bool (!(Op.bytesLess m n)))):=fun hB=>fun hs=>OpV.sgeq (o1 hs) (o2 hs)
theorem Q.beql {y:Operand} {m n:Bool} [i0:JU P t .bool]:OpW P d up own (.binOp .eql t x y u) C [.v (.bool m),.v (.bool n)] (.v (.bool (m==n))):=fun hB=>fun hs=>have ht:=i0.h;OpV.beql ht (o1 hs) (o2 hs)
theorem Q.bneq {y:Operand} {m n:Bool} [i0:JU P t .bool]:OpW P d up own (.binOp .neq t x y u) C [.v (.bool m),.v (.bool n)] (.v (.bool (!(m==n)))):=fun hB=>fun hs=>have ht:=i0.h;OpV.bneq ht (o1 hs) (o2 hs)
theorem Q.sadd {y:Operand} {m n:List UInt8} (hl:C=true→m.length+n.length≤9223372036854775807:=by intro hB;simp only [List.length_append,List.length_cons,List.length_nil];omega):OpW P d up own (.binOp .add t x y u) C [.v (sv m),.v (sv n)] (.v (sv (m++n))):=fun hB=>fun hs=>OpV.sadd (o1 hs) (o2 hs) (hl hB)
theorem Q.slen {l:List UInt8} [i0:JU P t .string]:OpW P d up own (.call ⟨.builtin .len,#[x],#[t]⟩) C [.v (sv l)] (.v (.int .i64 l.length)):=fun hB=>fun hs=>have ht:=i0.h;OpV.slen ht (o1 hs)
theorem Q.len {o:Bool} {k:Nat} {xs:List AV} [i0:JU P t (.slice e)]:OpW P d up own (.call ⟨.builtin .len,#[x],#[t]⟩) C [.slice o k xs] (.v (.int .i64 xs.length)):=fun hB=>fun hs=>have ht:=i0.h;OpV.len ht (o1 hs)
theorem Q.lenNil [i0:JU P t (.slice e)]:OpW P d up own (.call ⟨.builtin .len,#[x],#[t]⟩) C [.nil] (.v (.int .i64 0)):=fun hB=>fun hs=>have ht:=i0.h;OpV.lenNil ht (o1 hs)
theorem Q.sindex {t:TypeId} {x i:Operand} {l:List UInt8} {k:IntKind} {m:Int} [i0:JU P t .string] (n:Nat) (b:UInt8) (hb:C=true→l[n]? = some b) (hn:C=true→m=(n:Int):=by intro hB;first|rfl|omega):OpW P d up own (.index t x i) C [.v (sv l),.v (.int k m)] (.v (.int .u8 b.toNat)):=fun hB=>fun hs=>have ht:=i0.h;OpV.sindex (n:=n) ht (o1 hs) (by have hn':=hn hB;subst hn';exact (o2 hs)) (hb hB)
theorem Q.indexAddr {t e:TypeId} {x i:Operand} {o:Bool} {k:Nat} {q:IntKind} {xs:List AV} {m:Int} {cs:List AV} [i0:JU P t (.slice e)] [i1:JS P e k] (n:Nat) (y:AV) (hb:C=true→xs[n]? = some y) (hn:C=true→m=(n:Int):=by intro hB;first|rfl|omega) (hc:y.cells=cs:=by exact sL0):OpW P d up own (.indexAddr t x i) C [.slice o k xs,.v (.int q m)] (.ro cs):=fun hB=>fun hs=>have ht:=i0.h;have hsz:=i1.h;hc ▸ OpV.indexAddr (n:=n) ht hsz (o1 hs) (by have hn':=hn hB;subst hn';exact (o2 hs)) (hb hB)
theorem Q.fieldAddrRo {t ft:TypeId} {x:Operand} {i k off:Nat} {fs:Array Field} {f:Field} {cs cs':List AV} [i0:JU P t (.struct fs)] [i1:JS P ft k]  (hf:fs[i]? = some f:=by rfl) (hft:f.type=ft:=by conv=>lhs;whnf) (hfo:f.offset=off:=by conv=>lhs;whnf) (hc:cs.drop off=cs':=by exact sL0):OpW P d up own (.fieldAddr t x i) C [.ro cs] (.ro cs'):=fun hB=>fun hs=>have ht:=i0.h;have hsz:=i1.h;have hk:=i1.pos;by subst hft;subst hfo;exact hc ▸ OpV.fieldAddrRo ht hf hsz hk (o1 hs)
theorem Q.fieldAddrPtr {t ft:TypeId} {x:Operand} {i k o off fo off':Nat} {fs:Array Field} {f:Field} [i0:JU P t (.struct fs)] [i1:JS P ft k]  (hf:fs[i]? = some f:=by rfl) (hft:f.type=ft:=by conv=>lhs;whnf) (hfo:f.offset=fo:=by conv=>lhs;whnf) (hc:off+fo=off':=by exact sL0):OpW P d up own (.fieldAddr t x i) C [.ptr o off] (.ptr o off'):=fun hB=>fun hs=>have ht:=i0.h;have hsz:=i1.h;have hk:=i1.pos;by subst hft;subst hfo;exact hc ▸ OpV.fieldAddrPtr ht hf hsz hk (o1 hs)
theorem Q.nilRo:OpW P d up own (.nilCheck x) C [.ro cs] (.ro cs):=fun hB=>fun hs=>OpV.nilCheckRo (o1 hs)
theorem Q.nilPtr:OpW P d up own (.nilCheck x) C [.ptr o off] (.ptr o off):=fun hB=>fun hs=>OpV.nilCheckPtr (o1 hs)
theorem Q.loadRo {y:AV} [i0:JA P t false]:OpW P d up own (.load t x) C [.ro (y::cs)] (y):=fun hB=>fun hs=>have hagg:=i0.h;OpV.loadRo hagg (o1 hs)
theorem Q.loadRoN {k:Nat} [i0:JA P t true] [i1:JS P t k]  (hk:C=true→k≤cs.length:=by intro hB;simp only [go_sem,↓reduceIte,Nat.reduceEqDiff,Nat.reduceAdd]<;>omega) (hc:cs.take k=cs':=by exact sL0):OpW P d up own (.load t x) C [.ro cs] (.agg cs'):=fun hB=>fun hs=>have hagg:=i0.h;have hsz:=i1.h;hc ▸ OpV.loadRoAgg hagg hsz (o1 hs) (hk hB)
theorem Q.loadOwn {t t':TypeId} {x:Operand} {n o off:Nat} {cs:List AV} {y y':AV} [i0:JA P t false]  (hq:oid up.length n=o:=by first|rfl|(simp only [go_sem]<;>rfl)) (ho:own[n]? = some (.cells t' cs):=by rfl) (hy:cs[off]? = some y:=by rfl) (hc:y.strip=y':=by exact sL0):OpW P d up own (.load t x) C [.ptr o off] (y'):=fun hB=>fun hs=>have hagg:=i0.h;by subst hq;exact hc ▸ OpV.loadObj hagg (o1 hs) (by show (up++own)[up.length+n]? = _;rw [Db];exact ho) hy
theorem Q.loadOwnN {t t':TypeId} {x:Operand} {n o off k:Nat} {cs cs':List AV} [i0:JA P t true] [i1:JS P t k]  (hq:oid up.length n=o:=by first|rfl|(simp only [go_sem]<;>rfl)) (ho:own[n]? = some (.cells t' cs):=by rfl) (hk:C=true→off+k≤cs.length:=by intro hB;simp only [go_sem,↓reduceIte,Nat.reduceEqDiff,Nat.reduceAdd]<;>omega) (h1:((cs.drop off).take k).all AV.one=true:=by exact sL1) (hc:((cs.drop off).take k).map AV.strip=cs':=by exact sL0):OpW P d up own (.load t x) C [.ptr o off] (.agg cs'):=fun hB=>fun hs=>have hagg:=i0.h;have hsz:=i1.h;by subst hq;exact hc ▸ OpV.loadObjAgg hagg hsz (o1 hs) (by show (up++own)[up.length+n]? = _;rw [Db];exact ho) (hk hB) h1
theorem Q.loadUp {y:AV} [i0:JA P t false] (ho:up[o]? = some (.cells t' cs)) (hy:cs[off]? = some y:=by rfl) (hc:y.strip=y':=by exact sL0):OpW P d up own (.load t x) C [.ptr o off] (y'):=fun hB=>fun hs=>have hagg:=i0.h;hc ▸ OpV.loadObj hagg (o1 hs) (An ho) hy
theorem Q.loadUpN {k:Nat} [i0:JA P t true] [i1:JS P t k] (ho:up[o]? = some (.cells t' cs)) (hk:C=true→off+k≤cs.length:=by intro hB;simp only [go_sem,↓reduceIte,Nat.reduceEqDiff,Nat.reduceAdd]<;>omega) (h1:((cs.drop off).take k).all AV.one=true:=by exact sL1) (hc:((cs.drop off).take k).map AV.strip=cs':=by exact sL0):OpW P d up own (.load t x) C [.ptr o off] (.agg cs'):=fun hB=>fun hs=>have hagg:=i0.h;have hsz:=i1.h;hc ▸ OpV.loadObjAgg hagg hsz (o1 hs) (An ho) (hk hB) h1
theorem Q.extract {y:AV} (hi:ys[i]? = some y:=by rfl):OpW P d up own (.extract x i) C [.tup ys] (y):=fun hB=>fun hs=>OpV.extract (o1 hs) hi
theorem Q.iconv {a:TypeId} {k':IntKind} [i0:JU P a (.int k)] [i1:JU P t (.int k')]:OpW P d up own (.convert a t x) C [.v (.int k n)] (.v (.int k' (k'.wrap n))):=fun hB=>fun hs=>have hs':=i0.h;have ht:=i1.h;OpV.iconv hs' ht (o1 hs)
theorem Q.field1 {t ft:TypeId} {x:Operand} {i:Nat} {fs:Array Field} {f:Field} {cs:List AV} {y:AV} [i0:JU P t (.struct fs)] [i1:JA P ft false]  (hf:fs[i]? = some f:=by rfl) (hft:f.type=ft:=by conv=>lhs;whnf) (hy:cs[f.offset]? = some y:=by rfl):OpW P d up own (.field t x i) C [.agg cs] (y):=fun hB=>fun hs=>have ht:=i0.h;have hagg:=i1.h;by subst hft;exact OpV.field1 ht hf hagg (o1 hs) hy
theorem Q.shr {y:Operand} {k':IntKind} (n:Nat) (hn:n≤k.bits:=by decide):OpW P d up own (.binOp .shr t x y u) C [.v (.int k m),.v (.int k' (n:Int))] (.v (.int k (m.fdiv (2 ^ n)))):=fun hB=>fun hs=>OpV.shr (o1 hs) (o2 hs) hn
theorem Q.eqlAgg {y:Operand} {xs ys:List Value} {b:Bool} (hgd:P.eqGuardType P.depth t=false) (he:∀w,(Op.equal t (.agg xs.toArray) (.agg ys.toArray)).run P w=.ok b w):OpW P d up own (.binOp .eql t x y u) C [.agg (xs.map .v),.agg (ys.map .v)] (.v (.bool (b))):=fun hB=>fun hs=>OpV.eqlAgg hgd (o1 hs) (o2 hs) he
theorem Q.neqAgg {y:Operand} {xs ys:List Value} {b:Bool} (hgd:P.eqGuardType P.depth t=false) (he:∀w,(Op.equal t (.agg xs.toArray) (.agg ys.toArray)).run P w=.ok b w):OpW P d up own (.binOp .neq t x y u) C [.agg (xs.map .v),.agg (ys.map .v)] (.v (.bool (!b))):=fun hB=>fun hs=>OpV.neqAgg hgd (o1 hs) (o2 hs) he
theorem Q.indexArr {t e:TypeId} {x i:Operand} {len:Nat} {q:IntKind} {cs:List AV} {m:Int} [i0:JU P t (.array len e)] [i1:JS P e 1] [i2:JA P e false] (n:Nat) (y:AV) (hm:C=true→n<len) (hb:C=true→cs[n]? = some y) (hn:C=true→m=(n:Int):=by intro hB;first|rfl|omega):OpW P d up own (.index t x i) C [.agg cs,.v (.int q m)] (y):=fun hB=>fun hs=>have ht:=i0.h;have hsz:=i1.h;have hagg:=i2.h;OpV.indexArr (n:=n) ht hsz hagg (o1 hs) (by have hn':=hn hB;subst hn';exact (o2 hs)) (hm hB) (hb hB)
theorem Q.boxRo {y:AV} (hc:y.cells=cs:=by exact sL0) (h1:cs.all AV.one=true:=by exact sL1):OpW P d up own (.box t x) C [y] (.ro cs):=fun hB=>fun hs=>hc ▸ OpV.boxRo (o1 hs) (hc ▸ h1)
theorem Q.scutLH {t:TypeId} {x lo hi:Operand} {l:List UInt8} {kl:IntKind} {kh:IntKind} {a:Int} {b:Int} [i0:JU P t .string] (m:Nat) (n:Nat) (hm:C=true→m≤n) (hn:C=true→n≤l.length) (ha:C=true→a=(m:Int):=by intro hB;first|rfl|omega) (hb:C=true→b=(n:Int):=by intro hB;first|rfl|omega):OpW P d up own (.slice t x (some lo) (some hi) none) C [.v (sv l),.v (.int kl a),.v (.int kh b)] (.v (sv ((l.take n).drop m))):=fun hB=>@fun sz f dfs rnd dst ty pos aft gd hs=>by
 simp only [Op.operands,Option.toArray_some,Option.toArray_none,Array.toList_append,List.map,List.cons_append,List.nil_append,List.append_nil,List.cons.injEq,and_true] at hs
 exact (have ht:=i0.h;by have:=OpV.scut (P:=P) (d:=d) (st:=⟨sz,f,up,own,dfs,rnd⟩) (lo:=some lo) (hi:=some hi) (m:=m) (n:=n) (kl:=kl) (kh:=kh) (dst:=dst) (ty:=ty) (pos:=pos) (aft:=aft) (gd:=gd) ht hs.1 (by have ha':=ha hB;subst ha';exact hs.2.1) (by have hb':=hb hB;subst hb';exact hs.2.2) (hm hB) (hn hB);simpa only [List.drop_zero,List.take_length] using this)
theorem Q.scutL {t:TypeId} {x lo:Operand} {l:List UInt8} {kl:IntKind}  {a:Int}  [i0:JU P t .string] (m:Nat) (hm:C=true→m≤l.length) (hn:C=true→l.length≤l.length) (ha:C=true→a=(m:Int):=by intro hB;first|rfl|omega):OpW P d up own (.slice t x (some lo) none none) C [.v (sv l),.v (.int kl a)] (.v (sv (l.drop m))):=fun hB=>@fun sz f dfs rnd dst ty pos aft gd hs=>by
 simp only [Op.operands,Option.toArray_some,Option.toArray_none,Array.toList_append,List.map,List.cons_append,List.nil_append,List.append_nil,List.cons.injEq,and_true] at hs
 exact (have ht:=i0.h;by have:=OpV.scut (P:=P) (d:=d) (st:=⟨sz,f,up,own,dfs,rnd⟩) (lo:=some lo) (hi:=none) (m:=m) (n:=l.length) (kl:=kl) (kh:=.i64) (dst:=dst) (ty:=ty) (pos:=pos) (aft:=aft) (gd:=gd) ht hs.1 (by have ha':=ha hB;subst ha';exact hs.2) rfl (hm hB) (hn hB);simpa only [List.drop_zero,List.take_length] using this)
theorem Q.scutH {t:TypeId} {x hi:Operand} {l:List UInt8} {kh:IntKind} {b:Int} [i0:JU P t .string] (n:Nat) (hm:C=true→0≤n) (hn:C=true→n≤l.length) (hb:C=true→b=(n:Int):=by intro hB;first|rfl|omega):OpW P d up own (.slice t x none (some hi) none) C [.v (sv l),.v (.int kh b)] (.v (sv (l.take n))):=fun hB=>@fun sz f dfs rnd dst ty pos aft gd hs=>by
 simp only [Op.operands,Option.toArray_some,Option.toArray_none,Array.toList_append,List.map,List.cons_append,List.nil_append,List.append_nil,List.cons.injEq,and_true] at hs
 exact (have ht:=i0.h;by have:=OpV.scut (P:=P) (d:=d) (st:=⟨sz,f,up,own,dfs,rnd⟩) (lo:=none) (hi:=some hi) (m:=0) (n:=n) (kl:=.i64) (kh:=kh) (dst:=dst) (ty:=ty) (pos:=pos) (aft:=aft) (gd:=gd) ht hs.1 rfl (by have hb':=hb hB;subst hb';exact hs.2) (hm hB) (hn hB);simpa only [List.drop_zero,List.take_length] using this)
theorem Q.cutH {t e:TypeId} {x hi:Operand} {o:Bool} {k:Nat} {xs:List AV} {kh:IntKind} {b:Int} [i0:JU P t (.slice e)] [i1:JS P e k] (n:Nat) (hm:C=true→0≤n) (hn:C=true→n≤xs.length) (hb:C=true→b=(n:Int):=by intro hB;first|rfl|omega):OpW P d up own (.slice t x none (some hi) none) C [.slice o k xs,.v (.int kh b)] (.slice false k (xs.take n)):=fun hB=>@fun sz f dfs rnd dst ty pos aft gd hs=>by
 simp only [Op.operands,Option.toArray_some,Option.toArray_none,Array.toList_append,List.map,List.cons_append,List.nil_append,List.append_nil,List.cons.injEq,and_true] at hs
 exact (have ht:=i0.h;have hsz:=i1.h;by have:=OpV.cut (P:=P) (d:=d) (st:=⟨sz,f,up,own,dfs,rnd⟩) (lo:=none) (hi:=some hi) (m:=0) (n:=n) (kl:=.i64) (kh:=kh) (dst:=dst) (ty:=ty) (pos:=pos) (aft:=aft) (gd:=gd) ht hsz hs.1 rfl (by have hb':=hb hB;subst hb';exact hs.2) (hm hB) (hn hB);simpa only [List.drop_zero,List.take_length] using this)
theorem Q.pickAnd {c x y:Operand} {B A:Bool}:OpW P d up own (.pick c x y) C [.v (.bool B),gAV (C&&(B==true)) (.v (.bool A)),.v (.bool false)] (.v (.bool (B&&A))):=fun hB=>fun hs=>by subst hB;exact OpV.pickAnd (o1 hs) (o2 hs) (o3 hs)
theorem Q.pickOr {c x y:Operand} {B A:Bool}:OpW P d up own (.pick c x y) C [.v (.bool B),.v (.bool true),gAV (C&&(B==false)) (.v (.bool A))] (.v (.bool (B || A))):=fun hB=>fun hs=>by subst hB;exact OpV.pickOr (o1 hs) (o2 hs) (o3 hs)
theorem qa {p:Prop} (h:p:=by first|exact Q.move|exact Q.assign|exact Q.eql|exact Q.loadRo|exact Q.fieldAddrRo|exact Q.extract|exact Q.fieldAddrPtr|exact Q.seql|exact Q.loadOwn|exact Q.pickAnd|exact Q.add64|exact Q.loadRoN|exact Q.lss|exact Q.len|exact Q.pickOr|exact Q.loadOwnN|exact Q.boxRo|exact Q.not|exact Q.neq|exact Q.nilPtr|exact Q.nilRo|exact Q.slen|exact Q.gtr|exact Q.sadd|exact Q.iconv|exact Q.sneq|exact Q.geq|exact Q.leq|exact Q.sub64|exact Q.rem|exact Q.quo|exact Q.beql|exact Q.bneq|exact Q.neg|exact Q.mul|exact Q.slss|exact Q.sgtr|exact Q.sleq|exact Q.sgeq|exact Q.field1|exact Q.lenNil):p:=h
variable {op:Op} {y:AV} {oj:Oper} {j g:Nat} {want:Bool}
variable {vs us:List AV}
theorem R.go (hr:ARun P d ops rest ⟨sz,Aa s y fr,up,own,dfs,rnd⟩ Q) (hv:op.operands.toList.map (B6 fr)=us:=by simp only [Op.operands,Call.operands,Option.toArray_some,Option.toArray_none,Array.toList_append,go_sem,↓reduceIte,Nat.reduceEqDiff,Nat.reduceAdd]<;>rfl) (h:OpW P d up own op true us y:=by exact qa) (hs:Nat.blt s sz=true:=by rfl):
  ARun P d ops (⟨some s,op,ty,pos,aft,none⟩::rest) ⟨sz,fr,up,own,dfs,rnd⟩ Q:=ARun.vv rfl rfl hs (h rfl hv) hr
theorem D.go (hr:ADraw P d l0 sz up own dfs rnd E kd rest (Aa s y fr)) (hv:op.operands.toList.map (B6 fr)=us:=by simp only [Op.operands,Call.operands,Option.toArray_some,Option.toArray_none,Array.toList_append,go_sem,↓reduceIte,Nat.reduceEqDiff,Nat.reduceAdd]<;>rfl) (h:OpW P d up own op true us y:=by exact qa) (hs:Nat.blt s sz=true:=by rfl):
  ADraw P d l0 sz up own dfs rnd E (kd+1) (⟨some s,op,ty,pos,aft,none⟩::rest) fr:=⟨s,_,rfl,by simpa using hs,fun _ hag=>h.at rfl hv (.refl _) hag,hr⟩
theorem ugl {p:Prop} (h:p:=by repeat' first|exact UgL.nil|apply UgL.cons|exact Ug.g _|exact Ug.g1 _ _ _ rfl|exact Ug.g2 _ _ _ _ rfl|exact Ug.same _):p:=h
theorem G.go (hr:ARun P d ops rest ⟨sz,Aa s (gAV C y) fr,up,own,dfs,rnd⟩ Q) (hj:ops[j]? = some oj:=by rfl) (hdj:oj.dst=some g:=by rfl) (hgs:GIs (fr g) want C:=by exact sL3) (hv:op.operands.toList.map (B6 fr)=vs:=by simp only [Op.operands,Call.operands,Option.toArray_some,Option.toArray_none,Array.toList_append,go_sem,↓reduceIte,Nat.reduceEqDiff,Nat.reduceAdd]<;>rfl) (hu:UgL C vs us:=by exact ugl) (h:OpW P d up own op C us y:=by exact qa) (hs:Nat.blt s sz=true:=by rfl):
  ARun P d ops (⟨some s,op,ty,pos,aft,some (j,want)⟩::rest) ⟨sz,fr,up,own,dfs,rnd⟩ Q:=ARun.guardC rfl hj hdj hgs rfl hs (fun hB=>h.at (l:=[]) hB hv hu (fun _ _=>rfl)) hr
theorem H.go (hr:ADraw P d l0 sz up own dfs rnd E kd rest (Aa s (gAV C y) fr)) (hj:l0[j]? = some oj:=by rfl) (hdj:oj.dst=some g:=by rfl) (hgs:GIs (fr g) want C:=by exact sL3) (hv:op.operands.toList.map (B6 fr)=vs:=by simp only [Op.operands,Call.operands,Option.toArray_some,Option.toArray_none,Array.toList_append,go_sem,↓reduceIte,Nat.reduceEqDiff,Nat.reduceAdd]<;>rfl) (hu:UgL C vs us:=by exact ugl) (h:OpW P d up own op C us y:=by exact qa) (hs:Nat.blt s sz=true:=by rfl):
  ADraw P d l0 sz up own dfs rnd E (kd+1) (⟨some s,op,ty,pos,aft,some (j,want)⟩::rest) fr:=⟨s,_,rfl,by simpa using hs,⟨oj,g,C,_,hj,hdj,hgs,rfl,fun hB f0 hag=>h.at hB hv hu hag⟩,hr⟩
end
/-- At a region's end. -/
theorem R.fin (l:List Nat) (hq:Q ⟨sz,fr',up,own,dfs,rnd⟩) (h:Jg l fr=fr':=by exact sL0):ARun P d ops [] ⟨sz,fr,up,own,dfs,rnd⟩ Q:=ARun.endK l h hq

theorem R.alloc {t:TypeId} {z:Value} {zs:List AV} {n:Nat} (hz:∀w,(zeroValue t).run P w=.ok z w) (hr:ARun P d ops rest ⟨sz,Aa s (.ptr (oid up.length n) 0) fr,up,own',dfs,rnd⟩ Q)
  (hzs:z.cells.toList.map Ck=zs:=by exact sL0) (hn:own.length=n:=by rfl) (ho:own++[.cells t zs]=own':=by exact sL0) (hs:Nat.blt s sz=true:=by rfl):
  ARun P d ops (⟨some s,.alloc t,ty,pos,aft,none⟩::rest) ⟨sz,fr,up,own,dfs,rnd⟩ Q:=by
 subst ho
 exact ARun.aop rfl (AOp.alloc (st:=⟨sz,fr,up,own,dfs,rnd⟩) hz hzs.symm hn (by simpa using hs)) hr
theorem R.box {t:TypeId} {x:Operand} {y:AV} {cs:List AV} {n:Nat} (hr:ARun P d ops rest ⟨sz,Aa s (.ptr (oid up.length n) 0) fr,up,own',dfs,rnd⟩ Q)
  (hx:B6 fr x=y:=by exact sL0) (hc:y.cells=cs:=by exact sL0) (h1:cs.all AV.one=true:=by exact sL1) (hn:own.length=n:=by rfl) (ho:own++[.cells t cs]=own':=by exact sL0) (hs:Nat.blt s sz=true:=by rfl):
  ARun P d ops (⟨some s,.box t x,ty,pos,aft,none⟩::rest) ⟨sz,fr,up,own,dfs,rnd⟩ Q:=by
 subst ho
 subst hc
 exact ARun.aop rfl (AOp.box (st:=⟨sz,fr,up,own,dfs,rnd⟩) hx h1 hn (by simpa using hs)) hr
theorem R.storeOwn {t t':TypeId} {p x:Operand} {n off k:Nat} {y:AV} {ys cs cs':List AV} (hsz:∀w,(Go.sizeOf t).run P w=.ok k w) (hr:ARun P d ops rest ⟨sz,fr,up,own',dfs,rnd⟩ Q)
  (hp:B6 fr p=.ptr (oid up.length n) off:=by exact sL0) (ho:own[n]? = some (.cells t' cs):=by rfl) (hx:B6 fr x=y:=by exact sL0) (hc:y.cells=ys:=by exact sL0) (hk:ys.length=k:=by rfl)
  (h1:ys.all AV.one=true:=by exact sL1) (hfit:off+k≤cs.length:=by exact sL2) (hput:Bl cs off ys=cs':=by exact sL0) (hset:own.set n (.cells t' cs')=own':=by exact sL0):
  ARun P d ops (⟨none,.store t p x,ty,pos,aft,none⟩::rest) ⟨sz,fr,up,own,dfs,rnd⟩ Q:=by
 subst hset
 subst hput
 subst hc
 exact ARun.aop rfl (AOp.storeOwn (st:=⟨sz,fr,up,own,dfs,rnd⟩) hsz hp ho hx hk h1 hfit) hr
theorem R.storeOwnT {t t':TypeId} {p:Operand} {r n off:Nat} {y z:AV} {cs cs':List AV} (hsz:∀w,(Go.sizeOf t).run P w=.ok 1 w) (hr:ARun P d ops rest ⟨sz,Aa r z fr,up,own',dfs,rnd⟩ Q)
  (hp:B6 fr p=.ptr (oid up.length n) off:=by exact sL0) (ho:own[n]? = some (.cells t' cs):=by rfl) (hx:fr r=y:=by exact sL0) (hz:y.strip=z:=by exact sL0)
  (h1:y.one=true:=by exact sL1) (hfit:off+1≤cs.length:=by exact sL2) (hput:Bl cs off [y]=cs':=by exact sL0) (hset:own.set n (.cells t' cs')=own':=by exact sL0):
  ARun P d ops (⟨none,.store t p (.tmp r),ty,pos,aft,none⟩::rest) ⟨sz,fr,up,own,dfs,rnd⟩ Q:=by
 subst hset
 subst hput
 subst hz
 subst hx
 exact ARun.aop rfl (AOp.storeOwnT (st:=⟨sz,fr,up,own,dfs,rnd⟩) hsz hp ho h1 hfit) hr
theorem R.storeUp {t t':TypeId} {p x:Operand} {o off k:Nat} {y:AV} {ys cs cs':List AV} (hsz:∀w,(Go.sizeOf t).run P w=.ok k w) (ho:up[o]? = some (.cells t' cs)) (hlow:∀z∈ys,Low up.length z) (hr:ARun P d ops rest ⟨sz,fr,up.set o (.cells t' cs'),own,dfs,rnd⟩ Q)
  (hp:B6 fr p=.ptr o off:=by exact sL0) (hx:B6 fr x=y:=by exact sL0) (hc:y.cells=ys:=by exact sL0) (hk:ys.length=k:=by rfl)
  (h1:ys.all AV.one=true:=by exact sL1) (hfit:off+k≤cs.length:=by exact sL2) (hput:Bl cs off ys=cs':=by exact sL0):
  ARun P d ops (⟨none,.store t p x,ty,pos,aft,none⟩::rest) ⟨sz,fr,up,own,dfs,rnd⟩ Q:=by
 subst hput
 subst hc
 exact ARun.aop rfl (AOp.storeUp (st:=⟨sz,fr,up,own,dfs,rnd⟩) hsz hp ho hx hk h1 hfit hlow) hr
theorem R.storeUpT {t t':TypeId} {p:Operand} {r o off:Nat} {y z:AV} {cs cs':List AV} (hsz:∀w,(Go.sizeOf t).run P w=.ok 1 w) (ho:up[o]? = some (.cells t' cs)) (hlow:Low up.length y) (hr:ARun P d ops rest ⟨sz,Aa r z fr,up.set o (.cells t' cs'),own,dfs,rnd⟩ Q)
  (hp:B6 fr p=.ptr o off:=by exact sL0) (hx:fr r=y:=by exact sL0) (hz:y.strip=z:=by exact sL0)
  (h1:y.one=true:=by exact sL1) (hfit:off+1≤cs.length:=by exact sL2) (hput:Bl cs off [y]=cs':=by exact sL0):
  ARun P d ops (⟨none,.store t p (.tmp r),ty,pos,aft,none⟩::rest) ⟨sz,fr,up,own,dfs,rnd⟩ Q:=by
 subst hput
 subst hz
 subst hx
 exact ARun.aop rfl (AOp.storeUpT (st:=⟨sz,fr,up,own,dfs,rnd⟩) hsz hp ho h1 hfit hlow) hr
theorem R.moveT {r:Nat} {y z:AV} (hr:ARun P d ops rest ⟨sz,Aa s y (Aa r z fr),up,own,dfs,rnd⟩ Q) (hx:fr r=y:=by exact sL0) (hz:y.strip=z:=by exact sL0) (hs:Nat.blt s sz=true:=by rfl):
  ARun P d ops (⟨some s,.move (.tmp r),ty,pos,aft,none⟩::rest) ⟨sz,fr,up,own,dfs,rnd⟩ Q:=by
 subst hz
 subst hx
 exact ARun.aop rfl (AOp.moveT (st:=⟨sz,fr,up,own,dfs,rnd⟩) (by simpa using hs)) hr
theorem R.assignT {r:Nat} {y z:AV} (hr:ARun P d ops rest ⟨sz,Aa s y (Aa r z fr),up,own,dfs,rnd⟩ Q) (hx:fr r=y:=by exact sL0) (hz:y.strip=z:=by exact sL0) (hs:Nat.blt s sz=true:=by rfl):
  ARun P d ops (⟨some s,.assign (.tmp r),ty,pos,aft,none⟩::rest) ⟨sz,fr,up,own,dfs,rnd⟩ Q:=by
 subst hz
 subst hx
 exact ARun.aop rfl (AOp.assignT (st:=⟨sz,fr,up,own,dfs,rnd⟩) (by simpa using hs)) hr
theorem R.loadOwnT {t t':TypeId} {p:Operand} {n off:Nat} {y z:AV} {cs cs':List AV} (hagg:∀w,(isAgg t).run P w=.ok false w) (hr:ARun P d ops rest ⟨sz,Aa s y fr,up,own',dfs,rnd⟩ Q)
  (hp:B6 fr p=.ptr (oid up.length n) off:=by exact sL0) (ho:own[n]? = some (.cells t' cs):=by rfl) (hy:cs[off]? = some y:=by rfl) (hz:y.strip=z:=by exact sL0) (hcs:cs.set off z=cs':=by exact sL0)
  (hset:own.set n (.cells t' cs')=own':=by exact sL0) (hs:Nat.blt s sz=true:=by rfl):
  ARun P d ops (⟨some s,.load t p,ty,pos,aft,none⟩::rest) ⟨sz,fr,up,own,dfs,rnd⟩ Q:=by
 subst hset
 subst hcs
 subst hz
 exact ARun.aop rfl (AOp.loadOwnT (st:=⟨sz,fr,up,own,dfs,rnd⟩) hagg hp ho hy (by simpa using hs)) hr
theorem R.loadUpT {t t':TypeId} {p:Operand} {o off:Nat} {y z:AV} {cs cs':List AV} (hagg:∀w,(isAgg t).run P w=.ok false w) (ho:up[o]? = some (.cells t' cs)) (hr:ARun P d ops rest ⟨sz,Aa s y fr,up.set o (.cells t' cs'),own,dfs,rnd⟩ Q)
  (hp:B6 fr p=.ptr o off:=by exact sL0) (hy:cs[off]? = some y:=by rfl) (hz:y.strip=z:=by exact sL0) (hcs:cs.set off z=cs':=by exact sL0) (hs:Nat.blt s sz=true:=by rfl):
  ARun P d ops (⟨some s,.load t p,ty,pos,aft,none⟩::rest) ⟨sz,fr,up,own,dfs,rnd⟩ Q:=by
 subst hcs
 subst hz
 exact ARun.aop rfl (AOp.loadUpT (st:=⟨sz,fr,up,own,dfs,rnd⟩) hagg hp ho hy (by simpa using hs)) hr
theorem R.build {t:TypeId} {fs:Array Field} {places:Array (Nat×Nat)} {parts:List (Nat×Operand)} {z:Value} {zs cs:List AV} {ys:List (Nat×AV)} (hu:P.underlying t=some (.struct fs))
  (hpl:∀w,(fs.mapM (m:=Sem) fun f=>do Pure.pure (f.offset,←Go.sizeOf f.type)).run P w=.ok places w) (hz:∀w,(zeroValue t).run P w=.ok z w) (hr:ARun P d ops rest ⟨sz,Aa s (.agg cs) fr,up,own,dfs,rnd⟩ Q)
  (hzs:z.cells.toList.map Ck=zs:=by exact sL0) (hone:zs.all AV.one=true:=by exact sL1) (hys:(parts.map fun p=>(p.1,B6 fr p.2))=ys:=by exact sL0)
  (hf:Fk (fun i=>places[i]?) zs ys=some cs:=by simp [Fk,go_sem]<;>rfl) (hs:Nat.blt s sz=true:=by rfl):
  ARun P d ops (⟨some s,.build t parts.toArray,ty,pos,aft,none⟩::rest) ⟨sz,fr,up,own,dfs,rnd⟩ Q:=by
 subst hys
 exact ARun.vv rfl rfl hs (OpV.build hu hpl hz hzs.symm hone hf) hr
theorem R.buildArr {t e:TypeId} {n k:Nat} {parts:List (Nat×Operand)} {z:Value} {zs cs:List AV} {ys:List (Nat×AV)} (hu:P.underlying t=some (.array n e)) (hsz:∀w,(Go.sizeOf e).run P w=.ok k w) (hz:∀w,(zeroValue t).run P w=.ok z w)
  (hr:ARun P d ops rest ⟨sz,Aa s (.agg cs) fr,up,own,dfs,rnd⟩ Q)
  (hzs:z.cells.toList.map Ck=zs:=by exact sL0) (hone:zs.all AV.one=true:=by exact sL1) (hys:(parts.map fun p=>(p.1,B6 fr p.2))=ys:=by exact sL0)
  (hf:Fk (fun i=>some (i*k,k)) zs ys=some cs:=by simp [Fk,go_sem]<;>rfl) (hs:Nat.blt s sz=true:=by rfl):
  ARun P d ops (⟨some s,.build t parts.toArray,ty,pos,aft,none⟩::rest) ⟨sz,fr,up,own,dfs,rnd⟩ Q:=by
 subst hys
 exact ARun.vv rfl rfl hs (OpV.buildArr hu hsz hz hzs.symm hone hf) hr
theorem R.buildSlice {k len:Nat} (hu:P.underlying t=some (.slice e)) (hsz:∀w,(Go.sizeOf e).run P w=.ok k w) (hz:∀w,(zeroValue e).run P w=.ok z w)
  (hr:ARun P d ops rest ⟨sz,Aa s (.slice true k ys) fr,up,own,dfs,rnd⟩ Q) (hp:parts.toArray=(((parts.map Prod.snd).zipIdx).map fun x=>(x.2,x.1)).toArray:=by rfl) (hev:(parts.map Prod.snd).map (B6 fr)=ys:=by exact sL0)
  (hk:ys.all (fun y=>decide (y.cells.length=k)&&y.cells.all AV.one)=true:=by simp [go_sem]) (hl:len=ys.length:=by rfl) (hlen:ys.length*k≤16777216:=by exact sL2) (hs:Nat.blt s sz=true:=by rfl):
  ARun P d ops (⟨some s,.buildSlice t len parts.toArray,ty,pos,aft,none⟩::rest) ⟨sz,fr,up,own,dfs,rnd⟩ Q:=by
 have h2:∀y∈ys,y.cells.length=k∧y.cells.all AV.one=true:=fun y hy=>by simpa using List.all_eq_true.1 hk y hy
 exact ARun.aop rfl (AOp.buildSlice (st:=⟨sz,fr,up,own,dfs,rnd⟩) hu hsz hz hev (fun y hy=>(h2 y hy).1) (fun y hy c hc=>List.all_eq_true.1 (h2 y hy).2 c hc) hlen (by simpa using hs) hl hp) hr
theorem R.append {t e:TypeId} {i:TypeInfo} {z:Value} {k r:Nat} {x:Operand} {o2:Bool} {b z' y:AV} {xs ys zs:List AV} (hu:P.underlying t=some (.slice e)) (hi:P.info? e=some i) (hl:(xs.length+ys.length)*i.bytes≤140737488355328) (hl2:xs.length+ys.length≤4611686018427387904)
  (hr:ARun P d ops rest ⟨sz,Aa s (.slice true k zs) (Aa r z' fr),up,own,dfs,rnd⟩ Q)
  (hz:i.zero=some z:=by rfl) (hsz:i.size=k:=by rfl) (hzk:z.cells.size=k:=by rfl) (hk:0<k:=by decide) (hb:fr r=b:=by exact sL0) (hb':I8 b true k xs:=by first|exact .inl rfl|exact .inr ⟨rfl,rfl⟩)
  (hx:B6 fr x=y:=by exact sL0) (hx':I8 y o2 k ys:=by first|exact .inl rfl|exact .inr ⟨rfl,rfl⟩) (hrs:s≠r:=by decide) (hz':b.strip=z':=by exact sL0) (hzs:xs++ys=zs:=by first|rfl|(simp only [go_sem,↓reduceIte,Nat.reduceEqDiff,Nat.reduceAdd]<;>rfl)) (hs:Nat.blt s sz=true:=by rfl):
  ARun P d ops (⟨some s,.call ⟨.builtin .append,#[.tmp r,x],#[t,t]⟩,ty,pos,aft,none⟩::rest) ⟨sz,fr,up,own,dfs,rnd⟩ Q:=by
 subst hzs
 subst hz'
 subst hb
 subst hx
 exact ARun.aop rfl (AOp.append (st:=⟨sz,fr,up,own,dfs,rnd⟩) hu hi hz hsz rfl hzk hk hb' hx' hrs (by simpa using hs) hl hl2) hr
theorem R.makeFunc {f:Fn} {as cs:List Operand} {ya yc:List AV} (hr:ARun P d ops rest ⟨sz,Aa s (.fn f ya yc) fr,up,own,dfs,rnd⟩ Q) (ha:as.map (B6 fr)=ya:=by exact sL0) (hc:cs.map (B6 fr)=yc:=by exact sL0) (hs:Nat.blt s sz=true:=by rfl):
  ARun P d ops (⟨some s,.makeFunc f as.toArray cs.toArray,ty,pos,aft,none⟩::rest) ⟨sz,fr,up,own,dfs,rnd⟩ Q:=ARun.vv rfl rfl hs (OpV.makeFunc ha hc) hr
/-- A call of a function that leaves the objects alone. -/
theorem R.call {g:FuncId} {ats:Array TypeId} (hcall:∀args w,(callFunc g args).run P w=.ok (.enter g args) w) (h:AFun P g args (up++own) r) (hr:ARun P d ops rest ⟨sz,Aa s r fr,up,own,dfs,rnd⟩ Q)
  (ha:xs.map (B6 fr)=args:=by exact sL0) (hs:Nat.blt s sz=true:=by rfl):
  ARun P d ops (⟨some s,.call ⟨.value (.func g),xs.toArray,ats⟩,ty,pos,aft,none⟩::rest) ⟨sz,fr,up,own,dfs,rnd⟩ Q:=
 ARun.aop rfl (AOp.callF (st:=⟨sz,fr,up,own,dfs,rnd⟩) (first:=[]) (caps:=[]) hcall rfl (by rw [←ha];simp [St.ev]<;>rfl) h (by simpa using hs)) hr
theorem G.call {g:FuncId} {xs:List Operand} {ats:Array TypeId} {args:List AV} {r r':AV} {oj:Oper} {j q:Nat} {want C:Bool} (hcall:∀args w,(callFunc g args).run P w=.ok (.enter g args) w) (h:C=true→AFun P g args (up++own) r)
  (hr:ARun P d ops rest ⟨sz,Aa s (gAV C r') fr,up,own,dfs,rnd⟩ Q) (hj:ops[j]? = some oj:=by rfl) (hdj:oj.dst=some q:=by rfl) (hgs:GIs (fr q) want C:=by exact sL3)
  (ha:UgL C (xs.map (B6 fr)) args:=by exact sL4) (hr':r.strip=r':=by exact sL0) (hs:Nat.blt s sz=true:=by rfl):
  ARun P d ops (⟨some s,.call ⟨.value (.func g),xs.toArray,ats⟩,ty,pos,aft,some (j,want)⟩::rest) ⟨sz,fr,up,own,dfs,rnd⟩ Q:=by
 subst hr'
 exact ARun.guardC rfl hj hdj hgs rfl hs (fun hB=>OpV.call (first:=[]) (caps:=[]) hcall rfl (by rw [←ha.out hB];simp [St.ev]<;>rfl) (h hB)) hr
theorem ia {o:Oper} {fr:Nat→AV} (hf:∀t∈lk l o,f t=fr t) (hm:∀x∈xs,x∈o.op.operands.toList):xs.map (B6 f)=xs.map (B6 fr):=List.map_congr_left fun x hx=>agr hf (hm x hx)
theorem D.call {g:FuncId} {xs:List Operand} {ats:Array TypeId} {args:List AV} {r r':AV} (hcall:∀args w,(callFunc g args).run P w=.ok (.enter g args) w) (h:AFun P g args (up++own) r) (hr:ADraw P d l0 sz up own dfs rnd E kd rest (Aa s r' fr))
  (ha:xs.map (B6 fr)=args:=by exact sL0) (hr':r.strip=r':=by exact sL0) (hs:Nat.blt s sz=true:=by rfl):
  ADraw P d l0 sz up own dfs rnd E (kd+1) (⟨some s,.call ⟨.value (.func g),xs.toArray,ats⟩,ty,pos,aft,none⟩::rest) fr:=by
 subst hr'
 exact ⟨s,_,rfl,by simpa using hs,fun f0 hag=>OpV.call (first:=[]) (caps:=[]) hcall rfl (by rw [←ha,←ia hag (fun x hx=>by simp [Op.operands,Call.operands,hx])];simp [St.ev]<;>rfl) h,hr⟩
theorem H.call {g:FuncId} {xs:List Operand} {ats:Array TypeId} {args:List AV} {r r':AV} {oj:Oper} {j q:Nat} {want C:Bool} (hcall:∀args w,(callFunc g args).run P w=.ok (.enter g args) w) (h:C=true→AFun P g args (up++own) r)
  (hr:ADraw P d l0 sz up own dfs rnd E kd rest (Aa s (gAV C r') fr)) (hj:l0[j]? = some oj:=by rfl) (hdj:oj.dst=some q:=by rfl) (hgs:GIs (fr q) want C:=by exact sL3)
  (ha:UgL C (xs.map (B6 fr)) args:=by exact sL4) (hr':r.strip=r':=by exact sL0) (hs:Nat.blt s sz=true:=by rfl):
  ADraw P d l0 sz up own dfs rnd E (kd+1) (⟨some s,.call ⟨.value (.func g),xs.toArray,ats⟩,ty,pos,aft,some (j,want)⟩::rest) fr:=by
 subst hr'
 exact ⟨s,_,rfl,by simpa using hs,⟨oj,q,C,_,hj,hdj,hgs,rfl,fun hB f0 hag=>OpV.call (first:=[]) (caps:=[]) hcall rfl (by rw [←ha.out hB,←ia hag (fun x hx=>by simp [Op.operands,Call.operands,hx])];simp [St.ev]<;>rfl) (h hB)⟩,hr⟩
theorem D.build {t:TypeId} {fs:Array Field} {places:Array (Nat×Nat)} {parts:List (Nat×Operand)} {z:Value} {zs cs:List AV} {ys:List (Nat×AV)} (hu:P.underlying t=some (.struct fs))
  (hpl:∀w,(fs.mapM (m:=Sem) fun f=>do Pure.pure (f.offset,←Go.sizeOf f.type)).run P w=.ok places w) (hz:∀w,(zeroValue t).run P w=.ok z w) (hr:ADraw P d l0 sz up own dfs rnd E kd rest (Aa s (.agg cs) fr))
  (hzs:z.cells.toList.map Ck=zs:=by exact sL0) (hone:zs.all AV.one=true:=by exact sL1) (hys:(parts.map fun p=>(p.1,B6 fr p.2))=ys:=by exact sL0)
  (hf:Fk (fun i=>places[i]?) zs ys=some cs:=by simp [Fk,go_sem]<;>rfl) (hs:Nat.blt s sz=true:=by rfl):
  ADraw P d l0 sz up own dfs rnd E (kd+1) (⟨some s,.build t parts.toArray,ty,pos,aft,none⟩::rest) fr:=by
 subst hys
 refine ⟨s,_,rfl,by simpa using hs,fun f0 hag=>?_,hr⟩
 have e:(parts.map fun p=>(p.1,B6 fr p.2))=(parts.map fun p=>(p.1,B6 f0 p.2)):=List.map_congr_left fun p hp=>by rw [agr hag (by simp [Op.operands];exact ⟨_,hp⟩)]
 rw [e] at hf
 exact OpV.build hu hpl hz hzs.symm hone hf
theorem D.tail (h:ARun P d l0.toArray l ⟨sz,fr,up,own,dfs,rnd⟩ Q):ADraw P d l0 sz up own dfs rnd (fun l' f=>ARun P d l0.toArray l' ⟨sz,f,up,own,dfs,rnd⟩ Q) 0 l fr:=h
theorem D.end {l':List Oper} {F:Nat→AV} (hl:l=l') (hF:fr=F):ADraw P d l0 sz up own dfs rnd (fun l1 f=>l1=l'∧f=F) 0 l fr:=⟨hl,hF⟩
theorem W.draw {id:Nat} {y:Code} {K:Exit→St→Prop} (M:List Nat) (k:Nat) (hm:P.follows .mixedOrders=true) (hok:P4 l k M=true) (h:ADraw P d l sz up own dfs rnd (fun l' f=>ARun P d l.toArray l' ⟨sz,f,up,own,dfs,rnd⟩ (fun s=>AW P d y s K)) k l fr):
  AW P d (.seq (.region id l.toArray true) y) ⟨sz,fr,up,own,dfs,rnd⟩ K:=AW.seq (AW.draw M hm hok h)
theorem W.draw0 {id:Nat} {K:Exit→St→Prop} (M:List Nat) (k:Nat) (hm:P.follows .mixedOrders=true) (hok:P4 l k M=true) (h:ADraw P d l sz up own dfs rnd (fun l' f=>ARun P d l.toArray l' ⟨sz,f,up,own,dfs,rnd⟩ (K .normal)) k l fr):
  AW P d (.region id l.toArray true) ⟨sz,fr,up,own,dfs,rnd⟩ K:=AW.draw M hm hok h
/-- A call that turns one cell object: of ours, or of whoever waits. -/
theorem R.callOwn {g:FuncId} {xs:List Operand} {ats:Array TypeId} {args:List AV} {r:AV} {n:Nat} {x x0:AObj} (hcall:∀args w,(callFunc g args).run P w=.ok (.enter g args) w) (h:ACall P g args (up++own) (fun y H'=>y=r∧H'=(up++own).set (oid up.length n) x)) (hr:ARun P d ops rest ⟨sz,Aa s r fr,up,own',dfs,rnd⟩ Q)
  (hx0:own[n]? = some x0:=by rfl) (hx0':x0≠.defs:=by simp) (hset:own.set n x=own':=by exact sL0) (ha:xs.map (B6 fr)=args:=by exact sL0) (hs:Nat.blt s sz=true:=by rfl):
  ARun P d ops (⟨some s,.call ⟨.value (.func g),xs.toArray,ats⟩,ty,pos,aft,none⟩::rest) ⟨sz,fr,up,own,dfs,rnd⟩ Q:=by
 subst hset
 refine ARun.op rfl (AOp.callG (st:=⟨sz,fr,up,own,dfs,rnd⟩) (Q:=(·=⟨sz,Aa s r fr,up,own.set n x,dfs,rnd⟩)) (first:=[]) (caps:=[]) hcall rfl (by rw [←ha];simp [St.ev]<;>rfl) h (by simpa using hs) (fun y H' _ hy=>?_)) (fun s' e=>by subst e;exact hr)
 obtain ⟨rfl,rfl⟩:=hy
 refine ⟨up,own.set n x,Bm,rfl,fun h=>h,fun hd o ho=>?_,rfl⟩
 have:=hd o ho
 rw [←Bm]
 rw [List.getElem?_set]
 split
 ·rename_i e
  subst e
  rw [Db,hx0] at this
  injection this with this
  exact absurd this hx0'
 exact this
theorem R.callUp {g:FuncId} {xs:List Operand} {ats:Array TypeId} {args:List AV} {r:AV} {i:Nat} {x x0:AObj} (hcall:∀args w,(callFunc g args).run P w=.ok (.enter g args) w) (hi:up[i]? = some x0) (hx0':x0≠.defs) (hlow:ObjLow up.length x) (h:ACall P g args (up++own) (fun y H'=>y=r∧H'=(up++own).set i x)) (hr:ARun P d ops rest ⟨sz,Aa s r fr,up.set i x,own,dfs,rnd⟩ Q)
  (ha:xs.map (B6 fr)=args:=by exact sL0) (hs:Nat.blt s sz=true:=by rfl):
  ARun P d ops (⟨some s,.call ⟨.value (.func g),xs.toArray,ats⟩,ty,pos,aft,none⟩::rest) ⟨sz,fr,up,own,dfs,rnd⟩ Q:=by
 have hlt:=(List.getElem?_eq_some_iff.1 hi).1
 refine ARun.op rfl (AOp.callG (st:=⟨sz,fr,up,own,dfs,rnd⟩) (Q:=(·=⟨sz,Aa s r fr,up.set i x,own,dfs,rnd⟩)) (first:=[]) (caps:=[]) hcall rfl (by rw [←ha];simp [St.ev]<;>rfl) h (by simpa using hs) (fun y H' _ hy=>?_)) (fun s' e=>by subst e;exact hr)
 obtain ⟨rfl,rfl⟩:=hy
 refine ⟨up.set i x,own,C2 hlt,by simp,fun h=>by simp only [List.length_set] at h ⊢;exact E6 h hlow,fun hd o ho=>?_,rfl⟩
 have:=hd o ho
 rw [←C2 hlt,List.getElem?_set]
 split
 ·rename_i e
  subst e
  rw [An hi] at this
  injection this with this
  exact absurd this hx0'
 exact this
/-- A call whose contract is any. -/
theorem R.callG {g:FuncId} {xs:List Operand} {ats:Array TypeId} {args:List AV} {post:AV→List AObj→Prop} (hcall:∀args w,(callFunc g args).run P w=.ok (.enter g args) w) (h:ACall P g args (up++own) post)
  (hp:∀r U O,U.length=up.length→post r (U++O)→((∀x∈up,ObjLow U.length x)→∀x∈U,ObjLow U.length x)∧(∀o∈dfs,(up++own)[o]? = some .defs→(U++O)[o]? = some .defs)∧ARun P d ops rest ⟨sz,Aa s r fr,U,O,dfs,rnd⟩ Q)
  (ha:xs.map (B6 fr)=args:=by exact sL0) (hs:Nat.blt s sz=true:=by rfl):
  ARun P d ops (⟨some s,.call ⟨.value (.func g),xs.toArray,ats⟩,ty,pos,aft,none⟩::rest) ⟨sz,fr,up,own,dfs,rnd⟩ Q:=by
 refine ARun.op rfl (AOp.callG (st:=⟨sz,fr,up,own,dfs,rnd⟩) (Q:=fun s'=>ARun P d ops rest s' Q) (first:=[]) (caps:=[]) hcall rfl (by rw [←ha];simp [St.ev]<;>rfl) h (by simpa using hs) (fun y H' hl hy=>?_)) (fun s' e=>e)
 have hl':up.length≤H'.length:=by rw [hl];simp
 have e:H'=H'.take up.length++H'.drop up.length:=(List.take_append_drop _ _).symm
 rw [e] at hy
 obtain ⟨h1,h2,h3⟩:=hp y _ _ (by simp;omega) hy
 exact ⟨_,_,e,by simp;omega,h1,fun hd o ho=>h2 o ho (hd o ho),h3⟩
/-- A call of a function value that leaves the objects alone. -/
theorem R.callV {f:Operand} {ats:Array TypeId} {g:FuncId} {first caps:List AV} (hcall:∀args w,(callFunc g args).run P w=.ok (.enter g args) w) (h:AFun P g args (up++own) r) (hr:ARun P d ops rest ⟨sz,Aa s r fr,up,own,dfs,rnd⟩ Q)
  (hf:B6 fr f=.fn (.func g) first caps:=by exact sL0) (ha:first++xs.map (B6 fr)++caps=args:=by exact sL0) (hs:Nat.blt s sz=true:=by rfl):
  ARun P d ops (⟨some s,.call ⟨.value f,xs.toArray,ats⟩,ty,pos,aft,none⟩::rest) ⟨sz,fr,up,own,dfs,rnd⟩ Q:=
 ARun.aop rfl (AOp.callF (st:=⟨sz,fr,up,own,dfs,rnd⟩) hcall hf (by rw [←ha]<;>rfl) h (by simpa using hs)) hr
/-- A test. -/
theorem W.cond {x y:Code} {b:Bool} {K:Exit→St→Prop} (h1:b=true→AW P d x ⟨sz,fr,up,own,dfs,rnd⟩ K) (h2:b=false→AW P d y ⟨sz,fr,up,own,dfs,rnd⟩ K) (hc:B6 fr c=.v (.bool b):=by exact sL0):
  AW P d (.cond c x y) ⟨sz,fr,up,own,dfs,rnd⟩ K:=AW.cond (st:=⟨sz,fr,up,own,dfs,rnd⟩) hc h1 h2

/-! ### A function's end -/
@[simp] theorem ub {n:Nat} {x:Value}:Low n (.v x)↔True:=⟨fun _=>trivial,fun _=>.v x⟩
@[simp] theorem qt {n:Nat}:Low n .nil↔True:=⟨fun _=>trivial,fun _=>.nil⟩
@[simp] theorem qu {n:Nat}:Low n .any↔True:=⟨fun _=>trivial,fun _=>.any⟩
@[simp] theorem low_agg {n:Nat} {cs:List AV}:Low n (.agg cs)↔∀y∈cs,Low n y:=⟨fun h=>by cases h;assumption,fun h=>.agg cs h⟩
@[simp] theorem low_tup {n:Nat} {cs:List AV}:Low n (.tup cs)↔∀y∈cs,Low n y:=⟨fun h=>by cases h;assumption,fun h=>.tup cs h⟩
@[simp] theorem qy {n:Nat} {cs:List AV}:Low n (.ro cs)↔∀y∈cs,Low n y:=⟨fun h=>by cases h;assumption,fun h=>.ro cs h⟩
theorem low_cells {n:Nat} {x:AV}:(∀y∈x.cells,Low n y)↔Low n x:=by
 cases x with
 | agg cs=>exact ⟨fun h=>.agg cs h,fun h=>by cases h;assumption⟩
 | _=>simp [AV.cells]
@[simp] theorem low_slice {n:Nat} {o:Bool} {k:Nat} {xs:List AV}:Low n (.slice o k xs)↔∀x∈xs,Low n x:=
 ⟨fun h=>by cases h with|slice _ _ _ h=>exact fun x hx=>low_cells.1 (h x hx),fun h=>.slice o k xs fun x hx=>low_cells.2 (h x hx)⟩
@[simp] theorem qv {n o off:Nat}:Low n (.ptr o off)↔o<n:=⟨fun h=>by cases h;assumption,fun h=>.ptr o off h⟩
@[simp] theorem nj {n o:Nat}:Low n (.yield o)↔o<n:=⟨fun h=>by cases h;assumption,fun h=>.yield o h⟩
@[simp] theorem qz {n:Nat} {f:Fn} {as cs:List AV}:Low n (.fn f as cs)↔(∀y∈as,Low n y)∧∀y∈cs,Low n y:=⟨fun h=>by cases h;exact ⟨by assumption,by assumption⟩,fun h=>.fn f as cs h.1 h.2⟩

def FK (P:Program) (rs:List ResultVar) (n:Nat) (post:AV→List AObj→Prop):Exit→St→Prop:=fun e st'=>(e=.normal∨e=.ret)∧∃r,Res P st' rs r∧Low n r∧post r st'.up
theorem ACall.body {g:FuncId} {fn:Func} {c:Code} {H:List AObj} {post:AV→List AObj→Prop} (rs:List ResultVar) (l:List Nat) {n:Nat} (hf:P.funcs[g]? = some fn) (hn:fn.ntmps=n)
  (h:∀d,AW P (d+1) c ⟨n,fr',H,[],[],none⟩ (FK P rs H.length post)) (hb:fn.body=some c:=by rfl) (hrs:fn.results=rs.toArray:=by rfl) (hargs:args.length≤n:=by exact sL2)
  (hk:Jg l (argsF args)=fr':=by exact sL0):ACall P g args H post:=
 ACall.ofBody hf hb hrs hn hargs (fun d=>AW.keep l hk (h d))
theorem V.tmp {t:Nat} {y:AV} (h:(fr t).strip=y:=by exact sL0):ResV P ⟨sz,fr,up,own,dfs,rnd⟩ (.tmp t) y:=.tmp t y h
theorem V.cell {a n:Nat} {y:AV} (hagg:∀w,(isAgg t).run P w=.ok false w) (hp:(fr a).strip=.ptr (oid up.length n) off:=by exact sL0)
  (ho:own[n]? = some (.cells t' cs):=by rfl) (hy:cs[off]? = some y:=by rfl) (h:y.strip=y':=by exact sL0):ResV P ⟨sz,fr,up,own,dfs,rnd⟩ (.cell a t) y':=
 .cell a t t' _ off cs y hagg hp (by show (up++own)[up.length+n]? = _;rw [Db];exact ho) hy y' h
theorem V.cellN {a n k:Nat} (hagg:∀w,(isAgg t).run P w=.ok true w) (hsz:∀w,(Go.sizeOf t).run P w=.ok k w) (hp:(fr a).strip=.ptr (oid up.length n) off:=by exact sL0)
  (ho:own[n]? = some (.cells t' cs):=by rfl) (hk:off+k≤cs.length:=by exact sL2) (h1:((cs.drop off).take k).all AV.one=true:=by exact sL1)
  (h:((cs.drop off).take k).map AV.strip=cs':=by exact sL0):ResV P ⟨sz,fr,up,own,dfs,rnd⟩ (.cell a t) (.agg cs'):=
 .cellN a t t' _ off k cs hagg hsz hp (by show (up++own)[up.length+n]? = _;rw [Db];exact ho) hk h1 _ (by rw [h])
theorem V.one {rv:ResultVar} {y:AV} (h:ResV P ⟨sz,fr,up,own,dfs,rnd⟩ rv y):Res P ⟨sz,fr,up,own,dfs,rnd⟩ [rv] y:=.one rv y h
theorem V.two (h1:ResV P ⟨sz,fr,up,own,dfs,rnd⟩ r1 y1) (h2:ResV P ⟨sz,fr,up,own,dfs,rnd⟩ r2 y2):Res P ⟨sz,fr,up,own,dfs,rnd⟩ [r1,r2] (.tup [y1,y2]):=.two _ _ _ _ h1 h2
theorem V.three {r3:ResultVar} {y3:AV} (h1:ResV P ⟨sz,fr,up,own,dfs,rnd⟩ r1 y1) (h2:ResV P ⟨sz,fr,up,own,dfs,rnd⟩ r2 y2) (h3:ResV P ⟨sz,fr,up,own,dfs,rnd⟩ r3 y3):Res P ⟨sz,fr,up,own,dfs,rnd⟩ [r1,r2,r3] (.tup [y1,y2,y3]):=.three _ _ _ _ _ _ h1 h2 h3
theorem V.four {r3 r4:ResultVar} {y3 y4:AV} (h1:ResV P ⟨sz,fr,up,own,dfs,rnd⟩ r1 y1) (h2:ResV P ⟨sz,fr,up,own,dfs,rnd⟩ r2 y2) (h3:ResV P ⟨sz,fr,up,own,dfs,rnd⟩ r3 y3) (h4:ResV P ⟨sz,fr,up,own,dfs,rnd⟩ r4 y4):Res P ⟨sz,fr,up,own,dfs,rnd⟩ [r1,r2,r3,r4] (.tup [y1,y2,y3,y4]):=.four _ _ _ _ _ _ _ _ h1 h2 h3 h4
end Go.SX
namespace Go.SX
def Ai:=@ACall.body
def Bb:=@D.go
def In:=@D.tail
def Bh:=@G.call
def B9:=@G.go
def Ay:=@Q.indexAddr
def Bp:=@Q.loadUp
def Dz:=@Q.sadd
def Gv:=@Q.scutH
def I0:=@Q.scutL
def E9:=@Q.sindex
def I1:=@R.alloc
def F6:=@R.append
def G5:=@R.assignT
def Jk:=@R.build
def Ab:=@R.call
def Jl:=@R.callOwn
def Bf:=@R.callUp
def A2:=@R.fin
def A4:=@R.go
def Hc:=@R.makeFunc
def Di:=@R.storeUp
def dl:=@R.storeUpT
def B3:=@V.cellN
def Hd:=@V.four
def Af:=@V.one
def Mn:=@V.three
def A7:=@V.tmp
def Cr:=@V.two
def A6:=@W.cond
end Go.SX
namespace Go.SX
variable [GI:GlobInv]
open Classical
variable {k:IntKind} {m n:Int} {t u:TypeId} {x y:Operand}
section
variable {P:Program} {d:Nat} {st:St} {dst:Option Tmp} {ty:TypeId} {pos:String} {aft:Array Edge} {gd:Option (Nat×Bool)}
theorem OpV.minI {t u:TypeId} {x y:Operand} {k:IntKind} {m n:Int} (hx:st.ev x=.v (.int k m)) (hy:st.ev y=.v (.int k n)):OpV P d ⟨dst,.call ⟨.builtin .min,#[x,y],#[t,u]⟩,ty,pos,aft,gd⟩ st (.v (.int k (if n<m then n else m))):=
 Be (by intro c h;cases h) fun _ a w h=>⟨_,by simp [execOp,resolve,invoke,builtin,Bo h hx,Bo h hy,Builtin.min_,Builtin.min2],.v _ _⟩
theorem OpV.maxI {t u:TypeId} {x y:Operand} {k:IntKind} {m n:Int} (hx:st.ev x=.v (.int k m)) (hy:st.ev y=.v (.int k n)):OpV P d ⟨dst,.call ⟨.builtin .max,#[x,y],#[t,u]⟩,ty,pos,aft,gd⟩ st (.v (.int k (if m<n then n else m))):=
 Be (by intro c h;cases h) fun _ a w h=>⟨_,by simp [execOp,resolve,invoke,builtin,Bo h hx,Bo h hy,Builtin.max_,Builtin.max2],.v _ _⟩
end
variable {P:Program} {d:Nat} {l0:List Oper} {kd:Nat} {ops:Array Oper} {rest:List Oper} {sz:Nat} {fr fr':Nat→AV} {up own own' up':List AObj} {dfs:List Nat} {rnd:Option Nat} {Q:St→Prop} {E:List Oper→(Nat→AV)→Prop} {s:Nat} {ty:TypeId} {pos:String} {aft:Array Edge}
theorem R.minI (hr:ARun P d ops rest ⟨sz,Aa s (.v (.int k (if n<m then n else m))) fr,up,own,dfs,rnd⟩ Q) (hx:B6 fr x=.v (.int k m):=by exact sL0) (hy:B6 fr y=.v (.int k n):=by exact sL0)  (hs:Nat.blt s sz=true:=by rfl):
  ARun P d ops (⟨some s,.call ⟨.builtin .min,#[x,y],#[t,u]⟩,ty,pos,aft,none⟩::rest) ⟨sz,fr,up,own,dfs,rnd⟩ Q:=
 Ue rfl rfl hs (OpV.minI hx hy) hr
theorem R.maxI (hr:ARun P d ops rest ⟨sz,Aa s (.v (.int k (if m<n then n else m))) fr,up,own,dfs,rnd⟩ Q) (hx:B6 fr x=.v (.int k m):=by exact sL0) (hy:B6 fr y=.v (.int k n):=by exact sL0)  (hs:Nat.blt s sz=true:=by rfl):
  ARun P d ops (⟨some s,.call ⟨.builtin .max,#[x,y],#[t,u]⟩,ty,pos,aft,none⟩::rest) ⟨sz,fr,up,own,dfs,rnd⟩ Q:=
 Ue rfl rfl hs (OpV.maxI hx hy) hr
end Go.SX
set_option autoImplicit false
set_option relaxedAutoImplicit false
namespace Go.SX
variable [GI:GlobInv]
open Classical
section
variable {P:Program} {d:Nat} {dst:Option Tmp} {ty:TypeId} {pos:String} {aft:Array Edge} {gd:Option (Nat×Bool)} {st:St}
end
end Go.SX
namespace Go.SX
variable [GI:GlobInv]
open Classical
section
variable {P:Program} {d:Nat}
variable {sz:Nat} {up own up' own':List AObj} {dfs:List Nat} {rnd:Option Nat}

theorem dm (L:Nat→Bool) (i:Nat) (x:Nat×AV) (r:List (Nat×AV)) (f:Nat→AV):frL L i (x::r) f=frL L (i+1) r (if L i then Aa x.1 x.2 f else f):=rfl
/-- Of what is drawn, what stands in each slot at the end tells what each yields. -/
theorem ai {D D':List (Nat×AV)} {f:Nat→AV} (hn:D.length=D'.length) (hs:∀(i s s':Nat) (y y':AV),D[i]? = some (s,y)→D'[i]? = some (s',y')→s=s')
  (hu:∀(i j s:Nat) (y y':AV),D[i]? = some (s,y)→D[j]? = some (s,y')→i=j) (he:frL (fun _=>true) 0 D f=frL (fun _=>true) 0 D' f):D=D':=by
 apply Ih
 intro i
 by_cases hi:i<D.length
 ·have e1:D[i]? = some D[i]:=Ad hi
  have e2:D'[i]? = some (D'[i]'(by omega)):=Ad (by omega)
  have hss:=hs i D[i].1 (D'[i]'(by omega)).1 _ _ e1 e2
  have hu':∀(j s:Nat) (y:AV),D'[j]? = some (s,y)→s=(D'[i]'(by omega)).1→j=i:=by
   intro j s y hj hsj
   have hjl:=(Ac.1 hj).1
   have e3:D[j]? = some (D[j]'(by omega)):=Ad (by omega)
   have h3:=hs j (D[j]'(by omega)).1 s _ _ e3 hj
   refine hu j i D[i].1 (D[j]'(by omega)).2 _ ?_ e1
   rw [e3,hss,←hsj,←h3]
  have v1:frL (fun _=>true) 0 D f D[i].1=D[i].2:=Gq (L:=fun _=>true) D 0 i f e1 rfl (fun j y hj=>hu j i _ _ _ hj e1)
  have v2:frL (fun _=>true) 0 D' f (D'[i]'(by omega)).1=(D'[i]'(by omega)).2:=Gq (L:=fun _=>true) D' 0 i f e2 rfl (fun j y hj=>hu' j _ y hj rfl)
  rw [e1,e2,Prod.ext_iff.2 ⟨hss,by rw [←v1,←v2,he,hss]⟩]
 rw [Dx (by omega),Dx (by omega)]

end
end Go.SX
namespace Go.SX
variable [GI:GlobInv]
open Classical
variable {L L':Nat→Bool} {M tn:List Nat} {args:List AV} {g:FuncId} {id k pn t:Nat} {o:Oper} {own0 up0:List AObj} {r:AV} {x x0:AObj} {xs:List Operand}
section
variable {P:Program} {d:Nat}
variable {sz:Nat} {dfs:List Nat} {rnd:Option Nat}

/-! ### What is written -/
def He (ws:List (Nat×AV)) (f:Nat→AV):Nat→AV:=ws.foldl (fun f x=>Aa x.1 x.2 f) f
theorem Kz (x:Nat×AV) (r:List (Nat×AV)) (f:Nat→AV):He (x::r) f=He r (Aa x.1 x.2 f):=rfl
theorem Io:∀(ws:List (Nat×AV)) (f:Nat→AV),t∉ws.map (·.1)→He ws f t=f t
 | [],_,_=>rfl
 | x::r,f,h=>by
  rw [Kz,Io r _ (fun hm=>h (by simp only [Cl,Bt];exact .inr hm))]
  unfold Aa
  rw [if_neg (fun e=>h (by simp [e]))]
theorem Hs {t:Nat}:∀(ws:List (Nat×AV)) (f g:Nat→AV),(t∈ws.map (·.1)∨f t=g t)→He ws f t=He ws g t
 | [],f,g,h=>by
  rcases h with h|h
  ·cases h
  exact h
 | x::r,f,g,h=>by
  rw [Kz,Kz]
  refine Hs r _ _ ?_
  by_cases hx:t=x.1
  ·right;unfold Aa;rw [if_pos hx,if_pos hx]
  rcases h with h|h
  ·left
   simp only [Cl,Bt] at h
   exact h.resolve_left hx
  right;unfold Aa;rw [if_neg hx,if_neg hx];exact h

def frY (L:Nat→Bool):Nat→List (List (Nat×AV))→(Nat→AV)→(Nat→AV)
 | _,[],f=>f
 | i,ws::r,f=>frY L (i+1) r (if L i then He ws f else f)
theorem X1 {L L':Nat→Bool} {t:Nat}:∀(D:List (List (Nat×AV))) (i:Nat) (f g:Nat→AV),(∀(j:Nat) (ws:List (Nat×AV)),D[j]? = some ws→t∈ws.map (·.1)→L (i+j)=L' (i+j))→f t=g t→frY L i D f t=frY L' i D g t
 | [],_,_,_,_,h=>h
 | x::r,i,f,g,h,hf=>by
  unfold frY
  refine X1 r (i+1) _ _ (fun j ws hj ht=>by have:=h (j+1) ws (by simpa using hj) ht;rwa [show i+1+j=i+(j+1) by omega]) ?_
  by_cases hm:t∈x.map (·.1)
  ·have h0:=h 0 x (by simp) hm
   rw [Nat.add_zero] at h0
   rw [h0]
   split
   ·exact Hs x f g (.inl hm)
   exact hf
  have e:∀(b:Bool) (f:Nat→AV),(if b=true then He x f else f) t=f t:=fun b f=>by
   cases b
   ·rfl
   exact Io x f hm
  rw [e,e]
  exact hf
theorem Jm:∀(D:List (List (Nat×AV))) (i:Nat) (f:Nat→AV),(∀(j:Nat) (ws:List (Nat×AV)),D[j]? = some ws→t∈ws.map (·.1)→L (i+j)=false)→frY L i D f t=f t
 | [],_,_,_=>rfl
 | x::r,i,f,h=>by
  unfold frY
  rw [Jm r (i+1) _ (fun j ws hj ht=>by have:=h (j+1) ws (by simpa using hj) ht;rwa [show i+1+j=i+(j+1) by omega])]
  by_cases hL:L i
  ·rw [if_pos hL]
   refine Io x f fun hm=>?_
   have:=h 0 x (by simp) hm
   simp [hL] at this
  rw [if_neg hL]
theorem Uo {ws:List (Nat×AV)}:∀(D:List (List (Nat×AV))) (i j:Nat) (f:Nat→AV),D[j]? = some ws→t∈ws.map (·.1)→L (i+j)=true →
  (∀(j':Nat) (ws':List (Nat×AV)),D[j']? = some ws'→t∈ws'.map (·.1)→j<j'→L (i+j')=false)→frY L i D f t=He ws f t
 | [],_,_,_,h,_,_,_=>by simp at h
 | x::r,i,0,f,h,hm,hL,hu=>by
  unfold frY
  have hL':L i=true:=by simpa using hL
  rw [if_pos hL',Jm r (i+1) _ (fun j' y' hj' ht=>by have:=hu (j'+1) y' (by simpa using hj') ht (by omega);rwa [show i+1+j'=i+(j'+1) by omega])]
  have hx:x=ws:=by simpa using h
  rw [hx]
 | x::r,i,j+1,f,h,hm,hL,hu=>by
  unfold frY
  rw [Uo r (i+1) j _ (by simpa using h) hm (by rwa [show i+1+j=i+(j+1) by omega]) (fun j' y' hj' ht hlt=>by have:=hu (j'+1) y' (by simpa using hj') ht (by omega);rwa [show i+1+j'=i+(j'+1) by omega])]
  exact Hs ws _ _ (.inl hm)
theorem Up:∀(D:List (List (Nat×AV))) (i k:Nat) (f:Nat→AV),frY (fun _=>true) k (D.take i) f=frY (fun j=>decide (j<k+i)) k D f
 | [],i,k,f=>by simp [frY]
 | x::r,0,k,f=>by
  rw [List.take_zero]
  funext t
  refine (Jm (x::r) k f fun j ws _ _=>?_).symm
  simp
 | x::r,i+1,k,f=>by
  rw [List.take_succ_cons]
  unfold frY
  rw [Up r i (k+1)]
  have e1:decide (k<k+(i+1))=true:=by simp
  rw [e1,show k+1+i=k+(i+1) by omega]
theorem Mo:∀(D:List (List (Nat×AV))) (i:Nat) (f:Nat→AV),(∀j,j<D.length→L (i+j)=L' (i+j))→frY L i D f=frY L' i D f
 | [],_,_,_=>rfl
 | x::r,i,f,h=>by
  unfold frY
  have h0:=h 0 (by simp)
  rw [Nat.add_zero] at h0
  rw [h0]
  exact Mo r (i+1) _ (fun j hj=>by have:=h (j+1) (by simp;omega);rwa [show i+1+j=i+(j+1) by omega])
theorem Kc:∀(D:List (List (Nat×AV))) (i j:Nat) (f:Nat→AV),frY (fun _=>true) i D f=frY (fun _=>true) j D f
 | [],_,_,_=>rfl
 | x::r,i,j,f=>by unfold frY;exact Kc r _ _ _
theorem Jn (L:Nat→Bool) (i:Nat) (x:List (Nat×AV)) (r:List (List (Nat×AV))) (f:Nat→AV):frY L i (x::r) f=frY L (i+1) r (if L i then He x f else f):=rfl
theorem T5:∀(A B:List (List (Nat×AV))) (i:Nat) (f:Nat→AV),frY (fun _=>true) i (A++B) f=frY (fun _=>true) 0 B (frY (fun _=>true) i A f)
 | [],B,i,f=>Kc B i 0 f
 | x::r,B,i,f=>by
  rw [Dd,Jn,Jn]
  exact T5 r B (i+1) _
theorem Og (L:Nat→Bool):∀(D:List (Nat×AV)) (i:Nat) (f:Nat→AV),frY L i (D.map fun x=>[x]) f=frL L i D f
 | [],_,_=>rfl
 | x::r,i,f=>by
  rw [Cl,Jn,dm,Og L r]
  rfl

/-! ### What has turned the heap -/
def upd (B:Nat→Bool) (p:Nat):Nat→Bool:=fun q=>if q=p then true else B q
def aj (t:Option Nat) (B:Nat→Bool):Nat→Bool:=match t with|some p=>upd B p|none=>B
/-- tn: the operations that turn the heap; of each, by its number among them, whether it has run. -/
def bits (tn:List Nat) (L:Nat→Bool):Nat→Bool:=fun p=>match tn[p]? with|some e=>L e|none=>false
/-- What is told of one of the operations drawn: the slots that it writes (none: the one that its text names), its number among those that turn the heap, and which of these come before and behind it. -/
structure Inf where
 W:Option (List Nat)
 t:Option Nat
 T:List Nat
 F:List Nat
theorem dn {tn:List Nat} {L L':Nat→Bool} {i:Nat} {t:Option Nat} (hL:∀q,L' q=if q=i then true else L q) (h1:∀p,t=some p→tn[p]? = some i) (h0:t=none→i∉tn) (hn:∀(p q e:Nat),tn[p]? = some e→tn[q]? = some e→p=q):bits tn L'=aj t (bits tn L):=by
 funext q
 cases t with
 | none =>
  show bits tn L' q=bits tn L q
  unfold bits
  cases hq:tn[q]? with
  | none=>rfl
  | some e =>
   show L' e=L e
   rw [hL,if_neg (fun he=>h0 rfl (by rw [←he];exact Ax hq))]
 | some p =>
  show bits tn L' q=upd (bits tn L) p q
  unfold upd
  by_cases hqp:q=p
  ·subst hqp
   rw [if_pos rfl]
   unfold bits
   rw [h1 q rfl]
   show L' i=true
   rw [hL,if_pos rfl]
  rw [if_neg hqp]
  unfold bits
  cases hq:tn[q]? with
  | none=>rfl
  | some e =>
   show L' e=L e
   rw [hL,if_neg (fun he=>by subst he;exact hqp (hn _ _ _ hq (h1 p rfl)))]
def slY (o:Oper) (x:Inf):List Nat:=match x.W with|some W=>W|none=>o.dst.toList

/-- What is asked of the region's text. -/
def okT (l:List Oper) (tn:List Nat) (I:List Inf) (M:List Nat):Bool:=
 Nat.ble I.length l.length&&(tn.zipIdx.all fun x=>Nat.blt x.1 I.length&&tn.zipIdx.all fun y=>Nat.beq x.2 y.2 || !Nat.beq x.1 y.1) &&
 l.zipIdx.all fun x =>
  Nat.beq (M.getD x.2 0) (Sw M x.1.after.toList)&&(x.1.after.toList.all fun e => !Region.binds .any e || Nat.blt e.on x.2) &&
  match I[x.2]? with
  | some inf =>
   ((slY x.1 inf).all fun s=>(l.zip I).zipIdx.all fun z=>Nat.beq z.2 x.2 || !((slY z.1.1 z.1.2).elem s) || (!(inf.W.isNone&&z.1.2.W.isNone)&&(((M.getD x.2 0).testBit z.2&&Nat.blt z.2 x.2) || ((M.getD z.2 0).testBit x.2&&Nat.blt x.2 z.2)))) &&
   ((lk l x.1).all fun s=>(l.zip I).zipIdx.all fun z => !((slY z.1.1 z.1.2).elem s) || Nat.beq z.2 x.2 || ((M.getD x.2 0).testBit z.2&&Nat.blt z.2 x.2) || ((M.getD z.2 0).testBit x.2&&Nat.blt x.2 z.2)) &&
   (inf.T.all fun p=>match tn[p]? with|some e=>(M.getD x.2 0).testBit e|none=>false)&&(inf.F.all fun p=>match tn[p]? with|some e=>(M.getD e 0).testBit x.2|none=>false) &&
   (match inf.t with|some p=>(match tn[p]? with|some e=>Nat.beq e x.2|none=>false)|none => !tn.elem x.2)
  | none=>(List.range I.length).all fun j=>(M.getD x.2 0).testBit j

structure OkT (l:List Oper) (tn:List Nat) (I:List Inf) (M:List Nat):Prop extends EdgeOK l l.length M where
 len:I.length≤l.length
 uniq:∀(i j:Nat) (o z:Oper) (x y:Inf) (s:Nat),l[i]? = some o→l[j]? = some z→I[i]? = some x→I[j]? = some y→s∈slY o x→s∈slY z y→j=i∨(¬(x.W=none∧y.W=none)∧(((M.getD i 0).testBit j=true∧j<i)∨((M.getD j 0).testBit i=true∧i<j)))
 look:∀(i j:Nat) (o z:Oper) (x y:Inf) (s:Nat),l[i]? = some o→l[j]? = some z→I[i]? = some x→I[j]? = some y→s∈lk l o→s∈slY z y→j=i∨((M.getD i 0).testBit j=true∧j<i)∨((M.getD j 0).testBit i=true∧i<j)
 T:∀(i:Nat) (x:Inf) (p:Nat),I[i]? = some x→p∈x.T→∃e,tn[p]? = some e∧(M.getD i 0).testBit e=true
 F:∀(i:Nat) (x:Inf) (p:Nat),I[i]? = some x→p∈x.F→∃e,tn[p]? = some e∧(M.getD e 0).testBit i=true
 t1:∀(i:Nat) (x:Inf) (p:Nat),I[i]? = some x→x.t=some p→tn[p]? = some i
 t0:∀(i:Nat) (x:Inf),I[i]? = some x→x.t=none→i∉tn
 tl:∀(p e:Nat),tn[p]? = some e→e<I.length
 tu:∀(p q e:Nat),tn[p]? = some e→tn[q]? = some e→p=q
 tailk:∀(i j:Nat) (o:Oper),l[i]? = some o→I.length≤i→j<I.length→(M.getD i 0).testBit j=true

theorem Lp {l:List Oper} {tn:List Nat} {I:List Inf} {M:List Nat} (h:okT l tn I M=true):OkT l tn I M:=by
 have hx:∀(i:Nat) (o:Oper),l[i]? = some o→(o,i)∈l.zipIdx:=fun i o ho=>by
  rw [Hn];exact ho
 have hz:∀(j:Nat) (z:Oper) (y:Inf),l[j]? = some z→I[j]? = some y→((z,y),j)∈(l.zip I).zipIdx:=fun j z y h1 h2=>by
  rw [Hn,Wm];exact ⟨h1,h2⟩
 unfold okT at h
 rw [B1,B1] at h
 have hlen:I.length≤l.length:=Nat.le_of_ble_eq_true h.1.1
 have htn:=Ap.1 h.1.2
 have h:=Ap.1 h.2
 have htl:∀(p e:Nat),tn[p]? = some e→(e,p)∈tn.zipIdx:=fun p e he=>by rw [Hn];exact he
 have hl:∀(i:Nat) (x:Inf),I[i]? = some x→∃o,l[i]? = some o:=fun i x hi=>by
  have:=(Ac.1 hi).1
  exact ⟨l[i]'(by omega),Ad _⟩
 refine ⟨⟨fun i o ho m hm=>?_,fun i o ho e he hb=>?_,fun i j o ho hi hj=>absurd (Ac.1 ho).1 (by omega)⟩,hlen,fun i j o z x y s ho hz' hix hjy hs hs'=>?_,fun i j o z x y s ho hz' hix hjy hs hs'=>?_,fun i x p hi hp=>?_,fun i x p hi hp=>?_,fun i x p hi hp=>?_,fun i x hi hp=>?_,fun p e he=>?_,fun p q e hp hq=>?_,fun i j o ho hi hj=>?_⟩
 ·have hio:=h _ (hx i o ho);simp only [B1] at hio
  have e:=H0 hio.1.1
  rw [e] at hm
  obtain ⟨e',he',h1⟩:=P3 _ hm
  exact ⟨e',by simpa using he',h1⟩
 ·have hio:=h _ (hx i o ho);simp only [B1] at hio
  have:=Ap.1 hio.1.2 e (by simpa using he)
  simpa [hb] using this
 ·have hio:=h _ (hx i o ho);simp only [B1] at hio
  have h2:=hio.2
  simp only [hix,B1] at h2
  have:=Ap.1 (Ap.1 h2.1.1.1.1 s hs) _ (hz j z y hz' hjy)
  simp only [Fg,If] at this
  rcases this with (h|h)|h
  ·exact .inl (H0 h)
  ·rw [Mg.2 hs'] at h;cases h
  rw [B1,Fg,B1,B1] at h
  refine .inr ⟨?_,?_⟩
  ·rintro ⟨e1,e2⟩
   rw [e1,e2] at h
   exact absurd h.1 (by simp)
  rcases h.2 with h|h
  ·exact .inl ⟨h.1,by simpa using h.2⟩
  exact .inr ⟨h.1,by simpa using h.2⟩
 ·have hio:=h _ (hx i o ho);simp only [B1] at hio
  have h2:=hio.2
  simp only [hix,B1] at h2
  have:=Ap.1 (Ap.1 h2.1.1.1.2 s hs) _ (hz j z y hz' hjy)
  simp only [Mg.2 hs',Ig,Mc,Fg,B1] at this
  rcases this with (h|h)|h
  ·exact .inl (H0 h)
  ·exact .inr (.inl ⟨h.1,by simpa using h.2⟩)
  exact .inr (.inr ⟨h.1,by simpa using h.2⟩)
 ·obtain ⟨o,ho⟩:=hl i x hi
  have hio:=h _ (hx i o ho);simp only [B1] at hio
  have h2:=hio.2
  simp only [hi,B1] at h2
  have:=Ap.1 h2.1.1.2 p hp
  cases he:tn[p]? with
  | none=>rw [he] at this;cases this
  | some e=>rw [he] at this;exact ⟨e,rfl,this⟩
 ·obtain ⟨o,ho⟩:=hl i x hi
  have hio:=h _ (hx i o ho);simp only [B1] at hio
  have h2:=hio.2
  simp only [hi,B1] at h2
  have:=Ap.1 h2.1.2 p hp
  cases he:tn[p]? with
  | none=>rw [he] at this;cases this
  | some e=>rw [he] at this;exact ⟨e,rfl,this⟩
 ·obtain ⟨o,ho⟩:=hl i x hi
  have hio:=h _ (hx i o ho);simp only [B1] at hio
  have h2:=hio.2
  simp only [hi,B1,hp] at h2
  have:=h2.2
  cases he:tn[p]? with
  | none=>rw [he] at this;cases this
  | some e=>rw [he] at this;rw [H0 this]
 ·obtain ⟨o,ho⟩:=hl i x hi
  have hio:=h _ (hx i o ho);simp only [B1] at hio
  have h2:=hio.2
  simp only [hi,B1,hp,If] at h2
  intro hm
  have:=h2.2
  rw [Mg.2 hm] at this
  cases this
 ·have:=htn _ (htl p e he)
  rw [B1] at this
  simpa using this.1
 ·have:=htn _ (htl p e hp)
  rw [B1] at this
  have:=Ap.1 this.2 _ (htl q e hq)
  simpa using this
 have hio:=h _ (hx i o ho);simp only [B1] at hio
 have h2:=hio.2
 rw [Dx hi] at h2
 exact Ap.1 h2 j (by simpa using hj)

def okY (l:List Oper) (tn:List Nat) (I:List Inf) (M:List Nat):Bool:=
 okT l tn I M&&(l.zipIdx.drop I.length).all fun x=>(List.range x.2).all fun j=>(M.getD x.2 0).testBit j
theorem dp {l:List Oper} {I:List Inf} (h:okY l tn I M=true):okT l tn I M=true∧EdgeOK l I.length M:=by
 unfold okY at h
 rw [B1] at h
 have ok:=Lp h.1
 refine ⟨h.1,ok.bits,ok.fwd,fun i j o ho hi hj=>?_⟩
 have hm:(o,i)∈l.zipIdx.drop I.length:=by
  refine Ax (i:=i-I.length) ?_
  rw [Dl,show I.length+(i-I.length)=i by omega,List.getElem?_zipIdx,ho]
  simp
 exact Ap.1 (Ap.1 h.2 _ hm) j (by simpa using hj)

/-- An operation that may panic. -/
def AOpK (P:Program) (d:Nat) (KP:List PanicEntry→St→Prop) (o:Oper) (st:St) (Q:St→Prop):Prop:=
 ∀(G:Gh) (a:Act) (w:World),StRel d G st a w→o.wpIn (Fr (st.rnd.map G.blk)) 0 P a w (Post d st G w Q) (fun e a' w'=>∃ch,e=.panic ch∧Post d st G w (fun s=>s.fr=st.fr∧KP ch s) a' w')
theorem AOpK.of {KP:List PanicEntry→St→Prop} {st:St} {Q:St→Prop} (h:AOp P d o st Q):AOpK P d KP o st Q:=fun G a w hr=>h G a w hr _
theorem L0 {F:Fence} {n:Nat} {o:Oper} {a:Act} {w:World} {K K':Act→World→Prop} {Q Q':Exit→Act→World→Prop} (h:∀a w,K a w→K' a w) (hq:∀e a w,Q e a w→Q' e a w)
  (hh:o.wpIn F n P a w K Q):o.wpIn F n P a w K' Q':=by
 unfold Oper.wpIn at *
 refine ⟨hh.1,?_⟩
 have hh:=hh.2
 generalize (o.semAt F.round a.eval).run P w=r at *
 cases r with
 | ok x w' =>
  cases x<;>simp only [Oper.uponIn] at hh ⊢ <;>
   first
    | exact h _ _ hh
    | exact ⟨hh.1,CallsIn.mono hh.2 (fun e w'' he=>by
      cases e<;>first|exact h _ _ he|exact hq _ _ _ he|(obtain ⟨a,w,he⟩:=he;exact ⟨a,w,hq _ _ _ he⟩))⟩
    | exact ⟨hh.1,RowsIn.mono hh.2 (fun _ _ he=>h _ _ he)⟩
    | exact ⟨hh.1,RoundIn.mono hh.2 (fun e w'' he=>by
      cases e<;>first|exact h _ _ he|exact hq _ _ _ he|(obtain ⟨a,w,he⟩:=he;exact ⟨a,w,hq _ _ _ he⟩))⟩
 | halt x w'=>cases x<;>simp only [Oper.uponIn] at hh ⊢<;>first|exact hh|exact hq _ _ _ hh
/-- What is to be shown of one of the operations drawn; f0: the frame in the text's order. -/
def OpY (P:Program) (d:Nat) (l:List Oper) (sz:Nat) (up own:(Nat→Bool)→List AObj) (dfs:List Nat) (rnd:Option Nat) (KP:List PanicEntry→St→Prop) (x:Inf) (o:Oper) (f0:Nat→AV) (ws:List (Nat×AV)):Prop:=
 match x.W with
 | none=>x.t=none∧∃s y,ws=[(s,y)]∧o.dst=some s∧s<sz∧∀B,(∀p∈x.T,B p=true)→(∀p∈x.F,B p=false)→OpD P d l o sz f0 (up B) (own B) dfs rnd y
 | some W=>ws.map (·.1)=W∧o.guard=none∧∀B f,(∀p∈x.T,B p=true)→(∀p∈x.F,B p=false)→(∀p,x.t=some p→B p=false)→(∀t∈lk l o,f t=f0 t) →
   AOpK P d KP o ⟨sz,f,up B,own B,dfs,rnd⟩ (·=⟨sz,He ws f,up (aj x.t B),own (aj x.t B),dfs,rnd⟩)
theorem OpY.slots {KP:List PanicEntry→St→Prop} {l:List Oper} {up own:(Nat→Bool)→List AObj} {x:Inf} {o:Oper} {f0:Nat→AV} {ws:List (Nat×AV)} (h:OpY P d l sz up own dfs rnd KP x o f0 ws):ws.map (·.1)=slY o x:=by
 unfold OpY at h
 unfold slY
 cases hW:x.W with
 | none =>
  rw [hW] at h
  obtain ⟨_,s,y,rfl,h2,_⟩:=h
  simp [h2]
 | some W =>
  rw [hW] at h
  exact h.1

/-- **A region whose order is drawn, with several operations that turn the heap or write more slots than one**; whatever is asked of its end. -/
theorem ll {id:Nat} {l:List Oper} {tn:List Nat} {I:List Inf} {D:List (List (Nat×AV))} {up own:(Nat→Bool)→List AObj} {fr:Nat→AV} {KP:List PanicEntry→St→Prop} {Q:Exit→Act→World→Prop} {G0:Gh} {a0:Act} {w0:World} (M:List Nat) (hm:P.follows .mixedOrders=true) (hok:okT l tn I M=true)
  (hD:D.length=I.length) (hlen:∀B,(up B).length=(up fun _=>false).length)
  (hops:∀(i:Nat) (o:Oper) (x:Inf),l[i]? = some o→I[i]? = some x→∃ws,D[i]? = some ws∧OpY P d l sz up own dfs rnd KP x o (frY (fun _=>true) 0 (D.take i) fr) ws)
  (hr0:StRel d G0 ⟨sz,fr,up fun _=>false,own fun _=>false,dfs,rnd⟩ a0 w0)
  (hrest:∀(G:Gh) (a:Act) (w:World),StRel d G ⟨sz,frY (fun _=>true) 0 D fr,up (fun p=>decide (p<tn.length)),own (fun p=>decide (p<tn.length)),dfs,rnd⟩ a w→Keep d G0 w0 G w→∀listed:Array Bool,listed.size=l.length→(∀j,j<l.length→listed.getD j false=decide (j<I.length))→wpAnyIn (Fr (rnd.map G0.blk)) 0 P .any l.toArray Q (l.length-I.length) listed a w)
  (hpan:∀(ch:List PanicEntry) (a:Act) (w:World) (Lb:Nat→Bool),Post d ⟨sz,fr,up fun _=>false,own fun _=>false,dfs,rnd⟩ G0 w0 (fun s=>s.fr=frY Lb 0 D fr∧KP ch s) a w→Q (.panic ch) a w):
  (Code.region id l.toArray true).wpIn (Fr (rnd.map G0.blk)) 0 P Q a0 w0:=by
 have ok:=Lp hok
 obtain ⟨k,hk⟩:∃k,k=I.length:=⟨_,rfl⟩
 have hkl:k≤l.length:=by have:=ok.len;omega
 have ed:EdgeOK l l.length M:=ok.toEdgeOK
 have etl:∀(i j:Nat) (o:Oper),l[i]? = some o→k≤i→j<k→(M.getD i 0).testBit j=true:=by rw [hk];exact ok.tailk
 rw [←hk] at hD hrest
 have gI:∀i,i<k→∃x,I[i]? = some x:=fun i hi=>⟨I[i]'(by omega),Ad _⟩
 refine wpIn_region_any hm ?_
 generalize hF:Fr (rnd.map G0.blk)=F at hrest ⊢
 have hu:∀(i j:Nat) (t:Nat) (ws ws':List (Nat×AV)),D[i]? = some ws→t∈ws.map (·.1)→D[j]? = some ws'→t∈ws'.map (·.1)→j=i∨((M.getD i 0).testBit j=true∧j<i)∨((M.getD j 0).testBit i=true∧i<j):=by
  intro i j t ws ws' h1 m1 h2 m2
  have hi:i<k:=by rw [←hD];exact (Ac.1 h1).1
  have hj:j<k:=by rw [←hD];exact (Ac.1 h2).1
  have e1:l[i]? = some (l[i]'(by omega)):=Ad (by omega)
  have e2:l[j]? = some (l[j]'(by omega)):=Ad (by omega)
  obtain ⟨x,hx⟩:=gI i hi
  obtain ⟨y,hy⟩:=gI j hj
  obtain ⟨w1,a1,a2⟩:=hops i _ x e1 hx
  obtain ⟨w2,b1,b2⟩:=hops j _ y e2 hy
  rw [h1] at a1;injection a1 with a1;subst a1
  rw [h2] at b1;injection b1 with b1;subst b1
  rw [a2.slots] at m1
  rw [b2.slots] at m2
  exact (ok.uniq i j _ _ x y t e1 e2 hx hy m1 m2).imp (fun h=>h) (fun h=>h.2)
 have hbe:∀L:Nat→Bool,(∀j,j<k→L j=true)→bits tn L=(fun p=>decide (p<tn.length)):=fun L hL=>by
  funext p
  unfold bits
  cases hp:tn[p]? with
  | none =>
   have:¬p<tn.length:=by rw [d8] at hp;omega
   show false=decide (p<tn.length)
   simp [this]
  | some e =>
   have h1:=(Ac.1 hp).1
   show L e=decide (p<tn.length)
   rw [hL e (by rw [hk];exact ok.tl p e hp)]
   simp [h1]
 have key:∀(fuel:Nat) (listed:Array Bool) (a:Act) (w:World) (G:Gh),listed.size=l.length→listed.toList.countP (fun b => !b)=fuel →
   (∀j,k≤j→j<l.length→listed.getD j false=false) →
   (∀(i:Nat) (o:Oper),listed.getD i false=true→l[i]? = some o→∀e∈o.after,Region.binds .any e=true→listed.getD e.on false=true) →
   StRel d G ⟨sz,frY (fun j=>listed.getD j false) 0 D fr,up (bits tn fun j=>listed.getD j false),own (bits tn fun j=>listed.getD j false),dfs,rnd⟩ a w→Keep d G0 w0 G w →
   wpAnyIn F 0 P .any l.toArray Q fuel listed a w:=by
  intro fuel
  induction fuel with
  | zero =>
   intro listed a w G hsz hcnt htl hcl hst hkp
   have hall:∀j,j<l.length→listed.getD j false=true:=fun j hj=>by
    have hz:listed.toList.all (fun b=>b)=true:=by
     rw [List.countP_eq_zero] at hcnt
     exact Ap.2 fun b hb=>by simpa using hcnt b hb
    have hj':j<listed.size:=by omega
    have:=Ap.1 hz (listed[j]) (by simp)
    simpa [hj'] using this
   have hkeq:k=l.length:=by
    refine Fz fun hne=>?_
    have h1:=htl k (Ah _) (by omega)
    rw [hall k (by omega)] at h1
    cases h1
   have hfe:frY (fun j=>listed.getD j false) 0 D fr=frY (fun _=>true) 0 D fr:=Mo D 0 fr (fun j hj=>by rw [B7];exact hall j (by omega))
   have hce:(bits tn fun j=>listed.getD j false)=(fun p=>decide (p<tn.length)):=hbe _ (fun j hj=>hall j (by omega))
   rw [hfe,hce] at hst
   have hz:=hrest G a w hst hkp listed hsz (fun j hj=>by rw [hall j hj];simp;omega)
   rwa [show l.length-k=0 by omega] at hz
  | succ fuel ih =>
   intro listed a w G hsz hcnt htl hcl hst hkp
   by_cases hpre:∀j,j<k→listed.getD j false=true
   ·-- the rest, in a row
    have hfe:frY (fun j=>listed.getD j false) 0 D fr=frY (fun _=>true) 0 D fr:=Mo D 0 fr (fun j hj=>by rw [B7];exact hpre j (by omega))
    have hce:(bits tn fun j=>listed.getD j false)=(fun p=>decide (p<tn.length)):=hbe _ hpre
    rw [hfe,hce] at hst
    have hle:∀j,j<l.length→listed.getD j false=decide (j<k):=fun j hj=>by
     by_cases hjk:j<k
     ·rw [hpre j hjk];simpa using hjk
     rw [htl j (by omega) hj];simpa using hjk
    have hcnt':fuel+1=l.length-k:=by
     rw [←hcnt]
     have e1:listed.toList=(List.range l.length).map (fun j=>decide (j<k)):=by
      apply Wi
      ·simp [hsz]
      intro j h1 h2
      have hj:j<l.length:=by simpa [hsz] using h1
      have:=hle j hj
      simp only [Wn,List.getElem_range,Array.getElem_toList]
      rw [←this]
      have hj':j<listed.size:=by omega
      simp [hj']
     rw [e1,List.countP_map]
     have e2:((fun b => !b) ∘ fun j=>decide (j<k))=fun j=>decide (k≤j):=by
      funext j
      simp only [Function.comp_apply]
      by_cases hjk:j<k
      ·have h2:¬k≤j:=by omega
       simp [hjk,h2]
      have h2:k≤j:=by omega
      simp [hjk,h2]
     rw [e2]
     have:∀n,(List.range n).countP (fun j=>decide (k≤j))=n-k:=by
      intro n
      induction n with
      | zero=>simp
      | succ n ihn =>
       rw [Si,List.countP_append,ihn]
       by_cases hkn:k≤n
       ·simp [hkn];omega
       simp [hkn];omega
     rw [this]
    rw [hcnt']
    exact hrest G a w hst hkp listed hsz hle
   obtain ⟨j0,hj0k,hj0⟩:∃j,j<k∧listed.getD j false=false:=by
    refine Fz fun hne=>hpre fun j hj=>?_
    cases hv:listed.getD j false with
    | true=>rfl
    | false=>exact absurd ⟨j,hj,hv⟩ hne
   refine ⟨fun h0=>?_,fun i hi=>?_⟩
   ·-- the least that is not listed is ready
    obtain ⟨m,hm,hmin⟩:=H2 (S:=fun j=>j<k∧listed.getD j false=false) ⟨j0,hj0k,hj0⟩
    have hml:m<l.length:=by omega
    have:m∈Region.ready .any l.toArray listed:=by
     refine mem_ready.2 ⟨?_,l[m],by simp [hml],fun e he hb=>?_⟩
     ·have:=hm.2;have hj':m<listed.size:=by omega
      simpa [hj'] using this
     have hlt:=ed.fwd m _ (Ad hml) e he hb
     cases hv:listed.getD e.on false with
     | true=>rfl
     | false=>have:=hmin e.on ⟨by omega,hv⟩;omega
    rw [h0] at this
    cases this
   obtain ⟨h1,o,ho,he⟩:=mem_ready.1 hi
   have ho':l[i]? = some o:=by simpa using ho
   have hil:=(Ac.1 ho').1
   have hLi:listed.getD i false=false:=by
    have h3:listed.getD i true=listed.getD i false:=by simp [hsz,hil]
    rw [←h3];exact h1
   have hbits:=Gr ed (L:=fun j=>listed.getD j false) hcl i o ho' he
   have hik:i<k:=by
    refine Fz fun hge=>?_
    have:=hbits j0 (etl i j0 o ho' (by omega) hj0k)
    simp only [hj0] at this
    cases this
   obtain ⟨x,hx⟩:=gI i hik
   obtain ⟨ws,hDi,hO⟩:=hops i o x ho' hx
   -- what it looks at is as in the text's order
   have hnl:∀j,(M.getD j 0).testBit i=true→j<k→listed.getD j false=false:=fun j hb hjk=>by
    cases hv:listed.getD j false with
    | false=>rfl
    | true =>
     have ez:l[j]? = some (l[j]'(by omega)):=Ad (by omega)
     have:=Gr ed (L:=fun j=>listed.getD j false) hcl j _ ez (hcl j _ hv ez) i hb
     simp only [hLi] at this
     cases this
   have hag:∀t∈lk l o,frY (fun j=>listed.getD j false) 0 D fr t=frY (fun _=>true) 0 (D.take i) fr t:=by
    intro t ht
    rw [Up]
    refine X1 D 0 fr fr (fun j v hj htv=>?_) rfl
    have hjk:j<k:=by rw [←hD];exact (Ac.1 hj).1
    have ez:l[j]? = some (l[j]'(by omega)):=Ad (by omega)
    obtain ⟨y,hy⟩:=gI j hjk
    obtain ⟨v',b1,b2⟩:=hops j _ y ez hy
    rw [hj] at b1
    injection b1 with b1
    subst b1
    rw [b2.slots] at htv
    rw [B7,B7]
    rcases ok.look i j o _ x y t ho' ez hx hy ht htv with rfl|⟨hb,hlt⟩|⟨hb,hlt⟩
    ·rw [hLi];simp
    ·rw [hbits j hb];simpa using hlt
    rw [hnl j hb hjk]
    have:¬j<i:=by omega
    simp [this]
   -- on which heap
   have hTT:∀p∈x.T,bits tn (fun j=>listed.getD j false) p=true:=fun p hp=>by
    obtain ⟨e,he,hb⟩:=ok.T i x p hx hp
    unfold bits
    rw [he]
    exact hbits e hb
   have hFF:∀p∈x.F,bits tn (fun j=>listed.getD j false) p=false:=fun p hp=>by
    obtain ⟨e,he,hb⟩:=ok.F i x p hx hp
    unfold bits
    rw [he]
    exact hnl e hb (by rw [hk];exact ok.tl p e he)
   have htt:∀p,x.t=some p→bits tn (fun j=>listed.getD j false) p=false:=fun p hp=>by
    unfold bits
    rw [ok.t1 i x p hx hp]
    exact hLi
   -- on from there
   have hgd:∀j,(listed.setIfInBounds i true).getD j false=if j=i then true else listed.getD j false:=fun j=>by
    by_cases hj:j=i
    ·subst hj;simp [hsz,hil]
    rw [getD_set_ne false (Ne.symm hj),if_neg hj]
   have hfr:frY (fun j=>(listed.setIfInBounds i true).getD j false) 0 D fr=He ws (frY (fun j=>listed.getD j false) 0 D fr):=by
    funext t
    by_cases ht:t∈ws.map (·.1)
    ·rw [Uo D 0 i fr hDi ht (by rw [B7,hgd,if_pos rfl]) (fun q v hq hm hlt=>by
      rw [B7,hgd,if_neg (by omega)]
      have hqk:q<k:=by rw [←hD];exact (Ac.1 hq).1
      rcases hu i q t ws v hDi ht hq hm with h|⟨_,h⟩|⟨h,_⟩
      ·omega
      ·omega
      exact hnl q h hqk)]
     exact Hs ws _ _ (.inl ht)
    rw [Io ws _ ht]
    refine X1 D 0 fr fr (fun j v hj htv=>?_) rfl
    rw [B7,hgd,if_neg (fun e=>by subst e;rw [hDi] at hj;injection hj with hj;subst hj;exact ht htv)]
   have hcn:(bits tn fun j=>(listed.setIfInBounds i true).getD j false)=aj x.t (bits tn fun j=>listed.getD j false):=
    dn (fun q=>hgd q) (fun p hp=>ok.t1 i x p hx hp) (fun hp=>ok.t0 i x hx hp) (fun p q e h1 h2=>ok.tu p q e h1 h2)
   have hnext:∀(G1:Gh) (a1:Act) (w1:World),StRel d G1 ⟨sz,He ws (frY (fun j=>listed.getD j false) 0 D fr),up (aj x.t (bits tn fun j=>listed.getD j false)),own (aj x.t (bits tn fun j=>listed.getD j false)),dfs,rnd⟩ a1 w1→Keep d G w G1 w1 →
     wpAnyIn F 0 P .any l.toArray Q fuel (listed.setIfInBounds i true) a1 w1:=by
    intro G1 a1 w1 hr1 hk1
    refine ih _ _ w1 G1 (by simpa using hsz) ?_ (fun j hj hjl=>by rw [hgd,if_neg (by omega)];exact htl j hj hjl) (fun q oq hq hoq e hmem hb=>?_) ?_ (hkp.trans hk1)
    ·rw [cu,List.countP_set (by simpa [hsz] using hil),hcnt]
     have hil':i<listed.size:=by omega
     have:listed[i]=false:=by simpa [hil'] using hLi
     simp [this]
    ·rw [hgd] at hq ⊢
     split
     ·rfl
     by_cases hqi:q=i
     ·subst hqi
      rw [ho'] at hoq
      injection hoq with hoq
      subst hoq
      exact he e hmem hb
     rw [if_neg hqi] at hq
     exact hcl q oq hq hoq e hmem hb
    rw [hfr,hcn]
    exact hr1
   have hFe:Fr (rnd.map G.blk)=F:=by
    rw [←hF];exact Eg (st':=⟨sz,frY (fun j=>listed.getD j false) 0 D fr,up fun _=>false,own fun _=>false,dfs,rnd⟩) hr0 hkp rfl
   unfold wpOpIn
   rw [ho]
   simp only
   unfold OpY at hO
   cases hW:x.W with
   | some W =>
    rw [hW] at hO
    obtain ⟨_,hge,hO⟩:=hO
    have hw:Region.wanted o (yielded l.toArray a.tmps)=true:=by simp [Region.wanted,hge]
    rw [if_pos hw]
    have:=hO _ _ hTT hFF htt hag G a w hst
    rw [show Fr ((St.mk sz (frY (fun j=>listed.getD j false) 0 D fr) (up (bits tn fun j=>listed.getD j false)) (own (bits tn fun j=>listed.getD j false)) dfs rnd).rnd.map G.blk)=F from hFe] at this
    refine L0 ?_ (fun e a' w' ⟨ch,he,hp⟩=>by subst he;exact hpan _ _ _ _ (hp.next hkp (hlen _) rfl rfl)) this
    rintro a1 w1 ⟨G1,st1,hr1,hk1,_,_,_,rfl⟩
    exact hnext G1 a1 w1 hr1 hk1
   | none =>
    rw [hW] at hO
    obtain ⟨hxt,s,y,rfl,hdst,hssz,hO⟩:=hO
    replace hO:=hO _ hTT hFF
    rw [hxt] at hnext
    have hput:∀(G1:Gh) (v:Value) (w1:World),StRel d G1 ⟨sz,frY (fun j=>listed.getD j false) 0 D fr,up (bits tn fun j=>listed.getD j false),own (bits tn fun j=>listed.getD j false),dfs,rnd⟩ a w1→Keep d G w G1 w1→Rep G1 w1 none y v →
      wpAnyIn F 0 P .any l.toArray Q fuel (listed.setIfInBounds i true) (a.put o.dst v) w1:=by
     intro G1 v w1 hr1 hk1 hv
     refine hnext G1 _ w1 ?_ hk1
     rw [hdst]
     exact hr1.put (st:=⟨sz,frY (fun j=>listed.getD j false) 0 D fr,up (bits tn fun j=>listed.getD j false),own (bits tn fun j=>listed.getD j false),dfs,rnd⟩) hssz hv.lift
    unfold OpD at hO
    cases hg:o.guard with
    | none =>
     rw [hg] at hO
     have hw:Region.wanted o (yielded l.toArray a.tmps)=true:=by simp [Region.wanted,hg]
     rw [if_pos hw]
     have:=hO _ hag G a w hst Q
     rw [show Fr ((St.mk sz (frY (fun j=>listed.getD j false) 0 D fr) (up (bits tn fun j=>listed.getD j false)) (own (bits tn fun j=>listed.getD j false)) dfs rnd).rnd.map G.blk)=F from hFe] at this
     refine Oper.wpIn_mono ?_ this
     rintro a1 w1 ⟨G1,v,rfl,hr1,hk1,hv⟩
     exact hput G1 v w1 hr1 hk1 hv
    | some jw =>
     obtain ⟨j,want⟩:=jw
     rw [hg] at hO
     obtain ⟨oj,g,C,y'',hj,hdj,hgB,rfl,hO⟩:=hO
     have hgf:GIs (frY (fun j=>listed.getD j false) 0 D fr g) want C:=by
      rw [hag g (by unfold lk;rw [hg];simp [hj,hdj])]
      exact hgB
     have hw:Region.wanted o (yielded l.toArray a.tmps)=C:=Mj hst hg (by simpa using hj) hdj hgf
     rw [hw]
     cases hBw:C with
     | true =>
      rw [if_pos rfl]
      have:=hO hBw _ hag G a w hst Q
      rw [show Fr ((St.mk sz (frY (fun j=>listed.getD j false) 0 D fr) (up (bits tn fun j=>listed.getD j false)) (own (bits tn fun j=>listed.getD j false)) dfs rnd).rnd.map G.blk)=F from hFe] at this
      refine Oper.wpIn_mono ?_ this
      rintro a1 w1 ⟨G1,v,rfl,hr1,hk1,hv⟩
      exact hput G1 v w1 hr1 hk1 (by rw [hBw];exact hv)
     | false =>
      rw [if_neg (by simp)]
      refine ⟨fun _ _=>by rw [←hFe];trivial,?_⟩
      exact hput G undef w hst (Er _ _ _) (by rw [hBw];exact .v _ _)
 have hrf:∀j,(Array.replicate l.toArray.size false).getD j false=false:=fun j=>by
  rw [Hm,Oo]
  split<;>rfl
 have hz:frY (fun j=>(Array.replicate l.toArray.size false).getD j false) 0 D fr=fr:=by
  funext t
  exact Jm D 0 fr fun j v _ _=>hrf _
 have hz':(bits tn fun j=>(Array.replicate l.toArray.size false).getD j false)=fun _=>false:=by
  funext p
  unfold bits
  cases tn[p]? with
  | none=>rfl
  | some e=>exact hrf e
 refine key _ _ _ _ G0 (by simp) ?_ (fun j hj hjl=>hrf j) (fun i o hi=>?_) ?_ ?_
 ·simp [cx]
 ·rw [hrf] at hi;cases hi
 ·rw [hz,hz']
  exact hr0.drew _
 exact (Ml G0 w0 _).keep d

/-! ### In the text's order, segment by segment -/
inductive SegY where
 | q (n:Nat) (T F:List Nat)
 | s (W:List Nat) (t:Option Nat) (T F:List Nat)
def SegY.inf:SegY→List Inf
 | .q n T F=>List.replicate n ⟨none,none,T,F⟩
 | .s W t T F=>[⟨some W,t,T,F⟩]
def By:List SegY→List Inf
 | []=>[]
 | x::r=>x.inf++By r

def ChainY (P:Program) (d:Nat) (l0:List Oper) (sz:Nat) (up own:(Nat→Bool)→List AObj) (dfs:List Nat) (rnd:Option Nat) (KP:List PanicEntry→St→Prop) (E:List Oper→(Nat→AV)→Prop):List SegY→List Oper→(Nat→AV)→Prop
 | [],l,fr=>E l fr
 | .q n T F::S,l,fr=>(∀p∈T,p∉F)∧∃l2 F2,(∀B:Nat→Bool,(∀p∈T,B p=true)→(∀p∈F,B p=false)→ADraw P d l0 sz (up B) (own B) dfs rnd (fun l' f=>l'=l2∧f=F2) n l fr)∧ChainY P d l0 sz up own dfs rnd KP E S l2 F2
 | .s W t T F::S,l,fr=>∃o l2 ws,l=o::l2∧OpY P d l0 sz up own dfs rnd KP ⟨some W,t,T,F⟩ o fr ws∧ChainY P d l0 sz up own dfs rnd KP E S l2 (He ws fr)

theorem ChainY.data {KP:List PanicEntry→St→Prop} {l0:List Oper} {up own:(Nat→Bool)→List AObj} {E:List Oper→(Nat→AV)→Prop}:∀(S:List SegY) (l:List Oper) (fr:Nat→AV),
  (∀(i j:Nat) (o z:Oper) (x y:Inf) (s:Nat),l[i]? = some o→l[j]? = some z→(By S)[i]? = some x→(By S)[j]? = some y→x.W=none→y.W=none→s∈slY o x→s∈slY z y→j=i) →
  ChainY P d l0 sz up own dfs rnd KP E S l fr→∃D:List (List (Nat×AV)),D.length=(By S).length∧D.length≤l.length ∧
   (∀(i:Nat) (o:Oper) (x:Inf),l[i]? = some o→(By S)[i]? = some x→∃ws,D[i]? = some ws∧OpY P d l0 sz up own dfs rnd KP x o (frY (fun _=>true) 0 (D.take i) fr) ws) ∧
   E (l.drop D.length) (frY (fun _=>true) 0 D fr)
 | [],l,fr,U,h=>⟨[],rfl,Aw _,fun i o x _ hx=>by simp [By] at hx,h⟩
 | .q n T F::S,l,fr,U,⟨hTF,l2,F2,hA,h⟩=>by
  obtain ⟨D1,hD1,hk1,ho1,hl1,hF1⟩:=ADraw.data n l fr (hA (fun p=>T.elem p) (fun p hp=>Mg.2 hp) (fun p hp=>by
   cases hv:T.elem p with
   | false=>rfl
   | true=>exact absurd hp (hTF p (Mg.1 hv))))
  have hI:∀i,i<n→(By (.q n T F::S))[i]? = some ⟨none,none,T,F⟩:=fun i hi'=>by
   show (List.replicate n _++By S)[i]? = _
   rw [Cx (by simpa using hi'),List.getElem?_replicate,if_pos hi']
  have hI2:∀i,(By (.q n T F::S))[n+i]? = (By S)[i]? := fun i=>by
   show (List.replicate n _++By S)[n+i]? = _
   rw [Cp (by simp)]
   simp
  have hl2:∀i,l2[i]? = l[n+i]? := fun i=>by rw [←hl1,Dl]
  have hq:∀(i:Nat) (o:Oper),i<n→l[i]? = some o→∃s y,D1[i]? = some (s,y)∧o.dst=some s∧s<sz∧∀B:Nat→Bool,(∀p∈T,B p=true)→(∀p∈F,B p=false)→OpD P d l0 o sz (frL (fun _=>true) 0 (D1.take i) fr) (up B) (own B) dfs rnd y:=by
   intro i o hin ho
   obtain ⟨s,y,c1,c2,c3,_⟩:=ho1 i o hin ho
   refine ⟨s,y,c1,c2,c3,fun b hb1 hb2=>?_⟩
   obtain ⟨D1',hD1',_,ho1',_,hF1'⟩:=ADraw.data n l fr (hA b hb1 hb2)
   have same:D1=D1':=by
    refine ai (f:=fr) (by omega) (fun i s s' y y' e1 e2=>?_) (fun i j s y y' e1 e2=>?_) (by rw [hF1,hF1'])
    ·have hi:=(Ac.1 e1).1
     have hz:l[i]? = some (l[i]'(by omega)):=Ad (by omega)
     obtain ⟨a,b,c1,c2,_⟩:=ho1 i _ (by omega) hz
     obtain ⟨a',b',c1',c2',_⟩:=ho1' i _ (by omega) hz
     rw [e1] at c1;rw [e2] at c1';rw [c2] at c2'
     simp only [Of,Sn] at c1 c1' c2'
     omega
    have hi:=(Ac.1 e1).1
    have hj:=(Ac.1 e2).1
    have hz:l[i]? = some (l[i]'(by omega)):=Ad (by omega)
    have hz':l[j]? = some (l[j]'(by omega)):=Ad (by omega)
    obtain ⟨a,b,c1,c2,_⟩:=ho1 i _ (by omega) hz
    obtain ⟨a',b',c1',c2',_⟩:=ho1 j _ (by omega) hz'
    rw [e1] at c1;rw [e2] at c1'
    simp only [Of,Sn] at c1 c1'
    refine (U i j _ _ _ _ s hz hz' (hI i (by omega)) (hI j (by omega)) rfl rfl ?_ ?_).symm
    ·simp [slY,c2,c1.1]
    simp [slY,c2',c1'.1]
   subst same
   obtain ⟨s',y',d1,_,_,d4⟩:=ho1' i o hin ho
   rw [c1] at d1
   simp only [Of,Sn] at d1
   obtain ⟨rfl,rfl⟩:=d1
   exact d4
  obtain ⟨D2,hD2,hk2,ho2,hE⟩:=ChainY.data S l2 F2 (fun i j o z x y s h1 h2 h3 h4 n1 n2 h5 h6=>by
   have:=U (n+i) (n+j) o z x y s (by rw [←hl2];exact h1) (by rw [←hl2];exact h2) (by rw [hI2];exact h3) (by rw [hI2];exact h4) n1 n2 h5 h6
   omega) h
  have hlen2:l2.length=l.length-n:=by rw [←hl1];simp
  refine ⟨D1.map (fun x=>[x])++D2,?_,?_,fun i o x ho hx=>?_,?_⟩
  ·show _=(List.replicate n _++By S).length
   simp [hD1,hD2]
  ·simp only [Am,Bs]
   omega
  ·by_cases hin:i<n
   ·rw [hI i hin] at hx
    injection hx with hx
    subst hx
    obtain ⟨s,y,c1,c2,c3,c4⟩:=hq i o hin ho
    refine ⟨[(s,y)],?_,rfl,s,y,rfl,c2,c3,fun b h1 h2=>?_⟩
    ·rw [Cx (by simp;omega),C4,c1];rfl
    rw [Yb (by simp;omega),←List.map_take,Og]
    exact c4 b h1 h2
   obtain ⟨j,rfl⟩:∃j,i=n+j:=⟨i-n,by omega⟩
   rw [hI2] at hx
   rw [←hl2] at ho
   obtain ⟨ws,c1,c2⟩:=ho2 j o x ho hx
   refine ⟨ws,?_,?_⟩
   ·rw [Cp (by simp;omega),Bs,hD1,show n+j-n=j by omega];exact c1
   have:(D1.map (fun x=>[x])++D2).take (n+j)=D1.map (fun x=>[x])++D2.take j:=by
    rw [List.take_append,E3 (by simp;omega),Bs,hD1,show n+j-n=j by omega]
   rw [this,T5,Og,hF1]
   exact c2
  rw [T5,Og,hF1,Am,Bs,hD1,←Sa,hl1]
  exact hE
 | .s W t T F::S,l,fr,U,⟨o,l2,ws,hl,hO,h⟩=>by
  subst hl
  obtain ⟨D2,hD2,hk2,ho2,hE⟩:=ChainY.data S l2 _ (fun i j o' z x y s h1 h2 h3 h4 n1 n2 h5 h6=>by
   have:=U (i+1) (j+1) o' z x y s (by simpa using h1) (by simpa using h2) (by simpa [By,SegY.inf] using h3) (by simpa [By,SegY.inf] using h4) n1 n2 h5 h6
   omega) h
  refine ⟨ws::D2,?_,?_,fun i o' x ho hx=>?_,?_⟩
  ·show _=([_]++By S).length
   simp [hD2]
  ·simp;omega
  ·cases i with
   | zero =>
    have e1:o=o':=by simpa using ho
    have e2:(⟨some W,t,T,F⟩:Inf)=x:=by simpa [By,SegY.inf] using hx
    subst e1;subst e2
    exact ⟨ws,rfl,hO⟩
   | succ i =>
    obtain ⟨v,c1,c2⟩:=ho2 i o' x (by simpa using ho) (by simpa [By,SegY.inf] using hx)
    refine ⟨v,by simpa using c1,?_⟩
    rw [List.take_succ_cons,Jn,if_pos rfl,Kc _ _ 0]
    exact c2
  rw [Jn,if_pos rfl,Kc _ _ 0]
  simpa using hE

def noW (l:List Oper) (I:List Inf) (ts:List Nat):Bool:=(l.zip I).all fun z=>ts.all fun t => !((slY z.1 z.2).elem t)
/-- The chain's operations in any order, whatever is asked of the end; the slots `ts`, which they do not write, are as they were behind a panic. -/
theorem lm {id:Nat} {l:List Oper} {tn:List Nat} {S:List SegY} {up own:(Nat→Bool)→List AObj} {fr:Nat→AV} {KP:List PanicEntry→St→Prop} {E:List Oper→(Nat→AV)→Prop} {Q:Exit→Act→World→Prop} {G0:Gh} {a0:Act} {w0:World} (ts M:List Nat) (hm:P.follows .mixedOrders=true) (hok:okT l tn (By S) M=true) (hts:noW l (By S) ts=true)
  (hlen:∀B,(up B).length=(up fun _=>false).length) (h:ChainY P d l sz up own dfs rnd KP E S l fr) (hr0:StRel d G0 ⟨sz,fr,up fun _=>false,own fun _=>false,dfs,rnd⟩ a0 w0)
  (hrest:∀f,E (l.drop (By S).length) f→∀(G:Gh) (a:Act) (w:World),StRel d G ⟨sz,f,up (fun p=>decide (p<tn.length)),own (fun p=>decide (p<tn.length)),dfs,rnd⟩ a w→Keep d G0 w0 G w→∀listed:Array Bool,listed.size=l.length→(∀j,j<l.length→listed.getD j false=decide (j<(By S).length))→wpAnyIn (Fr (rnd.map G0.blk)) 0 P .any l.toArray Q (l.length-(By S).length) listed a w)
  (hpan:∀(ch:List PanicEntry) (a:Act) (w:World),Post d ⟨sz,fr,up fun _=>false,own fun _=>false,dfs,rnd⟩ G0 w0 (fun s=>(∀t∈ts,s.fr t=fr t)∧KP ch s) a w→Q (.panic ch) a w):
  (Code.region id l.toArray true).wpIn (Fr (rnd.map G0.blk)) 0 P Q a0 w0:=by
 obtain ⟨D,h1,h2,h3,h4⟩:=ChainY.data S l fr (fun i j o z x y s h1 h2 h3 h4 n1 n2 h5 h6=>((Lp hok).uniq i j o z x y s h1 h2 h3 h4 h5 h6).resolve_right (fun h=>h.1 ⟨n1,n2⟩)) h
 rw [h1] at h4
 refine ll M hm hok h1 hlen h3 hr0 (hrest _ h4) (fun ch a w Lb hp=>hpan ch a w (hp.mono fun s hs=>⟨fun t ht=>?_,hs.2⟩))
 rw [hs.1]
 refine Jm D 0 fr fun j ws hj hmem=>?_
 have hjl:=(Ac.1 hj).1
 have hz:l[j]? = some (l[j]'(by omega)):=Ad (by omega)
 have hi:(By S)[j]? = some ((By S)[j]'(by omega)):=Ad (by omega)
 obtain ⟨ws',a1,a2⟩:=h3 j _ _ hz hi
 rw [hj] at a1;injection a1 with a1;subst a1
 rw [a2.slots] at hmem
 have h5:=Ap.1 (Ap.1 hts (l[j]'(by omega),(By S)[j]'(by omega)) (Ax (i:=j) (by rw [Wm];exact ⟨hz,hi⟩))) t ht
 rw [Mg.2 hmem] at h5
 cases h5
theorem Ip {F:Fence} {ops:Array Oper} {Q Q':Exit→Act→World→Prop} (h:∀e a w,Q e a w→Q' e a w):∀(fuel:Nat) (listed:Array Bool) (a:Act) (w:World),wpAnyIn F 0 P .any ops Q fuel listed a w→wpAnyIn F 0 P .any ops Q' fuel listed a w
 | 0,listed,a,w,hh=>⟨hh.1,h _ _ _ hh.2⟩
 | fuel+1,listed,a,w,hh=>by
  refine ⟨fun h0=>h _ _ _ (hh.1 h0),fun i hi=>?_⟩
  have:=hh.2 i hi
  unfold wpOpIn at this ⊢
  cases ho:ops[i]? with
  | none=>simp only [ho] at this ⊢;exact Ip h fuel _ _ _ this
  | some o =>
   simp only [ho] at this ⊢
   split
   ·rename_i hw
    simp only [hw,if_true] at this
    exact L0 (fun a w=>Ip h fuel _ a w) h this
   rename_i hw
   simp only [hw] at this
   exact ⟨this.1,Ip h fuel _ _ _ this.2⟩
/-- The last operations of a region, in any order that its text allows; the first k have run. -/
def ATail (P:Program) (d:Nat) (l:List Oper) (k:Nat) (st:St) (Q:St→Prop):Prop:=
 ∀(G:Gh) (a:Act) (w:World),StRel d G st a w→∀listed:Array Bool,listed.size=l.length→(∀j,j<l.length→listed.getD j false=decide (j<k)) →
  wpAnyIn (Fr (st.rnd.map G.blk)) 0 P .any l.toArray (fun e a' w'=>e=.normal∧Post d st G w Q a' w') (l.length-k) listed a w
theorem AW.chainTP {id:Nat} {l:List Oper} {tn:List Nat} {S:List SegY} {up own:(Nat→Bool)→List AObj} {up0 own0:List AObj} {fr:Nat→AV} {K:Exit→St→Prop} (ts M:List Nat) (hm:P.follows .mixedOrders=true) (hok:okT l tn (By S) M=true) (hts:noW l (By S) ts=true)
  (h0:up (fun _=>false)=up0) (h0':own (fun _=>false)=own0) (hlen:∀B,(up B).length=up0.length)
  (h:ChainY P d l sz up own dfs rnd (fun ch s=>(∀t∈ts,s.fr t=fr t)→K (.panic ch) s) (fun l' f=>l'=l.drop (By S).length→ATail P d l (By S).length ⟨sz,f,up (fun p=>decide (p<tn.length)),own (fun p=>decide (p<tn.length)),dfs,rnd⟩ (K .normal)) S l fr):
  AW P d (.region id l.toArray true) ⟨sz,fr,up0,own0,dfs,rnd⟩ K:=by
 subst h0;subst h0'
 intro G0 a0 w0 hr0
 refine lm ts M hm hok hts hlen h hr0 (fun f hE G a w hst hkp listed hsz hL=>?_) (fun ch a w hp=>hp.mono fun s hs=>hs.2 hs.1)
 have hz:=hE rfl G a w hst listed hsz hL
 rw [Eg (st':=⟨sz,f,up (fun p=>decide (p<tn.length)),own (fun p=>decide (p<tn.length)),dfs,rnd⟩) hr0 hkp rfl] at hz
 exact Ip (fun e a' w' ⟨he,hp⟩=>by subst he;exact hp.next hkp (hlen _) rfl rfl) _ _ _ _ hz
theorem X2 {F:Fence} {l:List Oper} {Q:Exit→Act→World→Prop} {a:Act} {w:World} {listed:Array Bool} (ed:EdgeOK l k M) (hk:k≤l.length) (hsz:listed.size=l.length) (hL:∀j,j<l.length→listed.getD j false=decide (j<k))
  (h:∀idx:List Nat,idx.map (fun i=>l.toArray[i]?)=(l.drop k).map some→wpOpsIn F 0 P l.toArray Q idx a w):wpAnyIn F 0 P .any l.toArray Q (l.length-k) listed a w:=by
 refine Mm ed (l.length-k) k listed a w (Ah _) (by omega) hsz hL (h (List.range' k (l.length-k)) ?_)
 apply Ih
 intro i
 simp only [C4,Dl]
 by_cases hi:i<l.length-k
 ·rw [Sf (by omega),Ad (l:=l) (by omega)]
  simp
 rw [Dx (by simp;omega),Dx (by omega)];rfl
theorem OpY.mono {KP KP':List PanicEntry→St→Prop} (hk:∀ch s,KP ch s→KP' ch s) {l:List Oper} {up own:(Nat→Bool)→List AObj} {x:Inf} {o:Oper} {f0:Nat→AV} {ws:List (Nat×AV)} (h:OpY P d l sz up own dfs rnd KP x o f0 ws):OpY P d l sz up own dfs rnd KP' x o f0 ws:=by
 unfold OpY at *
 cases hW:x.W with
 | none=>rw [hW] at h;exact h
 | some W =>
  rw [hW] at h
  exact ⟨h.1,h.2.1,fun B f h1 h2 h3 h4 G a w hr=>L0 (fun _ _ h=>h) (fun e a w ⟨ch,he,hp⟩=>⟨ch,he,hp.mono fun s hs=>⟨hs.1,hk _ _ hs.2⟩⟩) (h.2.2 B f h1 h2 h3 h4 G a w hr)⟩
theorem ChainY.mono {KP KP':List PanicEntry→St→Prop} {l0:List Oper} {up own:(Nat→Bool)→List AObj} {E E':List Oper→(Nat→AV)→Prop} (hk:∀ch s,KP ch s→KP' ch s) (hE:∀l f,E l f→E' l f):∀(S:List SegY) (l:List Oper) (fr:Nat→AV),ChainY P d l0 sz up own dfs rnd KP E S l fr→ChainY P d l0 sz up own dfs rnd KP' E' S l fr
 | [],_,_,h=>hE _ _ h
 | .q _ _ _::S,_,_,⟨h1,l2,F2,h2,h3⟩=>⟨h1,l2,F2,h2,ChainY.mono hk hE S _ _ h3⟩
 | .s _ _ _ _::S,_,_,⟨o,l2,ws,h1,h2,h3⟩=>⟨o,l2,ws,h1,h2.mono hk,ChainY.mono hk hE S _ _ h3⟩
theorem Yh {l:List Oper} {I:List Inf}:noW l I []=true:=by simp [noW]
theorem AW.chainT {l:List Oper} {S:List SegY} {up own:(Nat→Bool)→List AObj} {fr:Nat→AV} {K:Exit→St→Prop} (M:List Nat) (hm:P.follows .mixedOrders=true) (hok:okT l tn (By S) M=true)
  (h0:up (fun _=>false)=up0) (h0':own (fun _=>false)=own0) (hlen:∀B,(up B).length=up0.length)
  (h:ChainY P d l sz up own dfs rnd (fun ch=>K (.panic ch)) (fun l' f=>l'=l.drop (By S).length→ATail P d l (By S).length ⟨sz,f,up (fun p=>decide (p<tn.length)),own (fun p=>decide (p<tn.length)),dfs,rnd⟩ (K .normal)) S l fr):
  AW P d (.region id l.toArray true) ⟨sz,fr,up0,own0,dfs,rnd⟩ K:=
 AW.chainTP [] M hm hok Yh h0 h0' hlen (ChainY.mono (KP':=fun ch s=>(∀t∈([]:List Nat),s.fr t=fr t)→K (.panic ch) s) (fun _ _ h _=>h) (fun _ _ h=>h) _ _ _ h)
/-- The same, where slots that the region doesn't write are looked at behind a panic. -/
theorem AW.chainYP {id:Nat} {l:List Oper} {tn:List Nat} {S:List SegY} {up own:(Nat→Bool)→List AObj} {up0 own0:List AObj} {fr:Nat→AV} {K:Exit→St→Prop} (ts:List Nat) (M:List Nat) (hm:P.follows .mixedOrders=true) (hok:okY l tn (By S) M=true) (hts:noW l (By S) ts=true)
  (h0:up (fun _=>false)=up0) (h0':own (fun _=>false)=own0) (hlen:∀B,(up B).length=up0.length)
  (h:ChainY P d l sz up own dfs rnd (fun ch s=>(∀t∈ts,s.fr t=fr t)→K (.panic ch) s) (fun l' f=>ARun P d l.toArray l' ⟨sz,f,up (fun p=>decide (p<tn.length)),own (fun p=>decide (p<tn.length)),dfs,rnd⟩ (K .normal)) S l fr):
  AW P d (.region id l.toArray true) ⟨sz,fr,up0,own0,dfs,rnd⟩ K:=by
 obtain ⟨hT,ed⟩:=dp hok
 refine AW.chainTP ts M hm hT hts h0 h0' hlen (ChainY.mono (fun _ _ h=>h) (fun l' f hA e G a w hst listed hsz hL=>?_) _ _ _ h)
 subst e
 exact X2 ed (Lp hT).len hsz hL (hA G a w hst)
theorem AW.chainY {l:List Oper} {S:List SegY} {up own:(Nat→Bool)→List AObj} {fr:Nat→AV} {K:Exit→St→Prop} (M:List Nat) (hm:P.follows .mixedOrders=true) (hok:okY l tn (By S) M=true)
  (h0:up (fun _=>false)=up0) (h0':own (fun _=>false)=own0) (hlen:∀B,(up B).length=up0.length)
  (h:ChainY P d l sz up own dfs rnd (fun ch=>K (.panic ch)) (fun l' f=>ARun P d l.toArray l' ⟨sz,f,up (fun p=>decide (p<tn.length)),own (fun p=>decide (p<tn.length)),dfs,rnd⟩ (K .normal)) S l fr):
  AW P d (.region id l.toArray true) ⟨sz,fr,up0,own0,dfs,rnd⟩ K:=
 AW.chainYP [] M hm hok Yh h0 h0' hlen (ChainY.mono (KP':=fun ch s=>(∀t∈([]:List Nat),s.fr t=fr t)→K (.panic ch) s) (fun _ _ h _=>h) (fun _ _ h=>h) _ _ _ h)
end

/-! ### In the form in which scripts apply them -/
section
variable {P:Program} {d:Nat} {sz:Nat} {dfs:List Nat} {rnd:Option Nat} {l0:List Oper} {up own:(Nat→Bool)→List AObj} {KP:List PanicEntry→St→Prop} {E:List Oper→(Nat→AV)→Prop} {S:List SegY} {l:List Oper} {fr:Nat→AV} {ty:TypeId} {pos:String} {aft:Array Edge} {s:Nat} {T F:List Nat}

theorem W.drawY {y:Code} {K:Exit→St→Prop} (M:List Nat) (tn:List Nat) (S:List SegY) (up own:(Nat→Bool)→List AObj) (hm:P.follows .mixedOrders=true) (hok:okY l tn (By S) M=true)
  (h0:up (fun _=>false)=up0) (h0':own (fun _=>false)=own0) (hlen:∀B,(up B).length=up0.length)
  (h:ChainY P d l sz up own dfs rnd (fun ch=>K (.panic ch)) (fun l' f=>ARun P d l.toArray l' ⟨sz,f,up (fun p=>decide (p<tn.length)),own (fun p=>decide (p<tn.length)),dfs,rnd⟩ (fun s=>AW P d y s K)) S l fr):
  AW P d (.seq (.region id l.toArray true) y) ⟨sz,fr,up0,own0,dfs,rnd⟩ K:=Kw (AW.chainY M hm hok h0 h0' hlen h)
theorem W.drawY0 {K:Exit→St→Prop} (M:List Nat) (tn:List Nat) (S:List SegY) (up own:(Nat→Bool)→List AObj) (hm:P.follows .mixedOrders=true) (hok:okY l tn (By S) M=true)
  (h0:up (fun _=>false)=up0) (h0':own (fun _=>false)=own0) (hlen:∀B,(up B).length=up0.length)
  (h:ChainY P d l sz up own dfs rnd (fun ch=>K (.panic ch)) (fun l' f=>ARun P d l.toArray l' ⟨sz,f,up (fun p=>decide (p<tn.length)),own (fun p=>decide (p<tn.length)),dfs,rnd⟩ (K .normal)) S l fr):
  AW P d (.region id l.toArray true) ⟨sz,fr,up0,own0,dfs,rnd⟩ K:=AW.chainY M hm hok h0 h0' hlen h
theorem Y.q {n:Nat} {l2:List Oper} {F2:Nat→AV} (h1:∀B:Nat→Bool,(∀p∈T,B p=true)→(∀p∈F,B p=false)→ADraw P d l0 sz (up B) (own B) dfs rnd (fun l' f=>l'=l2∧f=F2) n l fr) (h2:ChainY P d l0 sz up own dfs rnd KP E S l2 F2) (hTF:∀p∈T,p∉F:=by decide):
  ChainY P d l0 sz up own dfs rnd KP E (.q n T F::S) l fr:=⟨hTF,l2,F2,h1,h2⟩
theorem Y.tail {tn:List Nat} {Q:St→Prop} {U O:List AObj} (h:ARun P d l0.toArray l ⟨sz,fr,U,O,dfs,rnd⟩ Q) (hU:up (fun p=>decide (p<tn.length))=U:=by rfl) (hO:own (fun p=>decide (p<tn.length))=O:=by rfl):ChainY P d l0 sz up own dfs rnd KP (fun l' f=>ARun P d l0.toArray l' ⟨sz,f,up (fun p=>decide (p<tn.length)),own (fun p=>decide (p<tn.length)),dfs,rnd⟩ Q) [] l fr:=by
 subst hU;subst hO;exact h
theorem AOp.eqTo {st s1 s2:St} (h:AOp P d o st (·=s1)) (e:s1=s2):AOp P d o st (·=s2):=e ▸ h
/-- The p-th of those that turn the heap: it takes what a cell of an object of whoever waits owns. -/
theorem Y.loadUpT {t t':TypeId} {p:Operand} {o off pn:Nat} {y z:AV} {cs cs':List AV} (hagg:∀w,(isAgg t).run P w=.ok false w)
  (hU:∀B:Nat→Bool,B pn=false→(up B)[o]? = some (.cells t' cs)∧up (upd B pn)=(up B).set o (.cells t' cs')∧own (upd B pn)=own B)
  (h:ChainY P d l0 sz up own dfs rnd KP E S l (Aa s y fr)) 
  (hp:B6 fr p=.ptr o off:=by exact sL0) (hy:cs[off]? = some y:=by rfl) (hz:y.strip=z:=by exact sL0) (hcs:cs.set off z=cs':=by exact sL0) (hs:Nat.blt s sz=true:=by rfl):
  ChainY P d l0 sz up own dfs rnd KP E (.s [s] (some pn) T F::S) (⟨some s,.load t p,ty,pos,aft,none⟩::l) fr:=by
 subst hz
 subst hcs
 refine ⟨_,l,[(s,y)],rfl,⟨rfl,rfl,fun B f _ _ hB hf=>.of ?_⟩,h⟩
 obtain ⟨a1,a2,a3⟩:=hU B (hB pn rfl)
 have e:B6 f p=.ptr o off:=by rw [agr hf (by simp [Op.operands])];exact hp
 refine AOp.eqTo (AOp.loadUpT (st:=⟨sz,f,up B,own B,dfs,rnd⟩) hagg e a1 hy (by simpa using hs)) ?_
 show _=St.mk sz (He [(s,y)] f) (up (upd B pn)) (own (upd B pn)) dfs rnd
 rw [a2,a3]
 rfl
/-- The p-th of those that turn the heap: a call that turns one object. -/
theorem Y.callVUp {f0:Operand} {g:FuncId} {xs:List Operand} {ats:Array TypeId} {first caps args:List AV} {r:AV} {o pn:Nat} {x x0:AObj} (hcall:∀args w,(callFunc g args).run P w=.ok (.enter g args) w)
  (hU:∀B:Nat→Bool,(∀p∈T,B p=true)→(∀p∈F,B p=false)→B pn=false→(up B)[o]? = some x0∧up (upd B pn)=(up B).set o x∧own (upd B pn)=own B∧ObjLow (up B).length x∧ACall P g args (up B++own B) (fun y H'=>y=r∧H'=(up B++own B).set o x))
  (h:ChainY P d l0 sz up own dfs rnd KP E S l (Aa s r fr)) (hx0':x0≠.defs:=by simp)
  (hf0:B6 fr f0=.fn (.func g) first caps:=by exact sL0) (ha:first++xs.map (B6 fr)++caps=args:=by exact sL0) (hs:Nat.blt s sz=true:=by rfl):
  ChainY P d l0 sz up own dfs rnd KP E (.s [s] (some pn) T F::S) (⟨some s,.call ⟨.value f0,xs.toArray,ats⟩,ty,pos,aft,none⟩::l) fr:=by
 refine ⟨_,l,[(s,r)],rfl,⟨rfl,rfl,fun B f hT hF hB hf=>.of ?_⟩,h⟩
 obtain ⟨a1,a2,a3,a4,a5⟩:=hU B hT hF (hB pn rfl)
 have hlt:=(Ac.1 a1).1
 have e:first++xs.map (B6 f)++caps=args:=by rw [ia hf (fun x hx=>by simp [Op.operands,Call.operands,hx])];exact ha
 have e0:B6 f f0=.fn (.func g) first caps:=by rw [agr hf (by simp [Op.operands,Call.operands])];exact hf0
 refine dd (st:=⟨sz,f,up B,own B,dfs,rnd⟩) (first:=first) (caps:=caps) hcall e0 (by rw [←e]<;>rfl) a5 (by simpa using hs) (fun y H' _ hy=>?_)
 obtain ⟨rfl,rfl⟩:=hy
 refine ⟨(up B).set o x,own B,C2 hlt,by simp,fun h=>by simp only [Cy] at h ⊢;exact E6 h a4,fun hd o' ho=>?_,?_⟩
 ·have:=hd o' ho
  rw [←C2 hlt,J6]
  split
  ·rename_i e
   subst e
   rw [An a1] at this
   injection this with this
   exact absurd this hx0'
  exact this
 show St.mk sz (Aa s y f) ((up B).set o x) (own B) dfs rnd=St.mk sz (He [(s,y)] f) (up (upd B pn)) (own (upd B pn)) dfs rnd
 rw [a2,a3]
 rfl
theorem Y.callUp {ats:Array TypeId} {o:Nat} (hcall:∀args w,(callFunc g args).run P w=.ok (.enter g args) w)
  (hU:∀B:Nat→Bool,(∀p∈T,B p=true)→(∀p∈F,B p=false)→B pn=false→(up B)[o]? = some x0∧up (upd B pn)=(up B).set o x∧own (upd B pn)=own B∧ObjLow (up B).length x∧ACall P g args (up B++own B) (fun y H'=>y=r∧H'=(up B++own B).set o x))
  (h:ChainY P d l0 sz up own dfs rnd KP E S l (Aa s r fr)) (hx0':x0≠.defs:=by simp)
  (ha:xs.map (B6 fr)=args:=by exact sL0) (hs:Nat.blt s sz=true:=by rfl):
  ChainY P d l0 sz up own dfs rnd KP E (.s [s] (some pn) T F::S) (⟨some s,.call ⟨.value (.func g),xs.toArray,ats⟩,ty,pos,aft,none⟩::l) fr:=
 Y.callVUp (f0:=.func g) (first:=[]) (caps:=[]) hcall hU h hx0' rfl (by rw [←ha];simp) hs
theorem Y.append {t e:TypeId} {i:TypeInfo} {z:Value} {k r:Nat} {x:Operand} {o2:Bool} {b z' y:AV} {xs ys zs:List AV} (hu:P.underlying t=some (.slice e)) (hi':P.info? e=some i) (hl:(xs.length+ys.length)*i.bytes≤140737488355328) (hl2:xs.length+ys.length≤4611686018427387904)
  (h:ChainY P d l0 sz up own dfs rnd KP E S l (Aa s (.slice true k zs) (Aa r z' fr)))
  (hz:i.zero=some z:=by rfl) (hsz:i.size=k:=by rfl) (hzk:z.cells.size=k:=by rfl) (hk:0<k:=by decide) (hb:fr r=b:=by exact sL0) (hb':I8 b true k xs:=by first|exact .inl rfl|exact .inr ⟨rfl,rfl⟩)
  (hx:B6 fr x=y:=by exact sL0) (hx':I8 y o2 k ys:=by first|exact .inl rfl|exact .inr ⟨rfl,rfl⟩) (hrs:s≠r:=by decide) (hz':b.strip=z':=by exact sL0) (hzs:xs++ys=zs:=by first|rfl|(simp only [go_sem,↓reduceIte,Nat.reduceEqDiff,Nat.reduceAdd]<;>rfl)) (hs:Nat.blt s sz=true:=by rfl):
  ChainY P d l0 sz up own dfs rnd KP E (.s [r,s] none T F::S) (⟨some s,.call ⟨.builtin .append,#[.tmp r,x],#[t,t]⟩,ty,pos,aft,none⟩::l) fr:=by
 subst hzs
 subst hz'
 subst hb
 refine ⟨_,l,[(r,(fr r).strip),(s,.slice true k (xs++ys))],rfl,⟨rfl,rfl,fun B f _ _ _ hf=>.of ?_⟩,h⟩
 have e:f r=fr r:=hf r (by simp [lk,Sv,Op.operands,Call.operands])
 have ex:B6 f x=y:=by rw [agr hf (by simp [Op.operands,Call.operands])];exact hx
 refine AOp.eqTo (AOp.append (st:=⟨sz,f,up B,own B,dfs,rnd⟩) (r:=r) hu hi' hz hsz rfl hzk hk (by show I8 (f r) _ _ _;rw [e];exact hb') (by show I8 (B6 f x) _ _ _;rw [ex];exact hx') hrs (by simpa using hs) hl hl2) ?_
 simp only [St.set,e]
 rfl
end
section
variable {P:Program} {d:Nat} {sz:Nat} {up own:List AObj} {dfs:List Nat} {rnd:Option Nat} {l0 rest:List Oper} {E:List Oper→(Nat→AV)→Prop} {fr:Nat→AV} {kd s:Nat} {ty:TypeId} {pos:String} {aft:Array Edge}
theorem D.buildSlice {t e:TypeId} {len:Nat} {z:Value} {parts:List (Nat×Operand)} {ys:List AV} (hu:P.underlying t=some (.slice e)) (hsz:∀w,(Go.sizeOf e).run P w=.ok k w) (hz:∀w,(zeroValue e).run P w=.ok z w)
  (hr:ADraw P d l0 sz up own dfs rnd E kd rest (Aa s (.slice false k ys) fr)) (hp:parts.toArray=(((parts.map Prod.snd).zipIdx).map fun x=>(x.2,x.1)).toArray:=by rfl) (hev:(parts.map Prod.snd).map (B6 fr)=ys:=by exact sL0)
  (hk:ys.all (fun y=>decide (y.cells.length=k)&&y.cells.all AV.one)=true:=by simp [go_sem]) (hl:len=ys.length:=by rfl) (hlen:ys.length*k≤16777216:=by exact sL2) (hs:Nat.blt s sz=true:=by rfl):
  ADraw P d l0 sz up own dfs rnd E (kd+1) (⟨some s,.buildSlice t len parts.toArray,ty,pos,aft,none⟩::rest) fr:=by
 have h2:∀y∈ys,y.cells.length=k∧y.cells.all AV.one=true:=fun y hy=>by simpa using Ap.1 hk y hy
 refine ⟨s,_,rfl,by simpa using hs,fun f0 hag=>?_,hr⟩
 have e1:(parts.map Prod.snd).map (B6 f0)=ys:=by
  rw [ia hag (fun x hx=>by simp [Op.operands] at hx ⊢;exact hx)];exact hev
 exact OpV.buildSlice (st:=⟨sz,f0,up,own,dfs,rnd⟩) hu hsz hz e1 (fun y hy=>(h2 y hy).1) (fun y hy c hc=>Ap.1 (h2 y hy).2 c hc) hlen hl hp
variable {ops:Array Oper} {Q:St→Prop}
/-- A call of a function value that turns one object of whoever waits. -/
theorem R.callVUp {f:Operand} {g:FuncId} {xs:List Operand} {ats:Array TypeId} {first caps args:List AV} {r:AV} {i:Nat} {x x0:AObj} (hcall:∀args w,(callFunc g args).run P w=.ok (.enter g args) w) (hi:up[i]? = some x0) (hx0':x0≠.defs) (hlow:ObjLow up.length x) (h:ACall P g args (up++own) (fun y H'=>y=r∧H'=(up++own).set i x)) (hr:ARun P d ops rest ⟨sz,Aa s r fr,up.set i x,own,dfs,rnd⟩ Q)
  (hf:B6 fr f=.fn (.func g) first caps:=by exact sL0) (ha:first++xs.map (B6 fr)++caps=args:=by exact sL0) (hs:Nat.blt s sz=true:=by rfl):
  ARun P d ops (⟨some s,.call ⟨.value f,xs.toArray,ats⟩,ty,pos,aft,none⟩::rest) ⟨sz,fr,up,own,dfs,rnd⟩ Q:=by
 have hlt:=(Ac.1 hi).1
 refine db rfl (dd (st:=⟨sz,fr,up,own,dfs,rnd⟩) (Q:=(·=⟨sz,Aa s r fr,up.set i x,own,dfs,rnd⟩)) (first:=first) (caps:=caps) hcall hf (by rw [←ha]<;>rfl) h (by simpa using hs) (fun y H' _ hy=>?_)) (fun s' e=>by subst e;exact hr)
 obtain ⟨rfl,rfl⟩:=hy
 refine ⟨up.set i x,own,C2 hlt,by simp,fun h=>by simp only [Cy] at h ⊢;exact E6 h hlow,fun hd o ho=>?_,rfl⟩
 have:=hd o ho
 rw [←C2 hlt,J6]
 split
 ·rename_i e
  subst e
  rw [An hi] at this
  injection this with this
  exact absurd this hx0'
 exact this
end
end Go.SX
namespace Go.SX
def F7:=@W.drawY
def Et:=@Y.tail
end Go.SX
namespace Go.SX
variable [GI:GlobInv]
open Classical
variable {i s:Nat} {o:Oper} {u v:Value} {w:World}
section
variable {P:Program} {d:Nat}

theorem StRel.appendPut {t e ty:TypeId} {i:TypeInfo} {z:Value} {r s:Nat} {x:Operand} {o2:Bool} {xs:List AV} {z0 yv:AV} {uy:Value} {st:St} {a:Act} {w:World} {G:Gh} {k by':Nat}
  (hu:P.underlying t=some (.slice e)) (hi:P.info? e=some i) (hz:i.zero=some z) (hsz:i.size=k) (hby:i.bytes=by') (hzk:z.cells.size=k) (hk:0<k)
  (hb:I8 (st.fr r) true k xs) (hx:I8 (st.ev x) o2 k [z0]) (hrs:s≠r) (hs:s<st.sz) (hl:(xs.length+1)*by'≤140737488355328) (hl2:xs.length+1≤4611686018427387904)
  (hy:Rep G w none yv uy) (hyk:yv.cells.length=k) (hy1:∀c∈yv.cells,c.one=true) (h:StRel d G st a w):
  ∃(w1:World) (ad:Addr) (cap:Nat) (G':Gh),(Builtin.append_ #[t,t] ty #[a.tmps.getD r undef,a.eval x]).run P w=.ok (.slice (some ad) (xs.length+1) cap) w1∧ad.spot=none ∧
   (∀j,j<k→(w1.cell? ⟨ad.block,ad.off+xs.length*k+j,none⟩).isSome=true∧w1.frozen? ⟨ad.block,ad.off+xs.length*k+j,none⟩=false) ∧
   StRel d G' ((st.set r (st.fr r).strip).set s (.slice true k (xs++[yv]))) (a.put (some s) (.slice (some ad) (xs.length+1) cap)) (w1.setCells ad.block (ad.off+xs.length*k) uy.cells.toList) ∧
   Keep d G w G' (w1.setCells ad.block (ad.off+xs.length*k) uy.cells.toList):=by
 obtain ⟨hcs,hcc⟩:=hy.cells hy1
 obtain ⟨ad2,c2,f2,hvx,hc2,F2⟩:∃ad c f,a.eval x=.slice (some ad) 1 c∧1≤c∧Flat G w k [z0] ad f:=by
  rcases E5 hx (h.eval x) with ⟨_,hn⟩|⟨ad,c,f,h1,h2,h3,_⟩
  ·cases hn
  exact ⟨ad,c,f,h1,h2,h3⟩
 obtain ⟨w1,ad,cap,G',h1,h2,h3,h4⟩:=StRel.appendPutN (P:=P) (ty:=ty) (ys:=[z0]) (yvs:=[yv]) (news:=uy.cells.toList) hu hi hz hsz hby hzk hk hb hvx hc2 F2 rfl (by simp) hrs hs hl hl2 (by rw [Array.length_toList,hcs,hyk];simp) (fun q y j c hq hj=>by
  obtain ⟨rfl,rfl⟩:q=0∧y=yv:=by
   cases q with
   | zero=>simpa using hq.symm
   | succ q=>simp at hq
  have hju:j<uy.cells.size:=by rw [hcs];exact (Ac.1 hj).1
  exact ⟨uy.cells[j],by simp [hju],hcc j c _ hj (Cz hju)⟩) (by simpa using hyk) (by simpa using hy1) h
 refine ⟨w1,ad,cap,G',h1,h2,fun j hj=>?_,h4⟩
 obtain ⟨e1,e2⟩:=h3 j (by simpa using hj)
 refine ⟨?_,e2⟩
 rw [e1,Ad (by rw [Bc];simpa using hj)]
 rfl
theorem I9 {a:Act} {t:Nat} (h:t≠s):(a.put (some s) v).eval (.tmp t)=a.eval (.tmp t):=by
 show ((a.tmps.setIfInBounds s v).getD t undef)=a.tmps.getD t undef
 rw [Hm,Hm,M9 (fun e=>h e.symm)]
theorem Gk {a:Act} (h:s<a.tmps.size):(a.put (some s) v).eval (.tmp s)=v:=by
 show ((a.tmps.setIfInBounds s v).getD s undef)=v
 rw [F4 _ _ _ _ h,if_pos rfl]
theorem dq {a:Act} {j:Nat} (h:i≠j):(a.put (some i) u).put (some j) v=(a.put (some j) v).put (some i) u:=by
 unfold Act.put
 simp only
 congr 1
 exact Array.setIfInBounds_comm _ _ h
theorem T6 {x y:Addr} (h:x.block≠y.block):(w.setCell x u).setCell y v=(w.setCell y v).setCell x u:=by
 unfold World.setCell
 simp only
 congr 1
 apply Array.ext_getElem?
 intro i
 simp only [ct]
 by_cases h1:x.block=i<;>by_cases h2:y.block=i
 ·exact absurd (h1.trans h2.symm) h
 all_goals simp [h1,h2]
theorem Kl {x:Addr} {b:Nat} (h:x.block≠b):∀(vs:List Value) (o:Nat) (w:World),(w.setCell x u).setCells b o vs=(w.setCells b o vs).setCell x u
 | [],_,_=>rfl
 | v::r,o,w=>by
  rw [World.setCells,World.setCells,T6 (y:=⟨b,o,none⟩) h]
  exact Kl h r (o+1) _
theorem Nc {F:Fence} {ops:Array Oper} {Q:Exit→Act→World→Prop} {K:Act→World→Prop} {a:Act} (ho:ops[i]? = some o) (hg:o.guard=none) (h:o.wpIn F 0 P a w K Q):wpOpIn F 0 P ops Q i K a w:=by
 unfold wpOpIn
 rw [ho]
 simp only
 rw [if_pos (by simp [Region.wanted,hg])]
 exact h
theorem Nd {F:Fence} {ops:Array Oper} {Q:Exit→Act→World→Prop} {K:Act→World→Prop} {a:Act} (ho:ops[i]? = some o) (hg:o.guard=none) (h:wpOpIn F 0 P ops Q i K a w):o.wpIn F 0 P a w K Q:=by
 unfold wpOpIn at h
 rw [ho] at h
 simp only at h
 rw [if_pos (by simp [Region.wanted,hg])] at h
 exact h
theorem O4 {a:Act} {w':World} {K:Act→World→Prop} {Q:Exit→Act→World→Prop} {r:Option Nat} (hd:∀c,o.op≠.defer c)
  (h:(execOp a.eval o).run P w=.ok (.value v) w') (hk:o.wpIn (Fr r) 0 P a w K Q):K (a.put o.dst v) w':=by
 have:=hk.2
 rw [Oper.semAt_eq _ _ _ hd,h] at this
 exact this
theorem Lq {a:Act} {w':World} {K:Act→World→Prop} {Q:Exit→Act→World→Prop} {r:Option Nat} (hd:∀c,o.op≠.defer c)
  (h:(execOp a.eval o).run P w=.ok .skip w') (hk:o.wpIn (Fr r) 0 P a w K Q):K (a.put o.dst undef) w':=by
 have:=hk.2
 rw [Oper.semAt_eq _ _ _ hd,h] at this
 exact this
/-- What stands behind an append of one element that is laid at once: the slice's value, where the element lies, and that its address and its store are as told whatever else has run. -/
structure PutF (P:Program) (s sp ti tv:Nat) (oA oI oS:Oper) (up own:List AObj) (G:Gh) (a:Act) (w w1:World) (vS pI:Value) (blk off:Nat) (us:List Value):Prop where
 run:(execOp a.eval oA).run P w=.ok (.value vS) w1
 one:vS.oneCell'=true
 cells:vS.cells=#[vS]
 xI:∀(b:Act) (w':World),b.eval (.tmp s)=vS→b.eval (.tmp ti)=a.eval (.tmp ti)→(execOp b.eval oI).run P w'=.ok (.value pI) w'
 xS:∀(b:Act) (w':World),b.eval (.tmp sp)=pI→b.eval (.tmp tv)=a.eval (.tmp tv)→(∀c:Addr,c.block=blk→w'.cell? c=w1.cell? c∧w'.frozen? c=w1.frozen? c)→(execOp b.eval oS).run P w'=.ok .skip (w'.setCells blk off us)
 obj:∀(o:Nat) (t':TypeId) (cs:List AV),(up++own)[o]? = some (.cells t' cs)→G.blk o≠blk∧∀q,q<cs.length→((w1.cell? ⟨G.blk o,q,none⟩).isSome=true∧w1.frozen? ⟨G.blk o,q,none⟩=false)
theorem StRel.putF {sz:Nat} {fr:Nat→AV} {up own:List AObj} {dfs:List Nat} {rnd:Option Nat} {ty ty2 ty3 t e:TypeId} {pos pos2 pos3:String} {aft aft2 aft3:Array Edge} {i:TypeInfo} {z:Value} {r s sp ti tv k:Nat} {x:Operand} {o2:Bool} {xs:List AV} {z0 yv:AV} {G:Gh} {a:Act} {w:World}
  (hu:P.underlying t=some (.slice e)) (hi:P.info? e=some i) (hsze:∀w,(Go.sizeOf e).run P w=.ok k w) (hz:i.zero=some z) (hsz:i.size=k) (hzk:z.cells.size=k) (hk:0<k)
  (hb:I8 (fr r) true k xs) (hx:I8 (B6 fr x) o2 k [z0]) (hti:B6 fr (.tmp ti)=.v (.int .i64 (xs.length:Int))) (htv:B6 fr (.tmp tv)=yv) (hyk:yv.cells.length=k) (hy1:∀c∈yv.cells,c.one=true)
  (hrs:s≠r) (hs:s<sz) (hl:(xs.length+1)*i.bytes≤140737488355328) (hl2:xs.length+1≤4611686018427387904) (hrel:StRel d G ⟨sz,fr,up,own,dfs,rnd⟩ a w):
  ∃(w1:World) (vS pI:Value) (blk off:Nat) (us:List Value) (G':Gh),PutF P s sp ti tv ⟨some s,.call ⟨.builtin .append,#[.tmp r,x],#[t,t]⟩,ty,pos,aft,none⟩ ⟨some sp,.indexAddr t (.tmp s) (.tmp ti),ty2,pos2,aft2,none⟩ ⟨none,.store e (.tmp sp) (.tmp tv),ty3,pos3,aft3,none⟩ up own G a w w1 vS pI blk off us ∧
   StRel d G' ⟨sz,Aa s (.slice true k (xs++[yv])) (Aa r (fr r).strip fr),up,own,dfs,rnd⟩ (a.put (some s) vS) (w1.setCells blk off us)∧Keep d G w G' (w1.setCells blk off us):=by
 have hyr:Rep G w none yv (a.eval (.tmp tv)):=by
  have:=hrel.eval (.tmp tv)
  have e:St.ev ⟨sz,fr,up,own,dfs,rnd⟩ (.tmp tv)=yv:=htv
  rwa [e] at this
 obtain ⟨w1,ad,cap,G',hrun,hspot,hcells,hst,hkp⟩:=StRel.appendPut (P:=P) (ty:=ty) (st:=⟨sz,fr,up,own,dfs,rnd⟩) (x:=x) hu hi hz hsz rfl hzk hk hb hx hrs hs hl hl2 hyr hyk hy1 hrel
 have hsa:s<a.tmps.size:=by rw [hrel.size];exact hs
 obtain ⟨vS,hvS⟩:∃v,v=Value.slice (some ad) (xs.length+1) cap:=⟨_,rfl⟩
 obtain ⟨pI,hpI⟩:∃v,v=Value.pointer (some ⟨ad.block,ad.off+xs.length*k,none⟩):=⟨_,rfl⟩
 obtain ⟨a2,ha2⟩:∃b,b=a.put (some s) vS:=⟨_,rfl⟩
 obtain ⟨us,hus⟩:∃u,u=(a.eval (.tmp tv)).cells.toList:=⟨_,rfl⟩
 rw [←hvS,←hus] at hst
 rw [←hus] at hkp
 refine ⟨w1,vS,pI,ad.block,ad.off+xs.length*k,us,G',⟨?_,by rw [hvS];rfl,by rw [hvS];rfl,fun b w' e1 e2=>?_,fun b w' e1 e2 hc=>?_,fun o t' cs ho=>?_⟩,hst,hkp⟩
 ·have e:a.eval (.tmp r)=a.tmps.getD r undef:=rfl
  rw [hvS]
  simp only [execOp,resolve,invoke,builtin,Sem.run_bind,Sem.run_pure,Result.andThen_ok,Ox,Cl,H9,e,hrun]
 ·have hlt:(xs.length:Int)<((xs.length+1:Nat):Int):=by omega
  rw [hvS] at e1
  rw [Bo hrel hti] at e2
  rw [hpI]
  have hadd:ad.add (xs.length*k)=⟨ad.block,ad.off+xs.length*k,none⟩:=Bu hspot _
  rw [←hadd]
  simp [execOp,Instr.indexAt,asIntOf,e1,e2,run_underlying hu,hsze]
 ·rw [hpI] at e1
  refine E7 hsze e1 (by rw [e2,(hyr.cells hy1).1,hyk]) ?_
  rw [e2,←hus]
  have husl:us.length=k:=by rw [hus,Array.length_toList,(hyr.cells hy1).1,hyk]
  have hus1:∀u∈us,u.oneCell'=true:=fun u hu=>by
   rw [hus] at hu
   obtain ⟨q,hq⟩:=Cc hu
   have hq':(a.eval (.tmp tv)).cells[q]? = some u:=by rw [←Ma];exact hq
   have hql:q<yv.cells.length:=by rw [←(hyr.cells hy1).1];exact (J5.1 hq').1
   have hc:=Ad hql
   exact ((hyr.cells hy1).2 q _ u hc hq').one (hy1 _ (Ax hc))
  have:=run_storeCells_cells (P:=P) ad.block (ad.off+xs.length*k) us 0 w' (fun j hj=>by rw [Nat.add_zero,(hc ⟨ad.block,ad.off+xs.length*k+j,none⟩ rfl).1];exact (hcells j (by omega)).1) (fun j hj=>by rw [Nat.add_zero,(hc ⟨ad.block,ad.off+xs.length*k+j,none⟩ rfl).2];exact (hcells j (by omega)).2) hus1
  rwa [Nat.add_zero] at this
 obtain ⟨hgb⟩:Nonempty (G'.blk o=G.blk o):=⟨hkp.blk o (by rw [hrel.heap.n];exact (Ac.1 ho).1)⟩
 obtain ⟨vs,h1,h2,_,h4⟩:=hst.heap.obj o _ ho
 have hne:G.blk o≠ad.block:=fun he=>by
  have hrs':=hst.slots s
  have e1:((St.mk sz fr up own dfs rnd).set r (fr r).strip |>.set s (.slice true k (xs++[yv]))).fr s=.slice true k (xs++[yv]):=by simp [St.set,Aa]
  rw [e1] at hrs'
  have e2:(a.put (some s) vS).tmps.getD s undef=Value.slice (some ad) (xs.length+1) cap:=by rw [←hvS];exact Gk hsa
  rw [e2] at hrs'
  generalize hxx:xs++[yv]=xx at hrs'
  cases hrs' with
  | slice _ _ _ _ _ _ _ f hs' hn' hc' hk' h1' hf' hr' ho' =>
   obtain ⟨c,hc⟩:∃c,yv.cells[0]? = some c:=by
    cases hyc:yv.cells with
    | nil=>rw [hyc] at hyk;simp at hyk;omega
    | cons c _=>exact ⟨c,rfl⟩
   have:=hf' xs.length yv 0 c (by rw [←hxx];simp) hc
   have h5:G'.tag ad.block (ad.off+xs.length*k)=.fix:=this.1
   obtain ⟨u,hu⟩:=hst.tags.ex _ _ (show G'.tag ad.block (ad.off+xs.length*k)≠.free by rw [h5];simp)
   unfold World.cell? at hu
   simp only at hu
   have h1':=h1
   rw [hgb,he] at h1'
   rw [h1'] at hu
   simp only [Option.isSome_none,Co,if_false] at hu
   have h6:=(J5.1 hu).1
   have h7:=h4 (ad.off+xs.length*k) (by omega)
   rw [hgb,he,h5] at h7
   cases h7
 refine ⟨hne,fun q hq=>?_⟩
 have hA:((w1.setCells ad.block (ad.off+xs.length*k) us).cell? ⟨G.blk o,q,none⟩).isSome=true∧(w1.setCells ad.block (ad.off+xs.length*k) us).frozen? ⟨G.blk o,q,none⟩=false:=by
  rw [←hgb]
  obtain ⟨u,hu⟩:=hst.tags.ex _ _ (show G'.tag (G'.blk o) q≠.free by rw [h4 q hq];simp)
  exact ⟨by rw [hu];rfl,by simpa using hst.tags.obj _ _ _ (h4 q hq)⟩
 rw [World.cell?_setCells_out _ us _ w1 ⟨G.blk o,q,none⟩ (fun hb _=>absurd hb hne),World.frozen?_setCells] at hA
 exact hA
end
end Go.SX
namespace Go.SX
variable [GI:GlobInv]
open Classical
section
variable {P:Program} {d:Nat} {ops:Array Oper} {rest:List Oper} {sz s:Nat} {fr:Nat→AV} {up own up' own':List AObj} {dfs:List Nat} {rnd:Option Nat} {Q:St→Prop} {ty:TypeId} {pos:String} {aft:Array Edge}
/-- A call of a function value that leaves up' of whoever waits, and own' of this activation. -/
theorem R.callVX {f:Operand} {g:FuncId} {xs:List Operand} {ats:Array TypeId} {first caps args:List AV} {r:AV} (hcall:∀args w,(callFunc g args).run P w=.ok (.enter g args) w)
  (h:ACall P g args (up++own) (fun y H'=>y=r∧H'=up'++own')) (hl:up'.length=up.length) (hlow:(∀x∈up,ObjLow up.length x)→∀x∈up',ObjLow up.length x)
  (hr:ARun P d ops rest ⟨sz,Aa s r fr,up',own',dfs,rnd⟩ Q) (hd:∀o∈dfs,(up++own)[o]? = some .defs→(up'++own')[o]? = some .defs:=by simp)
  (hf:B6 fr f=.fn (.func g) first caps:=by exact sL0) (ha:first++xs.map (B6 fr)++caps=args:=by exact sL0) (hs:Nat.blt s sz=true:=by rfl):
  ARun P d ops (⟨some s,.call ⟨.value f,xs.toArray,ats⟩,ty,pos,aft,none⟩::rest) ⟨sz,fr,up,own,dfs,rnd⟩ Q:=by
 refine db rfl (dd (st:=⟨sz,fr,up,own,dfs,rnd⟩) (Q:=(·=⟨sz,Aa s r fr,up',own',dfs,rnd⟩)) (first:=first) (caps:=caps) hcall hf (by rw [←ha]<;>rfl) h (by simpa using hs) (fun y H' _ hy=>?_)) (fun s' e=>by subst e;exact hr)
 obtain ⟨rfl,rfl⟩:=hy
 exact ⟨up',own',rfl,hl,fun h=>by rw [hl] at h ⊢;exact hlow h,fun hdd o ho=>hd o ho (hdd o ho),rfl⟩
/-- The same of a function. -/
theorem R.callX {g:FuncId} {xs:List Operand} {ats:Array TypeId} {args:List AV} {r:AV} (hcall:∀args w,(callFunc g args).run P w=.ok (.enter g args) w)
  (h:ACall P g args (up++own) (fun y H'=>y=r∧H'=up'++own')) (hl:up'.length=up.length) (hlow:(∀x∈up,ObjLow up.length x)→∀x∈up',ObjLow up.length x)
  (hr:ARun P d ops rest ⟨sz,Aa s r fr,up',own',dfs,rnd⟩ Q) (hd:∀o∈dfs,(up++own)[o]? = some .defs→(up'++own')[o]? = some .defs:=by simp)
  (ha:xs.map (B6 fr)=args:=by exact sL0) (hs:Nat.blt s sz=true:=by rfl):
  ARun P d ops (⟨some s,.call ⟨.value (.func g),xs.toArray,ats⟩,ty,pos,aft,none⟩::rest) ⟨sz,fr,up,own,dfs,rnd⟩ Q:=
 R.callVX (f:=.func g) (first:=[]) (caps:=[]) hcall h hl hlow hr hd rfl (by rw [←ha];simp) hs
end
section
variable {P:Program} {d:Nat} {sz:Nat} {dfs:List Nat} {rnd:Option Nat} {l0:List Oper} {up own:(Nat→Bool)→List AObj} {KP:List PanicEntry→St→Prop} {E:List Oper→(Nat→AV)→Prop} {S:List SegY} {l:List Oper} {fr:Nat→AV} {ty:TypeId} {pos:String} {aft:Array Edge} {s:Nat} {T F:List Nat}
/-- The p-th of those that turn the heap: a store into an own object. -/
theorem Y.storeOwn {t t':TypeId} {p x:Operand} {n off k u pn:Nat} {y:AV} {ys cs cs':List AV} (hsz:∀w,(Go.sizeOf t).run P w=.ok k w)
  (hU:∀B:Nat→Bool,B pn=false→(up B).length=u∧(own B)[n]? = some (.cells t' cs)∧own (upd B pn)=(own B).set n (.cells t' cs')∧up (upd B pn)=up B)
  (h:ChainY P d l0 sz up own dfs rnd KP E S l fr)
  (hp:B6 fr p=.ptr (oid u n) off:=by exact sL0) (hx:B6 fr x=y:=by exact sL0) (hc:y.cells=ys:=by exact sL0) (hk:ys.length=k:=by rfl)
  (h1:ys.all AV.one=true:=by exact sL1) (hfit:off+k≤cs.length:=by exact sL2) (hput:Bl cs off ys=cs':=by exact sL0):
  ChainY P d l0 sz up own dfs rnd KP E (.s [] (some pn) T F::S) (⟨none,.store t p x,ty,pos,aft,none⟩::l) fr:=by
 subst hput
 subst hc
 refine ⟨_,l,[],rfl,⟨rfl,rfl,fun B f _ _ hB hf=>.of ?_⟩,h⟩
 obtain ⟨a0,a1,a2,a3⟩:=hU B (hB pn rfl)
 have e:B6 f p=.ptr (oid u n) off:=by rw [agr hf (by simp [Op.operands])];exact hp
 have ex:B6 f x=y:=by rw [agr hf (by simp [Op.operands])];exact hx
 refine AOp.eqTo (AOp.storeOwn (st:=⟨sz,f,up B,own B,dfs,rnd⟩) hsz (by show B6 f p=_;rw [e,←a0];rfl) a1 ex hk h1 hfit) ?_
 show _=St.mk sz f (up (upd B pn)) (own (upd B pn)) dfs rnd
 rw [a2,a3]
end
end Go.SX
namespace Go.SX
def L1:=@Y.storeOwn
end Go.SX
namespace Go.SX
variable [GI:GlobInv]
open Classical
variable {P:Program} {d:Nat} {l0:List Oper} {kd:Nat} {ops:Array Oper} {rest:List Oper} {sz:Nat} {fr fr':Nat→AV} {up own own' up':List AObj} {dfs:List Nat} {rnd:Option Nat} {Q:St→Prop} {E:List Oper→(Nat→AV)→Prop} {s:Nat} {ty:TypeId} {pos:String} {aft:Array Edge}
/-- A slice that nobody appends to. -/
theorem R.buildSl {t e:TypeId} {k len:Nat} {z:Value} {parts:List (Nat×Operand)} {ys:List AV} (hu:P.underlying t=some (.slice e)) (hsz:∀w,(Go.sizeOf e).run P w=.ok k w) (hz:∀w,(zeroValue e).run P w=.ok z w)
  (hr:ARun P d ops rest ⟨sz,Aa s (.slice false k ys) fr,up,own,dfs,rnd⟩ Q) (hp:parts.toArray=(((parts.map Prod.snd).zipIdx).map fun x=>(x.2,x.1)).toArray:=by rfl) (hev:(parts.map Prod.snd).map (B6 fr)=ys:=by exact sL0)
  (hk:ys.all (fun y=>decide (y.cells.length=k)&&y.cells.all AV.one)=true:=by simp [go_sem]) (hl:len=ys.length:=by rfl) (hlen:ys.length*k≤16777216:=by exact sL2) (hs:Nat.blt s sz=true:=by rfl):
  ARun P d ops (⟨some s,.buildSlice t len parts.toArray,ty,pos,aft,none⟩::rest) ⟨sz,fr,up,own,dfs,rnd⟩ Q:=by
 have h2:∀y∈ys,y.cells.length=k∧y.cells.all AV.one=true:=fun y hy=>by simpa using Ap.1 hk y hy
 exact Ue rfl rfl hs (OpV.buildSlice (st:=⟨sz,fr,up,own,dfs,rnd⟩) hu hsz hz hev (fun y hy=>(h2 y hy).1) (fun y hy c hc=>Ap.1 (h2 y hy).2 c hc) hlen hl hp) hr
section
variable {P:Program} {d:Nat} {sz:Nat} {dfs:List Nat} {rnd:Option Nat} {l0:List Oper} {up own:(Nat→Bool)→List AObj} {KP:List PanicEntry→St→Prop} {E:List Oper→(Nat→AV)→Prop} {S:List SegY} {l:List Oper} {fr:Nat→AV} {ty:TypeId} {pos:String} {aft:Array Edge} {s:Nat} {T F:List Nat}
end
end Go.SX
namespace Go.SX
variable [GI:GlobInv]
open Classical
section
variable {P:Program} {d:Nat}
theorem T7 {b:Array Bool} {j:Nat} (h:j<b.size):b.getD j true=b.getD j false:=by simp [h]
def Iq (o:Oper) (m:Nat):Bool:=o.after.toList.any fun e=>Region.binds .any e&&Nat.beq e.on m
theorem T8 {o:Oper} {m:Nat} (h:Iq o m=true):∃e∈o.after,Region.binds .any e=true∧e.on=m:=by
 unfold Iq at h
 rw [S8] at h
 obtain ⟨e,he,h⟩:=h
 rw [B1] at h
 exact ⟨e,by simpa using he,h.1,H0 h.2⟩
/-- The region's last operations: three in a row, then m in a row, of which each waits for the first of the three. -/
def Uq (l:List Oper) (n m:Nat):Bool:=
 Nat.beq l.length (n+3+m)&&(l.zipIdx.all fun x=>x.1.after.toList.all fun e => !Region.binds .any e || Nat.blt e.on x.2) &&
 (l.zipIdx.all fun x=>(!Nat.beq x.2 (n+1) || Iq x.1 n)&&(!Nat.beq x.2 (n+2) || Iq x.1 (n+1))&&(!Nat.ble (n+3) x.2 || Iq x.1 n)&&(!Nat.ble (n+4) x.2 || Iq x.1 (x.2-1)))
theorem r6 {F:Fence} {l:List Oper} {n m:Nat} {Q:Exit→Act→World→Prop} (hok:Uq l n m=true) (A:Nat→Nat→Act) (W:Nat→Nat→World)
  (s1:∀i j K,i<3→j≤m→(i=0→j=0)→K (A (i+1) j) (W (i+1) j)→wpOpIn F 0 P l.toArray Q (n+i) K (A i j) (W i j))
  (s2:∀i j K,1≤i→i≤3→j<m→K (A i (j+1)) (W i (j+1))→wpOpIn F 0 P l.toArray Q (n+3+j) K (A i j) (W i j))
  (hQ:Q .normal (A 3 m) (W 3 m)):∀(fuel:Nat) (listed:Array Bool) (i j:Nat),fuel=(3-i)+(m-j)→i≤3→j≤m→(i=0→j=0)→listed.size=l.length →
   (∀q,q<l.length→listed.getD q false=decide (q<n+i∨(n+3≤q∧q<n+3+j)))→wpAnyIn F 0 P .any l.toArray Q fuel listed (A i j) (W i j):=by
 unfold Uq at hok
 simp only [B1] at hok
 obtain ⟨⟨hlen,hfw⟩,hed⟩:=hok
 have hlen:=H0 hlen
 have hmem:∀(q:Nat) (o:Oper),l[q]? = some o→(o,q)∈l.zipIdx:=fun q o ho=>by rw [Hn];exact ho
 have hfwd:∀(q:Nat) (o:Oper),l[q]? = some o→∀e∈o.after,Region.binds .any e=true→e.on<q:=fun q o ho e he hb=>by
  have:=Ap.1 (Ap.1 hfw _ (hmem q o ho)) e (by simpa using he)
  rw [hb] at this
  simpa using this
 intro fuel
 induction fuel with
 | zero =>
  intro listed i j hf hi hj h0 hsz hL
  obtain rfl:i=3:=by omega
  obtain rfl:j=m:=by omega
  refine ⟨cy.2 fun q hq=>?_,hQ⟩
  obtain ⟨h1,o,ho,_⟩:=mem_ready.1 hq
  have hql:q<l.length:=by
   have:=(J5.1 ho).1
   simpa using this
  rw [T7 (by omega),hL q hql] at h1
  have:=of_decide_eq_false h1
  omega
 | succ fuel ih =>
  intro listed i j hf hi hj h0 hsz hL
  have hset:∀q,q<l.length→∀p,(listed.setIfInBounds q true).getD p false=if p=q then true else listed.getD p false:=fun q hq p=>by
   by_cases hp:p=q
   ·subst hp;simp [hsz,hq]
   rw [getD_set_ne false (Ne.symm hp),if_neg hp]
  refine ⟨fun hz=>?_,fun q hq=>?_⟩
  ·obtain ⟨p,hp,hmin⟩:=H2 (S:=fun p=>p<l.length∧listed.getD p false=false) (by
    by_cases h3:i<3
    ·refine ⟨n+i,by omega,?_⟩
     rw [hL _ (by omega)]
     exact decide_eq_false (by omega)
    refine ⟨n+3+j,by omega,?_⟩
    rw [hL _ (by omega)]
    exact decide_eq_false (by omega))
   have:p∈Region.ready .any l.toArray listed:=by
    refine mem_ready.2 ⟨by rw [T7 (by omega)];exact hp.2,l[p]'hp.1,by simp [hp.1],fun e he hbd=>?_⟩
    have hlt:=hfwd p _ (Ad hp.1) e he hbd
    cases hv:listed.getD e.on false with
    | true=>rfl
    | false=>have:=hmin e.on ⟨by omega,hv⟩;omega
   rw [hz] at this
   cases this
  obtain ⟨h1,o,ho,he⟩:=mem_ready.1 hq
  have ho':l[q]? = some o:=by simpa using ho
  have hql:=(Ac.1 ho').1
  rw [T7 (by omega),hL q hql] at h1
  have hn:=of_decide_eq_false h1
  have hE:=Ap.1 hed _ (hmem q o ho')
  simp only [B1,Fg,If] at hE
  obtain ⟨⟨⟨x1,x2⟩,x3⟩,x4⟩:=hE
  have edge:∀p,Iq o p=true→p<l.length→(p<n+i∨(n+3≤p∧p<n+3+j)):=fun p hp hpl=>by
   obtain ⟨e,h5,h6,h7⟩:=T8 hp
   have:=he e h5 h6
   rw [h7,hL p hpl] at this
   exact of_decide_eq_true this
  by_cases h3:q<n+3
  ·have hqi:q=n+i:=by
    refine Fz fun hne=>?_
    have hc:q=n+1∨q=n+2:=by omega
    rcases hc with rfl|rfl
    ·have:=edge n (x1.resolve_left (by simp)) (by omega)
     omega
    have:=edge (n+1) (x2.resolve_left (by simp)) (by omega)
    omega
   subst hqi
   refine s1 i j _ (by omega) hj h0 (ih _ (i+1) j (by omega) (by omega) hj (by omega) (by simpa using hsz) (fun p hp=>?_))
   rw [hset _ hql,hL p hp]
   by_cases hpq:p=n+i
   ·rw [if_pos hpq];exact (decide_eq_true (by omega)).symm
   rw [if_neg hpq];exact decide_eq_decide.2 (by omega)
  have hi1:1≤i:=by
   have:=edge n (x3.resolve_left (by simp;omega)) (by omega)
   omega
  have hqj:q=n+3+j:=by
   refine Fz fun hne=>?_
   have:=edge (q-1) (x4.resolve_left (by simp;omega)) (by omega)
   omega
  subst hqj
  refine s2 i j _ hi1 hi (by omega) (ih _ i (j+1) (by omega) hi (by omega) (by omega) (by simpa using hsz) (fun p hp=>?_))
  rw [hset _ hql,hL p hp]
  by_cases hpq:p=n+3+j
  ·rw [if_pos hpq];exact (decide_eq_true (by omega)).symm
  rw [if_neg hpq];exact decide_eq_decide.2 (by omega)

/-! ### The m others: values into slots, then the slice's store -/
def D7 (a:Act) (L:List (Oper×Value)):Act:=L.foldl (fun a x=>a.put x.1.dst x.2) a
theorem Nf {a:Act} {L:List (Oper×Value)} {j:Nat} {x:Oper×Value} (h:L[j]? = some x):D7 a (L.take (j+1))=(D7 a (L.take j)).put x.1.dst x.2:=by
 rw [List.take_add_one,h]
 simp [D7,Wk]
theorem Ng {t:Nat}:∀(L:List (Oper×Value)) (a:Act),(∀x∈L,x.1.dst≠some t)→(D7 a L).eval (.tmp t)=a.eval (.tmp t)
 | [],_,_=>rfl
 | x::r,a,h=>by
  show (D7 (a.put x.1.dst x.2) r).eval _=_
  rw [Ng r _ (fun y hy=>h y (by simp [hy]))]
  cases hd:x.1.dst with
  | none=>rfl
  | some q=>exact I9 (fun e=>h x (by simp) (by rw [hd,e]))
theorem Nh:∀(L:List (Oper×Value)) (a:Act),(D7 a L).tmps.size=a.tmps.size
 | [],_=>rfl
 | x::r,a=>by
  show (D7 (a.put x.1.dst x.2) r).tmps.size=_
  rw [Nh r]
  cases x.1.dst<;>simp [Act.put]
/-- What is asked of the others: each yields its value whatever the element's slot holds. -/
def Oths (P:Program) (s sp ti tv:Nat) (a2:Act) (L:List (Oper×Value)):Prop:=
 ∀(j:Nat) (x:Oper×Value),L[j]? = some x→x.1.guard=none∧(∀c,x.1.op≠.defer c)∧(∃q,x.1.dst=some q∧q≠sp∧q≠s∧q≠ti∧q≠tv) ∧
  ∀(b:Act) (w':World),(∀t,t≠sp→b.eval (.tmp t)=(D7 a2 (L.take j)).eval (.tmp t))→(execOp b.eval x.1).run P w'=.ok (.value x.2) w'
section
variable {sz:Nat} {fr:Nat→AV} {up own:List AObj} {dfs:List Nat} {rnd:Option Nat} {Q:St→Prop} {G G':Gh} {a:Act} {w w1:World} {s sp ti tv pT:Nat} {oA oI oS:Oper} {vS pI:Value} {blk off offT:Nat} {us:List Value} {t:TypeId} {tyT:TypeId} {posT:String} {aftT:Array Edge} {L:List (Oper×Value)} {o:Nat} {t':TypeId} {cs:List AV} {stF:Nat→AV}
def pA (a a2:Act) (L:List (Oper×Value)) (sp:Nat) (pI:Value) (i j:Nat):Act:=match i with|0=>a|1=>D7 a2 (L.take j)|_=>(D7 a2 (L.take j)).put (some sp) pI
def pW (w w1:World) (L:List (Oper×Value)) (ad:Addr) (vS:Value) (blk off:Nat) (us:List Value) (i j:Nat):World:=
 let v:=if j≤L.length then w1 else w1.setCell ad vS
 match i with|0=>w|1|2=>v|_=>v.setCells blk off us
/-- The operation takes this to that. -/
def Does (P:Program) (o:Oper) (a:Act) (w:World) (a':Act) (w':World):Prop:=
 o.guard=none∧(∀c,o.op≠.defer c)∧∃r v,(execOp a.eval o).run P w=.ok r w'∧a'=a.put o.dst v∧(r=.value v∨r=.skip∧v=undef)
theorem Does.fwd {o:Oper} {a a':Act} {w w':World} {ops:Array Oper} {Fn:Option Nat} {Q:Exit→Act→World→Prop} {q:Nat} {K:Act→World→Prop} (h:Does P o a w a' w') (ho:ops[q]? = some o) (hK:K a' w'):wpOpIn (Fr Fn) 0 P ops Q q K a w:=by
 obtain ⟨h1,h2,r,v,h3,rfl,h5|⟨h5,h6⟩⟩:=h
 ·subst h5;exact Nc ho h1 (Ce h2 h3 hK)
 subst h5;subst h6;exact Nc ho h1 (Eh h2 h3 hK)
theorem Does.back {o:Oper} {a a':Act} {w w':World} {ops:Array Oper} {Fn:Option Nat} {Q:Exit→Act→World→Prop} {q:Nat} {K:Act→World→Prop} (h:Does P o a w a' w') (ho:ops[q]? = some o) (hK:wpOpIn (Fr Fn) 0 P ops Q q K a w):K a' w':=by
 obtain ⟨h1,h2,r,v,h3,rfl,h5|⟨h5,h6⟩⟩:=h
 ·subst h5;exact O4 h2 h3 (Nd ho h1 hK)
 subst h5;subst h6;exact Lq h2 h3 (Nd ho h1 hK)
/-- Each operation takes what stands behind some to what stands behind one more. -/
structure Steps (P:Program) (oA oI oS:Oper) (os:List Oper) (A:Nat→Nat→Act) (W:Nat→Nat→World):Prop where
 a:Does P oA (A 0 0) (W 0 0) (A 1 0) (W 1 0)
 i:∀j,j≤os.length→Does P oI (A 1 j) (W 1 j) (A 2 j) (W 2 j)
 s:∀j,j≤os.length→Does P oS (A 2 j) (W 2 j) (A 3 j) (W 3 j)
 o:∀i j x,1≤i→i≤3→os[j]? = some x→Does P x (A i j) (W i j) (A i (j+1)) (W i (j+1))
theorem PutF.steps (F:PutF P s sp ti tv oA oI oS up own G a w w1 vS pI blk off us) (hs:s<a.tmps.size) (hsp:sp<a.tmps.size) (n1:sp≠s) (n2:ti≠s) (n3:tv≠s) (n4:tv≠sp)
  (hdA:oA.dst=some s) (hdI:oI.dst=some sp) (hdS:oS.dst=none) (hg:oA.guard=none∧oI.guard=none∧oS.guard=none) (hd:(∀c,oA.op≠.defer c)∧(∀c,oI.op≠.defer c)∧∀c,oS.op≠.defer c)
  (hL:Oths P s sp ti tv (a.put (some s) vS) L) (hszt:∀w,(Go.sizeOf t).run P w=.ok 1 w) (ho:(up++own)[o]? = some (.cells t' cs)) (hoff:offT<cs.length) (hp:(D7 (a.put (some s) vS) L).eval (.tmp pT)=.pointer (some ⟨G.blk o,offT,none⟩)) (hpT:pT≠sp):
  Steps P oA oI oS (L.map (·.1)++[⟨none,.store t (.tmp pT) (.tmp s),tyT,posT,aftT,none⟩]) (pA a (a.put (some s) vS) L sp pI) (pW w w1 L ⟨G.blk o,offT,none⟩ vS blk off us):=by
 obtain ⟨hne,hce⟩:=F.obj o t' cs ho
 obtain ⟨a2,ha2⟩:∃b,b=a.put (some s) vS:=⟨_,rfl⟩
 rw [←ha2] at hL hp ⊢
 have hs2:a2.eval (.tmp s)=vS:=by rw [ha2];exact Gk hs
 have hz2:a2.tmps.size=a.tmps.size:=by rw [ha2];simp [Act.put]
 have hLd:∀j t,(t=s∨t=ti∨t=tv)→(D7 a2 (L.take j)).eval (.tmp t)=a2.eval (.tmp t):=fun j t h2=>Ng _ _ fun x hx e=>by
  obtain ⟨q,hq⟩:=Cc (K4 hx)
  obtain ⟨_,_,⟨q',b1,b2,b3,b4,b5⟩,_⟩:=hL q x hq
  rw [b1] at e
  injection e with e
  rcases h2 with h|h|h
  ·exact b3 (e.trans h)
  ·exact b4 (e.trans h)
  exact b5 (e.trans h)
 have e_s:∀j,(D7 a2 (L.take j)).eval (.tmp s)=vS:=fun j=>(hLd j s (.inl rfl)).trans hs2
 have e_tv:∀j,(D7 a2 (L.take j)).eval (.tmp tv)=a.eval (.tmp tv):=fun j=>(hLd j tv (.inr (.inr rfl))).trans (by rw [ha2];exact I9 n3)
 have e_ti:∀j,(D7 a2 (L.take j)).eval (.tmp ti)=a.eval (.tmp ti):=fun j=>(hLd j ti (.inr (.inl rfl))).trans (by rw [ha2];exact I9 n2)
 have e_sp:∀j,((D7 a2 (L.take j)).put (some sp) pI).eval (.tmp sp)=pI:=fun j=>Gk (by rw [Nh,hz2];exact hsp)
 have hev:∀i j,1≤i→∀q,q≠sp→(pA a a2 L sp pI i j).eval (.tmp q)=(D7 a2 (L.take j)).eval (.tmp q):=fun i j hi q hq=>by
  match i,hi with
  | 1,_=>rfl
  | i+2,_=>exact I9 hq
 obtain ⟨ad,had⟩:∃ad:Addr,ad=⟨G.blk o,offT,none⟩:=⟨_,rfl⟩
 rw [←had] at hp ⊢
 have hab:ad.block≠blk:=by rw [had];exact hne
 have hcA:(w1.cell? ad).isSome=true∧w1.frozen? ad=false:=by rw [had];exact hce _ hoff
 have hw:∀j (c:Addr),c.block=blk→(if j≤L.length then w1 else w1.setCell ad vS).cell? c=w1.cell? c∧(if j≤L.length then w1 else w1.setCell ad vS).frozen? c=w1.frozen? c:=fun j c hc=>by
  split
  ·exact ⟨rfl,rfl⟩
  subst had
  exact ⟨World.cell?_setCells_out (G.blk o) [vS] offT w1 c (fun hb _=>absurd (hb.symm.trans hc) hne),World.frozen?_setCells (G.blk o) [vS] offT w1 c⟩
 refine ⟨⟨hg.1,hd.1,_,vS,?_,?_,.inl rfl⟩,fun j hj=>⟨hg.2.1,hd.2.1,_,pI,F.xI _ _ (e_s j) (e_ti j),by rw [hdI];rfl,.inl rfl⟩,fun j hj=>⟨hg.2.2,hd.2.2,_,undef,F.xS _ _ (e_sp j) ((I9 n4).trans (e_tv j)) (hw j),by rw [hdS];rfl,.inr ⟨rfl,rfl⟩⟩,fun i j x hi1 hi hx=>?_⟩
 ·have:pW w w1 L ad vS blk off us 1 0=w1:=by
   show (if 0≤L.length then w1 else w1.setCell ad vS)=w1
   rw [if_pos (Aw _)]
  rw [this]
  exact F.run
 ·rw [hdA];exact ha2
 by_cases hjl:j<L.length
 ·have hj:=Ad hjl
  have e:x=L[j].1:=by
   rw [Cx (by simpa using hjl),C4,hj] at hx
   injection hx with hx
   exact hx.symm
  subst e
  obtain ⟨b1,b2,⟨q',c1,c2,c3,c4,c5⟩,b4⟩:=hL j _ hj
  have eW:pW w w1 L ad vS blk off us i (j+1)=pW w w1 L ad vS blk off us i j:=by
   unfold pW
   rw [if_pos (by omega),if_pos (by omega)]
  refine ⟨b1,b2,_,L[j].2,by rw [eW];exact b4 _ _ (fun t ht=>hev i j hi1 t ht),?_,.inl rfl⟩
  match i,hi1 with
  | 1,_=>exact Nf hj
  | i+2,_ =>
   show (D7 a2 (L.take (j+1))).put (some sp) pI=((D7 a2 (L.take j)).put (some sp) pI).put _ _
   rw [Nf hj,c1,dq (Ne.symm c2)]
 have hjl':j=L.length:=by
  have:=(Ac.1 hx).1
  simp at this
  omega
 subst hjl'
 rw [Cp (by simp)] at hx
 have e:x=⟨none,.store t (.tmp pT) (.tmp s),tyT,posT,aftT,none⟩:=by simpa using hx.symm
 subst e
 have e1:(pA a a2 L sp pI i L.length).eval (.tmp pT)=.pointer (some ad):=by
  rw [hev i _ hi1 pT hpT,K7];exact hp
 have e2:(pA a a2 L sp pI i L.length).eval (.tmp s)=vS:=by rw [hev i _ hi1 s (Ne.symm n1)];exact e_s _
 have hwi:((pW w w1 L ad vS blk off us i L.length).cell? ad).isSome=true∧(pW w w1 L ad vS blk off us i L.length).frozen? ad=false:=by
  unfold pW
  rw [if_pos (Ah _)]
  match i,hi1 with
  | 1,_=>exact hcA
  | 2,_=>exact hcA
  | i+3,_ =>
   refine ⟨?_,?_⟩
   ·show ((w1.setCells blk off us).cell? ad).isSome=true
    rw [World.cell?_setCells_out _ us _ w1 ad (fun hb _=>absurd hb hab)];exact hcA.1
   show (w1.setCells blk off us).frozen? ad=false
   rw [World.frozen?_setCells];exact hcA.2
 have eA:pA a a2 L sp pI i (L.length+1)=pA a a2 L sp pI i L.length:=by
  unfold pA
  rw [K7,E3 (by omega)]
 have eW:(pW w w1 L ad vS blk off us i L.length).setCell ad vS=pW w w1 L ad vS blk off us i (L.length+1):=by
  unfold pW
  rw [if_pos (Ah _),if_neg (by omega)]
  match i,hi1 with
  | 1,_=>rfl
  | 2,_=>rfl
  | i+3,_=>exact (Kl hab us _ w1).symm
 refine ⟨rfl,(fun _ h=>by cases h),.skip,undef,?_,eA,.inr ⟨rfl,rfl⟩⟩
 rw [←eW]
 refine E7 hszt e1 (by rw [e2,F.cells];rfl) ?_
 rw [e2,F.cells,had]
 rw [had] at hwi
 exact run_storeCells_cells (P:=P) (G.blk o) offT [vS] 0 _ (fun j hj=>by
  have:j=0:=by simpa using hj
  subst this
  exact hwi.1) (fun j hj=>by
  have:j=0:=by simpa using hj
  subst this
  exact hwi.2) (fun v hv=>by rw [Cn.1 hv];exact F.one)
/-- The others in a row, told backwards. -/
theorem Steps.rowBack {os:List Oper} {A:Nat→Nat→Act} {W:Nat→Nat→World} {ops:Array Oper} {Fn:Option Nat} {Q:Exit→Act→World→Prop} (S:Steps P oA oI oS os A W):∀(m j:Nat) (idx:List Nat),m+j=os.length→idx.map (fun i=>ops[i]?)=(os.drop j).map some→wpOpsIn (Fr Fn) 0 P ops Q idx (A 3 j) (W 3 j)→Q .normal (A 3 os.length) (W 3 os.length)
 | 0,j,idx,hm,hi,h=>by
  obtain rfl:j=os.length:=by omega
  have:idx=[]:=by simpa using hi
  subst this
  exact h
 | m+1,j,idx,hm,hi,h=>by
  have hjl:j<os.length:=by omega
  rw [Sb hjl] at hi
  cases idx with
  | nil=>simp at hi;omega
  | cons q r =>
   simp only [Cl,S9] at hi
   rw [wpOpsIn_cons] at h
   exact S.rowBack m (j+1) r (by omega) hi.2 ((S.o 3 j _ (by omega) (by omega) (Ad hjl)).back hi.1 h)
theorem Steps.any {os l:List Oper} {n:Nat} {A:Nat→Nat→Act} {W:Nat→Nat→World} {Fn:Option Nat} {Q:Exit→Act→World→Prop} (S:Steps P oA oI oS os A W) (hok:Uq l n os.length=true) (hdrop:oA::oI::oS::os=l.drop n) (hQ:Q .normal (A 3 os.length) (W 3 os.length))
  {listed:Array Bool} (hsz:listed.size=l.length) (hL:∀j,j<l.length→listed.getD j false=decide (j<n)):wpAnyIn (Fr Fn) 0 P .any l.toArray Q (l.length-n) listed (A 0 0) (W 0 0):=by
 have get:∀j,(oA::oI::oS::os)[j]? = l.toArray[n+j]? := fun j=>by rw [hdrop,Dl];simp
 have hlen:l.length=n+3+os.length:=by
  have:=congrArg List.length hdrop
  simp at this
  omega
 refine r6 (F:=Fr Fn) hok A W (fun i j K hi hj h0 hK=>?_) (fun i j K hi1 hi hj hK=>?_) hQ _ listed 0 0 (by omega) (by omega) (by omega) (fun _=>rfl) hsz (fun q hq=>?_)
 ·match i,hi with
  | 0,_=>obtain rfl:j=0:=h0 rfl;exact S.a.fwd (get 0).symm hK
  | 1,_=>exact (S.i j hj).fwd (get 1).symm hK
  | 2,_=>exact (S.s j hj).fwd (get 2).symm hK
 ·refine (S.o i j _ hi1 hi (Ad hj)).fwd ?_ hK
  have:=get (3+j)
  rw [show n+(3+j)=n+3+j by omega] at this
  rw [←this,show 3+j=j+3 by omega]
  simp only [Ii]
  exact Ad hj
 rw [hL q hq]
 exact decide_eq_decide.2 (by omega)
end
section
variable {l os:List Oper} {n:Nat} {sz:Nat} {fr:Nat→AV} {up own:List AObj} {dfs:List Nat} {rnd:Option Nat} {Q:St→Prop} {ty ty2 ty3 ty5 t e t':TypeId} {pos pos2 pos3 pos5:String} {aft aft2 aft3 aft5:Array Edge} {i:TypeInfo} {z:Value} {r s sp pT ti tv k o offT:Nat} {x:Operand} {o2:Bool} {xs cs:List AV} {z0 yv:AV} {LG:Gh→List (Oper×Value)}
/-- What is known of the slots that hold pointers to objects. -/
def ib (d:Nat) (G:Gh) (st:St) (a:Act):Prop:=∀t o off,B6 st.fr (.tmp t)=.ptr o off→a.eval (.tmp t)=.pointer (some ⟨G.blk o,off,none⟩)
theorem StRel.put' {G:Gh} {st:St} {a:Act} {w:World} (h:StRel d G st a w):ib d G st a:=fun t o off ht=>by
 have:=h.eval (.tmp t)
 have e:St.ev st (.tmp t)=.ptr o off:=ht
 rw [e] at this
 generalize a.eval (.tmp t)=u at this
 cases this;rfl
theorem dr (hu:P.underlying t=some (.slice e)) (hi:P.info? e=some i) (hsze:∀w,(Go.sizeOf e).run P w=.ok k w) (hz:i.zero=some z) (hsz:i.size=k) (hzk:z.cells.size=k) (hk:0<k)
  (hb:I8 (fr r) true k xs) (hx:I8 (B6 fr x) o2 k [z0]) (hti:B6 fr (.tmp ti)=.v (.int .i64 (xs.length:Int))) (htv:B6 fr (.tmp tv)=yv) (hyk:yv.cells.length=k) (hy1:∀c∈yv.cells,c.one=true)
  (hrs:s≠r) (hs:s<sz) (hsp:sp<sz) (n1:sp≠s) (n2:ti≠s) (n3:tv≠s) (n4:tv≠sp) (hl:(xs.length+1)*i.bytes≤140737488355328) (hl2:xs.length+1≤4611686018427387904)
  (hszt:∀w,(Go.sizeOf t).run P w=.ok 1 w) (ho:(up++own)[o]? = some (.cells t' cs)) (hoff:offT<cs.length) (hpT:pT≠sp)
  (hLG:∀(G:Gh) (a:Act),a.tmps.size=sz→ib d G ⟨sz,fr,up,own,dfs,rnd⟩ a→∀vS,(LG G).map (·.1)=os∧Oths P s sp ti tv (a.put (some s) vS) (LG G)∧(D7 (a.put (some s) vS) (LG G)).eval (.tmp pT)=.pointer (some ⟨G.blk o,offT,none⟩)) {G:Gh} {a:Act} {w:World} (hrel:StRel d G ⟨sz,fr,up,own,dfs,rnd⟩ a w):
  ∃(A:Nat→Nat→Act) (W:Nat→Nat→World) (G':Gh),Steps P ⟨some s,.call ⟨.builtin .append,#[.tmp r,x],#[t,t]⟩,ty,pos,aft,none⟩ ⟨some sp,.indexAddr t (.tmp s) (.tmp ti),ty2,pos2,aft2,none⟩ ⟨none,.store e (.tmp sp) (.tmp tv),ty3,pos3,aft3,none⟩ (os++[(⟨none,.store t (.tmp pT) (.tmp s),ty5,pos5,aft5,none⟩:Oper)]) A W∧A 0 0=a∧W 0 0=w∧StRel d G' ⟨sz,Aa sp .any (Aa s (.slice true k (xs++[yv])) (Aa r (fr r).strip fr)),up,own,dfs,rnd⟩ (A 3 0) (W 3 0)∧Keep d G w G' (W 3 0):=by
 obtain ⟨w1,vS,pI,blk,off,us,G',F,hst,hkp⟩:=StRel.putF (P:=P) (sp:=sp) (ty:=ty) (ty2:=ty2) (ty3:=ty3) (pos:=pos) (pos2:=pos2) (pos3:=pos3) (aft:=aft) (aft2:=aft2) (aft3:=aft3) hu hi hsze hz hsz hzk hk hb hx hti htv hyk hy1 hrs hs hl hl2 hrel
 obtain ⟨h1,h2,h3⟩:=hLG G a hrel.size hrel.put' vS
 have S:=F.steps (t:=t) (tyT:=ty5) (posT:=pos5) (aftT:=aft5) (by rw [hrel.size];exact hs) (by rw [hrel.size];exact hsp) n1 n2 n3 n4 rfl rfl rfl ⟨rfl,rfl,rfl⟩ ⟨(fun _ h=>by cases h),(fun _ h=>by cases h),(fun _ h=>by cases h)⟩ h2 hszt ho hoff h3 hpT
 rw [h1] at S
 have e:pW w w1 (LG G) ⟨G.blk o,offT,none⟩ vS blk off us 3 0=w1.setCells blk off us:=by
  show (if 0≤(LG G).length then w1 else _).setCells blk off us=_
  rw [if_pos (Aw _)]
 exact ⟨_,_,G',S,rfl,rfl,by rw [e];exact hst.put (s:=sp) (y:=.any) (v:=pI) hsp (.any _ _),by rw [e];exact hkp⟩
theorem ATail.ofPut (hu:P.underlying t=some (.slice e)) (hi:P.info? e=some i) (hsze:∀w,(Go.sizeOf e).run P w=.ok k w) (hz:i.zero=some z) (hsz:i.size=k) (hzk:z.cells.size=k) (hk:0<k)
  (hb:I8 (fr r) true k xs) (hx:I8 (B6 fr x) o2 k [z0]) (hti:B6 fr (.tmp ti)=.v (.int .i64 (xs.length:Int))) (htv:B6 fr (.tmp tv)=yv) (hyk:yv.cells.length=k) (hy1:∀c∈yv.cells,c.one=true)
  (hrs:s≠r) (hs:s<sz) (hsp:sp<sz) (n1:sp≠s) (n2:ti≠s) (n3:tv≠s) (n4:tv≠sp) (hl:(xs.length+1)*i.bytes≤140737488355328) (hl2:xs.length+1≤4611686018427387904)
  (hszt:∀w,(Go.sizeOf t).run P w=.ok 1 w) (ho:(up++own)[o]? = some (.cells t' cs)) (hoff:offT<cs.length) (hpT:pT≠sp)
  (hLG:∀(G:Gh) (a:Act),a.tmps.size=sz→ib d G ⟨sz,fr,up,own,dfs,rnd⟩ a→∀vS,(LG G).map (·.1)=os∧Oths P s sp ti tv (a.put (some s) vS) (LG G)∧(D7 (a.put (some s) vS) (LG G)).eval (.tmp pT)=.pointer (some ⟨G.blk o,offT,none⟩)) (hok:Uq l n (os++[(⟨none,.store t (.tmp pT) (.tmp s),ty5,pos5,aft5,none⟩:Oper)]).length=true) (hdrop:⟨some s,.call ⟨.builtin .append,#[.tmp r,x],#[t,t]⟩,ty,pos,aft,none⟩::⟨some sp,.indexAddr t (.tmp s) (.tmp ti),ty2,pos2,aft2,none⟩::⟨none,.store e (.tmp sp) (.tmp tv),ty3,pos3,aft3,none⟩::(os++[(⟨none,.store t (.tmp pT) (.tmp s),ty5,pos5,aft5,none⟩:Oper)])=l.drop n)
  (hr:ARun P d l.toArray (os++[(⟨none,.store t (.tmp pT) (.tmp s),ty5,pos5,aft5,none⟩:Oper)]) ⟨sz,Aa sp .any (Aa s (.slice true k (xs++[yv])) (Aa r (fr r).strip fr)),up,own,dfs,rnd⟩ Q):ATail P d l n ⟨sz,fr,up,own,dfs,rnd⟩ Q:=by
 intro G a w hrel listed hsz0 hL
 obtain ⟨A,W,G',S,e1,e2,hst,hkp⟩:=dr (ty:=ty) (ty2:=ty2) (ty3:=ty3) (ty5:=ty5) (pos:=pos) (pos2:=pos2) (pos3:=pos3) (pos5:=pos5) (aft:=aft) (aft2:=aft2) (aft3:=aft3) (aft5:=aft5) hu hi hsze hz hsz hzk hk hb hx hti htv hyk hy1 hrs hs hsp n1 n2 n3 n4 hl hl2 hszt ho hoff hpT hLG hrel
 have hlen:l.length=n+3+(os++[(⟨none,.store t (.tmp pT) (.tmp s),ty5,pos5,aft5,none⟩:Oper)]).length:=by
  have:=congrArg List.length hdrop
  simp at this
  simp
  omega
 subst e1;subst e2
 refine S.any hok hdrop ?_ hsz0 hL
 have:=hr G' _ _ hst (List.range' (n+3) (os++[(⟨none,.store t (.tmp pT) (.tmp s),ty5,pos5,aft5,none⟩:Oper)]).length) (by
  apply Ih
  intro j
  have:=congrArg (·[3+j]?) hdrop
  rw [C4,C4]
  simp only [Dl,show 3+j=j+3 by omega,Ii] at this
  rw [this]
  by_cases hj:j<(os++[(⟨none,.store t (.tmp pT) (.tmp s),ty5,pos5,aft5,none⟩:Oper)]).length
  ·rw [Sf hj,Ad (l:=l) (by omega)]
   simp [show n+3+j=n+(j+3) by omega,show n+(j+3)<l.length by omega]
  rw [Dx (by simp only [List.length_range'];omega),Dx (l:=l) (by omega)];rfl)
 rw [Eg (st':=⟨sz,Aa sp .any (Aa s (.slice true k (xs++[yv])) (Aa r (fr r).strip fr)),up,own,dfs,rnd⟩) hrel hkp rfl] at this
 obtain ⟨h1,h2⟩:=S.rowBack _ 0 _ rfl (by
  apply Ih
  intro j
  have:=congrArg (·[3+j]?) hdrop
  rw [C4,C4,Ov]
  simp only [Dl,show 3+j=j+3 by omega,Ii] at this
  rw [this]
  by_cases hj:j<(os++[(⟨none,.store t (.tmp pT) (.tmp s),ty5,pos5,aft5,none⟩:Oper)]).length
  ·rw [Sf hj,Ad (l:=l) (by omega)]
   simp [show n+3+j=n+(j+3) by omega,show n+(j+3)<l.length by omega]
  rw [Dx (by simp only [List.length_range'];omega),Dx (l:=l) (by omega)];rfl) this
 exact ⟨h1,h2.next hkp rfl rfl rfl⟩
end
theorem Oths.nil {s sp ti tv:Nat} {a2:Act}:Oths P s sp ti tv a2 []:=by intro j x h;simp at h
theorem Oths.cons {s sp ti tv q:Nat} {a2:Act} {o:Oper} {v:Value} {r:List (Oper×Value)} (hg:o.guard=none) (hd:∀c,o.op≠.defer c) (hq:o.dst=some q) (n:q≠sp∧q≠s∧q≠ti∧q≠tv)
  (hx:∀(b:Act) (w':World),(∀t,t≠sp→b.eval (.tmp t)=a2.eval (.tmp t))→(execOp b.eval o).run P w'=.ok (.value v) w') (h:Oths P s sp ti tv (a2.put o.dst v) r):Oths P s sp ti tv a2 ((o,v)::r):=by
 intro j x hj
 cases j with
 | zero =>
  have e:x=(o,v):=by simpa using hj.symm
  subst e
  exact ⟨hg,hd,⟨q,hq,n⟩,hx⟩
 | succ j=>exact h j x (by simpa using hj)
theorem dt {a:Act} {d:Option Nat} {v:Value}:(a.put d v).tmps.size=a.tmps.size:=by cases d<;>simp [Act.put]
section
variable {sf sn pp pf fi offp kf:Nat} {tf ty4 tyn:TypeId} {pos4 posn:String} {aft4 aftn:Array Edge} {fs:Array Field} {fd:Field}
theorem ln (hf:P.underlying tf=some (.struct fs)) (hfi:fs[fi]? = some fd) (hfsz:∀w,(Go.sizeOf fd.type).run P w=.ok kf w) (hkf:kf≠0) {b:Act} {w:World} {B:Nat} (e1:b.eval (.tmp pf)=.pointer (some ⟨B,offp,none⟩)):
  (execOp b.eval (⟨some sf,.fieldAddr tf (.tmp pf) fi,ty4,pos4,aft4,none⟩:Oper)).run P w=.ok (.value (.pointer (some ⟨B,offp+fd.offset,none⟩))) w:=by
 have e2:((⟨B,offp,none⟩:Addr).add fd.offset)=⟨B,offp+fd.offset,none⟩:=Bu rfl _
 rw [←e2]
 simp [execOp,e1,Jd hf hfi hfsz hkf]
variable {s sp ti tv sz o:Nat} {fr:Nat→AV} {up own:List AObj} {dfs:List Nat} {rnd:Option Nat}
theorem lgF (hf:P.underlying tf=some (.struct fs)) (hfi:fs[fi]? = some fd) (hfsz:∀w,(Go.sizeOf fd.type).run P w=.ok kf w) (hkf:kf≠0) (hpp:B6 fr (.tmp pp)=.ptr o offp) (d5:pp≠s) (d6:pp≠sp) (hsf:sf<sz) (n:sf≠sp∧sf≠s∧sf≠ti∧sf≠tv) (G:Gh) (a:Act) (hsz:a.tmps.size=sz) (hr:ib d G ⟨sz,fr,up,own,dfs,rnd⟩ a) (vS:Value):
  [((⟨some sf,.fieldAddr tf (.tmp pp) fi,ty4,pos4,aft4,none⟩:Oper),Value.pointer (some ⟨G.blk o,offp+fd.offset,none⟩))].map (·.1)=[(⟨some sf,.fieldAddr tf (.tmp pp) fi,ty4,pos4,aft4,none⟩:Oper)]∧Oths P s sp ti tv (a.put (some s) vS) [((⟨some sf,.fieldAddr tf (.tmp pp) fi,ty4,pos4,aft4,none⟩:Oper),.pointer (some ⟨G.blk o,offp+fd.offset,none⟩))]∧(D7 (a.put (some s) vS) [((⟨some sf,.fieldAddr tf (.tmp pp) fi,ty4,pos4,aft4,none⟩:Oper),.pointer (some ⟨G.blk o,offp+fd.offset,none⟩))]).eval (.tmp sf)=.pointer (some ⟨G.blk o,offp+fd.offset,none⟩):=
 ⟨rfl,Oths.cons rfl (fun _ h=>by cases h) rfl n (fun b w' hb=>ln hf hfi hfsz hkf (by rw [hb pp d6,I9 d5];exact hr pp o offp hpp)) Oths.nil,Gk (by rw [dt,hsz];exact hsf)⟩
end
section
variable {l os:List Oper} {n:Nat} {sz:Nat} {fr:Nat→AV} {up own:List AObj} {dfs:List Nat} {rnd:Option Nat} {Q:St→Prop} {ty ty2 ty3 ty5 t e t':TypeId} {pos pos2 pos3 pos5:String} {aft aft2 aft3 aft5:Array Edge} {i:TypeInfo} {z:Value} {r s sp pT ti tv k o offT:Nat} {x:Operand} {o2:Bool} {xs cs:List AV} {z0 yv:AV} {LG:Gh→List (Oper×Value)}
end
end
def lp (l:List Oper) (n:Nat):Bool:=Uq l n 2
section
variable {P:Program} {d:Nat} {sz:Nat} {dfs:List Nat} {rnd:Option Nat} {l:List Oper} {fr:Nat→AV}
theorem W.drawT {id:Nat} {y:Code} {up0 own0:List AObj} {K:Exit→St→Prop} (M:List Nat) (tn:List Nat) (S:List SegY) (up own:(Nat→Bool)→List AObj) (hm:P.follows .mixedOrders=true) (hok:okT l tn (By S) M=true)
  (h0:up (fun _=>false)=up0) (h0':own (fun _=>false)=own0) (hlen:∀B,(up B).length=up0.length)
  (h:ChainY P d l sz up own dfs rnd (fun ch=>K (.panic ch)) (fun l' f=>l'=l.drop (By S).length→ATail P d l (By S).length ⟨sz,f,up (fun p=>decide (p<tn.length)),own (fun p=>decide (p<tn.length)),dfs,rnd⟩ (fun s=>AW P d y s K)) S l fr):
  AW P d (.seq (.region id l.toArray true) y) ⟨sz,fr,up0,own0,dfs,rnd⟩ K:=Kw (AW.chainT M hm hok h0 h0' hlen h)
theorem W.drawT0 {id:Nat} {up0 own0:List AObj} {K:Exit→St→Prop} (M:List Nat) (tn:List Nat) (S:List SegY) (up own:(Nat→Bool)→List AObj) (hm:P.follows .mixedOrders=true) (hok:okT l tn (By S) M=true)
  (h0:up (fun _=>false)=up0) (h0':own (fun _=>false)=own0) (hlen:∀B,(up B).length=up0.length)
  (h:ChainY P d l sz up own dfs rnd (fun ch=>K (.panic ch)) (fun l' f=>l'=l.drop (By S).length→ATail P d l (By S).length ⟨sz,f,up (fun p=>decide (p<tn.length)),own (fun p=>decide (p<tn.length)),dfs,rnd⟩ (K .normal)) S l fr):
  AW P d (.region id l.toArray true) ⟨sz,fr,up0,own0,dfs,rnd⟩ K:=AW.chainT M hm hok h0 h0' hlen h
/-- At the end: append of one element, which is laid at once; the slice is stored in an object's cell. -/
theorem Y.appendPut {KP:List PanicEntry→St→Prop} {n:Nat} {up own:(Nat→Bool)→List AObj} {tn:List Nat} {Q:St→Prop} {U O:List AObj} {ty ty2 ty3 ty4 ty5 t e tf t':TypeId} {pos pos2 pos3 pos4 pos5:String} {aft aft2 aft3 aft4 aft5:Array Edge} {i:TypeInfo} {z:Value} {r s sp sf pp ti tv k kf o offp fi:Nat} {x:Operand} {o2:Bool} {b y z':AV} {xs zs cs:List AV} {z0 yv:AV} {fs:Array Field} {fd:Field} {m:Int}
  (hok:lp l n=true)
  (hu:P.underlying t=some (.slice e)) (hi:P.info? e=some i) (hsze:∀w,(Go.sizeOf e).run P w=.ok k w) (hszt:∀w,(Go.sizeOf t).run P w=.ok 1 w) (hf:P.underlying tf=some (.struct fs))
  (ho:(U++O)[o]? = some (.cells t' cs)) (hl:(xs.length+1)*i.bytes≤140737488355328) (hl2:xs.length+1≤4611686018427387904)
  (hr:ARun P d l.toArray [⟨some sf,.fieldAddr tf (.tmp pp) fi,ty4,pos4,aft4,none⟩,⟨none,.store t (.tmp sf) (.tmp s),ty5,pos5,aft5,none⟩] ⟨sz,Aa sp .any (Aa s (.slice true k zs) (Aa r z' fr)),U,O,dfs,rnd⟩ Q)
  (hU:up (fun p=>decide (p<tn.length))=U:=by rfl) (hO:own (fun p=>decide (p<tn.length))=O:=by rfl)
  (hz:i.zero=some z:=by rfl) (hsz:i.size=k:=by rfl) (hzk:z.cells.size=k:=by rfl) (hk:0<k:=by decide) (hb:fr r=b:=by exact sL0) (hb':I8 b true k xs:=by first|exact .inl rfl|exact .inr ⟨rfl,rfl⟩)
  (hx:B6 fr x=y:=by exact sL0) (hx':I8 y o2 k [z0]:=by first|exact .inl rfl|exact .inr ⟨rfl,rfl⟩)
  (hti:B6 fr (.tmp ti)=.v (.int .i64 m):=by exact sL0) (hm:m=(xs.length:Int):=by simp) (htv:B6 fr (.tmp tv)=yv:=by exact sL0) (hyk:yv.cells.length=k:=by simp [go_sem]) (hy1:yv.cells.all AV.one=true:=by simp [go_sem])
  (hfi:fs[fi]? = some fd:=by rfl) (hfsz:∀w,(Go.sizeOf fd.type).run P w=.ok kf w:=by assumption) (hkf:kf≠0:=by decide) (hpp:B6 fr (.tmp pp)=.ptr o offp:=by exact sL0) (hoff:offp+fd.offset<cs.length:=by simp)
  (hz':b.strip=z':=by exact sL0) (hzs:xs++[yv]=zs:=by first|rfl|(simp only [go_sem,↓reduceIte,Nat.reduceEqDiff,Nat.reduceAdd]<;>rfl))
  (hs:Nat.blt s sz=true:=by rfl) (hsp:Nat.blt sp sz=true:=by rfl) (hsf:Nat.blt sf sz=true:=by rfl)
  (hd:(s≠r∧sp≠s∧ti≠s∧tv≠s∧tv≠sp∧sf≠s∧sf≠sp∧sf≠ti∧sf≠tv∧pp≠s∧pp≠sp∧ti≠sp):=by decide):
  ChainY P d l sz up own dfs rnd KP (fun l' f=>l'=l.drop n→ATail P d l n ⟨sz,f,up (fun p=>decide (p<tn.length)),own (fun p=>decide (p<tn.length)),dfs,rnd⟩ Q) [] [⟨some s,.call ⟨.builtin .append,#[.tmp r,x],#[t,t]⟩,ty,pos,aft,none⟩,⟨some sp,.indexAddr t (.tmp s) (.tmp ti),ty2,pos2,aft2,none⟩,⟨none,.store e (.tmp sp) (.tmp tv),ty3,pos3,aft3,none⟩,⟨some sf,.fieldAddr tf (.tmp pp) fi,ty4,pos4,aft4,none⟩,⟨none,.store t (.tmp sf) (.tmp s),ty5,pos5,aft5,none⟩] fr:=by
 intro hdrop
 subst hU
 subst hO
 subst hb
 subst hx
 subst hm
 subst hz'
 subst hzs
 obtain ⟨e1,e2,e3,e4,e5,e6,e7,e8,e9,e10,e11,e12⟩:=hd
 exact ATail.ofPut hu hi hsze hz hsz hzk hk hb' hx' hti htv hyk (fun c hc=>Ap.1 hy1 c hc) e1 (by simpa using hs) (by simpa using hsp) e2 e3 e4 e5 hl hl2 hszt ho hoff e7 (lgF hf hfi hfsz hkf hpp e10 e11 (by simpa using hsf) ⟨e7,e6,e8,e9⟩) hok hdrop hr
end
end Go.SX
namespace Go.Proofs
open Go.RowKit
end Go.Proofs

namespace Go.SX
variable [GI:GlobInv]
open Classical

section
variable {P:Program} {g:FuncId}
open Go.Proofs

end

section
variable {P:Program} {d sz:Nat} {fr:Nat→AV} {up own own':List AObj} {dfs:List Nat} {rnd:Option Nat} {Q:St→Prop} {ops:Array Oper}
end
end Go.SX
namespace Go.SX
variable [GI:GlobInv]
open Classical
section
variable {P:Program} {d:Nat} {st:St} {dst:Option Tmp} {ty:TypeId} {pos:String} {aft:Array Edge} {gd:Option (Nat×Bool)}
end
variable {P:Program} {d:Nat} {l0:List Oper} {kd:Nat} {ops:Array Oper} {rest:List Oper} {sz:Nat} {fr fr':Nat→AV} {up own own' up':List AObj} {dfs:List Nat} {rnd:Option Nat} {Q:St→Prop} {E:List Oper→(Nat→AV)→Prop} {s:Nat} {ty:TypeId} {pos:String} {aft:Array Edge}
end Go.SX
namespace Go.SX
variable [GI:GlobInv]
open Classical
section
variable {P:Program} {d:Nat} {st:St} {dst:Option Tmp} {ty:TypeId} {pos:String} {aft:Array Edge} {gd:Option (Nat×Bool)}
abbrev u8A (c:UInt8):AV:=.v (.int .u8 (c.toNat:Int))
theorem P8:∀(l:List UInt8) (r:ByteArray),(l.map fun c=>(c.toNat:Int)).foldl (fun r n=>r.push (UInt8.ofNat n.toNat)) r=⟨r.data++l.toArray⟩
 | [],r=>by simp
 | c::l,r=>by
  rw [Cl,List.foldl_cons,P8 l]
  have:UInt8.ofNat ((c.toNat:Int)).toNat=c:=by simp
  rw [this]
  simp [ByteArray.push]
theorem OpV.bytesStr {a t e:TypeId} {x:Operand} {o:Bool} {l:List UInt8} (hs:P.underlying a=some (.slice e)) (he:P.underlying e=some (.int .u8)) (ht:P.underlying t=some .string) (hx:st.ev x=.slice o 1 (l.map u8A)):
  OpV P d ⟨dst,.convert a t x,ty,pos,aft,gd⟩ st (.v (sv l)):=
 Be (by intro c h;cases h) fun G ac w h=>by
  have hr:=hx ▸ h.eval x
  generalize hv:ac.eval x=u at hr
  refine ⟨.string ⟨l.toArray⟩,?_,.v _ _⟩
  rcases E5 (.inl rfl) hr with ⟨rfl,hl⟩|⟨ad,c,f,rfl,_,hF,_⟩
  ·have:l=[]:=by simpa using hl
   subst this
   simp [execOp,hv,run_convert_bytes_string w a t e none 0 0 hs he ht,Conv.bytesToString]
   rfl
  have hvals:=hF.vals (Nat.succ_pos 0)
  have e1:Ct 1 (l.map u8A).length f=(l.map fun c=>(c.toNat:Int)).map (Value.int .u8):=by
   apply Ih
   intro i
   by_cases hi:i<l.length
   ·have h1:i<(l.map u8A).length*1:=by simpa using hi
    rw [H3 h1,Nat.div_one,Nat.mod_one]
    have hxi:(l.map u8A)[i]? = some (u8A l[i]):=by rw [C4,Ad hi];rfl
    have hrep:=hF.rep i _ 0 _ hxi rfl
    have:=J1 hrep
    rw [this,Ku,C4,Ad hi]
    rfl
   rw [Dx (by rw [Bc];simp;omega),Dx (by simp;omega)]
  have e2:=run_loadCells_list (P:=P) (w:=w) ad _ hvals
  rw [Bc,e1,Nat.mul_one] at e2
  have e3:=run_bytesToString w ad (l.map u8A).length c _ e2
  rw [P8] at e3
  rw [Bs] at e3 hv
  simp [execOp,hv,run_convert_bytes_string w a t e (some ad) l.length c hs he ht,e3]
end
variable {P:Program} {d:Nat} {ops:Array Oper} {rest:List Oper} {sz:Nat} {fr:Nat→AV} {up own:List AObj} {dfs:List Nat} {rnd:Option Nat} {Q:St→Prop} {s:Nat} {ty:TypeId} {pos:String} {aft:Array Edge}
theorem R.bytesStr {a t e:TypeId} {x:Operand} {o:Bool} (l:List UInt8) (hs':P.underlying a=some (.slice e)) (he:P.underlying e=some (.int .u8)) (ht:P.underlying t=some .string) (hr:ARun P d ops rest ⟨sz,Aa s (.v (sv l)) fr,up,own,dfs,rnd⟩ Q)
  (hx:B6 fr x=.slice o 1 (l.map u8A):=by exact sL0) (hs:Nat.blt s sz=true:=by rfl):
  ARun P d ops (⟨some s,.convert a t x,ty,pos,aft,none⟩::rest) ⟨sz,fr,up,own,dfs,rnd⟩ Q:=
 Ue rfl rfl hs (OpV.bytesStr hs' he ht hx) hr
end Go.SX
namespace Go.SX
variable [GI:GlobInv]
variable {fr:Nat→AV} {id:Nat} {l:List Oper}
section
variable {P:Program} {d:Nat} {sz:Nat} {up own:List AObj} {dfs:List Nat} {rnd:Option Nat}

theorem ADraw.split {l0:List Oper} {E:List Oper→(Nat→AV)→Prop}:∀(k:Nat) (l:List Oper) (fr:Nat→AV),ADraw P d l0 sz up own dfs rnd E k l fr →
  ∃l2 F2,ADraw P d l0 sz up own dfs rnd (fun l' f=>l'=l2∧f=F2) k l fr∧E l2 F2
 | 0,l,fr,h=>⟨l,fr,⟨rfl,rfl⟩,h⟩
 | _+1,[],_,h=>h.elim
 | k+1,_::l,_,⟨s,y,h1,h2,h3,h4⟩=>by
  obtain ⟨l2,F2,a,b⟩:=ADraw.split k l _ h4
  exact ⟨l2,F2,⟨s,y,h1,h2,h3,a⟩,b⟩

theorem AW.drawQ {id k:Nat} {l:List Oper} {fr:Nat→AV} {K:Exit→St→Prop} (M:List Nat) (hm:P.follows .mixedOrders=true) (hok:okY l [] (By [.q k [] []]) M=true) (h:ADraw P d l sz up own dfs rnd (fun l' f=>ARun P d l.toArray l' ⟨sz,f,up,own,dfs,rnd⟩ (K .normal)) k l fr):
  AW P d (.region id l.toArray true) ⟨sz,fr,up,own,dfs,rnd⟩ K:=by
 obtain ⟨l2,F2,h1,h2⟩:=ADraw.split k l fr h
 exact AW.chainY (tn:=[]) (S:=[.q k [] []]) (up:=fun _=>up) (own:=fun _=>own) M hm hok rfl rfl (fun _=>rfl) ⟨by simp,l2,F2,fun _ _ _=>h1,h2⟩
theorem W.drawQ {y:Code} {K:Exit→St→Prop} (M:List Nat) (k:Nat) (hm:P.follows .mixedOrders=true) (hok:okY l [] (By [.q k [] []]) M=true) (h:ADraw P d l sz up own dfs rnd (fun l' f=>ARun P d l.toArray l' ⟨sz,f,up,own,dfs,rnd⟩ (fun s=>AW P d y s K)) k l fr):
  AW P d (.seq (.region id l.toArray true) y) ⟨sz,fr,up,own,dfs,rnd⟩ K:=Kw (AW.drawQ M hm hok h)
theorem W.drawQ0 {K:Exit→St→Prop} (M:List Nat) (k:Nat) (hm:P.follows .mixedOrders=true) (hok:okY l [] (By [.q k [] []]) M=true) (h:ADraw P d l sz up own dfs rnd (fun l' f=>ARun P d l.toArray l' ⟨sz,f,up,own,dfs,rnd⟩ (K .normal)) k l fr):
  AW P d (.region id l.toArray true) ⟨sz,fr,up,own,dfs,rnd⟩ K:=AW.drawQ M hm hok h
end
end Go.SX
namespace Go.SX
def Hf:=@W.drawQ
end Go.SX
namespace Go.SX
variable [GI:GlobInv]
open Classical
variable {n:Nat} {t:St}
section
variable {P:Program} {d:Nat}

/-- Less is known of a state, and the last of its objects are let go. -/
def StCut (d:Nat) (s t:St):Prop:=
 (t.up++t.own).length≤(s.up++s.own).length∧t.up.length=s.up.length∧t.rnd=s.rnd∧t.sz=s.sz ∧
  ∀(G:Gh) (a:Act) (w:World),StRel d G s a w→StRel d { G with n:=(t.up++t.own).length } t a w

theorem StCut.of_le {s t:St} (h:StLe d s t) (ho:t.own.length=s.own.length):StCut d s t:=by
 refine ⟨by simp [h.2.1,ho],h.2.1,h.2.2.1,h.2.2.2,fun G a w hr=>?_⟩
 have:=h.1 G a w hr
 have e:G={ G with n:=(t.up++t.own).length }:=by
  have hn:=this.heap.n
  cases G
  simp only at hn ⊢
  rw [hn]
 rw [←e]
 exact this
theorem StCut.of_eq {s t:St} (h:s=t):StCut d s t:=by subst h;exact StCut.of_le (Es _) rfl

theorem StCut.take {sz:Nat} {fr fr':Nat→AV} {up own junk:List AObj} {dfs:List Nat} {rnd:Option Nat} (hf:∀i,Le (fr i) (fr' i)) (hlow:∀i,Low (up.length+own.length) (fr' i)) (ho:∀x∈own,ObjLow (up.length+own.length) x) (hd:∀o∈dfs,o<up.length+own.length):
  StCut d ⟨sz,fr,up,own++junk,dfs,rnd⟩ ⟨sz,fr',up,own,dfs,rnd⟩:=by
 refine ⟨by simp,rfl,rfl,rfl,fun G a w hr=>?_⟩
 have hn:=hr.heap.n
 simp only [Am] at hn
 have hget:∀(i:Nat) (x:AObj),(up++own)[i]? = some x→(up++(own++junk))[i]? = some x:=fun i x hx=>by
  rw [←Br]
  exact An hx
 refine ⟨hr.size,fun s=>?_,⟨fun i x hx=>?_,rfl,fun i j hi hj e=>hr.heap.inj i j ?_ ?_ e⟩,hr.defs,fun o hoo=>?_,hr.defsNodup,hr.defsGe,⟨hr.tags.ex,hr.tags.obj,hr.tags.tail,hr.tags.globCut (by rw [hn];simp only [Am];omega)⟩,hr.rnd,hr.low,hr.top⟩
 ·exact ((hr.slots s).le (hf s)).cut (by simpa using hlow s)
 ·have hob:=hr.heap.obj i x (hget i x hx)
  have hlx:ObjLow (up.length+own.length) x:=by
   rcases B0 i up.length with h'|h'
   ·rw [Cx h'] at hx
    have:=hr.low x (Ax hx)
    cases x with
    | cells t cs=>exact fun y hy=>(this y hy).mono (by simp)
    | loop sta pd fr sz ps as bd df=>exact ⟨fun s=>(this.1 s).mono (by simp),by have:=this.2;simp only at this;omega⟩
    | defs=>trivial
    | dead=>trivial
    | bld _ _ _=>trivial
    | gone=>trivial
   rw [Cp h'] at hx
   exact ho x (Ax hx)
  exact hob.cut (by simpa using hlx)
 ·simp only [Am] at hi;omega
 ·simp only [Am] at hj;omega
 have h1:=hr.defsAt o hoo
 have h2:=hd o hoo
 simp only at h1
 rw [←Br,Cx (by simpa using h2)] at h1
 exact h1

theorem Lr {n:Nat} {t:TypeId} {x:Value}:ObjLow n (.cells t [.v x]):=fun y hy=>by
 have:y=.v x:=by simpa using hy
 subst this
 exact .v x
theorem Az {U:List AObj} {i:Nat} {x y:AObj} (h:U[i]? = some x):(U.set i y)[i]? = some y:=by rw [Wl (Ac.1 h).1]
theorem Bv {U:List AObj} {i:Nat} {x:AObj} (h:U[i]? = some x):U.set i x=U:=by
 apply Ih
 intro j
 rw [J6]
 split
 ·rename_i e
  subst e
  split
  ·exact h.symm
  rename_i hlt;rw [Dx (by omega)]
 rfl
/-- Less known of one slot. -/
theorem R.wk {ops:Array Oper} {l:List Oper} {sz:Nat} {fr:Nat→AV} {up own:List AObj} {dfs:List Nat} {rnd:Option Nat} {Q:St→Prop} {y:AV} (s:Nat) (y':AV) (hl:Le y y') (hr:ARun P d ops l ⟨sz,Aa s y' fr,up,own,dfs,rnd⟩ Q)
  (h:fr s=y:=by exact sL0):ARun P d ops l ⟨sz,fr,up,own,dfs,rnd⟩ Q:=
 ARun.le (st':=⟨sz,Aa s y' fr,up,own,dfs,rnd⟩) (Oz (s:=⟨sz,fr,up,own,dfs,rnd⟩) fun i=>by
  unfold Aa
  split
  ·rename_i e;subst e;show Le (fr i) _;rw [h];exact hl
  exact .refl _) hr
/-- A nil slice is an empty one, and ours. -/
theorem R.nilSl {ops:Array Oper} {l:List Oper} {sz:Nat} {fr:Nat→AV} {up own:List AObj} {dfs:List Nat} {rnd:Option Nat} {Q:St→Prop} (s k:Nat) (hr:ARun P d ops l ⟨sz,Aa s (.slice true k []) fr,up,own,dfs,rnd⟩ Q)
  (h:fr s=.nil:=by exact sL0):ARun P d ops l ⟨sz,fr,up,own,dfs,rnd⟩ Q:=
 ARun.le (st':=⟨sz,Aa s (.slice true k []) fr,up,own,dfs,rnd⟩) (Oz (s:=⟨sz,fr,up,own,dfs,rnd⟩) fun i=>by
  unfold Aa
  split
  ·rename_i e;subst e;show Le (fr i) _;rw [h];exact .nil _ _
  exact .refl _) hr
theorem Bw {s:Nat} {y:AV} {f:Nat→AV} (h:Low n y) (hf:∀i,Low n (f i)):∀i,Low n (Aa s y f i):=by
 intro i
 unfold Aa
 split
 ·exact h
 exact hf i
theorem Bx:∀i,Low n ((fun _=>.any:Nat→AV) i):=fun _=>.any

/-- How a round of a loop may end: n: what is asked when it comes to an end; N: when the block around the loop is left. -/
def LK {α:Type} (d:Nat) (id:Nat) (I:α→St) (R:α→Prop) (μ:α→Nat) (x:α) (N:St→Prop) (K:Exit→St→Prop):Exit→St→Prop
 | .normal,s=>∃y,R y∧μ y<μ x∧StCut d s (I y)∧(I y).own.length=(I x).own.length
 | .exit i,s=>if i=id then N s else K (.exit i) s
 | e,s=>K e s

theorem AW.loopC {c:Code} {st:St} {K:Exit→St→Prop} {id:Nat} {α:Type} (I:α→St) (R:α→Prop) (μ:α→Nat) (x0:α) (h0:R x0) (hst:StLe d st (I x0)) (hown:(I x0).own.length=st.own.length)
  (round:∀x,R x→AW P d c (I x) (LK d id I R μ x (K .normal) K)):AW P d (.block id (.loop c)) st K:=by
 refine Gy ?_
 intro G0 a0 w0 hr0
 let S:Act→World→Nat→Prop:=fun a w m=>∃x G,R x∧StRel d G (I x) a w∧Keep d G0 w0 G w∧((I x).up.length=st.up.length∧(I x).rnd=st.rnd∧(I x).sz=st.sz∧(I x).own.length=st.own.length)∧μ x=m
 have key:∀a w,(∃m,S a w m)→∃m,(S a w m∧∀k,S a w k→m≤k):=fun a w h=>H2 h
 refine wpIn_loop (F:=Fr (st.rnd.map G0.blk)) (fun a w=>∃m,S a w m) (fun a w=>Classical.epsilon fun m=>S a w m∧∀k,S a w k→m≤k)
  ⟨_,x0,G0,h0,hst.1 _ _ _ hr0,Er _ _ _,⟨hst.2.1,hst.2.2.1,hst.2.2.2,hown⟩,rfl⟩ ?_
 intro a w hI
 obtain ⟨⟨x,G,hx,hrel,hkeep,⟨e1,e2,e3,e4⟩,hm⟩,_⟩:=cw (key a w hI)
 have hw:=round x hx G a w hrel
 have hF:Fr ((I x).rnd.map G.blk)=Fr (st.rnd.map G0.blk):=Eg (st':=I x) hr0 hkeep e2
 rw [hF] at hw
 refine wpIn_mono hw ?_
 rintro e a1 w1 ⟨G1,s1,hr1,hk1,f1,f2,f3,hK⟩
 have hnx:G.n=((I x).up++(I x).own).length:=hrel.heap.n
 cases e with
 | normal =>
  obtain ⟨y,hy,hlt,hle,hown'⟩:=hK
  obtain ⟨c1,c2,c3,c4,c5⟩:=hle
  have hcut:=c5 _ _ _ hr1
  have hnE:((I y).up++(I y).own).length=G.n:=by
   rw [hnx]
   simp only [Am]
   have:=c2.trans f1
   omega
  have hk1':Keep d G w { G1 with n:=((I y).up++(I y).own).length } w1:=⟨hk1.fix,hk1.slot,by rw [←hnE];exact Ah _,hk1.blk,hk1.os,hk1.tape,hk1.output,hk1.size,hk1.old.cut (by rw [hr1.heap.n];exact c1)⟩
  have hS:S a1 w1 (μ y):=⟨y,_,hy,hcut,hkeep.trans hk1',⟨c2.trans (f1.trans e1),c3.trans (f2.trans e2),c4.trans (f3.trans e3),hown'.trans e4⟩,rfl⟩
  have hmin:=(cw (key a1 w1 ⟨_,hS⟩)).2 _ hS
  refine ⟨⟨_,hS⟩,?_⟩
  rw [←hm]
  exact Nat.lt_of_le_of_lt hmin hlt
 | exit i =>
  refine ⟨G1,s1,hr1,hkeep.trans hk1,f1.trans e1,f2.trans e2,f3.trans e3,?_⟩
  simp only [LK] at hK
  simp only [J9]
  split
  ·rename_i h;rw [if_pos h] at hK;exact hK
  rename_i h;rw [if_neg h] at hK;exact hK
 | goto l=>exact ⟨G1,s1,hr1,hkeep.trans hk1,f1.trans e1,f2.trans e2,f3.trans e3,hK⟩
 | ret=>exact ⟨G1,s1,hr1,hkeep.trans hk1,f1.trans e1,f2.trans e2,f3.trans e3,hK⟩
 | panic ch=>exact ⟨G1,s1,hr1,hkeep.trans hk1,f1.trans e1,f2.trans e2,f3.trans e3,hK⟩
 | outgrown=>exact ⟨G1,s1,hr1,hkeep.trans hk1,f1.trans e1,f2.trans e2,f3.trans e3,hK⟩

/-! ### Ways out, step by step -/
variable {K K':Exit→St→Prop} {N:St→Prop} {y:Code} {s:St} {i id:Nat}
theorem K.thN (h:AW P d y s K):Lk (fun s=>AW P d y s K) K' .normal s:=h
theorem K.thE (h:K (.exit i) s):Lk N K (.exit i) s:=h
theorem K.thR (h:K .ret s):Lk N K .ret s:=h
theorem K.blN (h:K .normal s):J9 id K .normal s:=h
theorem K.blE (h:K .normal s):J9 i K (.exit i) s:=by simp only [J9,if_true];exact h
theorem K.blR (h:K .ret s):J9 id K .ret s:=h
section
variable {α:Type} {I:α→St} {R:α→Prop} {μ:α→Nat} {x:α}
theorem K.lpE (h:N s):LK d i I R μ x N K (.exit i) s:=by simp only [LK,if_true];exact h
theorem K.lpR (h:K .ret s):LK d id I R μ x N K .ret s:=h
theorem K.lpN (y:α) (hR:R y) (hμ:μ y<μ x) (hc:StCut d s (I y)) (ho:(I y).own.length=(I x).own.length:=by rfl):LK d id I R μ x N K .normal s:=⟨y,hR,hμ,hc,ho⟩
end
/-- Ways that meet again. -/
theorem W.join {a b:Code} (T:St) (h1:AW P d a s (Lk (fun s=>StLe d s T) K)) (h2:AW P d b T K):AW P d (.seq a b) s K:=by
 refine Kw (h1.mono fun e s' hs=>?_)
 cases e with
 | normal=>exact AW.le hs h2
 | exit i=>exact hs
 | goto i=>exact hs
 | ret=>exact hs
 | panic c=>exact hs
 | outgrown=>exact hs
theorem K.thJ {T:St} (h:StLe d s T):Lk (fun s=>StLe d s T) K' .normal s:=h
theorem StLe.of_eq {s t:St} (h:s=t):StLe d s t:=by subst h;exact Es _
theorem W.seq {a b:Code} (h:AW P d a s (Lk (fun s=>AW P d b s K) K)):AW P d (.seq a b) s K:=Kw h
section
variable {sz:Nat} {fr:Nat→AV} {up own:List AObj} {dfs:List Nat} {rnd:Option Nat} {c:Operand} {a b:Code} {B:Bool}
theorem W.keep (l:List Nat) {fr':Nat→AV} (hq:AW P d y ⟨sz,fr',up,own,dfs,rnd⟩ K) (h:Jg l fr=fr':=by exact sL0):AW P d y ⟨sz,fr,up,own,dfs,rnd⟩ K:=AW.keep l h hq
/-- A loop's test: on, or out. -/
theorem W.condX {i:Nat} (h1:B=true→AW P d y ⟨sz,fr,up,own,dfs,rnd⟩ K) (h2:B=false→K (.exit i) ⟨sz,fr,up,own,dfs,rnd⟩) (hc:B6 fr c=.v (.bool B):=by exact sL0):
  AW P d (.seq (.cond c .skip (.exit i)) y) ⟨sz,fr,up,own,dfs,rnd⟩ K:=Kw (A6 (fun e=>G4 (h1 e)) (fun e=>AW.exit (h2 e)) hc)
end
theorem K.fin {rs:List ResultVar} {post:AV→List AObj→Prop} {r:AV} (hres:Res P s rs r) (hp:post r s.up:=by exact ⟨rfl,rfl⟩) (hlow:Low n r:=by simp):FK P rs n post .ret s:=⟨.inr rfl,r,hres,hlow,hp⟩
theorem K.finN {rs:List ResultVar} {post:AV→List AObj→Prop} {r:AV} (hres:Res P s rs r) (hp:post r s.up:=by exact ⟨rfl,rfl⟩) (hlow:Low n r:=by simp):FK P rs n post .normal s:=⟨.inl rfl,r,hres,hlow,hp⟩
end
end Go.SX
namespace Go.SX
def C8:=@AW.loopC
def F8:=@K.blN
def A9:=@K.fin
def L2:=@K.finN
def C0:=@K.lpN
def G6:=@K.thN
def Dn:=@K.thR
def Cm:=@StCut.of_eq
def Dj:=@StCut.take
def C1:=@StLe.of_eq
def Fl:=@W.condX
def Jo:=@W.join
def F9:=@W.keep
end Go.SX
namespace Go.SX
variable [GI:GlobInv]
open Classical
variable {U:List AObj} {args:List AV} {m n:Nat}
section
variable {P:Program} {d:Nat} {ops:Array Oper} {rest:List Oper} {sz:Nat} {fr:Nat→AV} {up own own':List AObj} {dfs:List Nat} {rnd:Option Nat} {Q:St→Prop} {s:Nat} {ty:TypeId} {pos:String} {aft:Array Edge}

theorem Ei {O:List AObj} {x:AObj}:(U++O).set (oid U.length n) x=U++O.set n x:=Bm
theorem Bk {O:List AObj}:(U++O)[oid U.length n]? = O[n]? := Db
theorem Eu {u:Nat} (h:n≠m):oid u n≠oid u m:=fun e=>h (Nat.add_left_cancel e)
theorem Ur {l a:Nat} {x y X:AObj} (h:U[l]? = some x) (ha:a≠l):((U.set l y).set a X)[l]? = some y:=by rw [Cd ha];exact Az h
theorem lg {l a b:Nat} {x y X Y:AObj} (h:U[l]? = some x) (ha:a≠l) (hb:b≠l):(((U.set l y).set a X).set b Y)[l]? = some y:=by rw [Cd hb];exact Ur h ha
theorem du (f:Nat→AV):Wp [] f=f:=rfl
theorem ak (x:Nat×AV) (r:List (Nat×AV)) (f:Nat→AV):Wp (x::r) f=Wp r (Aa x.1 x.2 f):=rfl
attribute [go_sem] du ak List.zip_cons_cons List.zip_nil_left List.zip_nil_right
/-- A call of a round, by an activation that has no objects. -/
theorem R.yield0 {f:Operand} {xs:List Operand} {ats:Array TypeId} {l:Nat} {args:List AV} {post:Bool→List AObj→Prop} (h:AYield P l args up post)
  (hp:∀b U,U.length=up.length→post b U→ARun P d ops rest ⟨sz,Aa s (.v (.bool b)) fr,U,[],[],rnd⟩ Q)
  (hf:B6 fr f=.yield l:=by exact sL0) (ha:xs.map (B6 fr)=args:=by exact sL0) (hs:Nat.blt s sz=true:=by rfl):
  ARun P d ops (⟨some s,.call ⟨.value f,xs.toArray,ats⟩,ty,pos,aft,none⟩::rest) ⟨sz,fr,up,[],[],rnd⟩ Q:=by
 refine ARun.op rfl (Q1:=fun s'=>ARun P d ops rest s' Q) ?_ (fun s' e=>e)
 intro G a w hr Q'
 have hfr':Rep G w none (.yield l) (a.eval f):=by
  have:=hr.eval f
  have e:St.ev ⟨sz,fr,up,[],[],rnd⟩ f=.yield l:=hf
  rwa [e] at this
 generalize hfv:a.eval f=fv at hfr'
 cases hfr' with
 | yield _ _ ho =>
  have hxr:=Sr hr xs
  have ha':xs.map (St.ev ⟨sz,fr,up,[],[],rnd⟩)=args:=ha
  rw [ha'] at hxr
  have hh:HeapRel G up w:=by simpa using hr.heap
  obtain ⟨f',tmps,as,bd,hrun,hround⟩:=h d G w (xs.map a.eval).toArray (by rw [←ha];simp) hxr hh hr.tags hr.top
  refine Ws (by intro c h;cases h) ((Qv hfv).trans hrun) hround ?_
  rintro e w' ⟨b,G',H',rfl,hH,hT,hk,hlen,hp'⟩
  have h3:=hr.called hH hT hk (U:=H') (O:=[]) (by simp) hlen (fun o ho=>by simp at ho) (by rw [hlen];have:=P5 hH;rwa [hlen] at this)
  obtain ⟨h4,k4⟩:=h3.took (.v (some (.ret d)) (.bool b)) (s:=s) (by simpa using hs)
  exact ⟨.bool b,rfl,_,_,h4,(hk.less (Nat.le_succ d)).trans k4,hlen,rfl,rfl,hp b H' hlen hp'⟩

/-- Ranging over a function. -/
theorem W.range {g:Operand} {ps:Array Tmp} {as bd:Code} {gf:FuncId} {first caps args:List AV} {m:Nat} {K:Exit→St→Prop} (post:AV→List AObj→Prop) (hcall:∀args w,(callFunc gf args).run P w=.ok (.enter gf args) w)
  (h:ACall P gf args (up++(own++[.defs,.loop .ready none (fun s=>(fr s).strip) sz ps as bd (oid up.length m)])) post)
  (hp:∀r H',post r H'→Wt P d ⟨sz,fr,up,own,dfs,none⟩ (oid up.length m::dfs) (m+1) (oid up.length m) ps as bd K r H')
  (hm:own.length=m:=by rfl) (hg:B6 fr g=.fn (.func gf) first caps:=by exact sL0) (ha:first++[.yield (oid up.length (m+1))]++caps=args:=by rfl):
  AW P d (.rangeFunc g ps as bd) ⟨sz,fr,up,own,dfs,none⟩ K:=by
 subst ha
 refine AW.rangeFunc (st:=⟨sz,fr,up,own,dfs,none⟩) (n:=up.length) (m:=m) hcall hg rfl rfl hm.symm ?_
 exact h.mono hp

/-- What is asked behind the function that is ranged over; the record's parts under names. -/
def rangeV (P:Program) (d sz:Nat) (fr FR:Nat→AV) (up:List AObj) (dfs:List Nat) (l df:Nat) (ps:Array Tmp) (as bd:Code) (K:Exit→St→Prop) (H':List AObj):Prop:=
 ∃U O x pd,H'=U++O∧U.length=up.length∧((∀x∈up,ObjLow U.length x)→∀x∈U,ObjLow U.length x)∧(∀o∈dfs,(U++O)[o]? = some .defs) ∧
  O[l]? = some (.loop x pd FR sz ps as bd df)∧x≠.busy ∧
  match pd with
  | none=>K .normal ⟨sz,fr,U,O.set l (.loop .exhausted none FR sz ps as bd df),dfs,none⟩
  | some c=>AW P d c ⟨sz,fr,U,O.set l (.loop .exhausted (some c) FR sz ps as bd df),dfs,none⟩ K
theorem W.rangeV {g:Operand} {ps:Array Tmp} {as bd:Code} {gf:FuncId} {first caps args:List AV} {m:Nat} {K:Exit→St→Prop} (hcall:∀args w,(callFunc gf args).run P w=.ok (.enter gf args) w)
  (h:∀FR as' bd',FR=(fun s=>(fr s).strip)→as'=as→bd'=bd→∃post:AV→List AObj→Prop,ACall P gf args (up++(own++[.defs,.loop .ready none FR sz ps as' bd' (oid up.length m)])) post ∧
   ∀r H',post r H'→rangeV P d sz fr FR up (oid up.length m::dfs) (m+1) (oid up.length m) ps as' bd' K H')
  (hm:own.length=m:=by rfl) (hg:B6 fr g=.fn (.func gf) first caps:=by exact sL0) (ha:first++[.yield (oid up.length (m+1))]++caps=args:=by rfl):
  AW P d (.rangeFunc g ps as bd) ⟨sz,fr,up,own,dfs,none⟩ K:=by
 obtain ⟨post,h1,h2⟩:=h _ _ _ rfl rfl rfl
 exact W.range post hcall h1 (fun r H' hp=>h2 r H' hp) hm hg ha

/-- A nil slice in a cell of ours is an empty one. -/
theorem StLe.nilOwn {n k:Nat} {t:TypeId} (ho:own[n]? = some (.cells t [.nil])):StLe d ⟨sz,fr,up,own,dfs,rnd⟩ ⟨sz,fr,up,own.set n (.cells t [.slice true k []]),dfs,rnd⟩:=by
 refine ⟨fun G a w h=>?_,rfl,rfl,rfl⟩
 refine ⟨h.size,h.slots,⟨fun i x hx=>?_,?_,h.heap.inj⟩,h.defs,fun o hoo=>?_,h.defsNodup,h.defsGe,h.tags,h.rnd,h.low,h.top⟩
 ·by_cases hi:i=up.length+n
  ·subst hi
   simp only at hx
   rw [Db,List.getElem?_set_self (List.getElem?_eq_some_iff.1 ho).1] at hx
   injection hx with hx
   subst hx
   have hob:=h.heap.obj (up.length+n) (.cells t [.nil]) (by simp only [Db];exact ho)
   obtain ⟨vs,h1,h2,h3,h4⟩:=hob
   refine ⟨vs,h1,h2,fun j y u p q=>?_,h4⟩
   match j,p with
   | 0,p =>
    have e:y=.slice true k []:=by simpa using p.symm
    subst e
    exact (h3 0 .nil u rfl q).le (.nil _ _)
   | j+1,p=>simp at p
  refine h.heap.obj i x ?_
  simp only at hx ⊢
  rwa [←Bm,List.getElem?_set_ne (fun e=>hi e.symm)] at hx
 ·have:=h.heap.n;simpa using this
 have h1:=h.defsAt o hoo
 simp only at h1 ⊢
 rw [←Bm]
 by_cases hi:o=up.length+n
 ·subst hi
  rw [Db,ho] at h1
  cases h1
 rw [List.getElem?_set_ne (fun e=>hi e.symm)]
 exact h1

theorem R.nilOwn {l:List Oper} (n k:Nat) {t:TypeId} (hr:ARun P d ops l ⟨sz,fr,up,own',dfs,rnd⟩ Q) (ho:own[n]? = some (.cells t [.nil]):=by rfl) (hset:own.set n (.cells t [.slice true k []])=own':=by exact sL0):
  ARun P d ops l ⟨sz,fr,up,own,dfs,rnd⟩ Q:=by
 subst hset
 exact ARun.le (StLe.nilOwn ho) hr
theorem W.nilOwn {c:Code} {K:Exit→St→Prop} (n k:Nat) {t:TypeId} (hr:AW P d c ⟨sz,fr,up,own',dfs,rnd⟩ K) (ho:own[n]? = some (.cells t [.nil]):=by rfl) (hset:own.set n (.cells t [.slice true k []])=own':=by exact sL0):
  AW P d c ⟨sz,fr,up,own,dfs,rnd⟩ K:=by
 subst hset
 exact AW.le (StLe.nilOwn ho) hr

/-- A nil slice in one of the cells of an object of ours is an empty one. -/
theorem StLe.nilCell {n k j0:Nat} {t:TypeId} {cs:List AV} (ho:own[n]? = some (.cells t cs)) (hc:cs[j0]? = some .nil):StLe d ⟨sz,fr,up,own,dfs,rnd⟩ ⟨sz,fr,up,own.set n (.cells t (cs.set j0 (.slice true k []))),dfs,rnd⟩:=by
 refine ⟨fun G a w h=>?_,rfl,rfl,rfl⟩
 refine ⟨h.size,h.slots,⟨fun i x hx=>?_,?_,h.heap.inj⟩,h.defs,fun o hoo=>?_,h.defsNodup,h.defsGe,h.tags,h.rnd,h.low,h.top⟩
 ·by_cases hi:i=up.length+n
  ·subst hi
   simp only at hx
   rw [Db,List.getElem?_set_self (List.getElem?_eq_some_iff.1 ho).1] at hx
   injection hx with hx
   subst hx
   have hob:=h.heap.obj (up.length+n) (.cells t cs) (by simp only [Db];exact ho)
   obtain ⟨vs,h1,h2,h3,h4⟩:=hob
   refine ⟨vs,h1,by simpa using h2,fun j y u p q=>?_,by simpa using h4⟩
   by_cases hj:j=j0
   ·subst hj
    rw [List.getElem?_set_self (List.getElem?_eq_some_iff.1 hc).1] at p
    have e:y=.slice true k []:=by simpa using p.symm
    subst e
    exact (h3 j .nil u hc q).le (.nil _ _)
   rw [List.getElem?_set_ne (fun e=>hj e.symm)] at p
   exact h3 j y u p q
  refine h.heap.obj i x ?_
  simp only at hx ⊢
  rwa [←Bm,List.getElem?_set_ne (fun e=>hi e.symm)] at hx
 ·have:=h.heap.n;simpa using this
 have h1:=h.defsAt o hoo
 simp only at h1 ⊢
 rw [←Bm]
 by_cases hi:o=up.length+n
 ·subst hi
  rw [Db,ho] at h1
  cases h1
 rw [List.getElem?_set_ne (fun e=>hi e.symm)]
 exact h1
theorem R.nilCell {l:List Oper} (n j0 k:Nat) {t:TypeId} {cs:List AV} (hr:ARun P d ops l ⟨sz,fr,up,own',dfs,rnd⟩ Q) (ho:own[n]? = some (.cells t cs):=by rfl) (hc:cs[j0]? = some .nil:=by rfl) (hset:own.set n (.cells t (cs.set j0 (.slice true k [])))=own':=by exact sL0):
  ARun P d ops l ⟨sz,fr,up,own,dfs,rnd⟩ Q:=by
 subst hset
 exact ARun.le (StLe.nilCell ho hc) hr

/-- Objects of whoever waits refer to one another alone. -/
theorem R.assumeLow {l:List Oper} (h:(∀x∈up,ObjLow up.length x)→ARun P d ops l ⟨sz,fr,up,own,dfs,rnd⟩ Q):ARun P d ops l ⟨sz,fr,up,own,dfs,rnd⟩ Q:=fun G a w hr=>h hr.low G a w hr

/-! ### Ends of rounds -/
variable {l df:Nat} {ps:Array Tmp} {as bd:Code} {post:Bool→List AObj→Prop} {st:St} {x:LoopState} {pd:Option Code}
theorem K.rdN (hl:st.up[l]? = some (.loop x pd fr sz ps as bd df)) (h:post true (st.up.set l (.loop .ready none fr sz ps as bd df))):Wq l fr sz ps as bd df post .normal st:=⟨⟨x,pd,hl⟩,h⟩
theorem K.rdR (hl:st.up[l]? = some (.loop x pd fr sz ps as bd df)) (h:post false (st.up.set l (.loop .done (some .ret) fr sz ps as bd df))):Wq l fr sz ps as bd df post .ret st:=⟨⟨x,pd,hl⟩,h⟩
end
end Go.SX
namespace Go.SX
def Mp:=@R.nilCell
end Go.SX
namespace Go.SX
open Go
variable [GI:GlobInv]
variable {P:Program} {d:Nat} {s:St} {K K':Exit→St→Prop}
/-- The same, where objects that one of the ways made are let go. -/
theorem W.joinC {a b:Code} (T:St) (Q:Prop) (h1:AW P d a s (Lk (fun s=>StCut d s T∧Q) K)) (h2:Q→AW P d b T K) (ho:T.own.length=s.own.length:=by rfl):AW P d (.seq a b) s K:=by
 intro G a0 w hr
 refine wpIn_seq (wpIn_mono (h1 G a0 w hr) ?_)
 rintro e a1 w1 ⟨G1,st1,h1,k1,e1,e2,e3,hk⟩
 cases e with
 | normal =>
  obtain ⟨⟨c1,c2,c3,c4,c5⟩,hq⟩:=hk
  have hnE:(T.up++T.own).length=G.n:=by
   rw [hr.heap.n]
   simp only [Am]
   have:=c2.trans e1
   omega
  have k2:Keep d G w { G1 with n:=(T.up++T.own).length } w1:=⟨k1.fix,k1.slot,by rw [←hnE];exact Ah _,k1.blk,k1.os,k1.tape,k1.output,k1.size,k1.old.cut (by rw [h1.heap.n];exact c1)⟩
  have:=h2 hq _ a1 w1 (c5 _ _ _ h1)
  rw [Eg hr k2 (c3.trans e2)] at this
  exact wpIn_mono this fun e _ _ hp=>hp.next k2 (c2.trans e1) (c3.trans e2) (c4.trans e3)
 | exit id=>exact ⟨G1,st1,h1,k1,e1,e2,e3,hk⟩
 | goto l=>exact ⟨G1,st1,h1,k1,e1,e2,e3,hk⟩
 | ret=>exact ⟨G1,st1,h1,k1,e1,e2,e3,hk⟩
 | panic ch=>exact ⟨G1,st1,h1,k1,e1,e2,e3,hk⟩
 | outgrown=>exact ⟨G1,st1,h1,k1,e1,e2,e3,hk⟩
theorem K.thJC {T:St} {Q:Prop} (h:StCut d s T) (q:Q):Lk (fun s=>StCut d s T∧Q) K' .normal s:=⟨h,q⟩
end Go.SX
namespace Go.SX
def L3:=@K.thJC
end Go.SX
