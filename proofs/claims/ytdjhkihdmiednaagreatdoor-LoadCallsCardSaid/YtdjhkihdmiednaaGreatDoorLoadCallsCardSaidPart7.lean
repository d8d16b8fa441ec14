/- On the way (part 7). -/
import Derived.Test.YtdjhkihdmiednaaGreatDoorLoadCallsCardSaidPart6
set_option linter.all false
namespace Go.SX.Nb
open Go Go.SX Go.Proofs Go.RowKit Go.Sort
variable [ErrAt]
set_option maxRecDepth 4000
theorem Zf:Builder.Extra Tryz.prog Tryz.ren156:={ sizeBuilder:=by kernel_rfl,liesBuilder:=by kernel_rfl,t5:=Tryz.underlying5,a5:=Tryz.isAgg5,z5:=Tryz.sizeOf5,v5:=Tryz.zeroValue5,infoByte:=by kernel_rfl,cellsByte:=by kernel_rfl,sizeByte:=by kernel_rfl,neB5:=by decide }
theorem c83 (l:List Str) (sep:Str) (hn:l.length≤140737488355328) (hl:(Lib.join l sep).length≤140737488355328) (Hp:List AObj):AFun Tryz.prog 83 [Fv l,A8 sep] Hp (A8 (Lib.join l sep)):=by
 have e:Fv l=.slice false 1 ((l.map sv).map .v):=by rw [Ku];rfl
 rw [e]
 refine AFun.libSl (xs:=[sv sep]) (v:=sv (Lib.join l sep)) (fun G w=>.v _ _) (fun w u hg hs=>?_)
 rcases hs with ⟨rfl,he⟩|⟨ad,c,rfl,hc,hsp,hcell⟩
 ·have:l=[]:=by simpa using he
  subst this
  refine (Any.strings_Join_none Tryz.lays156 Zf none 0 ⟨sep.toArray⟩ w).mono ?_
  rintro e w' ⟨rfl,rfl⟩
  exact V0
 rw [Bs] at hc
 match l,hn,hl,hc,hsp,hcell with
 | [],_,_,_,_,_ =>
  refine (Any.strings_Join_none Tryz.lays156 Zf (some ad) c ⟨sep.toArray⟩ w).mono ?_
  rintro e w' ⟨rfl,rfl⟩
  exact V0
 | [x],_,_,hc,hsp,hcell =>
  obtain ⟨bk,o,spot⟩:=ad
  have hs0:spot=none:=hsp (by simp)
  subst hs0
  refine (Any.strings_Join_one Tryz.lays156 Zf bk o c ⟨x.toArray⟩ ⟨sep.toArray⟩ w (by have:=hcell 0 (sv x) rfl;simpa using this)).mono ?_
  rintro e w' ⟨rfl,rfl⟩
  exact ⟨by rw [Lib.join_one],Below.refl _ _⟩
 | x::y::r,hn,hl,hc,hsp,hcell =>
  obtain ⟨bk,o,spot⟩:=ad
  have hs0:spot=none:=hsp (by simp)
  subst hs0
  have h0:=hcell 0 (sv x) rfl
  have hb:bk<w.heap.size:=World.block_lt_of_cell? _ _ h0
  have hd:((x::y::r).map fun z=>(⟨z.toArray⟩:ByteArray)).map (·.data.toList)=x::y::r:=by
   rw [Ku]
   exact List.map_id'' (fun z=>by simp) _
  have:=Any.strings_Join_many Tryz.lays156 Zf bk o c ((x::y::r).map fun z=>(⟨z.toArray⟩:ByteArray)) ⟨sep.toArray⟩ w (fun j z hz=>by
   rw [C4,Da] at hz
   obtain ⟨z',hz',rfl⟩:=hz
   exact hcell j _ (by rw [C4,hz'];rfl)) hb (by simp) (by simpa using hn) (by simpa using hc) (by rw [hd];simpa using hl)
  rw [hd,Bs] at this
  rw [Bs]
  refine this.mono ?_
  rintro e w' ⟨rfl,hb'⟩
  exact ⟨by simp,hb'⟩
end Go.SX.Nb
namespace Go.SX.Nb
open Go Go.SX Go.Proofs
variable [ErrAt]
set_option maxRecDepth 4000
/-! Every number that is printed is read. -/
theorem js {u:Nat} (hu:1≤u):((Lib.decDigits u).headD 0==48)=false:=by
 by_cases h:u<10
 ·rw [Lib.decDigits_one h]
  have h9:u=1∨u=2∨u=3∨u=4∨u=5∨u=6∨u=7∨u=8∨u=9:=by omega
  rcases h9 with rfl|rfl|rfl|rfl|rfl|rfl|rfl|rfl|rfl<;>rfl
 obtain ⟨c,r,e,h0⟩:=Qb u
 rw [e]
 have:(c==48)=false:=by simpa using h0 (by omega)
 simp [this]
theorem jt {u:Nat} (h1:1≤u) (h2:u≤9223372036854775808):C9 (45::Lib.decDigits u)=(-(u:Int),0):=by
 obtain ⟨c,r,e,_⟩:=Qb u
 have hd:J3 (45::Lib.decDigits u)=Lib.decDigits u:=by
  unfold J3 Lib.trimPrefix;simp [Lib.hasPrefix]
 have hb:Fa (45::Lib.decDigits u)=false:=by
  unfold Fa
  rw [hd,js h1]
  have a1:(Lib.decDigits u==[])=false:=by rw [e];rfl
  have a2:Lib.trimS (Lib.decDigits u) digs=[]:=by
   unfold Lib.trimS Lib.trimRightS
   have:(Lib.decDigits u).reverse.dropWhile (fun x=>digs.contains x)=[]:=by
    rw [Td]
    intro b hb
    exact Tt u b (by simpa using hb)
   rw [this]
   rfl
  rw [a1,a2]
  rfl
 have hp:Lib.parseIntB 64 (45::Lib.decDigits u)=.ok (-(u:Int)):=by
  have hu:Lib.parseUintB 64 (Lib.decDigits u)=.ok u:=by
   unfold Lib.parseUintB
   rw [if_neg (by rw [e];simp)]
   exact Qc (by decide) u (by
    have:(2:Nat) ^ 64-1=18446744073709551615:=by decide
    omega)
  have e63:(2:Nat) ^ (64-1)=9223372036854775808:=by decide
  have e45:(45:UInt8).toNat=45:=rfl
  simp only [Lib.parseIntB,e45,or_true,if_true,hu,e63]
  simp
  omega
 unfold C9
 rw [hb,hp]
 rfl
theorem Zg {n:Int} (h0 : -9223372036854775808≤n) (h1:n≤9223372036854775807):C9 (Lib.itoa n)=(n,0):=by
 by_cases h:0≤n
 ·obtain ⟨u,rfl⟩:∃u:Nat,n=(u:Int):=⟨n.toNat,by omega⟩
  have e0:Lib.itoa (u:Int)=Lib.decDigits u:=by unfold Lib.itoa;rw [if_neg (by omega)];simp
  rw [e0,ji u (by omega)]
 obtain ⟨u,rfl⟩:∃u:Nat,n = -(u:Int):=⟨n.natAbs,by omega⟩
 have e0:Lib.itoa (-(u:Int))=45::Lib.decDigits u:=by unfold Lib.itoa;rw [if_pos (by omega)];simp
 rw [e0,jt (by omega) (by omega)]
/-! The lines of calls. -/
def q9:Str:=[32,119,114,105,116,101,32,114,101,97,100,32,115,116,97,114,116,32,97,98,111,114,116,32,115,116,101,112,32,99,104,101,99,107,112,111,105,110,116,32,102,117,115,101,32,99,114,97,115,104]
def cmdL:List Str:=[[],[119,114,105,116,101],[114,101,97,100],[115,116,97,114,116],[97,98,111,114,116],[115,116,101,112],[99,104,101,99,107,112,111,105,110,116],[102,117,115,101],[99,114,97,115,104]]
theorem bt:Jr q9 [32]=cmdL:=by kernel_rfl
def Ey (k:Int):Str:=if k<1∨9≤k then [] else cmdL.getD k.toNat []
def Ez (v:Int):Str:=if v==1 then [110,101,119] else [111,108,100]
def Qi:Str:=[100,114,111,112]
def F0 (l:List Val):Str:=[91]++Lib.join (l.map At) [44]++[93]
def wrS (w:Wr):Str:=([32]++Lib.itoa w.key++[32])++(if w.drop then Qi else F0 w.l)
def Gf (l:List Wr):Str:=l.flatMap wrS
/-- Behind a value. -/
def Cw:List Val→Str
 | []=>[93]
 | v::r=>[44]++At v++Cw r
theorem Ks:∀r:List Val,Lib.joinTail [44] (r.map At)++[93]=Cw r
 | []=>rfl
 | v::r=>by
  have h:=Ks r
  unfold Lib.joinTail at h ⊢
  rw [Cl,Cl,List.flatten_cons,Cw,Br,h]
theorem bu:F0 []=[91,93]:=rfl
theorem Lg (v:Val) (r:List Val):F0 (v::r)=91::(At v++Cw r):=by
 unfold F0
 rw [Cl,Lib.join_cons,Br,Br,Ks]
 rfl
/-! The values that are drawn. -/
def goodVs:List Val:=V7::((List.range 100).map (fun n=>⟨1,(n:Int)-20,[]⟩)++texts.map (fun t=>⟨2,0,t⟩)++[⟨3,0,[]⟩,⟨3,1,[]⟩])
def okV (v:Val):Bool:=
 ((((((E0 v&&decide (Eb (At v)=(v,0)))&&(At v).all (fun b=>decide (b.toNat<128)&&(b != 10)&&(b != 44)&&(b != 93)))&&(At v != []))&&(Lib.hasPrefix (At v) [39]==(v.kind==2)))&&(!(v.kind==2) || (v.s.all (· != 39)&&decide (At v=[39]++v.s++[39]))))&&decide ((At v).length≤10))&&decide (-9223372036854775808≤v.n∧v.n≤9223372036854775807)
theorem ju:goodVs.all okV=true:=by kernel_rfl
structure GoodV (v:Val):Prop where
 plain:E0 v=true
 read:Eb (At v)=(v,0)
 bytes:∀b∈At v,b.toNat<128∧b≠10∧b≠44∧b≠93
 ne:At v≠[]
 quot:Lib.hasPrefix (At v) [39]=(v.kind==2)
 text:(v.kind==2)=true→(∀b∈v.s,b≠39)∧At v=[39]++v.s++[39]
 len:(At v).length≤10
 rng : -9223372036854775808≤v.n∧v.n≤9223372036854775807
theorem jv {v:Val} (h:v∈goodVs):GoodV v:=by
 have h:=Ap.1 ju v h
 unfold okV at h
 simp only [B1,decide_eq_true_eq,Ap,bne_iff_ne,ne_eq,beq_iff_eq,Fg,If] at h
 obtain ⟨⟨⟨⟨⟨⟨⟨h1,h2⟩,h3⟩,h4⟩,h5⟩,h6⟩,h7⟩,h8⟩:=h
 refine ⟨h1,h2,fun b hb=>?_,h4,h5,fun hk=>?_,h7,h8⟩
 ·have:=h3 b hb
  exact ⟨this.1.1.1,this.1.1.2,this.1.2,this.2⟩
 rcases h6 with h6|h6
 ·rw [hk] at h6;cases h6
 exact h6
theorem bv (s k:Int) (hk:k=1∨k=2∨k=3):(Fp s k).2∈goodVs:=by
 unfold Fp
 split
 ·exact Ef
 refine Hy _ ?_
 split
 ·have:=Bn (A5 (A5 s)) 100 (by decide)
  refine Oy _ (Oy _ (E2.2 ⟨(Ak (A5 (A5 s)) 100).toNat,Dm.2 (by omega),?_⟩))
  rw [Int.toNat_of_nonneg this.1]
 split
 ·have:=Bn (A5 (A5 s)) 4 (by decide)
  refine Oy _ (Kv _ (E2.2 ⟨Ru (Ak (A5 (A5 s)) 4),?_,rfl⟩))
  unfold Ru
  rw [Dw,Ad (show (Ak (A5 (A5 s)) 4).toNat<texts.length by show _<4;omega)]
  exact C7 _
 rename_i h1 h2
 have h3:k=3:=by omega
 have:=Bn (A5 (A5 s)) 2 (by decide)
 refine Kv _ ?_
 rw [h3]
 rcases (show Ak (A5 (A5 s)) 2=0∨Ak (A5 (A5 s)) 2=1 by omega) with e|e<;>rw [e]
 ·exact Ef
 exact Hy _ Ef
theorem Ny:∀(c:List Col) (s:Int),(∀y∈c,y.kind=1∨y.kind=2∨y.kind=3)→∀v∈(As s c).2,v∈goodVs
 | [],s,_,v,h=>by cases h
 | y::c,s,hc,v,h=>by
  rw [As] at h
  rcases Bt.1 h with rfl|h
  ·exact bv s y.kind (hc y Ef)
  exact Ny c _ (fun z hz=>hc z (Hy _ hz)) v h
/-! Where a byte stands. -/
theorem jx {a t:Str} (ha:∀b∈a,b≠44∧b≠93) (ht:∃b r,t=b::r∧(b=44∨b=93)):Lib.indexAny (a++t) [44,93]=(a.length:Int):=by
 induction a with
 | nil =>
  obtain ⟨b,r,rfl,hb⟩:=ht
  rw [F1,Lib.indexAny]
  rcases hb with rfl|rfl<;>rfl
 | cons x a ih =>
  have h1:=ha x Ef
  have h2:=ih fun b hb=>ha b (Hy _ hb)
  rw [Dd,Lib.indexAny,if_neg (by simp [h1.1,h1.2]),h2]
  have:((a.length:Int) == -1)=false:=by rw [beq_eq_false_iff_ne];omega
  rw [this]
  simp
theorem Qj {c:UInt8}:∀{a b:Str},c∉a→Lib.indexByte (a++c::b) c=(a.length:Int)
 | [],b,_=>by simp [Lib.indexByte]
 | x::a,b,h=>by
  have h1:x≠c:=fun e=>h (by rw [e];exact Ef)
  have h2:=Qj (b:=b) (fun hc=>h (Hy _ hc):c∉a)
  rw [Dd,Lib.indexByte]
  simp [h1,h2]
theorem N6 {c:UInt8}:∀{a:Str},c∉a→Lib.indexByte a c = -1
 | [],_=>rfl
 | x::a,h=>by
  have h1:x≠c:=fun e=>h (by rw [e];exact Ef)
  have h2:=N6 (fun hc=>h (Hy _ hc):c∉a)
  rw [Lib.indexByte]
  simp [h1,h2]
theorem gj {a b:Str} (h:(32:UInt8)∉a):Lib.cut (a++32::b) [32]=(a,b,true):=by
 unfold Lib.cut
 rw [Lib.index_one,Qj h,if_pos (by omega)]
 simp
theorem my {a:Str} (h:(32:UInt8)∉a):Lib.cut a [32]=(a,[],false):=by
 unfold Lib.cut
 rw [Lib.index_one,N6 h]
 rfl
theorem Y3 {s:Str}:Lib.contains s [10]=decide ((10:UInt8)∈s):=by
 unfold Lib.contains
 rw [Lib.index_one]
 by_cases h:(10:UInt8)∈s
 ·obtain ⟨a,b,e,hn⟩:∃a b,s=a++10::b∧(10:UInt8)∉a:=by
   induction s with
   | nil=>cases h
   | cons x s ih =>
    by_cases hx:x=10
    ·exact ⟨[],s,by rw [hx];rfl,by simp⟩
    obtain ⟨a,b,e,hn⟩:=ih (by rcases Bt.1 h with h|h;exact absurd h.symm hx;exact h)
    refine ⟨x::a,b,by rw [e];rfl,fun hc=>?_⟩
    rcases Bt.1 hc with hc|hc
    ·exact hx hc.symm
    exact hn hc
  rw [e,Qj hn]
  simp
 rw [N6 h]
 simp [h]
end Go.SX.Nb
namespace Go.SX
variable [GI:GlobInv]
open Classical
section
variable {P:Program} {d:Nat} {st:St} {dst:Option Tmp} {ty:TypeId} {pos:String} {aft:Array Edge} {gd:Option (Nat×Bool)}
variable {sz:Nat} {fr:Nat→AV} {up own own':List AObj} {dfs:List Nat} {rnd:Option Nat} {Q:St→Prop} {ops:Array Oper} {rest:List Oper} {s:Nat}
theorem OpV.le {o:Oper} {st:St} {y y':AV} (h:OpV P d o st y) (hl:Le y y'):OpV P d o st y':=fun G a w hrel Q' =>
 Im (fun a w ⟨G',v,e,r,k,hrep⟩=>⟨G',v,e,r,k,hrep.le hl⟩) (h G a w hrel Q')
variable {l0:List Oper} {E:List Oper→(Nat→AV)→Prop} {kd:Nat}
end
end Go.SX
namespace Go.SX
variable [GI:GlobInv]
open Classical
section
variable {P:Program} {d:Nat} {st:St} {ty:TypeId} {pos:String} {aft:Array Edge} {gd:Option (Nat×Bool)} {ats:Array TypeId}
variable {sz:Nat} {fr:Nat→AV} {up own own':List AObj} {dfs:List Nat} {rnd:Option Nat} {Q:St→Prop} {ops:Array Oper} {rest:List Oper} {s:Nat}
/-- A struct that is built, whose nil slices are taken as empty ones. -/
theorem R.buildLe {t:TypeId} {fs:Array Field} {places:Array (Nat×Nat)} {parts:List (Nat×Operand)} {z:Value} {zs cs:List AV} {ys:List (Nat×AV)} (y':AV) (hle:Le (.agg cs) y') (hu:P.underlying t=some (.struct fs))
  (hpl:∀w,(fs.mapM (m:=Sem) fun f=>do Pure.pure (f.offset,←Go.sizeOf f.type)).run P w=.ok places w) (hz:∀w,(zeroValue t).run P w=.ok z w) (hr:ARun P d ops rest ⟨sz,Aa s y' fr,up,own,dfs,rnd⟩ Q)
  (hzs:z.cells.toList.map Ck=zs:=by exact sL0) (hone:zs.all AV.one=true:=by exact sL1) (hys:(parts.map fun p=>(p.1,B6 fr p.2))=ys:=by exact sL0)
  (hf:Fk (fun i=>places[i]?) zs ys=some cs:=by simp [Fk,go_sem]<;>rfl) (hs:Nat.blt s sz=true:=by rfl):
  ARun P d ops (⟨some s,.build t parts.toArray,ty,pos,aft,none⟩::rest) ⟨sz,fr,up,own,dfs,rnd⟩ Q:=by
 subst hys
 exact Ue rfl rfl hs (OpV.le (OpV.build hu hpl hz hzs.symm hone hf) hle) hr
end
end Go.SX
namespace Go.SX
def I6:=@R.buildLe
end Go.SX
