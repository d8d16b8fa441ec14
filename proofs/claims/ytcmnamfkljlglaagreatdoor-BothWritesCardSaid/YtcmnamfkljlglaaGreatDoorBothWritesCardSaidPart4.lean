/- On the way (part 4). -/
import Derived.Below
import Derived.Test.YtcmnamfkljlglaaGreatDoorProg
import Derived.KernelRfl
import Derived.Shelf.Strconv.Itoa4
import Derived.Shelf.Strings.SplitShaped
import Derived.Shelf.Strings.SlTrimAscii
import Derived.Shelf.Strings.OnBuilder
import Derived.Shelf.Strings.Replace
import Derived.Shelf.Small.Strs
import Derived.Shelf.Strings.Prefix
import Derived.Shelf.Strconv.ErrVarParseInt
import Derived.Shelf.Bits.Mul64
import Derived.Shelf.Strings.Builder1
import Derived.Shelf.Strings.Cut
import Derived.Lib.SplitLaws
import Derived.LaidEql
import Derived.Stop.Asserts
import Derived.RowKitTokens
import Derived.WalkKit
import Derived.Lib.AtoiErrMem
import Derived.Lib.Strings
import Derived.BigCall
import Derived.Lib.ParseIntB
import Derived.Test.YtcmnamfkljlglaaGreatDoorBothWritesCardSaidPart3
set_option linter.all false
namespace Go.SX
variable [GI:GlobInv]
open Classical Go.RowKit
section
variable {P:Program} {g:FuncId} {Hp:List AObj}

/-- What is known of package-level variables, of a world alone. -/
def Jb (w:World):Prop:=∀x∈GI.blocks,∃o,w.heap[x.1]? = some o∧x.2 o

theorem Yq {G:Gh} {w:World} {xs:List Value} {vs:Array Value} (hn:vs.size=(xs.map AV.v).length) (h:∀(i:Nat) (y:AV) (u:Value),(xs.map AV.v)[i]? = some y→vs[i]? = some u→∃l,Rep G w l y u):vs=xs.toArray:=by
 apply jd
 ·simpa using hn
 intro i h1 h2
 have hi:i<xs.length:=by simpa using h2
 obtain ⟨l,hr⟩:=h i (.v xs[i]) vs[i] (by simp [hi]) (Ev h1)
 have:=O5 hr
 simpa using this

theorem Fy {G:Gh} {w w':World} (hT:TagOK G w) (hb:Below w.heap.size w w') {b o:Nat} (h:G.tag b o≠.free):w'.cell? ⟨b,o,none⟩=w.cell? ⟨b,o,none⟩∧w'.frozen? ⟨b,o,none⟩=w.frozen? ⟨b,o,none⟩:=by
 obtain ⟨u,hu⟩:=hT.ex b o h
 have hlt:b<w.heap.size:=World.block_lt_of_cell? _ _ hu
 have:=hb.block b hlt
 exact ⟨I4 this,Hz this⟩

theorem Uj {G:Gh} {w w':World} (hT:TagOK G w) (hb:Below w.heap.size w w'):Turn G w G w':=
 ⟨fun b o h=>⟨h,(Fy hT hb (by rw [h];simp)).1⟩,fun _ _ _ h=>h,fun _ _ _ h=>h,Ao _,fun _ _=>rfl,hb.os,hb.tape,hb.output,hb.size,L9 (fun b hv=>hb.block b hv.1) hb.size (fun _ _ _=>.inl rfl) (fun _ hi=>.inl ⟨hi,rfl⟩)⟩

theorem gg {G:Gh} {H:List AObj} {w w':World} (hH:HeapRel G H w) (hT:TagOK G w) (hb:Below w.heap.size w w'):HeapRel G H w'∧TagOK G w':=by
 have T:=Uj hT hb
 refine ⟨⟨fun i x hx=>?_,hH.n,hH.inj⟩,⟨fun b o h=>?_,fun b o i h=>?_,fun b o L h=>?_,hT.globKeep T.old⟩⟩
 ·have hi:i<G.n:=by rw [hH.n];exact (Ac.1 hx).1
  exact T.objRel hi (hb.block _ (Mj hH i hi)) (hH.obj i x hx) (fun b h=>hb.block b h.lt)
 ·rw [(Fy hT hb h).1];exact hT.ex b o h
 ·rw [(Fy hT hb (by rw [h];simp)).2];exact hT.obj b o i h
 rw [(Fy hT hb (by rw [h];simp)).2];exact hT.tail b o L h

/-- A function of plain values that hands back a plain value. -/
theorem AFun.lib {xs:List Value} {r:AV} {v:Value} (hr:∀G w,Rep G w none r v) (h:∀w,Jb w→Calls P g xs.toArray w (fun e w'=>e=.returned v∧Below w.heap.size w w')):AFun P g (xs.map .v) Hp r:=by
 intro d G w vs hn hv hH hT hTop
 have hvs:=Yq hn (fun i y u a b=>⟨_,hv i y u a b⟩)
 subst hvs
 refine (callsIn_wide.2 (h w (fun x hx=>let ⟨_,u,a,b⟩:=hT.glob x hx;⟨u,a,b⟩))).mono ?_
 rintro e w' ⟨rfl,hb⟩
 obtain ⟨h1,h2⟩:=gg hH hT hb
 exact ⟨v,G,r,Hp,rfl,(hr G w').lift,h1,h2,(Uj hT hb).keep _,rfl,rfl,rfl⟩


/-- A function of plain values that hands back a new slice of plain values. -/
theorem AFun.libSlice {xs ys:List Value} {t:TypeId} (hone:∀y∈ys,y.oneCell'=true) (h:∀w,Jb w→Calls P g xs.toArray w (fun e w'=>e=.returned (.slice (some ⟨w.heap.size,0,none⟩) ys.length ys.length)∧w'=w.alloc (.cells ys.toArray t))):
  AFun P g (xs.map .v) Hp (.slice false 1 (ys.map .v)):=by
 intro d G w vs hn hv hH hT hTop
 have hvs:=Yq hn (fun i y u a b=>⟨_,hv i y u a b⟩)
 subst hvs
 refine (callsIn_wide.2 (h w (fun x hx=>let ⟨_,u,a,b⟩:=hT.glob x hx;⟨u,a,b⟩))).mono ?_
 rintro e w' ⟨rfl,rfl⟩
 have hst:StRel (d+1) G ⟨0,fun _=>.any,Hp,[],[],none⟩ { tmps:=#[],defers:=[] } w:=
  ⟨rfl,fun s=>.any _ _,by simpa using hH,(by rw [Iz hTop];rfl),(fun o ho=>by simp at ho),Pg,(fun o ho=>by simp at ho),hT,(fun l hl=>by cases hl),Ty hH,T5 hTop⟩
 obtain ⟨G',g1,T,g2⟩:=Qm hst t ys.toArray
 refine ⟨_,G',_,Hp,rfl,?_,by simpa using g1.heap,g1.tags,T.keep _,rfl,rfl,rfl⟩
 refine .slice _ false 1 _ _ _ _ (fun i j=>ys.toArray.getD i undef) rfl (by simp) (Ao _) (fun x hx=>?_) (fun x hx y hy=>?_) (fun i x j y hx hy=>?_) (fun i x j y hx hy=>?_) (fun h=>by cases h)
 ·obtain ⟨z,_,rfl⟩:=Db.1 hx
  rfl
 ·obtain ⟨z,hz,rfl⟩:=Db.1 hx
  have:y=.v z:=by simpa [AV.cells] using hy
  subst this
  exact hone z hz
 all_goals
  rw [Cs,Ek] at hx
  obtain ⟨z,hz,rfl⟩:=hx
  have hlt:i<ys.length:=(Ac.1 hz).1
  have hj:j=0:=by
   match j,hy with
   | 0,_=>rfl
   | j+1,hy=>simp [AV.cells] at hy
  subst hj
 ·refine ⟨by simpa using g2 i (by simpa using hlt),?_⟩
  rw [World.cell?_alloc_new]
  simp [hlt]
 have:y=.v z:=by simpa [AV.cells] using hy.symm
 subst this
 have e:ys.toArray.getD i undef=z:=by
  have:=Aa hlt
  rw [this] at hz
  injection hz with hz
  simp [hlt,hz]
 rw [e]
 exact .v _ _
/-- A function that hands back a plain value and, behind an interface value, a new record of plain values. -/
theorem AFun.libErr {xs cs:List Value} {n:Value} {T te:TypeId} (hone:∀y∈cs,y.oneCell'=true) (h:∀w,Jb w→Calls P g xs.toArray w (fun e w'=>∃N,e=.returned (.tuple #[n,.iface T (.pointer (some ⟨N,0,none⟩))])∧w.heap.size≤N∧w'.heap[N]? = some (.cells cs.toArray te (0,0))∧Below w.heap.size w w')):
  AFun P g (xs.map .v) Hp (.tup [.v n,.iface T (.ro (cs.map .v))]):=by
 intro d G w vs hn hv hH hT hTop
 have hvs:=Yq hn (fun i y u a b=>⟨_,hv i y u a b⟩)
 subst hvs
 refine (callsIn_wide.2 (h w (fun x hx=>let ⟨_,u,a,b⟩:=hT.glob x hx;⟨u,a,b⟩))).mono ?_
 rintro e w' ⟨N,rfl,hN,hcell,hb⟩
 have hfree:∀o,G.tag N o=.free:=fun o=>H8 hT _ o hN
 let G':Gh:={ G with tag:=fun b o=>if b=N∧o<cs.length then .fix else G.tag b o }
 have hne:∀b o,G.tag b o≠.free→¬(b=N∧o<cs.length):=fun b o hb hc=>by rw [hc.1] at hb;exact hb (hfree o)
 have hnew:∀o,o<cs.length→w'.cell? ⟨N,o,none⟩=cs[o]? := fun o ho=>by simp [World.cell?,hcell,ho]
 have T1:Turn G w G' w':=by
  refine ⟨fun b o h=>⟨?_,(Fy hT hb (by rw [h];simp)).1⟩,fun b o L h=>?_,fun b o i h=>?_,Ao _,fun _ _=>rfl,hb.os,hb.tape,hb.output,hb.size,
   L9 (fun b hv=>hb.block b hv.1) hb.size (fun b o hlt=>.inl ?_) (fun _ hi=>.inl ⟨hi,rfl⟩)⟩
  ·simp only [G'];rw [if_neg (hne b o (by rw [h];simp))];exact h
  ·simp only [G'];rw [if_neg (hne b o (by rw [h];simp))];exact h
  ·simp only [G'];rw [if_neg (hne b o (by rw [h];simp))];exact h
  simp only [G'];rw [if_neg (by omega)]
 have hH':HeapRel G' Hp w':=⟨fun i x hx=>by
  have hi:i<G.n:=by rw [hH.n];exact (Ac.1 hx).1
  exact T1.objRel hi (hb.block _ (Mj hH i hi)) (hH.obj i x hx) (fun b h=>hb.block b h.lt),hH.n,hH.inj⟩
 have hT':TagOK G' w':=by
  refine ⟨fun b o h=>?_,fun b o i h=>?_,fun b o L h=>?_,hT.globKeep T1.old⟩
  ·simp only [G'] at h
   split at h
   ·rename_i hc;obtain ⟨rfl,ho⟩:=hc;exact ⟨_,(hnew o ho).trans (Aa ho)⟩
   rw [(Fy hT hb h).1];exact hT.ex b o h
  ·simp only [G'] at h
   split at h
   ·cases h
   rw [(Fy hT hb (by rw [h];simp)).2];exact hT.obj b o i h
  simp only [G'] at h
  split at h
  ·cases h
  rw [(Fy hT hb (by rw [h];simp)).2];exact hT.tail b o L h
 refine ⟨_,G',_,Hp,rfl,?_,hH',hT',T1.keep _,rfl,rfl,rfl⟩
 refine .tup _ _ _ rfl (fun i y u hy hu=>?_)
 match i with
 | 0=>simp at hy hu;subst hy;subst hu;exact .v _ _
 | 1 =>
  simp at hy hu;subst hy;subst hu
  refine .iface _ _ _ _ (.ro _ _ ⟨N,0,none⟩ (fun j=>cs.getD j undef) rfl (fun y hy=>?_) (fun j y hy=>?_) (fun j y hy=>?_))
  ·obtain ⟨z,hz,rfl⟩:=Db.1 hy
   exact hone z hz
  all_goals
   rw [Cs,Ek] at hy
   obtain ⟨z,hz,rfl⟩:=hy
   have hlt:j<cs.length:=(Ac.1 hz).1
   have e:cs.getD j undef=z:=by rw [Dd,hz];rfl
  ·refine ⟨by simp [G',hlt],?_⟩
   rw [Bn,hnew j hlt,hz,e]
  rw [e];exact .v _ _
 | i+2=>simp at hy
theorem TagOK.globIn {G:Gh} {w:World} (h:TagOK G w):Jb w:=fun x hx=>(h.glob x hx).2
/-- A package-level variable of which something is known. -/
theorem R.loadGlob {d:Nat} {ops:Array Oper} {rest:List Oper} {sz:Nat} {fr:Nat→AV} {up own:List AObj} {dfs:List Nat} {rnd:Option Nat} {Q:St→Prop} {s:Nat} {ty:TypeId} {pos:String} {aft:Array Edge} {t:TypeId} {gl:Nat} {v:Value}
  (hagg:∀w,(isAgg t).run P w=.ok false w) (hv:∀w,Jb w→w.cell? ⟨gl,0,none⟩=some v) (hr:ARun P d ops rest ⟨sz,A4 s (.v v) fr,up,own,dfs,rnd⟩ Q) (hs:Nat.blt s sz=true:=by rfl):
  ARun P d ops (⟨some s,.load t (.global gl),ty,pos,aft,none⟩::rest) ⟨sz,fr,up,own,dfs,rnd⟩ Q:=by
 refine ARun.v rfl rfl (by simpa using hs) (C0 (by intro c h;cases h) fun G a w h=>⟨v,?_,.v _ _⟩) hr
 have hc:=hv w h.tags.globIn
 have e:a.eval (.global gl)=.pointer (some ⟨gl,0,none⟩):=rfl
 simp [execOp,e,Instr.loadAt,Instr.sureAddr,loadVar,hagg,hc]
end
end Go.SX
namespace Go.SX
def O8:=@AFun.lib
end Go.SX
namespace Go.SX.Nb
open Go Go.SX Go.Proofs
set_option maxRecDepth 4000

/-- Where strconv.ErrRange points. -/
class ErrAt where
 b:Addr
 bd:Nat:=0
 bl:List Deferred:=[]
/-- The package-level variables of which something is known: bytealg.MaxLen is a number; strconv.ErrRange is an error of errors.New's make; the table of powers of ten. -/
def Wv [E:ErrAt]:List (Nat×(Obj→Prop)):=[(0,fun o=>∃m t f,o=.cells #[.int .i64 m] t f),(3,fun o=>∃t f,o=.cells #[.iface 260 (.pointer (some E.b))] t f),(4,fun o=>∃t f,o=.cells (Lib.pow10Tab.map fun z=>Value.int .u64 z).toArray t f)]
instance globInv [E:ErrAt]:GlobInv:={ blocks:=Wv,bd:=E.bd,bl:=E.bl }
variable [ErrAt]

abbrev Str:=List UInt8
structure Col where
 name:Str
 kind:Int
 deriving DecidableEq
structure Val where
 kind:Int
 n:Int
 s:Str
 deriving DecidableEq
structure Row where
 key:Int
 l:List Val
 deriving DecidableEq
abbrev Ax (s:Str):AV:=.v (sv s)
abbrev A5 (n:Int):AV:=.v (.int .i64 n)
abbrev Bf (n:Int):AV:=.v (.int .u64 n)
abbrev Ar (b:Bool):AV:=.v (.bool b)
abbrev Cb (c:Col):AV:=.agg [.v (sv c.name),.v (.int .i64 c.kind)]
abbrev Ad (c:List Col):AV:=.slice false 2 (c.map Cb)
abbrev Ba (v:Val):AV:=.agg [.v (.int .i64 v.kind),.v (.int .i64 v.n),.v (sv v.s)]
abbrev B6 (l:List Val):AV:=.slice false 3 (l.map Ba)
abbrev Ew (l:List Str):AV:=.slice false 1 (l.map Ax)
theorem Ak {α β:Type} {f:α→β} {l:List α} {i:Nat} (h:i<l.length):(l.map f)[i]? = some (f l[i]):=by simp [h]
theorem An:Tryz.prog.follows .mixedOrders=true:=by kernel_rfl
theorem Sn:Tryz.prog.eqGuardType Tryz.prog.depth 44=false:=by kernel_rfl
theorem Gs (k n k' n':Int) (s s':List UInt8) (w:World):(Op.equal 44 (.agg #[.int .i64 k,.int .i64 n,.string ⟨s.toArray⟩]) (.agg #[.int .i64 k',.int .i64 n',.string ⟨s'.toArray⟩])).run Tryz.prog w=.ok (k==k'&&n==n'&&s==s') w:=by
 have h1:Tryz.prog.stoodInHeld 44=false:=by kernel_rfl
 show (Op.equalIn (9999+1) _ _ _).run _ _=_
 rw [Op.equalIn]
 generalize hd:(9999:Nat)=d
 obtain ⟨d,rfl⟩:∃e,d=e+1:=⟨9998,hd.symm⟩
 clear hd
 simp [run_underlying Tryz.underlying44,h1,part,AA3 _ _ _ _ _ _ Tryz.underlying3,AA3 _ _ _ _ _ _ Tryz.underlying2,ACt _ _ _ _ _ Tryz.underlying9,Tryz.isAgg3,Tryz.isAgg2,Tryz.isAgg9]
 by_cases e1:k=k'<;>by_cases e2:n=n'<;>by_cases e3:s=s'<;>simp [e1,e2,e3]
end Go.SX.Nb
namespace Go.Proofs
open Go Go.Shelf
theorem ly {p:Prop} (h:p:=by repeat' first|kernel_rfl|(intro w;kernel_rfl)|constructor):p:=h
def Tryz.ren144:Ren where
 f:=fun x=>match x with|144=>143|143=>147|219=>158|217=>174|225=>175|224=>176|267=>177|266=>189|314=>190|n=>n
 t:=fun x=>match x with|9=>9|4=>4|3=>3|5=>5|46=>106|146=>204|51=>203|n=>n
 g:=fun x=>match x with|1=>0|n=>n
theorem Tryz.lays144:Lays.n144 Tryz.prog Tryz.ren144:=ly
def Tryz.ren145:Ren where
 f:=fun x=>match x with|145=>144|220=>154|219=>158|217=>174|225=>175|224=>176|267=>177|266=>189|314=>190|n=>n
 t:=fun x=>match x with|9=>9|4=>4|59=>160|3=>3|5=>5|46=>106|146=>204|51=>203|n=>n
 g:=fun x=>match x with|1=>0|n=>n
theorem Tryz.lays145:Lays.n145 Tryz.prog Tryz.ren145:=ly
def Tryz.ren146:Ren where
 f:=fun x=>match x with|146=>103|221=>127|268=>145|138=>146|143=>147|195=>155|197=>156|218=>157|219=>158|260=>173|217=>174|225=>175|224=>176|267=>177|266=>189|314=>190|n=>n
 t:=fun x=>match x with|9=>9|31=>47|3=>3|4=>4|0=>0|105=>169|21=>21|5=>5|46=>106|119=>199|139=>202|138=>201|146=>204|51=>203|n=>n
 g:=fun x=>match x with|1=>0|3=>1|4=>2|n=>n
theorem Tryz.lays146:Lays.n146 Tryz.prog Tryz.ren146:=ly
def Tryz.ren161:Ren where
 f:=fun x=>match x with|161=>151|231=>166|227=>167|233=>168|235=>169|228=>187|197=>156|151=>188|260=>173|152=>204|137=>219|119=>220|224=>176|225=>175|217=>174|266=>189|n=>n
 t:=fun x=>match x with|9=>9|4=>4|3=>3|5=>5|117=>181|116=>180|0=>0|124=>184|105=>169|21=>21|119=>199|46=>106|139=>202|138=>201|n=>n
 g:=fun x=>match x with|3=>1|4=>2|n=>n
theorem Tryz.lays161:Lays.n161 Tryz.prog Tryz.ren161:=ly
def Tryz.ren101:Ren where
 f:=fun x=>match x with|101=>200|208=>211|206=>226|n=>n
 t:=fun x=>match x with|9=>9|4=>4|3=>3|n=>n
 g:=fun x=>x
theorem Tryz.lays101:Lays.n101 Tryz.prog Tryz.ren101:=ly
def Tryz.ren160:Ren where
 f:=fun x=>match x with|160=>201|232=>212|231=>166|227=>167|234=>213|233=>168|236=>214|235=>169|228=>187|271=>227|151=>188|197=>156|120=>238|152=>204|260=>173|137=>219|119=>220|224=>176|225=>175|217=>174|266=>189|n=>n
 t:=fun x=>match x with|9=>9|4=>4|3=>3|5=>5|117=>181|116=>180|0=>0|124=>184|21=>21|105=>169|46=>106|119=>199|139=>202|138=>201|n=>n
 g:=fun x=>match x with|3=>1|4=>2|n=>n
theorem Tryz.lays160:Lays.n160 Tryz.prog Tryz.ren160:=ly
def Tryz.ren174:Ren where
 f:=fun x=>match x with|174=>202|247=>215|245=>216|287=>228|279=>229|280=>230|281=>231|282=>232|321=>239|322=>240|316=>241|171=>243|205=>242|243=>246|246=>210|283=>222|284=>223|285=>224|286=>225|129=>234|317=>233|318=>235|319=>236|320=>237|337=>244|338=>245|n=>n
 t:=fun x=>match x with|9=>9|3=>3|2=>2|75=>211|85=>212|4=>4|167=>232|5=>5|53=>77|175=>233|46=>106|168=>235|37=>41|0=>0|210=>256|21=>21|127=>259|145=>262|143=>260|171=>227|173=>230|212=>250|51=>203|20=>20|213=>251|232=>263|233=>264|80=>265|n=>n
 g:=fun x=>match x with|15=>5|16=>3|17=>4|18=>6|19=>7|n=>n
theorem Tryz.lays174:LaysC.n174 Tryz.prog Tryz.ren174:=ly
def Tryz.ren173:Ren where
 f:=fun x=>match x with|173=>199|246=>210|283=>222|284=>223|285=>224|286=>225|129=>234|317=>233|318=>235|319=>236|320=>237|337=>244|338=>245|n=>n
 t:=fun x=>match x with|2=>2|3=>3|9=>9|4=>4|171=>227|0=>0|53=>77|37=>41|5=>5|173=>230|212=>250|51=>203|20=>20|213=>251|46=>106|232=>263|233=>264|n=>n
 g:=fun x=>match x with|17=>4|18=>6|19=>7|n=>n
theorem Tryz.lays173:LaysM.n173 Tryz.prog Tryz.ren173:=ly
def Tryz.ren264:Ren where
 f:=fun x=>match x with|264=>208|n=>n
 t:=fun x=>match x with|53=>77|46=>106|n=>n
 g:=fun x=>x
theorem Tryz.lays264:Lays.n264 Tryz.prog Tryz.ren264:=ly
def Tryz.ren106:Ren where
 f:=fun x=>match x with|106=>194|213=>207|265=>221|n=>n
 t:=fun x=>match x with|9=>9|3=>3|n=>n
 g:=fun x=>x
theorem Tryz.lays106:Lays.n106 Tryz.prog Tryz.ren106:=ly
end Go.Proofs
namespace Go.SX.Nb
open Go Go.SX Go.Proofs Go.RowKit
variable [ErrAt]
set_option maxRecDepth 4000
theorem R0 {w:World} (h:Jb w):∃m,w.cell? ⟨0,0,none⟩=some (.int .i64 m):=by
 obtain ⟨_,a,m,t,f,rfl⟩:=h (0,fun o=>∃m t f,o=.cells #[.int .i64 m] t f) (by simp [GlobInv.blocks,Wv])
 exact ⟨m,by simp [World.cell?,a]⟩
theorem Rz {w:World} (h:Jb w):w.cell? ⟨3,0,none⟩=some (.iface 260 (.pointer (some ErrAt.b))):=by
 obtain ⟨_,a,t,f,rfl⟩:=h (3,fun o=>∃t f,o=.cells #[.iface 260 (.pointer (some ErrAt.b))] t f) (by simp [GlobInv.blocks,Wv])
 simp [World.cell?,a]
theorem r9 {w:World} (h:Jb w):Lib.TabIs Tryz.prog w "internal/strconv.uint64pow10" .u64 Lib.pow10Tab:=by
 obtain ⟨_,a,t,f,rfl⟩:=h (4,fun o=>∃t f,o=.cells (Lib.pow10Tab.map fun z=>Value.int .u64 z).toArray t f) (by simp [GlobInv.blocks,Wv])
 have hg:Tryz.prog.globalNamed "internal/strconv.uint64pow10" = some 4:=by kernel_rfl
 simp only at a
 simp [Lib.TabIs,World.var?,hg,a]
theorem bm (w:World) (n:Nat):Below w.heap.size w (w.drewN n):=⟨rfl,rfl,rfl,Ao _,fun _ _=>rfl⟩
theorem x1 (s t:Str) (hs:s.length<4294967281) (Hp:List AObj):AFun Tryz.prog 143 [Ax s,Ax t] Hp (Ar (Lib.contains s t)):=by
 refine O8 (xs:=[sv s,sv t]) (v:=.bool (Lib.contains s t)) (fun G w=>.v _ _) (fun w hg=>?_)
 obtain ⟨m,hm⟩:=R0 hg
 refine (Any.strings_Contains Tryz.lays144 ⟨s.toArray⟩ ⟨t.toArray⟩ m w (by simpa [ByteArray.size] using hs) hm).mono ?_
 rintro e w' ⟨rfl,rfl⟩
 exact wr
theorem AH0 (s t:Str) (hs:s.length<4294967281) (Hp:List AObj):AFun Tryz.prog 144 [Ax s,Ax t] Hp (.tup [Ax (Lib.cut s t).1,Ax (Lib.cut s t).2.1,Ar (Lib.cut s t).2.2]):=by
 refine O8 (xs:=[sv s,sv t]) (v:=.tuple #[sv (Lib.cut s t).1,sv (Lib.cut s t).2.1,.bool (Lib.cut s t).2.2]) (fun G w=>Ld rfl (fun i y u hy hu=>?_)) (fun w hg=>?_)
 ·match i with
  | 0=>simp at hy hu;subst hy;subst hu;exact .v _ _
  | 1=>simp at hy hu;subst hy;subst hu;exact .v _ _
  | 2=>simp at hy hu;subst hy;subst hu;exact .v _ _
  | i+3=>simp at hy
 obtain ⟨m,hm⟩:=R0 hg
 refine (Any.strings_Cut Tryz.lays145 ⟨s.toArray⟩ ⟨t.toArray⟩ m w (by simpa [ByteArray.size] using hs) hm).mono ?_
 rintro e w' ⟨rfl,n,rfl⟩
 exact ⟨rfl,bm _ _⟩
theorem AH1 (s t:Str) (ht:t.length<4294967281) (ha:∀c∈t,c.toNat<128) (Hp:List AObj):AFun Tryz.prog 151 [Ax s,Ax t] Hp (Ax (Lib.trimLeftS s t)):=by
 refine O8 (xs:=[sv s,sv t]) (v:=sv (Lib.trimLeftS s t)) (fun G w=>.v _ _) (fun w hg=>?_)
 refine (Any.strings_TrimLeft_laid Tryz.lays161 (by kernel_rfl) ⟨s.toArray⟩ ⟨t.toArray⟩ w (by simpa [ByteArray.size] using ht) (fun j b hj=>ha b (Ay hj))).mono ?_
 rintro e w' ⟨rfl,hb⟩
 exact ⟨rfl,hb⟩
/-- The pieces of a split. -/
def Ou (s t:Str):List Str:=(Lib.splitB ⟨t.toArray⟩ 0 (Lib.countB ⟨s.toArray⟩ ⟨t.toArray⟩) ⟨s.toArray⟩).map (·.data.toList)
theorem AFe (s t:Str) (hs:s.length<4294967281) (ht:1≤t.length) (Hp:List AObj):AFun Tryz.prog 103 [Ax s,Ax t] Hp (Ew (Ou s t)):=by
 have:=AFun.libSlice (P:=Tryz.prog) (g:=103) (Hp:=Hp) (xs:=[sv s,sv t]) (ys:=(Ou s t).map sv) (t:=9) (by intro y hy;obtain ⟨z,_,rfl⟩:=Db.1 hy;rfl) (fun w hg=>by
  obtain ⟨m,hm⟩:=R0 hg
  refine (Any.strings_Split Tryz.lays146 (by kernel_rfl) ⟨s.toArray⟩ ⟨t.toArray⟩ m w (by simpa [ByteArray.size] using hs) hm (by simpa [ByteArray.size] using ht)).mono ?_
  rintro e w' ⟨rfl,rfl⟩
  have hl:((Ou s t).map sv).length=Lib.countB ⟨s.toArray⟩ ⟨t.toArray⟩+1:=by
   rw [Am]
   unfold Ou
   rw [Am]
   exact Lib.splitB_all _ (by simpa [ByteArray.size] using ht) _ _ _ rfl
  refine ⟨by rw [hl],?_⟩
  unfold Ou
  rw [Gn]
  rfl)
 rw [Gn] at this
 exact this
end Go.SX.Nb
namespace Go.Proofs
open Go Go.RowKit Go.Extern.Stop Go.Stop Go.Extern
theorem Tryz.isTypeOf (v:Value) (w:World):(Extern.ReflectliteType.typeOf #[.iface 260 v]).run Tryz.prog w=.ok (.iface 239 (.agg #[.pointer (some ⟨8,260,none⟩)])) w:=by kernel_rfl
def Tryz.cmpOf:Array Value→Sem Value:=Extern.ReflectliteType.method fun t=>do Extern.Rtype.noPackHeld "Comparable" t;pure (.bool (←typeInfo t).comparable)
theorem Tryz.isComparable (w:World):(Tryz.cmpOf #[.agg #[.pointer (some ⟨8,260,none⟩)]]).run Tryz.prog w=.ok (.bool true) w:=by kernel_rfl
theorem Tryz.isMethodComparable (v:Value) (w:World):(Go.method 397 239 v "Comparable").run Tryz.prog w=.ok (268,v) w:=by kernel_rfl
theorem Tryz.isComp:(Tryz.prog.info? 260).map (·.comparable)=some true:=by kernel_rfl
theorem Tryz.isSize:(Tryz.prog.info? 262).map (·.size)=some 1:=by kernel_rfl
theorem Tryz.noIsW (v:Value) (xT:TypeId) (w:World):(Instr.typeAssert (.iface 235 v) xT 241 true).run Tryz.prog w=.ok (.tuple #[.nilIface,.bool false]) w:=run_typeAssert_lacksB Tryz.underlying241 (by kernel_rfl) (by kernel_rfl) v xT w
theorem Tryz.hasUnwrapW (v:Value) (xT:TypeId) (w:World):(Instr.typeAssert (.iface 235 v) xT 244 true).run Tryz.prog w=.ok (.tuple #[.iface 235 v,.bool true]) w:=run_typeAssert_hasB Tryz.underlying244 (by kernel_rfl) v xT w
theorem Tryz.methodUnwrap (v:Value) (w:World):(Go.method 397 235 v "Unwrap").run Tryz.prog w=.ok (264,v) w:=by kernel_rfl
namespace Tryz
theorem is_nil (b:Addr) (w:World):
  Calls Tryz.prog 203 #[.nilIface,.iface 260 (.pointer (some b))] w fun e w'=>e=.returned (.bool false)∧w'=w:=by
 have hn:=run_eql_iface_nil_left (P:=Tryz.prog) w 260 (.pointer (some b)) Tryz.underlying211
 go_enter Tryz.func203,Tryz.ntmps203
 go_wp2
 go_ret
 exact ⟨rfl,rfl⟩
set_option maxRecDepth 100000 in
theorem is_range (pb po:Nat) (b:Addr) (w:World) (h1:w.cell? ⟨pb,po+2,none⟩=some (.iface 260 (.pointer (some b)))):
  Calls Tryz.prog 203 #[.iface 235 (.pointer (some ⟨pb,po,none⟩)),.iface 260 (.pointer (some b))] w fun e w'=>e=.returned (.bool true)∧w'=w:=by
 obtain ⟨i,hi,hcmp⟩:=Option.map_eq_some_iff.1 Tryz.isComp
 obtain ⟨j,hj,hjs⟩:=Option.map_eq_some_iff.1 Tryz.isSize
 have h8:=@run_callFunc_extern Tryz.prog 217 _ Extern.ReflectliteType.typeOf Tryz.func217 (by kernel_rfl) (by kernel_rfl) (by kernel_rfl) (by kernel_rfl)
 have h32:=@run_callFunc_extern Tryz.prog 268 _ Tryz.cmpOf Tryz.func268 (by kernel_rfl) (by kernel_rfl) (by kernel_rfl) (by kernel_rfl)
 have tT:=Tryz.isTypeOf
 have cT:=Tryz.isComparable
 have mR:=Tryz.isMethodComparable
 have nW:=Tryz.noIsW
 have uW:=Tryz.hasUnwrapW
 have mU:=Tryz.methodUnwrap
 have heq:=run_eql_iface_ptr_same (P:=Tryz.prog) w b Tryz.underlying211 Tryz.underlying260 hi hcmp hj
 have hty:=run_eql_iface_types (P:=Tryz.prog) 235 260 (.pointer (some ⟨pb,po,none⟩)) (.pointer (some b)) Tryz.underlying211 (by decide) w
 go_enter Tryz.func203,Tryz.ntmps203
 go_wp2
 refine wp_loop_rounds 2 ?_
 rw [rounds_succ]
 go_wp2
 rw [rounds_succ]
 go_wp2
 go_ret
 exact ⟨rfl,rfl⟩
end Tryz
end Go.Proofs
namespace Go.SX.Nb
open Go Go.SX Go.Proofs Go.RowKit Go.Sort
variable [ErrAt]
set_option maxRecDepth 4000
theorem gh (w:World) (k:Nat) (os:Array Obj):Below w.heap.size w (grow (w.drewN k) os):=by
 refine ⟨rfl,rfl,rfl,by simp [grow],fun b hb=>?_⟩
 show ((w.drewN k).heap++os)[b]? = w.heap[b]?
 rw [M6 (by exact hb)]
 rfl
theorem AH2 (n:Int) (h0 : -9223372036854775808≤n) (h1:n≤9223372036854775807) (Hp:List AObj):AFun Tryz.prog 199 [.v (.int .i64 n),A5 10] Hp (Ax (Lib.itoa n)):=by
 refine O8 (xs:=[.int .i64 n,.int .i64 10]) (v:=sv (Lib.itoa n)) (fun G w=>.v _ _) (fun w hg=>?_)
 refine (Any.strconv_FormatInt_10 Tryz.lays173 n h0 h1 w (r9 hg)).mono ?_
 rintro e w' ⟨rfl,k,os,rfl⟩
 exact ⟨rfl,gh _ _ _⟩
end Go.SX.Nb
namespace Go.SX.Nb
open Go Go.SX Go.Proofs Go.RowKit
variable [ErrAt]
set_option maxRecDepth 4000
def digs:Str:=[48,49,50,51,52,53,54,55,56,57]
def Lx (s:Str):Str:=Lib.trimPrefix s [45]
def Gz (s:Str):Bool:=(Lx s==[]) || !(Lib.trimS (Lx s) digs==[]) || (((Lx s).headD 0==48)&&decide (1<s.length))
def Bx (s:Str):Int×Int:=if Gz s then (0,6) else match Lib.parseIntB 64 s with|.ok v=>(v,0)|.range=>(0,4)|_=>(0,0)
def x2 {α:Type}:Lib.NumEnd α→Bool|.ok _=>false|.range=>false|_=>true
theorem rd {p:UInt8→Bool}:∀{l:Str},l.dropWhile p=[]↔∀b∈l,p b=true
 | []=>by simp
 | b::r=>by
  rw [en]
  by_cases h:p b=true
  ·rw [if_pos h,rd]
   simp [h]
  rw [if_neg h]
  simp [h]
theorem re {p:UInt8→Bool}:∀{l:Str} {b:UInt8},b∈l→p b=false→b∈l.dropWhile p
 | x::r,b,h,hb=>by
  rw [en]
  by_cases hx:p x=true
  ·rw [if_pos hx]
   rcases C2.1 h with rfl|h
   ·rw [hb] at hx;cases hx
   exact re h hb
  rw [if_neg hx];exact h
theorem trimS_nil {l cs:Str}:Lib.trimS l cs=[]↔∀b∈l,cs.contains b=true:=by
 unfold Lib.trimS Lib.trimLeftS Lib.trimRightS
 rw [rd]
 constructor
 ·intro h b hb
  cases hc:cs.contains b with
  | true=>rfl
  | false =>
   have:=h b (Sv.2 (re (p:=(cs.contains ·)) (Sv.2 hb) hc))
   rw [hc] at this;exact this
 intro h b hb
 exact h b (Sv.1 ((eo (cs.contains ·)).subset (Sv.1 hb)))
theorem Kb (c:UInt8):digs.contains c=(decide (48≤c.toNat)&&decide (c.toNat≤57)):=by
 have h:((List.range 256).all fun n=>digs.contains (UInt8.ofNat n)==(decide (48≤(UInt8.ofNat n).toNat)&&decide ((UInt8.ofNat n).toNat≤57)))=true:=by kernel_rfl
 have:=B9.1 h c.toNat (Pf.2 c.toNat_lt)
 simpa using this
theorem Ww (M:Nat):∀(l:Str) (acc:Nat),(∀b∈l,digs.contains b=true)→x2 (Lib.parseUintM M acc l)=false
 | [],acc,_=>by rw [Lib.parseUintM];rfl
 | c::r,acc,h=>by
  have hc:=h c (by simp)
  rw [Kb] at hc
  simp only [Ap,decide_eq_true_eq] at hc
  rw [Lib.parseUintM,if_pos hc]
  split
  ·rfl
  split
  ·rfl
  exact Ww M r _ (fun b hb=>h b (by simp [hb]))
theorem K2 (s:Str):(s.head? ≠ some 45∧Lx s=s)∨∃r,s=45::r∧Lx s=r:=by
 unfold Lx Lib.trimPrefix Lib.hasPrefix
 cases s with
 | nil=>exact .inl ⟨by simp,rfl⟩
 | cons c r =>
  by_cases hc:c=45
  ·subst hc;exact .inr ⟨r,rfl,by simp [List.isPrefixOf]⟩
  refine .inl ⟨by simpa using hc,?_⟩
  rw [if_neg]
  simp [List.isPrefixOf,Ne.symm hc]
theorem Mu {s:Str} (h:Gz s=false):x2 (Lib.parseIntB 64 s)=false:=by
 unfold Gz at h
 simp only [Cm,Cx,beq_iff_eq,beq_eq_false_iff_ne] at h
 obtain ⟨⟨h1,h2⟩,_⟩:=h
 rw [trimS_nil] at h2
 have key:∀l:Str,l≠[]→(∀b∈l,digs.contains b=true)→x2 (Lib.parseUintB 64 l)=false:=fun l hl ha=>by
  unfold Lib.parseUintB
  rw [if_neg hl]
  exact Ww _ l 0 ha
 rcases K2 s with ⟨h3,h4⟩|⟨r,rfl,h4⟩
 ·rw [h4] at h1 h2
  cases s with
  | nil=>exact absurd rfl h1
  | cons c r =>
   have hcd:=h2 c (by simp)
   rw [Kb] at hcd
   simp only [Ap,decide_eq_true_eq] at hcd
   have e1:¬(c.toNat=43∨c.toNat=45):=by omega
   have:=key (c::r) (by simp) h2
   simp only [Lib.parseIntB,if_neg e1]
   revert this
   cases Lib.parseUintB 64 (c::r) with
   | range=>intro _;rfl
   | ok u=>intro _;simp only;split<;>(try split)<;>rfl
   | _=>intro h;cases h
 rw [h4] at h1 h2
 have:=key r h1 h2
 have e1:((45:UInt8).toNat=43∨(45:UInt8).toNat=45):=.inr rfl
 simp only [Lib.parseIntB,if_pos e1]
 revert this
 cases Lib.parseUintB 64 r with
 | range=>intro _;rfl
 | ok u=>intro _;simp only;split<;>(try split)<;>rfl
 | _=>intro h;cases h
end Go.SX.Nb
namespace Go.SX.Nb
open Go Go.SX Go.Proofs
variable [ErrAt]
set_option maxRecDepth 4000
def G8 (c:UInt8):Bool:=decide ((97:Int)≤c.toNat)&&decide ((c.toNat:Int)≤122)
def R1 (c:UInt8):Bool:=decide ((48:Int)≤c.toNat)&&decide ((c.toNat:Int)≤57)
theorem c82 (c:UInt8) (Hp:List AObj):AFun Tryz.prog 82 [.v (.int .u8 (c.toNat:Int))] Hp (.v (.bool (G8 c))):=by
 refine Ae [.tmp 2] [0] Tryz.func82 Tryz.ntmps82 (fun d=>?_)
 refine Z49 ?_;refine Sg ?_;exact fp

theorem c84 (c:UInt8) (Hp:List AObj):AFun Tryz.prog 84 [.v (.int .u8 (c.toNat:Int))] Hp (.v (.bool (R1 c))):=by
 refine Ae [.tmp 2] [0] Tryz.func84 Tryz.ntmps84 (fun d=>?_)
 refine Z49 ?_;refine Sg ?_;exact fp

def words:List Str:=[[97,100,100],[100,114,111,112],[114,101,110,97,109,101],[115,112,108,105,116],[109,101,114,103,101],[114,101,116,121,112,101],[105,110,116,111],[116,111],[98,97,99,107],[97,110,100],[111,114],[110,111,116],[116,114,117,101],[102,97,108,115,101],[110,117,108,108],[105,110,116],[116,101,120,116],[98,111,111,108],[115,101,108,101,99,116],[119,104,101,114,101],[102,114,111,109],[108,105,109,105,116]]
def Hn (s:Str):Bool:=words.any (·==s)
theorem Wx:words.length=22:=rfl
theorem ABg {α:Type} {p:α→Bool} {l:List α} {i:Nat} (h:i<l.length) (hp:p l[i]=true):l.any p=true:=by
 rw [Ix];exact ⟨l[i],Az h,hp⟩
theorem rf {α:Type} {p:α→Bool} {l:List α} (h:∀(j:Nat) (y:α),l[j]? = some y→p y=false):l.any p=false:=by
 rw [Iw]
 intro x hx
 obtain ⟨j,hj⟩:=Ca hx
 simp [h j x hj]
theorem Bs {α:Type} {l:List α} {x:Nat} {p:α→Prop} (hlt:x<l.length) (h:∀(j:Nat) (y:α),j<x→l[j]? = some y→p y) (hx:p l[x]):∀(j:Nat) (y:α),j<x+1→l[j]? = some y→p y:=by
 intro j y hj hy
 rcases Bh j x with h'|h'
 ·exact h j y h' hy
 have:j=x:=by omega
 subst this
 rw [Aa hlt] at hy
 injection hy with hy
 subst hy
 exact hx
theorem Km {α:Type} {l:List α} {x:Nat} {p:α→Prop} (hge:l.length≤x) (h:∀(j:Nat) (y:α),j<x→l[j]? = some y→p y):∀(j:Nat) (y:α),l[j]? = some y→p y:=
 fun j y hy=>h j y (by have:=(Ac.1 hy).1;omega) hy
theorem c83 (s:Str) (Hp:List AObj):AFun Tryz.prog 83 [Ax s] Hp (Ar (Hn s)):=by
 refine Ae [.tmp 2] [0] Tryz.func83 Tryz.ntmps83 (fun d=>?_)
 refine Z49 ?_;refine b9 ?_;refine M3 ?_;refine Z32 ?_;refine A0 [0,3,4] ?_
 refine Be (α:=Nat) (fun x=>⟨18,A4 0 (Ax s) (A4 3 (.slice true 1 (words.map Ax)) (A4 4 (A5 (x:Nat)) (fun _=>.any))),Hp,[],[],none⟩) (fun x=>x≤words.length∧∀(j:Nat) (y:Str),j<x→words[j]? = some y→(y==s)=false) (fun x=>words.length-x) (0) (by simp) (Fs _) rfl (fun x hx=>?_)
 refine Z76 ?_;refine A0 [0,3,4,9] ?_
 refine A1 (fun ht9=>?_) (fun ht9=>?_)
 ·have hlt:x<words.length:=by simpa using ht9
  have hwl:=Wx
  refine Qw ?_
  refine A2 (h:=A9 (x) (Ax words[x]) (fun _=>Ak hlt)) (hr:=?_)
  refine Z13 ?_;refine A0 [0,3,4,17] ?_
  refine A1 (fun ht17=>?_) (fun ht17=>?_)
  ·refine Ym ?_;exact A7 (Ai A3) ⟨by rw [show Hn s=true from ABg hlt ht17],rfl⟩
  refine Z79 ?_;refine A0 [0,3,4] ?_;exact As (x+1) ⟨hlt,Bs hlt hx.2 ht17⟩ (by have:=Wx;omega) (Bk rfl)
 refine Z47 ?_;refine Z33 ?_;exact A7 (Ai A3) ⟨by rw [show Hn s=false from rf (Km (by simp at ht9;omega) hx.2)],rfl⟩

def Kn (c:UInt8):Bool:=G8 c || R1 c || c==95
def Ko (s:Str):Bool:=match s with
 | []=>false
 | c::_=>decide (s.length≤16)&&G8 c && !Hn s&&s.all Kn
theorem rg {α:Type} {p:α→Bool} {l:List α} {i:Nat} (h:i<l.length) (hp:p l[i]=false):l.all p=false:=by
 rw [Of];exact ⟨l[i],Az h,by simp [hp]⟩
theorem ABh {α:Type} {p:α→Bool} {l:List α} (h:∀(j:Nat) (y:α),l[j]? = some y→p y=true):l.all p=true:=by
 rw [B9]
 intro x hx
 obtain ⟨j,hj⟩:=Ca hx
 exact h j x hj
theorem nn {s:Str} {b:Bool} (h:((((s.length:Int)==0) || b)==false)=true):s≠[]:=by rintro rfl;simp at h
theorem Kp {s:Str} (h:s≠[]):s[0]? = some (s.headD 0):=by cases s with
 | nil=>exact absurd rfl h
 | cons c r=>rfl
theorem Uk (s:Str):Ko s=(!((s.length:Int)==0 || decide ((16:Int)<s.length) || !G8 (s.headD 0) || Hn s)&&s.all Kn):=by
 cases s with
 | nil=>rfl
 | cons c r =>
  have h1:(((c::r).length:Int)==0)=false:=by simp;omega
  have h2:decide ((c::r).length≤16) = !decide ((16:Int)<(c::r).length):=by
   by_cases h:(c::r).length≤16
   ·have:¬((16:Int)<(c::r).length):=by omega
    simp only [h,this,decide_true,decide_false,At]
   have:((16:Int)<(c::r).length):=by omega
   simp only [h,this,decide_true,decide_false,Aq]
  simp only [Ko,h1,h2,List.headD_cons,Bool.not_or,Bool.not_not,Av]
theorem x3 {c:UInt8} (h:((!G8 c && !R1 c)&&((c.toNat:Int) != 95))=false):Kn c=true:=by
 unfold Kn
 have e:((c.toNat:Int) != 95) = !(c==95):=by
  by_cases hc:c=95
  ·subst hc;rfl
  have:c.toNat≠95:=fun h=>hc (Ng.1 h)
  have:(c.toNat:Int)≠95:=by omega
  rw [bne_iff_ne.2 this,beq_eq_false_iff_ne.2 hc];rfl
 rw [e] at h
 revert h
 cases G8 c<;>cases R1 c<;>cases (c==95)<;>simp
theorem x4 {c:UInt8} (h:((!G8 c && !R1 c)&&((c.toNat:Int) != 95))=true):Kn c=false:=by
 unfold Kn
 have e:((c.toNat:Int) != 95) = !(c==95):=by
  by_cases hc:c=95
  ·subst hc;rfl
  have:c.toNat≠95:=fun h=>hc (Ng.1 h)
  have:(c.toNat:Int)≠95:=by omega
  rw [bne_iff_ne.2 this,beq_eq_false_iff_ne.2 hc];rfl
 rw [e] at h
 revert h
 cases G8 c<;>cases R1 c<;>cases (c==95)<;>simp
theorem c58 (s:Str) (hs:s.length≤1048576) (Hp:List AObj):AFun Tryz.prog 58 [Ax s] Hp (Ar (Ko s)):=by
 refine Ae [.tmp 2] [0] Tryz.func58 Tryz.ntmps58 (fun d=>?_)
 refine Z49 ?_;refine Z8 ?_;refine Z29 ?_;refine mc ?_
 refine B8 (h:=Ft 0 (s.headD 0) (fun hB=>Kp (nn hB))) (hr:=?_)
 refine Bj Tryz.call82 (fun hB=>c82 (s.headD 0) _) ?_;refine mc ?_;refine Bj Tryz.call83 (fun hB=>c83 s _) ?_;refine A2 ?_;refine A0 [0,21] ?_
 refine A1 (fun ht21=>?_) (fun ht21=>?_)
 ·refine Z33 ?_;refine C4 ?_;exact A7 (Ai A3) ⟨by rw [Uk,ht21];rfl,rfl⟩
 refine qm ?_
 refine Be (α:=Nat) (fun x=>⟨46,A4 0 (Ax s) (A4 3 (A5 (x:Nat)) (fun _=>.any)),Hp,[],[],none⟩) (fun x=>x≤s.length∧∀(j:Nat) (y:UInt8),j<x→s[j]? = some y→Kn y=true) (fun x=>s.length-x) (0) (by simp) (Fs _) rfl (fun x hx=>?_)
 refine Z76 ?_;refine A0 [0,3,25] ?_
 refine A1 (fun ht25=>?_) (fun ht25=>?_)
 ·have hlt:x<s.length:=by simpa using ht25
  refine Qw ?_
  refine A2 (h:=Ft x s[x] (fun _=>Aa hlt)) (hr:=?_)
  refine A6 Tryz.call82 (c82 s[x] _) ?_;refine Z29 ?_
  refine B8 (h:=Ft x s[x] (fun _=>Aa hlt)) (hr:=?_)
  refine Bj Tryz.call84 (fun hB=>c84 s[x] _) ?_;refine Qv ?_
  refine B8 (h:=Ft x s[x] (fun _=>Aa hlt)) (hr:=?_)
  refine Z50 ?_;refine A0 [0,3,45] ?_
  refine A1 (fun ht45=>?_) (fun ht45=>?_)
  ·refine Ym ?_;exact A7 (Ai A3) ⟨by rw [Uk,ht21,rg hlt (x4 ht45)];rfl,rfl⟩
  refine Z79 ?_;refine M3 ?_;exact As (x+1) ⟨hlt,Bs hlt hx.2 (x3 ht45)⟩ (by omega) (Bk rfl)
 refine Z47 ?_;refine Z33 ?_;exact A7 (Ai A3) ⟨by rw [Uk,ht21,ABh (Km (by simp at ht25;omega) hx.2)];rfl,rfl⟩

def Bg (nm:Str) (c:List Col):Int:=match c.findIdx? (fun y=>y.name==nm) with|some i=>i|none => -1
theorem Ul {nm:List UInt8} {c:List Col} {x:Nat} (h:x<c.length) (h1:c[x].name=nm) (h2:∀(j:Nat) (y:Col),j<x→c[j]? = some y→¬(y.name=nm)):Bg nm c=x:=by
 have:c.findIdx? (fun y=>y.name==nm)=some x:=by
  rw [Hj]
  exact ⟨h,by simpa using h1,fun j hj=>by simpa using h2 j c[j] hj (Aa _)⟩
 simp [Bg,this]
theorem gi {nm:List UInt8} {c:List Col} (h:∀(j:Nat) (y:Col),c[j]? = some y→¬(y.name=nm)):Bg nm c = -1:=by
 have:c.findIdx? (fun y=>y.name==nm)=none:=by
  rw [Oh]
  intro y hy
  obtain ⟨j,hj⟩:=Ca hy
  simpa using h j y hj
 simp [Bg,this]
structure OkCols (c:List Col):Prop where
 len:c.length≤1048576
 names:∀y∈c,y.name.length≤1048576
theorem c42 (c:List Col) (hc:OkCols c) (nm:Str) (Hp:List AObj):AFun Tryz.prog 42 [Ad c,Ax nm] Hp (A5 (Bg nm c)):=by
 refine Ae [.tmp 4] [0,1] Tryz.func42 Tryz.ntmps42 (fun d=>?_)
 refine Z58 ?_;refine Z32 ?_;refine Sm ?_
 refine Be (α:=Nat) (fun x=>⟨20,A4 0 (Ad c) (A4 1 (Ax nm) (A4 5 (A5 (x:Nat)) (fun _=>.any))),Hp,[],[],none⟩) (fun x=>x≤c.length∧∀(j:Nat) (y:Col),j<x→c[j]? = some y→¬(y.name=nm)) (fun x=>c.length-x) (0) (by simp) (Fs _) rfl (fun x hx=>?_)
 refine Z76 ?_;refine A0 [0,1,5,9] ?_
 refine A1 (fun ht9=>?_) (fun ht9=>?_)
 ·have hlt:x<c.length:=by simpa using ht9
  have hcl:=hc.len
  refine Qw ?_
  refine A2 (h:=A9 (x) (Cb c[x]) (fun _=>Ak hlt)) (hr:=?_)
  refine Z93 ?_;refine A0 [0,1,5,18] ?_
  refine A1 (fun ht18=>?_) (fun ht18=>?_)
  ·refine g9 ?_;refine Z41 ?_;exact A7 (Ai A3) ⟨by rw [Ul hlt (by simpa using ht18) hx.2],rfl⟩
  refine Z79 ?_;refine Sm ?_;exact As (x+1) ⟨hlt,Bs hlt hx.2 (by simpa using ht18)⟩ (by omega) (Bk rfl)
 refine Z47 ?_;exact AD8

def Pu (c:List Col) (x:Nat) (y:Col):Bool := !(((!Ko y.name || decide (y.kind<1)) || decide ((3:Int)<y.kind)) || (Bg y.name c != (x:Int)))
def Fi (c:List Col):Bool:=c.zipIdx.all fun x=>Pu c x.2 x.1
theorem colsM_true {c:List Col}:Fi c=true↔∀(j:Nat) (y:Col),c[j]? = some y→Pu c j y=true:=by
 unfold Fi
 rw [B9]
 constructor
 ·intro h j y hj
  exact AEv
 rintro h ⟨y,j⟩ hx
 rw [L2] at hx
 exact h j y hx
theorem Fz {α:Type} {l:List α} {x:Nat} {p:Nat→α→Prop} (hlt:x<l.length) (h:∀(j:Nat) (y:α),j<x→l[j]? = some y→p j y) (hx:p x l[x]):∀(j:Nat) (y:α),j<x+1→l[j]? = some y→p j y:=by
 intro j y hj hy
 rcases Bh j x with h'|h'
 ·exact h j y h' hy
 have:j=x:=by omega
 subst this
 rw [Aa hlt] at hy
 injection hy with hy
 subst hy
 exact hx
theorem H2 {α:Type} {l:List α} {x:Nat} {p:Nat→α→Prop} (hge:l.length≤x) (h:∀(j:Nat) (y:α),j<x→l[j]? = some y→p j y):∀(j:Nat) (y:α),l[j]? = some y→p j y:=
 fun j y hy=>h j y (by have:=(Ac.1 hy).1;omega) hy
theorem c39 (c:List Col) (hc:OkCols c) (Hp:List AObj):AFun Tryz.prog 39 [Ad c] Hp (Ar (Fi c)):=by
 refine Ae [.tmp 2] [0] Tryz.func39 Tryz.ntmps39 (fun d=>?_)
 refine Z49 ?_;refine Z32 ?_;refine M3 ?_
 refine Be (α:=Nat) (fun x=>⟨44,A4 0 (Ad c) (A4 3 (A5 (x:Nat)) (fun _=>.any)),Hp,[],[],none⟩) (fun x=>x≤c.length∧∀(j:Nat) (y:Col),j<x→c[j]? = some y→Pu c j y=true) (fun x=>c.length-x) (0) (by simp) (Fs _) rfl (fun x hx=>?_)
 refine Z76 ?_;refine A0 [0,3,7] ?_
 refine A1 (fun ht7=>?_) (fun ht7=>?_)
 ·have hlt:x<c.length:=by simpa using ht7
  have hcl:=hc.len
  refine Qw ?_
  refine A2 (h:=A9 (x) (Cb c[x]) (fun _=>Ak hlt)) (hr:=?_)
  refine Z0 ?_;refine A6 Tryz.call58 (c58 c[x].name (hc.names _ (Az hlt)) _) ?_;refine Z29 ?_
  refine B8 (h:=A9 (x) (Cb c[x]) (fun _=>Ak hlt)) (hr:=?_)
  refine Z10 ?_;refine Qv ?_
  refine B8 (h:=A9 (x) (Cb c[x]) (fun _=>Ak hlt)) (hr:=?_)
  refine Z10 ?_;refine Qv ?_;refine B8 ?_
  refine B8 (h:=A9 (x) (Cb c[x]) (fun _=>Ak hlt)) (hr:=?_)
  refine Z10 ?_;refine Bj Tryz.call42 (fun hB=>c42 c hc c[x].name _) ?_;refine Kl ?_;refine A0 [0,3,43] ?_
  refine A1 (fun ht43=>?_) (fun ht43=>?_)
  ·refine Ym ?_
   exact A7 (Ai A3) ⟨by rw [show Fi c=false from Gw.2 fun h=>by have:=colsM_true.1 h x c[x] (Aa hlt);unfold Pu at this;rw [ht43] at this;cases this],rfl⟩
  refine Z79 ?_;refine M3 ?_;exact As (x+1) ⟨hlt,Fz hlt hx.2 (by unfold Pu;rw [ht43];rfl)⟩ (by omega) (Bk rfl)
 refine Z47 ?_;refine Z33 ?_;exact A7 (Ai A3) ⟨by rw [colsM_true.2 (H2 (by simp at ht7;omega) hx.2)],rfl⟩

def Ct (c:List Col):Bool:=decide ((c.length:Int)≤12)&&Fi c
theorem c36 (c:List Col) (hc:OkCols c) (Hp:List AObj):AFun Tryz.prog 36 [Ad c] Hp (Ar (Ct c)):=by
 refine Ae [.tmp 2] [0] Tryz.func36 Tryz.ntmps36 (fun d=>?_)
 refine Z49 ?_;refine md ?_;refine Bj Tryz.call39 (fun hB=>c39 c hc _) ?_;refine Z56 ?_;exact A7 (Ai A3) ⟨by unfold Ct;simp,rfl⟩

def C8 (v:Val):Bool:=if v.kind==0 then v.n==0&&v.s==[] else if v.kind==1 then v.s==[] else if v.kind==2 then v.n==0&&decide ((v.s.length:Int)≤200) else v.kind==3&&v.s==[]&&decide (0≤v.n)&&decide (v.n≤1)
theorem c40 (v:Val) (Hp:List AObj):AFun Tryz.prog 40 [Ba v] Hp (Ar (C8 v)):=by
 refine Ae [.tmp 2] [0] Tryz.func40 Tryz.ntmps40 (fun d=>?_)
 refine bb ?_;refine A2 ?_;refine A0 [1] ?_;refine Z27 ?_;refine A0 [1,5] ?_
 refine A1 (fun ht5=>?_) (fun ht5=>?_)
 ·refine Yn ?_;refine B8 ?_;refine Z56 ?_;refine C4 ?_;exact AEw
 refine Z66 ?_;refine A0 [1,16] ?_
 refine A1 (fun ht16=>?_) (fun ht16=>?_)
 ·refine Z39 ?_;refine Z4 ?_;refine C4 ?_;exact A7 (Ai A3) ⟨by simp [C8,ht5,ht16],rfl⟩
 refine Z66 ?_;refine A0 [1,22] ?_
 refine A1 (fun ht22=>?_) (fun ht22=>?_)
 ·refine Z1 ?_;refine Z53 ?_;refine Z56 ?_;refine C4 ?_;exact AEx
 refine Z84 ?_;refine Z29 ?_;refine Qv ?_;refine Qv ?_;refine B8 ?_;refine Z56 ?_;exact AEx

theorem ABi (e:Bool) (n:Int):(e&&(n==0 || n==1))=(e&&decide (0≤n)&&decide (n≤1)):=by
 cases e
 ·rfl
 rw [K5]
 simp
 omega
theorem c51 (v:Val) (Hp:List AObj):AFun Tryz.prog 51 [Ba v] Hp (Ar (C8 v)):=by
 refine Ae [.tmp 2] [0] Tryz.func51 Tryz.ntmps51 (fun d=>?_)
 refine bb ?_;refine A2 ?_;refine A0 [1] ?_;refine Z8 ?_;refine A0 [1,4] ?_;refine Z95 ?_;refine A0 [1,4,5] ?_
 refine A1 (fun ht5=>?_) (fun ht5=>?_)
 ·refine AEq ?_
  refine A2 (h:=Ok Sn (Gs v.kind v.n 0 0 v.s [])) (hr:=?_)
  refine A2 ?_;refine Z4 ?_;refine Z6 ?_;exact AEw
 refine Z1 ?_;refine A0 [1,4,10] ?_
 refine A1 (fun ht10=>?_) (fun ht10=>?_)
 ·refine Z39 ?_;refine Z4 ?_;refine Z6 ?_;exact A7 (Ai A3) ⟨by simp [C8,ht5,ht10],rfl⟩
 refine Z1 ?_;refine A0 [1,4,15] ?_
 refine A1 (fun ht15=>?_) (fun ht15=>?_)
 ·refine Z1 ?_;refine Z53 ?_;refine g0 ?_;exact A7 (Ai A3) ⟨by simp [C8,ht5,ht10,ht15],rfl⟩
 refine Z1 ?_;refine A0 [1,26] ?_
 refine A1 (fun ht26=>?_) (fun ht26=>?_)
 ·refine Z1 ?_;refine Z53 ?_;refine Ot ?_;refine g0 ?_;exact A7 (Ai A3) ⟨by simp [C8,ht5,ht10,ht15,ht26];rw [ABi],rfl⟩
 refine Z19 ?_;refine Z33 ?_;exact A7 (Ai A3) ⟨by simp [C8,ht5,ht10,ht15,ht26],rfl⟩

def Kq (c:List Col):Bool:=decide ((50:Int)<c.length) || c.any fun y=>decide ((100:Int)<y.name.length)
theorem AFf {α:Type} [DecidableEq α] {a b:List α} (h:((a.length:Int) != b.length)=true):decide (a=b)=false:=by
 rw [decide_eq_false_iff_not]
 rintro rfl
 simp at h
theorem AFg {α:Type} [DecidableEq α] {a b:List α} {x:Nat} (h1:x<a.length) (h2:x<b.length) (h:a[x]≠b[x]):decide (a=b)=false:=by
 rw [decide_eq_false_iff_not]
 rintro rfl
 exact h rfl
theorem AFh {α β:Type} {a:List α} {b:List β} (hl:((a.length:Int) != b.length)=false):a.length=b.length:=by simp at hl;omega
theorem AA5 {α:Type} [DecidableEq α] {a b:List α} (hl:((a.length:Int) != b.length)=false) (h:∀(j:Nat) (y:α),a[j]? = some y→b[j]? = some y):decide (a=b)=true:=by
 rw [decide_eq_true_eq]
 have hl':a.length=b.length:=AFh hl
 apply Qk fun i=>?_
 cases hi:a[i]? with
 | some y=>exact (h i y hi).symm
 | none=>rw [pe] at hi;exact (Ic (by omega)).symm
theorem rh {α β γ δ:Type} {a:List α} {b:List β} {f:α→γ} {g:β→δ} (hl:(((a.map f).length:Int) != (b.map g).length)=false):a.length=b.length:=by simp at hl;omega
theorem T9 {a b:Val}:(a.kind==b.kind&&a.n==b.n&&a.s==b.s)=decide (a=b):=by
 rw [K5]
 cases a;cases b
 simp [and_assoc]
theorem Ov {α:Type} {c:List α} {p:Nat→α→Bool}:(c.zipIdx.all fun x=>p x.2 x.1)=true↔∀(j:Nat) (y:α),c[j]? = some y→p j y=true:=by
 rw [B9]
 constructor
 ·intro h j y hj
  exact AEv
 rintro h ⟨y,j⟩ hx
 rw [L2] at hx
 exact h j y hx
theorem c93 (y:Col) (nm:Str) (Hp:List AObj):AFun Tryz.prog 93 [Cb y,.ro [Ax nm]] Hp (Ar (y.name==nm)):=by
 refine Ae [.tmp 3] [0,1] Tryz.func93 Tryz.ntmps93 (fun d=>?_)
 refine Z1 ?_;refine A0 [1,2] ?_;refine Z1 ?_;refine Z13 ?_;refine A0 [3] ?_;refine Fq ?_;exact Yp

theorem c92 (c:List Col) (hc:OkCols c) (nm:Str) (Hp:List AObj):AFun Tryz.prog 92 [Ad c,.fn (.func 93) [] [.ro [Ax nm]]] Hp (A5 (Bg nm c)):=by
 refine Ae [.tmp 4] [0,1] Tryz.func92 Tryz.ntmps92 (fun d=>?_)
 refine Z58 ?_;refine qi ?_
 refine Be (α:=Nat) (fun x=>⟨19,A4 0 (Ad c) (A4 1 (.fn (.func 93) [] [.ro [Ax nm]]) (A4 7 (A5 c.length) (A4 8 (A5 (x:Nat)) (fun _=>.any)))),Hp,[],[],none⟩) (fun x=>x≤c.length∧∀(j:Nat) (y:Col),j<x→c[j]? = some y→¬(y.name=nm)) (fun x=>c.length-x) (0) (by simp) (B0 (by simp)) rfl (fun x hx=>?_)
 refine qh ?_
 refine Dn (fun ht9=>?_) (fun ht9=>?_)
 ·have hlt:x<c.length:=by simpa using ht9
  have hcl:=hc.len
  refine Z20 ?_;refine Z1 ?_;refine qf ?_
  refine A2 (h:=A9 (x) (Cb c[x]) (fun _=>Ak hlt)) (hr:=?_)
  refine A2 ?_;refine R.callV Tryz.call93 (c93 c[x] nm _) ?_;refine qv ?_
  refine A1 (fun ht16=>?_) (fun ht16=>?_)
  ·refine g9 ?_;refine Z41 ?_;exact A7 (Ai A3) ⟨by rw [Ul hlt (by simpa using ht16) hx.2],rfl⟩
  refine Ka ?_;refine A0 [0,1,7,8] ?_;exact As (x+1) ⟨hlt,Bs hlt hx.2 (by simpa using ht16)⟩ (by omega) (Bk rfl)
 refine Z30 ?_;exact AD8

theorem c71 (c:List Col) (hc:OkCols c) (nm:Str) (Hp:List AObj):AFun Tryz.prog 71 [Ad c,Ax nm] Hp (A5 (Bg nm c)):=by
 refine Ae [.tmp 4] [0,1] Tryz.func71 Tryz.ntmps71 (fun d=>?_)
 refine m7 ?_;refine Z2 ?_;refine U2 ?_;refine A6 Tryz.call92 (c92 c hc nm _) ?_;refine A2 ?_;exact AB9

def mh (s of:Str):Int:=(s.length:Int)-(Lib.trimLeftS s of).length
theorem x5 (s of:Str):(Lib.trimLeftS s of).length≤s.length:=by
 unfold Lib.trimLeftS
 exact (eo _).length_le
def Lj:Str:=[32,97,100,100,32,100,114,111,112,32,114,101,110,97,109,101,32,115,112,108,105,116,32,109,101,114,103,101,32,114,101,116,121,112,101,32,105,110,116,111,32,116,111,32,98,97,99,107,32,97,110,100,32,111,114,32,110,111,116,32,116,114,117,101,32,102,97,108,115,101,32,110,117,108,108,32,105,110,116,32,116,101,120,116,32,98,111,111,108,32,115,101,108,101,99,116,32,119,104,101,114,101,32,102,114,111,109,32,108,105,109,105,116,32]
def letters:Str:=[97,98,99,100,101,102,103,104,105,106,107,108,109,110,111,112,113,114,115,116,117,118,119,120,121,122]
def tails:Str:=[97,98,99,100,101,102,103,104,105,106,107,108,109,110,111,112,113,114,115,116,117,118,119,120,121,122,48,49,50,51,52,53,54,55,56,57,95]
theorem AFi (s of:Str) (hs:s.length≤1048576) (ho:of.length≤1048576) (ha:∀c∈of,c.toNat<128) (Hp:List AObj):AFun Tryz.prog 136 [Ax s,Ax of] Hp (A5 (mh s of)):=by
 refine Ae [.tmp 4] [0,1] Tryz.func136 Tryz.ntmps136 (fun d=>?_)
 refine Z58 ?_;refine Z39 ?_;refine A6 Tryz.call151 (AH1 s of (by omega) ha _) ?_;refine A2 ?_
 have htl:=x5 s of
 refine Ua ?_;exact Yp

def Im (s:Str):Bool:=(!(s==[]) && !Lib.contains s [32])&&Lib.contains Lj ([32]++s++[32])
theorem AH3 (s:Str) (hs:s.length≤1048576) (Hp:List AObj):AFun Tryz.prog 137 [Ax s] Hp (Ar (Im s)):=by
 refine Ae [.tmp 2] [0] Tryz.func137 Tryz.ntmps137 (fun d=>?_)
 refine Z49 ?_;refine Z18 ?_;refine B8 ?_;refine Bj Tryz.call143 (fun hB=>x1 s [32] (by omega) _) ?_;refine Qv ?_;refine B8 ?_;refine Bj Tryz.call143 (fun hB=>x1 Lj ([32]++s++[32]) (by decide) _) ?_;exact fp

theorem ABj {s:Str} {b c:Bool} (h:(((!(s==[])&&b)&&c)==true)=true):1≤s.length:=by
 cases s with
 | nil=>simp at h
 | cons x r=>simp
def D9 (s:Str):Bool:=((((!(s==[])&&decide ((s.length:Int)≤16))&&(mh s tails==(s.length:Int)))&&(mh (s.take 1) letters==1)) && !Im s)
theorem x6 (s:Str) (hs:s.length≤1048576) (Hp:List AObj):AFun Tryz.prog 111 [Ax s] Hp (Ar (D9 s)):=by
 refine Ae [.tmp 2] [0] Tryz.func111 Tryz.ntmps111 (fun d=>?_)
 refine Z49 ?_;refine bh ?_;refine B8 ?_;refine Bj Tryz.call136 (fun hB=>AFi s tails hs (by decide) (by decide) _) ?_;refine Z10 ?_;refine mc ?_
 refine B8 (h:=K7 1 (fun _=>Ah _) (fun hB=>ABj hB)) (hr:=?_)
 refine Bj Tryz.call136 (fun hB=>AFi (s.take 1) letters (by simp;omega) (by decide) (by decide) _) ?_
 refine mc ?_;refine Bj Tryz.call137 (fun hB=>AH3 s hs _) ?_;refine B8 ?_;exact fp

end Go.SX.Nb
namespace Go.SX.Nb
open Go Go.SX Go.Proofs Go.RowKit
variable [ErrAt]
set_option maxRecDepth 4000
theorem AH4 (s t:Str) (Hp:List AObj):AFun Tryz.prog 200 [Ax s,Ax t] Hp (Ax (Lib.trimPrefix s t)):=by
 refine O8 (xs:=[sv s,sv t]) (v:=sv (Lib.trimPrefix s t)) (fun G w=>.v _ _) (fun w hg=>?_)
 refine (Any.strings_TrimPrefix Tryz.lays101 ⟨s.toArray⟩ ⟨t.toArray⟩ w).mono ?_
 rintro e w' ⟨rfl,rfl⟩
 exact wr
theorem AH5 (s t:Str) (hs:s.length≤9223372036854775807) (ht:t.length<4294967281) (ha:∀c∈t,c.toNat<128) (Hp:List AObj):AFun Tryz.prog 201 [Ax s,Ax t] Hp (Ax (Lib.trimS s t)):=by
 refine O8 (xs:=[sv s,sv t]) (v:=sv (Lib.trimS s t)) (fun G w=>.v _ _) (fun w hg=>?_)
 refine (Any.strings_Trim_laid Tryz.lays160 (by kernel_rfl) ⟨s.toArray⟩ ⟨t.toArray⟩ w (by simpa [ByteArray.size] using hs) (by simpa [ByteArray.size] using ht) (fun j b hj=>ha b (Ay hj))).mono ?_
 rintro e w' ⟨rfl,hb⟩
 exact ⟨rfl,hb⟩
theorem x7 (s:Str) (hs:s.length≤1048576) (v:Int) (h:Lib.parseIntB 64 s=.ok v) (Hp:List AObj):AFun Tryz.prog 202 [Ax s,A5 10,A5 64] Hp (.tup [A5 v,.v .nilIface]):=by
 refine O8 (xs:=[sv s,.int .i64 10,.int .i64 64]) (v:=.tuple #[.int .i64 v,.nilIface]) (fun G w=>Ld rfl (fun i y u hy hu=>?_)) (fun w hg=>?_)
 ·match i with
  | 0=>simp at hy hu;subst hy;subst hu;exact .v _ _
  | 1=>simp at hy hu;subst hy;subst hu;exact .v _ _
  | i+2=>simp at hy
 refine (Any.strconv_ParseInt_10_at64_ok Tryz.lays174 ⟨s.toArray⟩ (by simp [ByteArray.size];omega) v h w).mono ?_
 rintro e w' ⟨rfl,rfl|⟨t,rfl⟩⟩
 ·exact wr
 exact ⟨rfl,Lib.bytesWorld_below _ _ _⟩
def R2 (s:Str):AV:=.iface 235 (.ro [.v (sv [80,97,114,115,101,73,110,116]),.v (sv s),.v (.iface 260 (.pointer (some ErrAt.b)))])
theorem gj (s:Str) (hs:s.length≤1048576) (h:Lib.parseIntB 64 s=.range) (Hp:List AObj):AFun Tryz.prog 202 [Ax s,A5 10,A5 64] Hp (.tup [A5 (Lib.intSat 64 s),R2 s]):=by
 refine AFun.libErr (xs:=[sv s,.int .i64 10,.int .i64 64]) (n:=.int .i64 (Lib.intSat 64 s)) (cs:=[sv [80,97,114,115,101,73,110,116],sv s,.iface 260 (.pointer (some ErrAt.b))]) (te:=256) (fun y hy=>?_) (fun w hg=>?_)
 ·simp only [C2,Fd,or_false] at hy
  rcases hy with rfl|rfl|rfl<;>rfl
 refine (Any.strconv_ParseInt_10_at64_range Tryz.lays174 ⟨s.toArray⟩ (by simp [ByteArray.size];omega) h (.iface 260 (.pointer (some ErrAt.b))) w (Rz hg) (.inr ⟨_,_,rfl⟩)).mono ?_
 rintro e w' ⟨N,rfl,h1,h2,h3⟩
 exact ⟨N,rfl,h1,h2,h3⟩
theorem ri (Hp:List AObj):AFun Tryz.prog 203 [.v .nilIface,.v (.iface 260 (.pointer (some ErrAt.b)))] Hp (Ar false):=by
 refine O8 (xs:=[.nilIface,.iface 260 (.pointer (some ErrAt.b))]) (v:=.bool false) (fun G w=>.v _ _) (fun w hg=>?_)
 refine (Tryz.is_nil _ w).mono ?_
 rintro e w' ⟨rfl,rfl⟩
 exact wr
theorem gk (s:Str) (Hp:List AObj):AFun Tryz.prog 203 [R2 s,.v (.iface 260 (.pointer (some ErrAt.b)))] Hp (Ar true):=by
 intro d G w vs hn hv hH hT _
 have hsz:vs.size=2:=hn
 have h0:=hv 0 (R2 s) vs[0] rfl (Ev (by omega))
 have h1:=O5 (hv 1 (.v (.iface 260 (.pointer (some ErrAt.b)))) vs[1] rfl (Ev (by omega)))
 have hvs:vs=#[vs[0],vs[1]]:=by
  apply jd
  ·exact hsz
  intro i hi1 hi2
  match i with
  | 0=>rfl
  | 1=>rfl
  | i+2=>omega
 unfold R2 at h0
 generalize vs[0]=u0 at h0 hvs
 cases h0 with
 | iface _ _ _ u h =>
  cases h with
  | ro _ _ ad f hs h1' hf hr =>
   obtain ⟨ab,ao,asp⟩:=ad
   simp only at hs
   subst hs
   have hc:=(hf 2 _ rfl).2
   have he:=O5 (hr 2 _ rfl)
   rw [he] at hc
   rw [hvs,h1]
   refine (callsIn_wide.2 (Tryz.is_range ab ao ErrAt.b w hc)).mono ?_
   rintro e w' ⟨rfl,rfl⟩
   exact ⟨_,G,_,Hp,rfl,.v _ _,hH,hT,Fp _ _ _,rfl,rfl,rfl⟩
end Go.SX.Nb
namespace Go.SX.Nb
open Go Go.SX Go.Proofs
variable [ErrAt]
set_option maxRecDepth 4000
def bn:Str:=[32,105,110,116,32,116,101,120,116,32,98,111,111,108]
def kindNames:List Str:=[[],[105,110,116],[116,101,120,116],[98,111,111,108]]
theorem mi:Ou bn [32]=kindNames:=by kernel_rfl
def E3 (k:Int):Str:=if k<1∨3<k then [] else kindNames.getD k.toNat []
theorem c77 (k:Int) (Hp:List AObj):AFun Tryz.prog 77 [A5 k] Hp (Ax (E3 k)):=by
 refine Ae [.tmp 2] [0] Tryz.func77 Tryz.ntmps77 (fun d=>?_)
 refine ga ?_;refine Kl ?_;refine A0 [0,8] ?_
 refine A1 (fun ht8=>?_) (fun ht8=>?_)
 ·refine Z33 ?_;refine C4 ?_;exact A7 (Ai A3) ⟨by rw [show E3 k=[] from if_pos (by simpa using ht8)],rfl⟩
 refine Z3 ?_;refine Dv ?_
 have hk:1≤k∧k≤3:=by simp at ht8;omega
 have hget:(kindNames.map Ax)[k.toNat]? = some (Ax (kindNames.getD k.toNat [])):=by
  have hlt:k.toNat<kindNames.length:=by show k.toNat<4;omega
  rw [Cs,Aa hlt,Dd,Aa hlt]
  rfl
 refine A6 Tryz.call103 (mi ▸ AFe bn [32] (by decide) (by decide) _) ?_;refine A2 ?_
 refine A2 (h:=A9 (k.toNat) (Ax (kindNames.getD k.toNat [])) (fun _=>hget)) (hr:=?_)
 refine Z56 ?_;exact A7 (Ai A3) ⟨by rw [show E3 k=kindNames.getD k.toNat [] from if_neg (by omega)],rfl⟩

def Nm (s of:Str):Bool:=(!(s==[]) && !Lib.contains s [32])&&Lib.contains of ([32]++s++[32])
theorem AH6 (s of:Str) (hs:s.length≤1048576) (ho:of.length≤1048576) (Hp:List AObj):AFun Tryz.prog 125 [Ax s,Ax of] Hp (Ar (Nm s of)):=by
 refine Ae [.tmp 4] [0,1] Tryz.func125 Tryz.ntmps125 (fun d=>?_)
 refine Z58 ?_;refine Z18 ?_;refine B8 ?_;refine Bj Tryz.call143 (fun hB=>x1 s [32] (by omega) _) ?_;refine Uc ?_;refine Bj Tryz.call143 (fun hB=>x1 of ([32]++s++[32]) (by omega) _) ?_;refine Ua ?_;exact Yp

def Wy:Str:=[108,101,110,58,49,32,115,116,114,58,49,32,110,117,109,58,49,32,105,115,110,117,108,108,58,49,32,110,118,108,58,50,32,108,101,102,116,58,50,32,114,105,103,104,116,58,50,32,105,102,58,51]
def arityList:List (Str×UInt8):=[([108,101,110],49),([115,116,114],49),([110,117,109],49),([105,115,110,117,108,108],49),([110,118,108],50),([108,101,102,116],50),([114,105,103,104,116],50),([105,102],51)]
def I0 (p:Str×UInt8):Str:=p.1++[58,p.2]
theorem gm:Ou Wy [32]=arityList.map I0:=by kernel_rfl
theorem rj {p:Str×UInt8} (hp:p∈arityList):Lib.cut (I0 p) [58]=(p.1,[p.2],true):=by
 have h:(arityList.all fun p=>decide (Lib.cut (I0 p) [58]=(p.1,[p.2],true)))=true:=by kernel_rfl
 exact of_decide_eq_true (B9.1 h p hp)
def ABk (p:Str×UInt8):Int:=IntKind.i64.wrap (IntKind.u8.wrap ((p.2.toNat:Int)-48))
def C5 (nm:Str):Int:=match arityList.find? (fun p=>p.1==nm) with|some p=>ABk p|none => -1
theorem Yr {α:Type} {p:α→Bool} {l:List α} {x:Nat} (h:x<l.length) (hp:p l[x]=true) (h2:∀(j:Nat) (y:α),j<x→l[j]? = some y→p y=false):l.find? p=some l[x]:=by
 rw [List.find?_eq_some_iff_getElem]
 exact ⟨hp,x,h,rfl,fun j hj=>by simpa using h2 j l[j] hj (Aa _)⟩
theorem R3 {α:Type} {p:α→Bool} {l:List α} (h:∀(j:Nat) (y:α),l[j]? = some y→p y=false):l.find? p=none:=by
 rw [Og]
 intro y hy
 obtain ⟨j,hj⟩:=Ca hy
 simpa using h j y hj
theorem R4:arityList.length=8:=rfl
theorem mj {p:Str×UInt8} (hp:p∈arityList):(I0 p).length<4294967281:=by
 have h:(arityList.all fun p=>decide ((I0 p).length<4294967281))=true:=by kernel_rfl
 exact of_decide_eq_true (B9.1 h p hp)
theorem AFj (nm:Str) (Hp:List AObj):AFun Tryz.prog 126 [Ax nm] Hp (A5 (C5 nm)):=by
 refine Ae [.tmp 2] [0] Tryz.func126 Tryz.ntmps126 (fun d=>?_)
 refine Z49 ?_;refine Z52 ?_;refine A6 Tryz.call103 (gm ▸ AFe Wy [32] (by decide) (by decide) _) ?_;refine Z0 ?_;refine A0 [0,8,9,10] ?_
 refine Be (α:=Nat) (fun x=>⟨28,A4 0 (Ax nm) (A4 8 (Ew (arityList.map I0)) (A4 9 (A5 8) (A4 10 (A5 (x:Nat)) (fun _=>.any)))),Hp,[],[],none⟩) (fun x=>x≤8∧∀(j:Nat) (y:Str×UInt8),j<x→arityList[j]? = some y→(y.1==nm)=false) (fun x=>8-x) (0) (by simp) (Fs _) rfl (fun x hx=>?_)
 refine Z2 ?_;refine A0 [0,8,9,10,11] ?_
 refine Dn (fun ht11=>?_) (fun ht11=>?_)
 ·have hlt:x<arityList.length:=by rw [R4];simp at ht11;omega
  have hal:=R4
  have hget:((arityList.map I0).map Ax)[x]? = some (Ax (I0 arityList[x])):=by rw [Gn];exact Ak hlt
  refine Po ?_
  refine A2 (h:=A9 (x) (Ax (I0 arityList[x])) (fun _=>hget)) (hr:=?_)
  refine Z0 ?_;refine A0 [0,4,8,9,10] ?_;refine Z2 ?_;refine A6 Tryz.call144 ((rj (Az hlt)) ▸ AH0 (I0 arityList[x]) [58] (mj (Az hlt)) _) ?_;refine Z0 ?_;refine Z67 ?_;refine A0 [0,5,6,8,9,10] ?_;refine Z18 ?_;refine A0 [0,6,8,9,10,22] ?_
  refine A1 (fun ht22=>?_) (fun ht22=>?_)
  ·refine Z2 ?_
   refine A2 (h:=Ft 0 arityList[x].2 (fun _=>rfl)) (hr:=?_)
   refine A2 (h:=Ie) (hr:=?_)
   refine Z56 ?_;refine Z41 ?_;exact A7 (Ai A3) ⟨by rw [C5,Yr hlt ht22 hx.2];rfl,rfl⟩
  refine Ka ?_;refine A0 [0,8,9,10] ?_;exact As (x+1) ⟨by omega,Bs hlt hx.2 ht22⟩ (by omega) (Bk rfl)
 have hal:=R4
 refine Z30 ?_;refine Z33 ?_;exact A7 (Ai A3) ⟨by rw [C5,R3 (Km (by simp at ht11;omega) hx.2)],rfl⟩

def gn (s:Str):Int:=match Lib.parseIntB 64 s with|.ok v=>v|_=>Lib.intSat 64 s
def Wj (s:Str):Bool:=match Lib.parseIntB 64 s with|.ok _=>false|_=>true
def Wk (s:Str):AV:=bif Wj s then R2 s else .v .nilIface
theorem gq (s:Str):(Wk s).strip=Wk s:=by unfold Wk;cases Wj s<;>rfl
attribute [go_sem] gq
theorem AH7 (s:Str) (hs:s.length≤1048576) (h:x2 (Lib.parseIntB 64 s)=false) (Hp:List AObj):AFun Tryz.prog 202 [Ax s,A5 10,A5 64] Hp (.tup [A5 (gn s),Wk s]):=by
 cases hp:Lib.parseIntB 64 s with
 | ok v =>
  have:=x7 s hs v hp Hp
  rwa [show v=gn s by unfold gn;rw [hp],show AV.v .nilIface=Wk s by unfold Wk Wj;rw [hp];rfl] at this
 | range =>
  have:=gj s hs hp Hp
  rwa [show Lib.intSat 64 s=gn s by unfold gn;rw [hp],show R2 s=Wk s by unfold Wk Wj;rw [hp];rfl] at this
 | _=>rw [hp] at h;cases h
theorem AH8 (s:Str) (Hp:List AObj):AFun Tryz.prog 203 [Wk s,.v (.iface 260 (.pointer (some ErrAt.b)))] Hp (Ar (Wj s)):=by
 unfold Wk
 cases Wj s
 ·exact ri Hp
 exact gk s Hp
theorem rk (s t:Str):(Lib.trimPrefix s t).length≤s.length:=by
 unfold Lib.trimPrefix;split<;>simp
theorem ml {d:Str} {b:Bool} (h:(((d==[]) || b)==false)=true):d≠[]:=by rintro rfl;simp at h
theorem gr:∀c∈digs,c.toNat<128:=by decide
theorem Um (s:Str):((((Lib.trimPrefix s [45]==[]) || (Lib.trimS (Lib.trimPrefix s [45]) digs != [])) || ((((Lib.trimPrefix s [45]).headD 0).toNat:Int)==48&&decide ((1:Int)<s.length))))=Gz s:=by
 unfold Gz Lx
 have e1:((((Lib.trimPrefix s [45]).headD 0).toNat:Int)==48)=((Lib.trimPrefix s [45]).headD 0==48):=by
  rw [Bool.eq_iff_iff]
  simp only [beq_iff_eq]
  constructor
  ·intro h
   exact UInt8.toNat_inj.1 (by have:(48:UInt8).toNat=48:=rfl;omega)
  intro h;rw [h];rfl
 have e2:decide ((1:Int)<s.length)=decide (1<s.length):=by rw [decide_eq_decide];omega
 rw [e1,e2]
 rfl
theorem mm {s:Str} (hb:Gz s=false) (h:Wj s=true):Bx s=(0,4):=by
 unfold Bx
 rw [hb]
 have:=Mu hb
 unfold Wj at h
 revert h this
 cases Lib.parseIntB 64 s with
 | ok v=>intro h;cases h
 | range=>intro _ _;rfl
 | _=>intro _ h;cases h
theorem ABl {s:Str} (hb:Gz s=false) (h:Wj s=false):Bx s=(gn s,0):=by
 unfold Bx gn
 rw [hb]
 unfold Wj at h
 revert h
 cases Lib.parseIntB 64 s with
 | ok v=>intro h;rfl
 | _=>intro h;cases h
theorem rl (s:Str):s.take (min s.length 200)=s.take 200:=by
 rcases Nat.le_total s.length 200 with h|h
 ·rw [Nat.min_eq_left h,List.take_of_length_le (Nat.le_refl _),List.take_of_length_le h]
 rw [Nat.min_eq_right h]
theorem AH9 (s:Str) (hs:s.length≤1048576) (Hp:List AObj):AFun Tryz.prog 186 [Ax s] Hp (.tup [A5 (Bx s).1,A5 (Bx s).2]):=by
 refine ACall.body [.tmp 2,.tmp 3] [0] Tryz.func186 Tryz.ntmps186 (fun d=>?_)
 refine Z1 ?_;refine R.fin [0] ?_;refine Z2 ?_;refine R.call Tryz.call200 (AH4 s [45] _) ?_;refine R.go ?_;refine R.fin [0,4] ?_;refine Z27 ?_;refine G.go ?_
 refine G.call Tryz.call201 (fun hB=>AH5 (Lib.trimPrefix s [45]) digs (by have:=rk s [45];omega) (by decide) gr _) ?_
 refine mc ?_
 refine G.go (h:=Q.sindex 0 ((Lib.trimPrefix s [45]).headD 0) (fun hB=>Kp (ml hB))) (hr:=?_)
 refine Ot ?_;refine Kl ?_;refine R.fin [0,25] ?_
 refine W.cond (fun ht25=>?_) (fun ht25=>?_)
 ·have hb:Gz s=true:=by rw [←Um];exact ht25
  refine m6 ?_;refine K.thR ?_;exact K.fin (V.two V.tmp V.tmp) ⟨by rw [Bx,hb];rfl,rfl⟩
 have hb:Gz s=false:=by rw [←Um];exact ht25
 refine Ja ?_;refine R.call Tryz.call202 (AH7 s hs (Mu hb) _) ?_;refine Z67 ?_;refine R.fin [5,6] ?_;refine Z32 ?_;refine R.loadGlob Tryz.isAgg211 (fun w hg=>Rz hg) ?_;refine R.call Tryz.call203 (AH8 s _) ?_;refine R.fin [5,33] ?_
 refine W.cond (fun ht33=>?_) (fun ht33=>?_)
 ·refine m6 ?_;refine K.thR ?_;exact K.fin (V.two V.tmp V.tmp) ⟨by rw [mm hb ht33],rfl⟩
 refine Z77 ?_;refine Z54 ?_;exact K.fin (V.two V.tmp V.tmp) ⟨by rw [ABl hb ht33],rfl⟩

theorem AHa (n:Int) (h0 : -9223372036854775808≤n) (h1:n≤9223372036854775807) (Hp:List AObj):AFun Tryz.prog 185 [A5 n] Hp (Ax (Lib.itoa n)):=by
 refine ACall.body [.tmp 2] [0] Tryz.func185 Tryz.ntmps185 (fun d=>?_)
 refine Z49 ?_;refine Z2 ?_;refine R.call Tryz.call199 (AH2 n h0 h1 _) ?_;refine R.go ?_;refine Z4 ?_;exact Yp

theorem c66 (Hp:List AObj):AFun Tryz.prog 66 [] Hp (Ba ⟨0,0,[]⟩):=by
 refine ACall.body [.cell 0 44] [] Tryz.func66 Tryz.ntmps66 (fun d=>?_)
 refine Z98 ?_;refine R.fin [0] ?_;refine Z48 ?_;refine F9 ?_;refine R.fin [0] ?_;refine AW.ret ?_;exact ABb

theorem AFk (n:Int) (Hp:List AObj):AFun Tryz.prog 182 [A5 n] Hp (Ba ⟨1,n,[]⟩):=by
 refine ACall.body [.cell 2 44] [0] Tryz.func182 Tryz.ntmps182 (fun d=>?_)
 refine b7 ?_;refine AEq ?_;refine Z22 ?_;exact ABb

theorem rm (b:Bool) (Hp:List AObj):AFun Tryz.prog 129 [Ar b] Hp (Ba ⟨3,if b then 1 else 0,[]⟩):=by
 refine ACall.body [.cell 2 44] [0] Tryz.func129 Tryz.ntmps129 (fun d=>?_)
 refine b7 ?_;refine Z48 ?_;refine Z34 ?_;refine R.fin [0,2,3] ?_;refine Z32 ?_;refine R.fin [2,3,5] ?_
 refine W.cond (fun ht5=>?_) (fun ht5=>?_)
 ·refine Z51 ?_;refine F9 ?_;refine R.fin [2,3] ?_;refine K.thN ?_;refine Z2 ?_;exact ADv
 refine Ja ?_;exact ADv

theorem x8 (s:Str) (Hp:List AObj):AFun Tryz.prog 184 [Ax s] Hp (Ba ⟨2,0,s.take 200⟩):=by
 refine ACall.body [.cell 2 44] [0] Tryz.func184 Tryz.ntmps184 (fun d=>?_)
 refine b7 ?_;refine Z18 ?_;refine R.minI ?_
 refine R.go (h:=Q.scutH (min s.length 200) (fun _=>Nat.zero_le _) (fun _=>Nat.min_le_left _ _) (hb:=fun _=>by split<;>omega)) (hr:=?_)
 refine me ?_;refine Z22 ?_;exact K.fin (V.one (V.cellN jA jS)) ⟨by rw [rl],rfl⟩

def jq:Val:=⟨0,0,[]⟩
def Dl (b:Bool):Val:=⟨3,if b then 1 else 0,[]⟩
def AFl (n:Int):Prop := -9223372036854775808≤n∧n≤9223372036854775807
def gu (v:Val):Str:=
 if !C8 v then [] else if v.kind==1 then Lib.itoa v.n else if v.kind==2 then [39]++Lib.replaceAll v.s [39] [39,39]++[39]
 else if v.kind==0 then [110,117,108,108] else if v.n==1 then [116,114,117,101] else [102,97,108,115,101]
def ABm (s:Str):Str:=Lib.replaceAll ((s.take (s.length-1)).drop 1) [39,39] [39]
def AA6 (s:Str):Val:=⟨2,0,(ABm s).take 200⟩
def AFm (s:Str):Val×Int:=if !(gu (AA6 s)==s) then (jq,7) else (AA6 s,0)
def AFn (s:Str):Bool:=(decide ((1:Int)<s.length)&&Lib.hasPrefix s [39])&&Lib.hasSuffix s [39]
def AFo (s:Str):Val×Int:=
 if s==[110,117,108,108] then (jq,0) else if (s==[116,114,117,101]) || (s==[102,97,108,115,101]) then (Dl (s==[116,114,117,101]),0)
 else if AFn s then AFm s else if (Bx s).2==0 then (⟨1,(Bx s).1,[]⟩,0) else if (Bx s).2==4 then (jq,4) else (jq,7)
structure Tok where
 kind:Int
 text:Str
 at_:Nat
 deriving DecidableEq
end Go.SX.Nb
namespace Go.SX
variable [GI:GlobInv]
open Classical
@[simp] theorem AHb {n o k m c:Nat}:Low n (.sl o k m c)↔o<n:=⟨fun h=>by cases h;assumption,fun h=>.sl o k m c h⟩
/-- The cells of elements, one behind the other. -/
abbrev Jc (xs:List AV):List AV:=xs.flatMap AV.cells
theorem Ow (x:AV) (r:List AV):Jc (x::r)=x.cells++Jc r:=by simp [Jc]
theorem R5 {k:Nat}:∀{xs:List AV},(∀x∈xs,x.cells.length=k)→(Jc xs).length=xs.length*k
 | [],_=>by simp
 | x::r,h=>by
  rw [Ow,Aw,h x Jr,R5 (fun y hy=>h y (Pe _ hy)),Bo,Ec]
  omega
theorem R6 {k:Nat}:∀{xs:List AV},(∀x∈xs,x.cells.length=k)→∀{i j:Nat} {x y:AV},xs[i]? = some x→x.cells[j]? = some y→(Jc xs)[i*k+j]? = some y
 | [],_,i,j,x,y,h,_=>by simp at h
 | a::r,hk,0,j,x,y,h,h2=>by
  simp at h
  subst h
  rw [Ow,Pj,Bn,De (Ac.1 h2).1]
  exact h2
 | a::r,hk,i+1,j,x,y,h,h2=>by
  rw [Tq] at h
  have ha:=hk a Jr
  have hh:=R6 (fun y hy=>hk y (Pe _ hy)) h h2
  rw [Ow,Dj (by rw [ha,Ec];omega),ha]
  rw [show (i+1)*k+j-k=i*k+j by rw [Ec];omega]
  exact hh
section
variable {P:Program} {d:Nat} {st:St} {dst:Option Tmp} {ty:TypeId} {pos:String} {aft:Array Edge} {gd:Option (Nat×Bool)}
/-- The address of an element. -/
theorem OpV.indexAddrSl {t e:TypeId} {x i:Operand} {o k n c m:Nat} {q:IntKind} (hu:P.underlying t=some (.slice e)) (hsz:∀w,(sizeOf e).run P w=.ok k w) (hm:m<n)
  (hx:st.ev x=.sl o k n c) (hi:st.ev i=.v (.int q (m:Int))):OpV P d ⟨dst,.indexAddr t x i,ty,pos,aft,gd⟩ st (.ptr o (m*k)):=
 C0 (by intro c h;cases h) fun G a w h=>by
  have hr:=hx ▸ h.eval x
  have hi':=C7 h hi
  generalize hv:a.eval x=u at hr
  cases hr with
  | sl l o k n c ho =>
   have hlt':(m:Int)<n:=by omega
   refine ⟨.pointer (some ((⟨G.blk o,0,none⟩:Addr).add (m*k))),by simp [execOp,Instr.indexAt,asIntOf,hi',hv,run_underlying hu,hm,hlt',hsz],?_⟩
   rw [Cq rfl,Bn]
   exact .ptr _ o _ ho
/-- An empty slice, over an object of its own. -/
theorem AOp.buildObj0 {t e:TypeId} {k s n:Nat} (hu:P.underlying t=some (.slice e)) (hsz:∀w,(sizeOf e).run P w=.ok k w) (hn:st.own.length=n) (hs:s<st.sz):
  AOp P d ⟨some s,.buildSlice t 0 #[],ty,pos,aft,gd⟩ st (·=({ st with own:=st.own++[.cells e []] }:St).set s (.sl (st.up.length+n) k 0 0)):=by
 intro G a w h Q'
 obtain ⟨G',h1,T,hb,hlt⟩:=Ki h e [] #[] rfl (fun j y u h1 _=>by simp at h1)
 have hlen:(st.up++st.own).length=st.up.length+n:=by rw [Aw,hn]
 rw [hlen] at hb hlt
 have hrun:(execOp a.eval (⟨some s,.buildSlice t 0 #[],ty,pos,aft,gd⟩:Oper)).run P w=.ok (.value (.slice (some ⟨w.heap.size,0,none⟩) 0 0)) (w.alloc (.cells #[] e)):=by
  have hfl:∀f:Nat→Option (Nat×Nat),Instr.fill f ((Array.range 0).map fun _=>(default:Value)) []=some #[]:=fun f=>by simp [Instr.fill]
  simp [execOp,Instr.buildSlice,run_underlying hu,hsz,newRow,hfl]
 refine D3 (by intro c h;cases h) hrun ⟨G',_,h1.put (s:=s) (y:=.sl (st.up.length+n) k 0 0) hs ?_,T.keep d,rfl,rfl,rfl,rfl⟩
 rw [←hb]
 exact .sl _ _ _ _ _ hlt
/-- What is appended to an empty slice lies in a new object of ours; of its spare cells nothing is known. -/
theorem AOp.appendObj {t e:TypeId} {i:TypeInfo} {z:Value} {k by' s o n:Nat} {xr x:Operand} {o2:Bool} {ys:List AV}
  (hu:P.underlying t=some (.slice e)) (hi:P.info? e=some i) (hz:i.zero=some z) (hsz:i.size=k) (hby:i.bytes=by') (hzk:z.cells.size=k) (hk:0<k)
  (hb:st.ev xr=.sl o k 0 0) (hx:ew (st.ev x) o2 k ys) (hne:ys≠[]) (hn:st.own.length=n) (hs:s<st.sz) (hl:ys.length*by'≤140737488355328) (hl2:ys.length≤4611686018427387904):
  AOp P d ⟨some s,.call ⟨.builtin .append,#[xr,x],#[t,t]⟩,ty,pos,aft,gd⟩ st (fun st'=>∃c,ys.length≤c∧st'=({ st with own:=st.own++[.cells e (Jc ys++List.replicate ((c-ys.length)*k) .any)] }:St).set s (.sl (st.up.length+n) k ys.length c)):=by
 subst hsz
 subst hby
 intro G a w h Q'
 have hrb:=hb ▸ h.eval xr
 have hrx:=h.eval x
 have hm:ys.length≠0:=fun e=>hne (M8 e)
 generalize hvb:a.eval xr=vb at hrb
 cases hrb with
 | sl l o k n' c ho =>
  rcases J2 hx hrx with ⟨_,e0⟩|⟨ad2,c2,f2,hvx,hc2,F2,_⟩
  ·exact absurd e0 hne
  have hge:=Lc w (0+ys.length) 0 e
  have hv:=run_append_grow (P:=P) w t ty e i z hu hi hz ⟨G.blk o,0,none⟩ 0 0 [] (by simp) (by simp) ad2 ys.length c2 (D0 i.size ys.length f2) (Bq _ _ _) (F2.vals hk) (by omega) (by omega) (growslice_fits (by omega) (by rw [Bn];exact hl))
  rw [Bn] at hv hge
  let c':=grownCap w ys.length 0 e
  have hfl:(Jc ys).length=ys.length*i.size:=R5 F2.k
  have hd':StRel d G st a w.drew:=h.drew (w.drawn+1)
  obtain ⟨G',h1,T,hbk,hlt⟩:=Ki hd' e (Jc ys++List.replicate ((c'-ys.length)*i.size) .any) (([]:List Value).toArray++(D0 i.size ys.length f2).toArray++Builtin.zeroCells z.cells (c'-ys.length)) (by
    simp only [Oe,Jt,Bq,Value.oneSize _ hzk,Aw,List.length_replicate,hfl,By]
    omega) (fun j y u hy hu'=>by
    by_cases hj:j<ys.length*i.size
    ·rw [De (by rw [hfl];exact hj)] at hy
     have hq:j / i.size<ys.length:=by rw [jh hk];exact hj
     have hjm:j % i.size<i.size:=Gq _ hk
     have hx0:ys[j / i.size]? = some (ys[j / i.size]):=Aa hq
     have hcl:=F2.k _ (Az hq)
     have hy0:(ys[j / i.size]).cells[j % i.size]? = some ((ys[j / i.size]).cells[j % i.size]'(by omega)):=Aa _
     have e1:j / i.size*i.size+j % i.size=j:=by have:=Nat.div_add_mod j i.size;rw [Ik] at this;exact this
     have hfg:=R6 F2.k hx0 hy0
     rw [e1,hy] at hfg
     injection hfg with hfg
     have hval:(D0 i.size ys.length f2)[j]? = some (f2 (j / i.size) (j % i.size)):=H7 hj
     rw [M6 (by simp only [Oe,Jt,Bq,By];omega)] at hu'
     have e2:u=f2 (j / i.size) (j % i.size):=by
      have:(([]:List Value).toArray++(D0 i.size ys.length f2).toArray)[j]? = (D0 i.size ys.length f2)[j]? := by simp
      rw [this,hval] at hu'
      injection hu' with hu'
      exact hu'.symm
     rw [e2,hfg]
     exact (Kj G w (w.drawn+1)).rep (F2.rep _ _ _ _ hx0 hy0)
    rw [Dj (by rw [hfl];omega)] at hy
    rw [pi] at hy
    split at hy
    ·injection hy with hy;subst hy;exact .any _ _
    cases hy)
  have hlen:(st.up++st.own).length=st.up.length+n:=by rw [Aw,hn]
  rw [hlen] at hbk hlt
  have hrun:(execOp a.eval (⟨some s,.call ⟨.builtin .append,#[xr,x],#[t,t]⟩,ty,pos,aft,gd⟩:Oper)).run P w=.ok (.value (.slice (some ⟨w.heap.size,0,none⟩) ys.length c')) (w.drew.alloc (.cells (([]:List Value).toArray++(D0 i.size ys.length f2).toArray++Builtin.zeroCells z.cells (c'-ys.length)) e)):=by
   simp only [execOp,resolve,invoke,builtin,Sem.run_bind,Sem.run_pure,Result.andThen_ok,Ss,Cw,Fc,hvb,hvx,hv]
   rfl
  have K0:=(Kj G w (w.drawn+1)).keep d
  refine D3 (by intro c h;cases h) hrun ⟨G',_,h1.put (s:=s) (y:=.sl (st.up.length+n) i.size ys.length c') hs ?_,K0.trans (T.keep d),rfl,rfl,rfl,c',hge,rfl⟩
  have hsz':w.drew.heap.size=w.heap.size:=rfl
  rw [←hsz',←hbk]
  exact .sl _ _ _ _ _ hlt

/-- The elements are written no more: the object goes, and the slice is one of known elements. -/
theorem StRel.freeze {G:Gh} {a:Act} {w:World} (h:StRel d G st a w) {r i k c:Nat} {t:TypeId} {cs xs:List AV} (hr:st.fr r=.sl (st.up.length+i) k xs.length c) (ho:st.own[i]? = some (.cells t cs)) (hnc:xs.length≤c)
  (hcs:cs.take (xs.length*k)=Jc xs) (hk:∀x∈xs,x.cells.length=k) (h1:∀x∈xs,∀y∈x.cells,y.one=true) (hst:∀x∈xs,∀y∈x.cells,y.strip=y):
  ∃G',StRel d G' { st with fr:=A4 r (.slice false k xs) st.fr,own:=st.own.set i .gone } a w∧Keep d G w G' w:=by
 let G':Gh:={ G with tag:=fun b q=>if G.tag b q=.obj (st.up.length+i) then .fix else G.tag b q }
 have hto:(st.up++st.own)[st.up.length+i]? = some (.cells t cs):=by rw [El];exact ho
 have hol:st.up.length+i<(st.up++st.own).length:=(Ac.1 hto).1
 have htag:∀b q,G.tag b q≠.obj (st.up.length+i)→G'.tag b q=G.tag b q:=fun b q hb=>by simp only [G'];rw [if_neg hb]
 have htagO:∀b q,G.tag b q=.obj (st.up.length+i)→G'.tag b q=.fix:=fun b q hb=>by simp only [G'];rw [if_pos hb]
 have hfix:∀b q,G.tag b q=.fix→G'.tag b q=.fix:=fun b q hb=>by rw [htag b q (by rw [hb];simp)];exact hb
 have htail:∀b q L,G.tag b q=.tail L→G'.tag b q=.tail L:=fun b q L hb=>by rw [htag b q (by rw [hb];simp)];exact hb
 have hrep:∀{l:Option Loc} {y:AV} {u:Value},Rep G w l y u→Rep G' w l y u:=fun hy =>
  hy.mono (G':=G') (fun b q e=>⟨hfix b q e,rfl⟩) (Ao _) (fun _ _=>rfl) (fun L _ b q e=>htail b q L e)
 have hst':Still G w G' w:=fun b hb=>⟨rfl,hb.1,fun q=>by
  rcases hb.2.1 q with e|e
  ·exact .inl (hfix b q e)
  exact .inr (by rw [htag b q (by rw [e];simp)];exact e),hb.2.2⟩
 obtain ⟨vs,q1,q2,q3,q4⟩:=h.heap.obj _ _ hto
 refine ⟨G',⟨h.size,fun s=>?_,⟨fun j x hx=>?_,?_,h.heap.inj⟩,h.defs,fun q hq=>?_,h.defsNodup,h.defsGe,⟨fun b q hb=>h.tags.ex b q (fun e=>?_),fun b q j hb=>?_,fun b q L hb=>?_,h.tags.globKeep hst'⟩,h.rnd,h.low,h.top⟩,
  ⟨fun b q e=>⟨hfix b q e,rfl⟩,fun b q e s _ ht=>htail b q _ ht,Ao _,fun _ _=>rfl,rfl,rfl,rfl,Ao _,hst'⟩⟩
 ·show Rep G' w _ (A4 r (.slice false k xs) st.fr s) _
  unfold A4
  by_cases hs:s=r
  ·subst hs
   rw [if_pos rfl]
   have hsl:=h.slots s
   rw [hr] at hsl
   generalize a.tmps.getD s undef=v at hsl
   cases hsl with
   | sl l o k n c ho' =>
    refine .slice _ false k xs ⟨G.blk (st.up.length+i),0,none⟩ _ c (fun q j=>vs.getD (q*k+j) undef) rfl rfl hnc hk h1 (fun q x j y hx hy=>?_) (fun q x j y hx hy=>?_) (fun e=>by cases e)
    all_goals
     have hfg:=R6 hk hx hy
     have hlt:q*k+j<xs.length*k:=by
      have:=(Ac.1 hfg).1
      rw [R5 hk] at this;exact this
     rw [←hcs,List.getElem?_take_of_lt hlt] at hfg
     have hcl:=(Ac.1 hfg).1
    ·refine ⟨htagO _ _ (by simpa using q4 _ hcl),?_⟩
     simp only [Bn]
     simp [World.cell?,q1,show q*k+j<vs.size by omega]
    have hu:=q3 _ y (vs[q*k+j]'(by omega)) hfg (Ev (by omega))
    have e1:vs.getD (q*k+j) undef=vs[q*k+j]'(by omega):=by simp [show q*k+j<vs.size by omega]
    rw [e1]
    have:=hrep (hu.strip (l':=none))
    rw [hst x (Ay hx) y (Ay hy)] at this
    exact this
  rw [if_neg hs]
  exact hrep (h.slots s)
 ·have hx':(st.up++st.own.set i .gone)[j]? = some x:=hx
  rw [←Cn,Ma] at hx'
  by_cases hj:st.up.length+i=j
  ·rw [if_pos hj,if_pos hol] at hx'
   injection hx' with hx'
   subst hx'
   subst hj
   exact ⟨vs,t,(0,0),q1,fun q hq=>htagO _ _ (q4 q (by omega))⟩
  rw [if_neg hj] at hx'
  exact (h.heap.obj j x hx').free (fun e=>hj e.symm) htag rfl rfl
 ·show G.n=(st.up++st.own.set i .gone).length
  have:=h.heap.n
  simpa using this
 ·show (st.up++st.own.set i .gone)[q]? = _
  have h2:=h.defsAt q hq
  rw [←Cn,Ma]
  by_cases hj:st.up.length+i=q
  ·subst hj;rw [hto] at h2;cases h2
  rw [if_neg hj];exact h2
 ·simp only [G'] at hb
  split at hb
  ·rename_i e';rw [e] at e';cases e'
  exact hb e
 ·simp only [G'] at hb
  split at hb
  ·cases hb
  exact h.tags.obj b q j hb
 simp only [G'] at hb
 split at hb
 ·cases hb
 exact h.tags.tail b q L hb
end
section
variable {P:Program} {d:Nat} {ops:Array Oper}
theorem ARun.turnSt {l:List Oper} {st st':St} {Q:St→Prop} (h:∀(G:Gh) (a:Act) (w:World),StRel d G st a w→∃G',StRel d G' st' a w∧Keep d G w G' w) (e1:st'.up.length=st.up.length) (e2:st'.rnd=st.rnd) (e3:st'.sz=st.sz) (hr:ARun P d ops l st' Q):ARun P d ops l st Q:=by
 intro G a w hrel idx hidx
 obtain ⟨G',h1,k⟩:=h G a w hrel
 have:=hr G' a w h1 idx hidx
 rw [Fw hrel k e2] at this
 exact Dm (fun e a' w' hp=>⟨hp.1,hp.2.next k e1 e2 e3⟩) _ _ _ this
variable {sz:Nat} {fr:Nat→AV} {up own own':List AObj} {dfs:List Nat} {rnd:Option Nat} {Q:St→Prop} {rest:List Oper} {s:Nat} {ty:TypeId} {pos:String} {aft:Array Edge}
theorem R.indexAddrSl {t e:TypeId} {x i:Operand} {o k n c:Nat} {q:IntKind} {z:Int} (m:Nat) (ht:P.underlying t=some (.slice e)) (hsz:∀w,(Go.sizeOf e).run P w=.ok k w) (hm:m<n) (hr:ARun P d ops rest ⟨sz,A4 s (.ptr o (m*k)) fr,up,own,dfs,rnd⟩ Q)
  (hx:Bw fr x=.sl o k n c:=by exact sL0) (hi:Bw fr i=.v (.int q z):=by exact sL0) (hz:z=(m:Int):=by first|rfl|omega) (hs:Nat.blt s sz=true:=by rfl):
  ARun P d ops (⟨some s,.indexAddr t x i,ty,pos,aft,none⟩::rest) ⟨sz,fr,up,own,dfs,rnd⟩ Q:=
 O6 rfl rfl hs (OpV.indexAddrSl ht hsz hm hx (by subst hz;exact hi)) hr
theorem R.buildObj0 {t e:TypeId} {k n:Nat} (ht:P.underlying t=some (.slice e)) (hsz:∀w,(Go.sizeOf e).run P w=.ok k w) (hr:ARun P d ops rest ⟨sz,A4 s (.sl (oid up.length n) k 0 0) fr,up,own',dfs,rnd⟩ Q)
  (hn:own.length=n:=by rfl) (ho:own++[.cells e []]=own':=by rfl) (hs:Nat.blt s sz=true:=by rfl):
  ARun P d ops (⟨some s,.buildSlice t 0 #[],ty,pos,aft,none⟩::rest) ⟨sz,fr,up,own,dfs,rnd⟩ Q:=by
 subst ho
 exact pv rfl (AOp.buildObj0 (st:=⟨sz,fr,up,own,dfs,rnd⟩) ht hsz hn (by simpa using hs)) hr
theorem R.appendObj {t e:TypeId} {i:TypeInfo} {z:Value} {k o n:Nat} {xr x:Operand} {o2:Bool} {y:AV} {ys:List AV} (hu:P.underlying t=some (.slice e)) (hi:P.info? e=some i) (hne:ys≠[]) (hl:ys.length*i.bytes≤140737488355328) (hl2:ys.length≤4611686018427387904)
  (hr:∀c,ys.length≤c→ARun P d ops rest ⟨sz,A4 s (.sl (oid up.length n) k ys.length c) fr,up,own++[.cells e (Jc ys++List.replicate ((c-ys.length)*k) .any)],dfs,rnd⟩ Q)
  (hz:i.zero=some z:=by rfl) (hsz:i.size=k:=by rfl) (hzk:z.cells.size=k:=by rfl) (hk:0<k:=by decide) (hb:Bw fr xr=.sl o k 0 0:=by exact sL0)
  (hx:Bw fr x=y:=by exact sL0) (hx':ew y o2 k ys:=by first|exact .inl rfl|exact .inr ⟨rfl,rfl⟩) (hn:own.length=n:=by rfl) (hs:Nat.blt s sz=true:=by rfl):
  ARun P d ops (⟨some s,.call ⟨.builtin .append,#[xr,x],#[t,t]⟩,ty,pos,aft,none⟩::rest) ⟨sz,fr,up,own,dfs,rnd⟩ Q:=by
 subst hx
 refine jl rfl (AOp.appendObj (st:=⟨sz,fr,up,own,dfs,rnd⟩) hu hi hz hsz rfl hzk hk hb hx' hne hn (by simpa using hs) hl hl2) (fun s' hs'=>?_)
 obtain ⟨c,hc,rfl⟩:=hs'
 exact hr c hc
/-- The elements of the slice in slot r, over object i of ours, are written no more. -/
theorem R.freeze {l:List Oper} (r i:Nat) {k n c:Nat} {t:TypeId} {cs:List AV} (xs:List AV) (hnc:n≤c) (hn:n=xs.length) (hcs:cs.take (n*k)=Jc xs) (hk:∀x∈xs,x.cells.length=k) (h1:∀x∈xs,∀y∈x.cells,y.one=true) (hst:∀x∈xs,∀y∈x.cells,y.strip=y)
  (hr:ARun P d ops l ⟨sz,A4 r (.slice false k xs) fr,up,own',dfs,rnd⟩ Q) (hf:fr r=.sl (oid up.length i) k n c:=by exact sL0) (ho:own[i]? = some (.cells t cs):=by rfl) (hset:own.set i .gone=own':=by rfl):
  ARun P d ops l ⟨sz,fr,up,own,dfs,rnd⟩ Q:=by
 subst hset
 subst hn
 exact ARun.turnSt (fun G a w h=>h.freeze (st:=⟨sz,fr,up,own,dfs,rnd⟩) hf ho hnc hcs hk h1 hst) rfl rfl rfl hr
end
end Go.SX
namespace Go.SX
variable [GI:GlobInv]
open Classical
variable {P:Program} {d:Nat} {l0:List Oper} {kd:Nat} {ops:Array Oper} {rest:List Oper} {sz:Nat} {fr:Nat→AV} {up own:List AObj} {dfs:List Nat} {rnd:Option Nat} {Q:St→Prop} {s:Nat} {ty:TypeId} {pos:String} {aft:Array Edge} {E:List Oper→(Nat→AV)→Prop}
theorem R.nilTmp {l:List Oper} (s k:Nat) (o:Bool) (hr:ARun P d ops l ⟨sz,A4 s (.slice o k []) fr,up,own,dfs,rnd⟩ Q) (h:fr s=.nil:=by exact sL0):
  ARun P d ops l ⟨sz,fr,up,own,dfs,rnd⟩ Q:=
 ARun.le (st':=⟨sz,A4 s (.slice o k []) fr,up,own,dfs,rnd⟩) (Tt (s:=⟨sz,fr,up,own,dfs,rnd⟩) fun i=>by
  show Le (fr i) (A4 s (.slice o k []) fr i)
  unfold A4
  by_cases hi:i=s
  ·subst hi;rw [if_pos rfl,h];exact .nil _ _
  rw [if_neg hi];exact .refl _) hr
/-! A slice without room behind its end: whoever appends to it gets a new one. -/
theorem gw (k:Nat) (xs:List AV):(AV.full k xs).strip=.full k xs:=rfl
theorem gx (k:Nat) (xs:List AV):(AV.full k xs).cells=[.full k xs]:=rfl
theorem rn (k:Nat) (xs:List AV):(AV.full k xs).one=true:=rfl
attribute [go_sem] gw gx rn
section
variable {KP:List PanicEntry→St→Prop} {up own:(Nat→Bool)→List AObj} {S:List SegY} {l:List Oper} {T F:List Nat}
/-- The p-th of those that turn the heap: a store into an object of whoever waits. -/
theorem Y.storeUp {t t':TypeId} {p x:Operand} {o off k pn:Nat} {y:AV} {ys cs cs':List AV} (hsz:∀w,(Go.sizeOf t).run P w=.ok k w)
  (hU:∀B:Nat→Bool,B pn=false→(up B)[o]? = some (.cells t' cs)∧up (upd B pn)=(up B).set o (.cells t' cs')∧own (upd B pn)=own B∧∀y∈ys,Low (up B).length y)
  (h:ChainY P d l0 sz up own dfs rnd KP E S l fr)
  (hp:Bw fr p=.ptr o off:=by exact sL0) (hx:Bw fr x=y:=by exact sL0) (hc:y.cells=ys:=by exact sL0) (hk:ys.length=k:=by rfl)
  (h1:ys.all AV.one=true:=by exact sL1) (hfit:off+k≤cs.length:=by exact sL2) (hput:C3 cs off ys=cs':=by exact sL0):
  ChainY P d l0 sz up own dfs rnd KP E (.s [] (some pn) T F::S) (⟨none,.store t p x,ty,pos,aft,none⟩::l) fr:=by
 subst hput
 subst hc
 refine ⟨_,l,[],rfl,⟨rfl,rfl,fun B f _ _ hB hf=>.of ?_⟩,h⟩
 obtain ⟨a1,a2,a3,a4⟩:=hU B (hB pn rfl)
 have e:Bw f p=.ptr o off:=by rw [agr hf (by simp [Op.operands])];exact hp
 have ex:Bw f x=y:=by rw [agr hf (by simp [Op.operands])];exact hx
 refine AOp.eqTo (AOp.storeUp (st:=⟨sz,f,up B,own B,dfs,rnd⟩) hsz e a1 ex hk h1 hfit a4) ?_
 show _=St.mk sz f (up (upd B pn)) (own (upd B pn)) dfs rnd
 rw [a2,a3]
end
end Go.SX
