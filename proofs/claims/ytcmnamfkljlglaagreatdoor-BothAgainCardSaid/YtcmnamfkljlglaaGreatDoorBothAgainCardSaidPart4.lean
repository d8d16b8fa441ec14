/- On the way (part 4). -/
import Derived.Below
import Derived.Test.YtcmnamfkljlglaaGreatDoorProg
import Derived.KernelRfl
import Derived.Shelf.Strconv.Itoa4
import Derived.Shelf.Strings.SplitShaped
import Derived.Shelf.Strings.SlTrimAscii
import Derived.Shelf.Strings.OnBuilder
import Derived.Shelf.Strings.Replace
import Derived.Shelf.Small.Strs
import Derived.Shelf.Strings.Prefix
import Derived.Shelf.Strconv.ErrVarParseInt
import Derived.Shelf.Bits.Mul64
import Derived.Shelf.Strings.Builder1
import Derived.Shelf.Strings.Cut
import Derived.Lib.SplitLaws
import Derived.LaidEql
import Derived.Stop.Asserts
import Derived.RowKitTokens
import Derived.WalkKit
import Derived.Lib.AtoiErrMem
import Derived.Lib.Strings
import Derived.BigCall
import Derived.Lib.ParseIntB
import Derived.Test.YtcmnamfkljlglaaGreatDoorBothAgainCardSaidPart3
set_option linter.all false
namespace Go.SX
variable [GI:GlobInv]
open Classical Go.RowKit
section
variable {P:Program} {g:FuncId} {Hp:List AObj}

/-- What is known of package-level variables, of a world alone. -/
def Fv (w:World):Prop:=∀x∈GI.blocks,∃o,w.heap[x.1]? = some o∧x.2 o

theorem Rc {G:Gh} {w:World} {xs:List Value} {vs:Array Value} (hn:vs.size=(xs.map AV.v).length) (h:∀(i:Nat) (y:AV) (u:Value),(xs.map AV.v)[i]? = some y→vs[i]? = some u→∃l,Rep G w l y u):vs=xs.toArray:=by
 apply Vw
 ·simpa using hn
 intro i h1 h2
 have hi:i<xs.length:=by simpa using h2
 obtain ⟨l,hr⟩:=h i (.v xs[i]) vs[i] (by simp [hi]) (D8 h1)
 have:=Ko hr
 simpa using this

theorem Do {G:Gh} {w w':World} (hT:TagOK G w) (hb:Below w.heap.size w w') {b o:Nat} (h:G.tag b o≠.free):w'.cell? ⟨b,o,none⟩=w.cell? ⟨b,o,none⟩∧w'.frozen? ⟨b,o,none⟩=w.frozen? ⟨b,o,none⟩:=by
 obtain ⟨u,hu⟩:=hT.ex b o h
 have hlt:b<w.heap.size:=World.block_lt_of_cell? _ _ hu
 have:=hb.block b hlt
 exact ⟨F0 this,Ex this⟩

theorem Nw {G:Gh} {w w':World} (hT:TagOK G w) (hb:Below w.heap.size w w'):Turn G w G w':=
 ⟨fun b o h=>⟨h,(Do hT hb (by rw [h];simp)).1⟩,fun _ _ _ h=>h,fun _ _ _ h=>h,Al _,fun _ _=>rfl,hb.os,hb.tape,hb.output,hb.size,Id (fun b hv=>hb.block b hv.1) hb.size (fun _ _ _=>.inl rfl) (fun _ hi=>.inl ⟨hi,rfl⟩)⟩

theorem Uv {G:Gh} {H:List AObj} {w w':World} (hH:HeapRel G H w) (hT:TagOK G w) (hb:Below w.heap.size w w'):HeapRel G H w'∧TagOK G w':=by
 have T:=Nw hT hb
 refine ⟨⟨fun i x hx=>?_,hH.n,hH.inj⟩,⟨fun b o h=>?_,fun b o i h=>?_,fun b o L h=>?_,hT.globKeep T.old⟩⟩
 ·have hi:i<G.n:=by rw [hH.n];exact (A8.1 hx).1
  exact T.objRel hi (hb.block _ (Im hH i hi)) (hH.obj i x hx) (fun b h=>hb.block b h.lt)
 ·rw [(Do hT hb h).1];exact hT.ex b o h
 ·rw [(Do hT hb (by rw [h];simp)).2];exact hT.obj b o i h
 rw [(Do hT hb (by rw [h];simp)).2];exact hT.tail b o L h

/-- A function of plain values that hands back a plain value. -/
theorem AFun.lib {xs:List Value} {r:AV} {v:Value} (hr:∀G w,Rep G w none r v) (h:∀w,Fv w→Calls P g xs.toArray w (fun e w'=>e=.returned v∧Below w.heap.size w w')):AFun P g (xs.map .v) Hp r:=by
 intro d G w vs hn hv hH hT hTop
 have hvs:=Rc hn (fun i y u a b=>⟨_,hv i y u a b⟩)
 subst hvs
 refine (callsIn_wide.2 (h w (fun x hx=>let ⟨_,u,a,b⟩:=hT.glob x hx;⟨u,a,b⟩))).mono ?_
 rintro e w' ⟨rfl,hb⟩
 obtain ⟨h1,h2⟩:=Uv hH hT hb
 exact ⟨v,G,r,Hp,rfl,(hr G w').lift,h1,h2,(Nw hT hb).keep _,rfl,rfl,rfl⟩


/-- A function of plain values that hands back a new slice of plain values. -/
theorem AFun.libSlice {xs ys:List Value} {t:TypeId} (hone:∀y∈ys,y.oneCell'=true) (h:∀w,Fv w→Calls P g xs.toArray w (fun e w'=>e=.returned (.slice (some ⟨w.heap.size,0,none⟩) ys.length ys.length)∧w'=w.alloc (.cells ys.toArray t))):
  AFun P g (xs.map .v) Hp (.slice false 1 (ys.map .v)):=by
 intro d G w vs hn hv hH hT hTop
 have hvs:=Rc hn (fun i y u a b=>⟨_,hv i y u a b⟩)
 subst hvs
 refine (callsIn_wide.2 (h w (fun x hx=>let ⟨_,u,a,b⟩:=hT.glob x hx;⟨u,a,b⟩))).mono ?_
 rintro e w' ⟨rfl,rfl⟩
 have hst:StRel (d+1) G ⟨0,fun _=>.any,Hp,[],[],none⟩ { tmps:=#[],defers:=[] } w:=
  ⟨rfl,fun s=>.any _ _,by simpa using hH,(by rw [Fo hTop];rfl),(fun o ho=>by simp at ho),Kj,(fun o ho=>by simp at ho),hT,(fun l hl=>by cases hl),Nm hH,N4 hTop⟩
 obtain ⟨G',g1,T,g2⟩:=Lj hst t ys.toArray
 refine ⟨_,G',_,Hp,rfl,?_,by simpa using g1.heap,g1.tags,T.keep _,rfl,rfl,rfl⟩
 refine .slice _ false 1 _ _ _ _ (fun i j=>ys.toArray.getD i undef) rfl (by simp) (Al _) (fun x hx=>?_) (fun x hx y hy=>?_) (fun i x j y hx hy=>?_) (fun i x j y hx hy=>?_) (fun h=>by cases h)
 ·obtain ⟨z,_,rfl⟩:=Ca.1 hx
  rfl
 ·obtain ⟨z,hz,rfl⟩:=Ca.1 hx
  have:y=.v z:=by simpa [AV.cells] using hy
  subst this
  exact hone z hz
 all_goals
  rw [Cc,Cv] at hx
  obtain ⟨z,hz,rfl⟩:=hx
  have hlt:i<ys.length:=(A8.1 hz).1
  have hj:j=0:=by
   match j,hy with
   | 0,_=>rfl
   | j+1,hy=>simp [AV.cells] at hy
  subst hj
 ·refine ⟨by simpa using g2 i (by simpa using hlt),?_⟩
  rw [World.cell?_alloc_new]
  simp [hlt]
 have:y=.v z:=by simpa [AV.cells] using hy.symm
 subst this
 have e:ys.toArray.getD i undef=z:=by
  have:=A9 hlt
  rw [this] at hz
  injection hz with hz
  simp [hlt,hz]
 rw [e]
 exact .v _ _
/-- A function that hands back a plain value and, behind an interface value, a new record of plain values. -/
theorem AFun.libErr {xs cs:List Value} {n:Value} {T te:TypeId} (hone:∀y∈cs,y.oneCell'=true) (h:∀w,Fv w→Calls P g xs.toArray w (fun e w'=>∃N,e=.returned (.tuple #[n,.iface T (.pointer (some ⟨N,0,none⟩))])∧w.heap.size≤N∧w'.heap[N]? = some (.cells cs.toArray te (0,0))∧Below w.heap.size w w')):
  AFun P g (xs.map .v) Hp (.tup [.v n,.iface T (.ro (cs.map .v))]):=by
 intro d G w vs hn hv hH hT hTop
 have hvs:=Rc hn (fun i y u a b=>⟨_,hv i y u a b⟩)
 subst hvs
 refine (callsIn_wide.2 (h w (fun x hx=>let ⟨_,u,a,b⟩:=hT.glob x hx;⟨u,a,b⟩))).mono ?_
 rintro e w' ⟨N,rfl,hN,hcell,hb⟩
 have hfree:∀o,G.tag N o=.free:=fun o=>Fd hT _ o hN
 let G':Gh:={ G with tag:=fun b o=>if b=N∧o<cs.length then .fix else G.tag b o }
 have hne:∀b o,G.tag b o≠.free→¬(b=N∧o<cs.length):=fun b o hb hc=>by rw [hc.1] at hb;exact hb (hfree o)
 have hnew:∀o,o<cs.length→w'.cell? ⟨N,o,none⟩=cs[o]? := fun o ho=>by simp [World.cell?,hcell,ho]
 have T1:Turn G w G' w':=by
  refine ⟨fun b o h=>⟨?_,(Do hT hb (by rw [h];simp)).1⟩,fun b o L h=>?_,fun b o i h=>?_,Al _,fun _ _=>rfl,hb.os,hb.tape,hb.output,hb.size,
   Id (fun b hv=>hb.block b hv.1) hb.size (fun b o hlt=>.inl ?_) (fun _ hi=>.inl ⟨hi,rfl⟩)⟩
  ·simp only [G'];rw [if_neg (hne b o (by rw [h];simp))];exact h
  ·simp only [G'];rw [if_neg (hne b o (by rw [h];simp))];exact h
  ·simp only [G'];rw [if_neg (hne b o (by rw [h];simp))];exact h
  simp only [G'];rw [if_neg (by omega)]
 have hH':HeapRel G' Hp w':=⟨fun i x hx=>by
  have hi:i<G.n:=by rw [hH.n];exact (A8.1 hx).1
  exact T1.objRel hi (hb.block _ (Im hH i hi)) (hH.obj i x hx) (fun b h=>hb.block b h.lt),hH.n,hH.inj⟩
 have hT':TagOK G' w':=by
  refine ⟨fun b o h=>?_,fun b o i h=>?_,fun b o L h=>?_,hT.globKeep T1.old⟩
  ·simp only [G'] at h
   split at h
   ·rename_i hc;obtain ⟨rfl,ho⟩:=hc;exact ⟨_,(hnew o ho).trans (A9 ho)⟩
   rw [(Do hT hb h).1];exact hT.ex b o h
  ·simp only [G'] at h
   split at h
   ·cases h
   rw [(Do hT hb (by rw [h];simp)).2];exact hT.obj b o i h
  simp only [G'] at h
  split at h
  ·cases h
  rw [(Do hT hb (by rw [h];simp)).2];exact hT.tail b o L h
 refine ⟨_,G',_,Hp,rfl,?_,hH',hT',T1.keep _,rfl,rfl,rfl⟩
 refine .tup _ _ _ rfl (fun i y u hy hu=>?_)
 match i with
 | 0=>simp at hy hu;subst hy;subst hu;exact .v _ _
 | 1 =>
  simp at hy hu;subst hy;subst hu
  refine .iface _ _ _ _ (.ro _ _ ⟨N,0,none⟩ (fun j=>cs.getD j undef) rfl (fun y hy=>?_) (fun j y hy=>?_) (fun j y hy=>?_))
  ·obtain ⟨z,hz,rfl⟩:=Ca.1 hy
   exact hone z hz
  all_goals
   rw [Cc,Cv] at hy
   obtain ⟨z,hz,rfl⟩:=hy
   have hlt:j<cs.length:=(A8.1 hz).1
   have e:cs.getD j undef=z:=by rw [D9,hz];rfl
  ·refine ⟨by simp [G',hlt],?_⟩
   rw [C4,hnew j hlt,hz,e]
  rw [e];exact .v _ _
 | i+2=>simp at hy
theorem TagOK.globIn {G:Gh} {w:World} (h:TagOK G w):Fv w:=fun x hx=>(h.glob x hx).2
/-- A package-level variable of which something is known. -/
theorem R.loadGlob {d:Nat} {ops:Array Oper} {rest:List Oper} {sz:Nat} {fr:Nat→AV} {up own:List AObj} {dfs:List Nat} {rnd:Option Nat} {Q:St→Prop} {s:Nat} {ty:TypeId} {pos:String} {aft:Array Edge} {t:TypeId} {gl:Nat} {v:Value}
  (hagg:∀w,(isAgg t).run P w=.ok false w) (hv:∀w,Fv w→w.cell? ⟨gl,0,none⟩=some v) (hr:ARun P d ops rest ⟨sz,A6 s (.v v) fr,up,own,dfs,rnd⟩ Q) (hs:Nat.blt s sz=true:=by rfl):
  ARun P d ops (⟨some s,.load t (.global gl),ty,pos,aft,none⟩::rest) ⟨sz,fr,up,own,dfs,rnd⟩ Q:=by
 refine ARun.v rfl rfl (by simpa using hs) (B6 (by intro c h;cases h) fun G a w h=>⟨v,?_,.v _ _⟩) hr
 have hc:=hv w h.tags.globIn
 have e:a.eval (.global gl)=.pointer (some ⟨gl,0,none⟩):=rfl
 simp [execOp,e,Instr.loadAt,Instr.sureAddr,loadVar,hagg,hc]
end
end Go.SX
namespace Go.SX
def Jk:=@AFun.lib
end Go.SX
namespace Go.SX.Nb
open Go Go.SX Go.Proofs
set_option maxRecDepth 4000

/-- Where strconv.ErrRange points. -/
class ErrAt where
 b:Addr
 bd:Nat:=0
 bl:List Deferred:=[]
/-- The package-level variables of which something is known: bytealg.MaxLen is a number; strconv.ErrRange is an error of errors.New's make; the table of powers of ten. -/
def Pt [E:ErrAt]:List (Nat×(Obj→Prop)):=[(0,fun o=>∃m t f,o=.cells #[.int .i64 m] t f),(3,fun o=>∃t f,o=.cells #[.iface 260 (.pointer (some E.b))] t f),(4,fun o=>∃t f,o=.cells (Lib.pow10Tab.map fun z=>Value.int .u64 z).toArray t f)]
instance globInv [E:ErrAt]:GlobInv:={ blocks:=Pt,bd:=E.bd,bl:=E.bl }
variable [ErrAt]

abbrev Str:=List UInt8
structure Col where
 name:Str
 kind:Int
 deriving DecidableEq
structure Val where
 kind:Int
 n:Int
 s:Str
 deriving DecidableEq
structure Row where
 key:Int
 l:List Val
 deriving DecidableEq
abbrev Am (s:Str):AV:=.v (sv s)
abbrev A3 (n:Int):AV:=.v (.int .i64 n)
abbrev Uw (n:Int):AV:=.v (.int .u64 n)
abbrev Ag (b:Bool):AV:=.v (.bool b)
abbrev Co (c:Col):AV:=.agg [.v (sv c.name),.v (.int .i64 c.kind)]
abbrev Ad (c:List Col):AV:=.slice false 2 (c.map Co)
abbrev Av (v:Val):AV:=.agg [.v (.int .i64 v.kind),.v (.int .i64 v.n),.v (sv v.s)]
abbrev Aw (l:List Val):AV:=.slice false 3 (l.map Av)
abbrev Ec (l:List Str):AV:=.slice false 1 (l.map Am)
theorem As {α β:Type} {f:α→β} {l:List α} {i:Nat} (h:i<l.length):(l.map f)[i]? = some (f l[i]):=by simp [h]
theorem Aq:Tryz.prog.follows .mixedOrders=true:=by kernel_rfl
theorem Sj:Tryz.prog.eqGuardType Tryz.prog.depth 44=false:=by kernel_rfl
theorem Gf (k n k' n':Int) (s s':List UInt8) (w:World):(Op.equal 44 (.agg #[.int .i64 k,.int .i64 n,.string ⟨s.toArray⟩]) (.agg #[.int .i64 k',.int .i64 n',.string ⟨s'.toArray⟩])).run Tryz.prog w=.ok (k==k'&&n==n'&&s==s') w:=by
 have h1:Tryz.prog.stoodInHeld 44=false:=by kernel_rfl
 show (Op.equalIn (9999+1) _ _ _).run _ _=_
 rw [Op.equalIn]
 generalize hd:(9999:Nat)=d
 obtain ⟨d,rfl⟩:∃e,d=e+1:=⟨9998,hd.symm⟩
 clear hd
 simp [run_underlying Tryz.underlying44,h1,part,ij _ _ _ _ _ _ Tryz.underlying3,ij _ _ _ _ _ _ Tryz.underlying2,kq _ _ _ _ _ Tryz.underlying9,Tryz.isAgg3,Tryz.isAgg2,Tryz.isAgg9]
 by_cases e1:k=k'<;>by_cases e2:n=n'<;>by_cases e3:s=s'<;>simp [e1,e2,e3]
end Go.SX.Nb
namespace Go.Proofs
open Go Go.Shelf
theorem ly {p:Prop} (h:p:=by repeat' first|kernel_rfl|(intro w;kernel_rfl)|constructor):p:=h
def Tryz.ren144:Ren where
 f:=fun x=>match x with|144=>143|143=>147|219=>158|217=>174|225=>175|224=>176|267=>177|266=>189|314=>190|n=>n
 t:=fun x=>match x with|9=>9|4=>4|3=>3|5=>5|46=>106|146=>204|51=>203|n=>n
 g:=fun x=>match x with|1=>0|n=>n
theorem Tryz.lays144:Lays.n144 Tryz.prog Tryz.ren144:=ly
def Tryz.ren145:Ren where
 f:=fun x=>match x with|145=>144|220=>154|219=>158|217=>174|225=>175|224=>176|267=>177|266=>189|314=>190|n=>n
 t:=fun x=>match x with|9=>9|4=>4|59=>160|3=>3|5=>5|46=>106|146=>204|51=>203|n=>n
 g:=fun x=>match x with|1=>0|n=>n
theorem Tryz.lays145:Lays.n145 Tryz.prog Tryz.ren145:=ly
def Tryz.ren146:Ren where
 f:=fun x=>match x with|146=>103|221=>127|268=>145|138=>146|143=>147|195=>155|197=>156|218=>157|219=>158|260=>173|217=>174|225=>175|224=>176|267=>177|266=>189|314=>190|n=>n
 t:=fun x=>match x with|9=>9|31=>47|3=>3|4=>4|0=>0|105=>169|21=>21|5=>5|46=>106|119=>199|139=>202|138=>201|146=>204|51=>203|n=>n
 g:=fun x=>match x with|1=>0|3=>1|4=>2|n=>n
theorem Tryz.lays146:Lays.n146 Tryz.prog Tryz.ren146:=ly
def Tryz.ren161:Ren where
 f:=fun x=>match x with|161=>151|231=>166|227=>167|233=>168|235=>169|228=>187|197=>156|151=>188|260=>173|152=>204|137=>219|119=>220|224=>176|225=>175|217=>174|266=>189|n=>n
 t:=fun x=>match x with|9=>9|4=>4|3=>3|5=>5|117=>181|116=>180|0=>0|124=>184|105=>169|21=>21|119=>199|46=>106|139=>202|138=>201|n=>n
 g:=fun x=>match x with|3=>1|4=>2|n=>n
theorem Tryz.lays161:Lays.n161 Tryz.prog Tryz.ren161:=ly
def Tryz.ren101:Ren where
 f:=fun x=>match x with|101=>200|208=>211|206=>226|n=>n
 t:=fun x=>match x with|9=>9|4=>4|3=>3|n=>n
 g:=fun x=>x
theorem Tryz.lays101:Lays.n101 Tryz.prog Tryz.ren101:=ly
def Tryz.ren160:Ren where
 f:=fun x=>match x with|160=>201|232=>212|231=>166|227=>167|234=>213|233=>168|236=>214|235=>169|228=>187|271=>227|151=>188|197=>156|120=>238|152=>204|260=>173|137=>219|119=>220|224=>176|225=>175|217=>174|266=>189|n=>n
 t:=fun x=>match x with|9=>9|4=>4|3=>3|5=>5|117=>181|116=>180|0=>0|124=>184|21=>21|105=>169|46=>106|119=>199|139=>202|138=>201|n=>n
 g:=fun x=>match x with|3=>1|4=>2|n=>n
theorem Tryz.lays160:Lays.n160 Tryz.prog Tryz.ren160:=ly
def Tryz.ren174:Ren where
 f:=fun x=>match x with|174=>202|247=>215|245=>216|287=>228|279=>229|280=>230|281=>231|282=>232|321=>239|322=>240|316=>241|171=>243|205=>242|243=>246|246=>210|283=>222|284=>223|285=>224|286=>225|129=>234|317=>233|318=>235|319=>236|320=>237|337=>244|338=>245|n=>n
 t:=fun x=>match x with|9=>9|3=>3|2=>2|75=>211|85=>212|4=>4|167=>232|5=>5|53=>77|175=>233|46=>106|168=>235|37=>41|0=>0|210=>256|21=>21|127=>259|145=>262|143=>260|171=>227|173=>230|212=>250|51=>203|20=>20|213=>251|232=>263|233=>264|80=>265|n=>n
 g:=fun x=>match x with|15=>5|16=>3|17=>4|18=>6|19=>7|n=>n
theorem Tryz.lays174:LaysC.n174 Tryz.prog Tryz.ren174:=ly
def Tryz.ren173:Ren where
 f:=fun x=>match x with|173=>199|246=>210|283=>222|284=>223|285=>224|286=>225|129=>234|317=>233|318=>235|319=>236|320=>237|337=>244|338=>245|n=>n
 t:=fun x=>match x with|2=>2|3=>3|9=>9|4=>4|171=>227|0=>0|53=>77|37=>41|5=>5|173=>230|212=>250|51=>203|20=>20|213=>251|46=>106|232=>263|233=>264|n=>n
 g:=fun x=>match x with|17=>4|18=>6|19=>7|n=>n
theorem Tryz.lays173:LaysM.n173 Tryz.prog Tryz.ren173:=ly
def Tryz.ren264:Ren where
 f:=fun x=>match x with|264=>208|n=>n
 t:=fun x=>match x with|53=>77|46=>106|n=>n
 g:=fun x=>x
theorem Tryz.lays264:Lays.n264 Tryz.prog Tryz.ren264:=ly
def Tryz.ren106:Ren where
 f:=fun x=>match x with|106=>194|213=>207|265=>221|n=>n
 t:=fun x=>match x with|9=>9|3=>3|n=>n
 g:=fun x=>x
theorem Tryz.lays106:Lays.n106 Tryz.prog Tryz.ren106:=ly
end Go.Proofs
namespace Go.SX.Nb
open Go Go.SX Go.Proofs Go.RowKit
variable [ErrAt]
set_option maxRecDepth 4000
theorem Lq {w:World} (h:Fv w):∃m,w.cell? ⟨0,0,none⟩=some (.int .i64 m):=by
 obtain ⟨_,a,m,t,f,rfl⟩:=h (0,fun o=>∃m t f,o=.cells #[.int .i64 m] t f) (by simp [GlobInv.blocks,Pt])
 exact ⟨m,by simp [World.cell?,a]⟩
theorem Mi {w:World} (h:Fv w):w.cell? ⟨3,0,none⟩=some (.iface 260 (.pointer (some ErrAt.b))):=by
 obtain ⟨_,a,t,f,rfl⟩:=h (3,fun o=>∃t f,o=.cells #[.iface 260 (.pointer (some ErrAt.b))] t f) (by simp [GlobInv.blocks,Pt])
 simp [World.cell?,a]
theorem ap {w:World} (h:Fv w):Lib.TabIs Tryz.prog w "internal/strconv.uint64pow10" .u64 Lib.pow10Tab:=by
 obtain ⟨_,a,t,f,rfl⟩:=h (4,fun o=>∃t f,o=.cells (Lib.pow10Tab.map fun z=>Value.int .u64 z).toArray t f) (by simp [GlobInv.blocks,Pt])
 have hg:Tryz.prog.globalNamed "internal/strconv.uint64pow10" = some 4:=by kernel_rfl
 simp only at a
 simp [Lib.TabIs,World.var?,hg,a]
theorem Sk (w:World) (n:Nat):Below w.heap.size w (w.drewN n):=⟨rfl,rfl,rfl,Al _,fun _ _=>rfl⟩
theorem ey (s t:Str) (hs:s.length<4294967281) (Hp:List AObj):AFun Tryz.prog 143 [Am s,Am t] Hp (Ag (Lib.contains s t)):=by
 refine Jk (xs:=[sv s,sv t]) (v:=.bool (Lib.contains s t)) (fun G w=>.v _ _) (fun w hg=>?_)
 obtain ⟨m,hm⟩:=Lq hg
 refine (Any.strings_Contains Tryz.lays144 ⟨s.toArray⟩ ⟨t.toArray⟩ m w (by simpa [ByteArray.size] using hs) hm).mono ?_
 rintro e w' ⟨rfl,rfl⟩
 exact et
theorem nz (s t:Str) (hs:s.length<4294967281) (Hp:List AObj):AFun Tryz.prog 144 [Am s,Am t] Hp (.tup [Am (Lib.cut s t).1,Am (Lib.cut s t).2.1,Ag (Lib.cut s t).2.2]):=by
 refine Jk (xs:=[sv s,sv t]) (v:=.tuple #[sv (Lib.cut s t).1,sv (Lib.cut s t).2.1,.bool (Lib.cut s t).2.2]) (fun G w=>Hg rfl (fun i y u hy hu=>?_)) (fun w hg=>?_)
 ·match i with
  | 0=>simp at hy hu;subst hy;subst hu;exact .v _ _
  | 1=>simp at hy hu;subst hy;subst hu;exact .v _ _
  | 2=>simp at hy hu;subst hy;subst hu;exact .v _ _
  | i+3=>simp at hy
 obtain ⟨m,hm⟩:=Lq hg
 refine (Any.strings_Cut Tryz.lays145 ⟨s.toArray⟩ ⟨t.toArray⟩ m w (by simpa [ByteArray.size] using hs) hm).mono ?_
 rintro e w' ⟨rfl,n,rfl⟩
 exact ⟨rfl,Sk _ _⟩
theorem o0 (s t:Str) (ht:t.length<4294967281) (ha:∀c∈t,c.toNat<128) (Hp:List AObj):AFun Tryz.prog 151 [Am s,Am t] Hp (Am (Lib.trimLeftS s t)):=by
 refine Jk (xs:=[sv s,sv t]) (v:=sv (Lib.trimLeftS s t)) (fun G w=>.v _ _) (fun w hg=>?_)
 refine (Any.strings_TrimLeft_laid Tryz.lays161 (by kernel_rfl) ⟨s.toArray⟩ ⟨t.toArray⟩ w (by simpa [ByteArray.size] using ht) (fun j b hj=>ha b (Ae hj))).mono ?_
 rintro e w' ⟨rfl,hb⟩
 exact ⟨rfl,hb⟩
/-- The pieces of a split. -/
def Jz (s t:Str):List Str:=(Lib.splitB ⟨t.toArray⟩ 0 (Lib.countB ⟨s.toArray⟩ ⟨t.toArray⟩) ⟨s.toArray⟩).map (·.data.toList)
theorem mh (s t:Str) (hs:s.length<4294967281) (ht:1≤t.length) (Hp:List AObj):AFun Tryz.prog 103 [Am s,Am t] Hp (Ec (Jz s t)):=by
 have:=AFun.libSlice (P:=Tryz.prog) (g:=103) (Hp:=Hp) (xs:=[sv s,sv t]) (ys:=(Jz s t).map sv) (t:=9) (by intro y hy;obtain ⟨z,_,rfl⟩:=Ca.1 hy;rfl) (fun w hg=>by
  obtain ⟨m,hm⟩:=Lq hg
  refine (Any.strings_Split Tryz.lays146 (by kernel_rfl) ⟨s.toArray⟩ ⟨t.toArray⟩ m w (by simpa [ByteArray.size] using hs) hm (by simpa [ByteArray.size] using ht)).mono ?_
  rintro e w' ⟨rfl,rfl⟩
  have hl:((Jz s t).map sv).length=Lib.countB ⟨s.toArray⟩ ⟨t.toArray⟩+1:=by
   rw [Ap]
   unfold Jz
   rw [Ap]
   exact Lib.splitB_all _ (by simpa [ByteArray.size] using ht) _ _ _ rfl
  refine ⟨by rw [hl],?_⟩
  unfold Jz
  rw [Lh]
  rfl)
 rw [Lh] at this
 exact this
end Go.SX.Nb
namespace Go.Proofs
open Go Go.RowKit Go.Extern.Stop Go.Stop Go.Extern
theorem Tryz.isTypeOf (v:Value) (w:World):(Extern.ReflectliteType.typeOf #[.iface 260 v]).run Tryz.prog w=.ok (.iface 239 (.agg #[.pointer (some ⟨8,260,none⟩)])) w:=by kernel_rfl
def Tryz.cmpOf:Array Value→Sem Value:=Extern.ReflectliteType.method fun t=>do Extern.Rtype.noPackHeld "Comparable" t;pure (.bool (←typeInfo t).comparable)
theorem Tryz.isComparable (w:World):(Tryz.cmpOf #[.agg #[.pointer (some ⟨8,260,none⟩)]]).run Tryz.prog w=.ok (.bool true) w:=by kernel_rfl
theorem Tryz.isMethodComparable (v:Value) (w:World):(Go.method 397 239 v "Comparable").run Tryz.prog w=.ok (268,v) w:=by kernel_rfl
theorem Tryz.isComp:(Tryz.prog.info? 260).map (·.comparable)=some true:=by kernel_rfl
theorem Tryz.isSize:(Tryz.prog.info? 262).map (·.size)=some 1:=by kernel_rfl
theorem Tryz.noIsW (v:Value) (xT:TypeId) (w:World):(Instr.typeAssert (.iface 235 v) xT 241 true).run Tryz.prog w=.ok (.tuple #[.nilIface,.bool false]) w:=run_typeAssert_lacksB Tryz.underlying241 (by kernel_rfl) (by kernel_rfl) v xT w
theorem Tryz.hasUnwrapW (v:Value) (xT:TypeId) (w:World):(Instr.typeAssert (.iface 235 v) xT 244 true).run Tryz.prog w=.ok (.tuple #[.iface 235 v,.bool true]) w:=run_typeAssert_hasB Tryz.underlying244 (by kernel_rfl) v xT w
theorem Tryz.methodUnwrap (v:Value) (w:World):(Go.method 397 235 v "Unwrap").run Tryz.prog w=.ok (264,v) w:=by kernel_rfl
namespace Tryz
theorem is_nil (b:Addr) (w:World):
  Calls Tryz.prog 203 #[.nilIface,.iface 260 (.pointer (some b))] w fun e w'=>e=.returned (.bool false)∧w'=w:=by
 have hn:=run_eql_iface_nil_left (P:=Tryz.prog) w 260 (.pointer (some b)) Tryz.underlying211
 go_enter Tryz.func203,Tryz.ntmps203
 go_wp2
 go_ret
 exact ⟨rfl,rfl⟩
set_option maxRecDepth 100000 in
theorem is_range (pb po:Nat) (b:Addr) (w:World) (h1:w.cell? ⟨pb,po+2,none⟩=some (.iface 260 (.pointer (some b)))):
  Calls Tryz.prog 203 #[.iface 235 (.pointer (some ⟨pb,po,none⟩)),.iface 260 (.pointer (some b))] w fun e w'=>e=.returned (.bool true)∧w'=w:=by
 obtain ⟨i,hi,hcmp⟩:=Option.map_eq_some_iff.1 Tryz.isComp
 obtain ⟨j,hj,hjs⟩:=Option.map_eq_some_iff.1 Tryz.isSize
 have h8:=@run_callFunc_extern Tryz.prog 217 _ Extern.ReflectliteType.typeOf Tryz.func217 (by kernel_rfl) (by kernel_rfl) (by kernel_rfl) (by kernel_rfl)
 have h32:=@run_callFunc_extern Tryz.prog 268 _ Tryz.cmpOf Tryz.func268 (by kernel_rfl) (by kernel_rfl) (by kernel_rfl) (by kernel_rfl)
 have tT:=Tryz.isTypeOf
 have cT:=Tryz.isComparable
 have mR:=Tryz.isMethodComparable
 have nW:=Tryz.noIsW
 have uW:=Tryz.hasUnwrapW
 have mU:=Tryz.methodUnwrap
 have heq:=run_eql_iface_ptr_same (P:=Tryz.prog) w b Tryz.underlying211 Tryz.underlying260 hi hcmp hj
 have hty:=run_eql_iface_types (P:=Tryz.prog) 235 260 (.pointer (some ⟨pb,po,none⟩)) (.pointer (some b)) Tryz.underlying211 (by decide) w
 go_enter Tryz.func203,Tryz.ntmps203
 go_wp2
 refine wp_loop_rounds 2 ?_
 rw [rounds_succ]
 go_wp2
 rw [rounds_succ]
 go_wp2
 go_ret
 exact ⟨rfl,rfl⟩
end Tryz
end Go.Proofs
namespace Go.SX.Nb
open Go Go.SX Go.Proofs Go.RowKit Go.Sort
variable [ErrAt]
set_option maxRecDepth 4000
theorem Ux (w:World) (k:Nat) (os:Array Obj):Below w.heap.size w (grow (w.drewN k) os):=by
 refine ⟨rfl,rfl,rfl,by simp [grow],fun b hb=>?_⟩
 show ((w.drewN k).heap++os)[b]? = w.heap[b]?
 rw [I6 (by exact hb)]
 rfl
theorem o4 (n:Int) (h0 : -9223372036854775808≤n) (h1:n≤9223372036854775807) (Hp:List AObj):AFun Tryz.prog 199 [.v (.int .i64 n),A3 10] Hp (Am (Lib.itoa n)):=by
 refine Jk (xs:=[.int .i64 n,.int .i64 10]) (v:=sv (Lib.itoa n)) (fun G w=>.v _ _) (fun w hg=>?_)
 refine (Any.strconv_FormatInt_10 Tryz.lays173 n h0 h1 w (ap hg)).mono ?_
 rintro e w' ⟨rfl,k,os,rfl⟩
 exact ⟨rfl,Ux _ _ _⟩
end Go.SX.Nb
namespace Go.SX.Nb
open Go Go.SX Go.Proofs Go.RowKit
variable [ErrAt]
set_option maxRecDepth 4000
def digs:Str:=[48,49,50,51,52,53,54,55,56,57]
def Nx (s:Str):Str:=Lib.trimPrefix s [45]
def Hn (s:Str):Bool:=(Nx s==[]) || !(Lib.trimS (Nx s) digs==[]) || (((Nx s).headD 0==48)&&decide (1<s.length))
def Cq (s:Str):Int×Int:=if Hn s then (0,6) else match Lib.parseIntB 64 s with|.ok v=>(v,0)|.range=>(0,4)|_=>(0,0)
def f5 {α:Type}:Lib.NumEnd α→Bool|.ok _=>false|.range=>false|_=>true
theorem aq {p:UInt8→Bool}:∀{l:Str},l.dropWhile p=[]↔∀b∈l,p b=true
 | []=>by simp
 | b::r=>by
  rw [Tx]
  by_cases h:p b=true
  ·rw [if_pos h,aq]
   simp [h]
  rw [if_neg h]
  simp [h]
theorem ar {p:UInt8→Bool}:∀{l:Str} {b:UInt8},b∈l→p b=false→b∈l.dropWhile p
 | x::r,b,h,hb=>by
  rw [Tx]
  by_cases hx:p x=true
  ·rw [if_pos hx]
   rcases Cd.1 h with rfl|h
   ·rw [hb] at hx;cases hx
   exact ar h hb
  rw [if_neg hx];exact h
theorem Xt {l cs:Str}:Lib.trimS l cs=[]↔∀b∈l,cs.contains b=true:=by
 unfold Lib.trimS Lib.trimLeftS Lib.trimRightS
 rw [aq]
 constructor
 ·intro h b hb
  cases hc:cs.contains b with
  | true=>rfl
  | false =>
   have:=h b (N0.2 (ar (p:=(cs.contains ·)) (N0.2 hb) hc))
   rw [hc] at this;exact this
 intro h b hb
 exact h b (N0.1 ((Ty (cs.contains ·)).subset (N0.1 hb)))
theorem Jl (c:UInt8):digs.contains c=(decide (48≤c.toNat)&&decide (c.toNat≤57)):=by
 have h:((List.range 256).all fun n=>digs.contains (UInt8.ofNat n)==(decide (48≤(UInt8.ofNat n).toNat)&&decide ((UInt8.ofNat n).toNat≤57)))=true:=by kernel_rfl
 have:=Ax.1 h c.toNat (Kh.2 c.toNat_lt)
 simpa using this
theorem Pu (M:Nat):∀(l:Str) (acc:Nat),(∀b∈l,digs.contains b=true)→f5 (Lib.parseUintM M acc l)=false
 | [],acc,_=>by rw [Lib.parseUintM];rfl
 | c::r,acc,h=>by
  have hc:=h c (by simp)
  rw [Jl] at hc
  simp only [Ah,decide_eq_true_eq] at hc
  rw [Lib.parseUintM,if_pos hc]
  split
  ·rfl
  split
  ·rfl
  exact Pu M r _ (fun b hb=>h b (by simp [hb]))
theorem Sl (s:Str):(s.head? ≠ some 45∧Nx s=s)∨∃r,s=45::r∧Nx s=r:=by
 unfold Nx Lib.trimPrefix Lib.hasPrefix
 cases s with
 | nil=>exact .inl ⟨by simp,rfl⟩
 | cons c r =>
  by_cases hc:c=45
  ·subst hc;exact .inr ⟨r,rfl,by simp [List.isPrefixOf]⟩
  refine .inl ⟨by simpa using hc,?_⟩
  rw [if_neg]
  simp [List.isPrefixOf,Ne.symm hc]
theorem Ir {s:Str} (h:Hn s=false):f5 (Lib.parseIntB 64 s)=false:=by
 unfold Hn at h
 simp only [D0,Nd,beq_iff_eq,beq_eq_false_iff_ne] at h
 obtain ⟨⟨h1,h2⟩,_⟩:=h
 rw [Xt] at h2
 have key:∀l:Str,l≠[]→(∀b∈l,digs.contains b=true)→f5 (Lib.parseUintB 64 l)=false:=fun l hl ha=>by
  unfold Lib.parseUintB
  rw [if_neg hl]
  exact Pu _ l 0 ha
 rcases Sl s with ⟨h3,h4⟩|⟨r,rfl,h4⟩
 ·rw [h4] at h1 h2
  cases s with
  | nil=>exact absurd rfl h1
  | cons c r =>
   have hcd:=h2 c (by simp)
   rw [Jl] at hcd
   simp only [Ah,decide_eq_true_eq] at hcd
   have e1:¬(c.toNat=43∨c.toNat=45):=by omega
   have:=key (c::r) (by simp) h2
   simp only [Lib.parseIntB,if_neg e1]
   revert this
   cases Lib.parseUintB 64 (c::r) with
   | range=>intro _;rfl
   | ok u=>intro _;simp only;split<;>(try split)<;>rfl
   | _=>intro h;cases h
 rw [h4] at h1 h2
 have:=key r h1 h2
 have e1:((45:UInt8).toNat=43∨(45:UInt8).toNat=45):=.inr rfl
 simp only [Lib.parseIntB,if_pos e1]
 revert this
 cases Lib.parseUintB 64 r with
 | range=>intro _;rfl
 | ok u=>intro _;simp only;split<;>(try split)<;>rfl
 | _=>intro h;cases h
end Go.SX.Nb
namespace Go.SX.Nb
open Go Go.SX Go.Proofs
variable [ErrAt]
set_option maxRecDepth 4000
def Ho (c:UInt8):Bool:=decide ((97:Int)≤c.toNat)&&decide ((c.toNat:Int)≤122)
def jd (c:UInt8):Bool:=decide ((48:Int)≤c.toNat)&&decide ((c.toNat:Int)≤57)
def words:List Str:=[[97,100,100],[100,114,111,112],[114,101,110,97,109,101],[115,112,108,105,116],[109,101,114,103,101],[114,101,116,121,112,101],[105,110,116,111],[116,111],[98,97,99,107],[97,110,100],[111,114],[110,111,116],[116,114,117,101],[102,97,108,115,101],[110,117,108,108],[105,110,116],[116,101,120,116],[98,111,111,108],[115,101,108,101,99,116],[119,104,101,114,101],[102,114,111,109],[108,105,109,105,116]]
def Lr (s:Str):Bool:=words.any (·==s)
theorem je {α:Type} {p:α→Bool} {l:List α} {i:Nat} (h:i<l.length) (hp:p l[i]=true):l.any p=true:=by
 rw [Gl];exact ⟨l[i],Bc h,hp⟩
theorem au {α:Type} {p:α→Bool} {l:List α} (h:∀(j:Nat) (y:α),l[j]? = some y→p y=false):l.any p=false:=by
 rw [Fl]
 intro x hx
 obtain ⟨j,hj⟩:=C3 hx
 simp [h j x hj]
theorem Ce {α:Type} {l:List α} {x:Nat} {p:α→Prop} (hlt:x<l.length) (h:∀(j:Nat) (y:α),j<x→l[j]? = some y→p y) (hx:p l[x]):∀(j:Nat) (y:α),j<x+1→l[j]? = some y→p y:=by
 intro j y hj hy
 rcases B3 j x with h'|h'
 ·exact h j y h' hy
 have:j=x:=by omega
 subst this
 rw [A9 hlt] at hy
 injection hy with hy
 subst hy
 exact hx
theorem Ku {α:Type} {l:List α} {x:Nat} {p:α→Prop} (hge:l.length≤x) (h:∀(j:Nat) (y:α),j<x→l[j]? = some y→p y):∀(j:Nat) (y:α),l[j]? = some y→p y:=
 fun j y hy=>h j y (by have:=(A8.1 hy).1;omega) hy
def Ny (c:UInt8):Bool:=Ho c || jd c || c==95
def Mj (s:Str):Bool:=match s with
 | []=>false
 | c::_=>decide (s.length≤16)&&Ho c && !Lr s&&s.all Ny
theorem Xu {s:Str} (h:s≠[]):s[0]? = some (s.headD 0):=by cases s with
 | nil=>exact absurd rfl h
 | cons c r=>rfl
def B7 (nm:Str) (c:List Col):Int:=match c.findIdx? (fun y=>y.name==nm) with|some i=>i|none => -1
theorem av {nm:List UInt8} {c:List Col} {x:Nat} (h:x<c.length) (h1:c[x].name=nm) (h2:∀(j:Nat) (y:Col),j<x→c[j]? = some y→¬(y.name=nm)):B7 nm c=x:=by
 have:c.findIdx? (fun y=>y.name==nm)=some x:=by
  rw [Jr]
  exact ⟨h,by simpa using h1,fun j hj=>by simpa using h2 j c[j] hj (A9 _)⟩
 simp [B7,this]
theorem Uy {nm:List UInt8} {c:List Col} (h:∀(j:Nat) (y:Col),c[j]? = some y→¬(y.name=nm)):B7 nm c = -1:=by
 have:c.findIdx? (fun y=>y.name==nm)=none:=by
  rw [Nf]
  intro y hy
  obtain ⟨j,hj⟩:=C3 hy
  simpa using h j y hj
 simp [B7,this]
structure OkCols (c:List Col):Prop where
 len:c.length≤1048576
 names:∀y∈c,y.name.length≤1048576
def il (c:List Col) (x:Nat) (y:Col):Bool := !(((!Mj y.name || decide (y.kind<1)) || decide ((3:Int)<y.kind)) || (B7 y.name c != (x:Int)))
def Hz (c:List Col):Bool:=c.zipIdx.all fun x=>il c x.2 x.1
theorem Fw {α:Type} {l:List α} {x:Nat} {p:Nat→α→Prop} (hlt:x<l.length) (h:∀(j:Nat) (y:α),j<x→l[j]? = some y→p j y) (hx:p x l[x]):∀(j:Nat) (y:α),j<x+1→l[j]? = some y→p j y:=by
 intro j y hj hy
 rcases B3 j x with h'|h'
 ·exact h j y h' hy
 have:j=x:=by omega
 subst this
 rw [A9 hlt] at hy
 injection hy with hy
 subst hy
 exact hx
theorem Gz {α:Type} {l:List α} {x:Nat} {p:Nat→α→Prop} (hge:l.length≤x) (h:∀(j:Nat) (y:α),j<x→l[j]? = some y→p j y):∀(j:Nat) (y:α),l[j]? = some y→p j y:=
 fun j y hy=>h j y (by have:=(A8.1 hy).1;omega) hy
def D3 (c:List Col):Bool:=decide ((c.length:Int)≤12)&&Hz c
def Cn (v:Val):Bool:=if v.kind==0 then v.n==0&&v.s==[] else if v.kind==1 then v.s==[] else if v.kind==2 then v.n==0&&decide ((v.s.length:Int)≤200) else v.kind==3&&v.s==[]&&decide (0≤v.n)&&decide (v.n≤1)
theorem jf (e:Bool) (n:Int):(e&&(n==0 || n==1))=(e&&decide (0≤n)&&decide (n≤1)):=by
 cases e
 ·rfl
 rw [Nc]
 simp
 omega
theorem c51 (v:Val) (Hp:List AObj):AFun Tryz.prog 51 [Av v] Hp (Ag (Cn v)):=by
 refine Ac [.tmp 2] [0] Tryz.func51 Tryz.ntmps51 (fun d=>?_)
 refine Xn ?_;refine A2 ?_;refine A0 [1] ?_;refine Z28 ?_;refine A0 [1,4] ?_;refine Z96 ?_;refine A0 [1,4,5] ?_
 refine A1 (fun ht5=>?_) (fun ht5=>?_)
 ·refine lv ?_
  refine A2 (h:=Nq Sj (Gf v.kind v.n 0 0 v.s [])) (hr:=?_)
  refine A2 ?_;refine Z4 ?_;refine Z5 ?_;exact A5 (Aa A4) ⟨by simp [Cn,ht5],rfl⟩
 refine Z3 ?_;refine A0 [1,4,10] ?_
 refine A1 (fun ht10=>?_) (fun ht10=>?_)
 ·refine Z31 ?_;refine Z4 ?_;refine Z5 ?_;exact A5 (Aa A4) ⟨by simp [Cn,ht5,ht10],rfl⟩
 refine Z3 ?_;refine A0 [1,4,15] ?_
 refine A1 (fun ht15=>?_) (fun ht15=>?_)
 ·refine Z31 ?_;refine Z42 ?_;refine Up ?_;exact A5 (Aa A4) ⟨by simp [Cn,ht5,ht10,ht15],rfl⟩
 refine Z3 ?_;refine A0 [1,26] ?_
 refine A1 (fun ht26=>?_) (fun ht26=>?_)
 ·refine Z31 ?_;refine Z42 ?_;refine Z42 ?_;refine Up ?_;exact A5 (Aa A4) ⟨by simp [Cn,ht5,ht10,ht15,ht26];rw [jf],rfl⟩
 refine Z18 ?_;refine Z51 ?_;exact A5 (Aa A4) ⟨by simp [Cn,ht5,ht10,ht15,ht26],rfl⟩

def Ed (c:List Col):Bool:=decide ((50:Int)<c.length) || c.any fun y=>decide ((100:Int)<y.name.length)
theorem mi {α:Type} [DecidableEq α] {a b:List α} (h:((a.length:Int) != b.length)=true):decide (a=b)=false:=by
 rw [decide_eq_false_iff_not]
 rintro rfl
 simp at h
theorem mj {α:Type} [DecidableEq α] {a b:List α} {x:Nat} (h1:x<a.length) (h2:x<b.length) (h:a[x]≠b[x]):decide (a=b)=false:=by
 rw [decide_eq_false_iff_not]
 rintro rfl
 exact h rfl
theorem ml {α β:Type} {a:List α} {b:List β} (hl:((a.length:Int) != b.length)=false):a.length=b.length:=by simp at hl;omega
theorem im {α:Type} [DecidableEq α] {a b:List α} (hl:((a.length:Int) != b.length)=false) (h:∀(j:Nat) (y:α),a[j]? = some y→b[j]? = some y):decide (a=b)=true:=by
 rw [decide_eq_true_eq]
 have hl':a.length=b.length:=ml hl
 apply Qp fun i=>?_
 cases hi:a[i]? with
 | some y=>exact (h i y hi).symm
 | none=>rw [Ze] at hi;exact (I9 (by omega)).symm
theorem aw {α β γ δ:Type} {a:List α} {b:List β} {f:α→γ} {g:β→δ} (hl:(((a.map f).length:Int) != (b.map g).length)=false):a.length=b.length:=by simp at hl;omega
theorem N7 {a b:Val}:(a.kind==b.kind&&a.n==b.n&&a.s==b.s)=decide (a=b):=by
 rw [Nc]
 cases a;cases b
 simp [and_assoc]
theorem K1 {α:Type} {c:List α} {p:Nat→α→Bool}:(c.zipIdx.all fun x=>p x.2 x.1)=true↔∀(j:Nat) (y:α),c[j]? = some y→p j y=true:=by
 rw [Ax]
 constructor
 ·intro h j y hj
  exact h (y,j) (by rw [Ki];exact hj)
 rintro h ⟨y,j⟩ hx
 rw [Ki] at hx
 exact h j y hx
theorem c93 (y:Col) (nm:Str) (Hp:List AObj):AFun Tryz.prog 93 [Co y,.ro [Am nm]] Hp (Ag (y.name==nm)):=by
 refine Ac [.tmp 3] [0,1] Tryz.func93 Tryz.ntmps93 (fun d=>?_)
 refine Z3 ?_;refine A0 [1,2] ?_;refine Z8 ?_;refine Z1 ?_;refine A0 [3] ?_;refine Ei ?_;exact Xq

theorem c92 (c:List Col) (hc:OkCols c) (nm:Str) (Hp:List AObj):AFun Tryz.prog 92 [Ad c,.fn (.func 93) [] [.ro [Am nm]]] Hp (A3 (B7 nm c)):=by
 refine Ac [.tmp 4] [0,1] Tryz.func92 Tryz.ntmps92 (fun d=>?_)
 refine af ?_
 refine Bz (α:=Nat) (fun x=>⟨19,A6 0 (Ad c) (A6 1 (.fn (.func 93) [] [.ro [Am nm]]) (A6 7 (A3 c.length) (A6 8 (A3 (x:Nat)) (fun _=>.any)))),Hp,[],[],none⟩) (fun x=>x≤c.length∧∀(j:Nat) (y:Col),j<x→c[j]? = some y→¬(y.name=nm)) (fun x=>c.length-x) (0) (by simp) (Bf (by simp)) rfl (fun x hx=>?_)
 refine ac ?_
 refine C5 (fun ht9=>?_) (fun ht9=>?_)
 ·have hlt:x<c.length:=by simpa using ht9
  have hcl:=hc.len
  refine aa ?_;refine Z8 ?_
  refine A2 (h:=Ab (x) (Co c[x]) (fun _=>As hlt)) (hr:=?_)
  refine A2 ?_;refine R.callV Tryz.call93 (c93 c[x] nm _) ?_;refine aj ?_
  refine A1 (fun ht16=>?_) (fun ht16=>?_)
  ·refine Xp ?_;refine Z53 ?_;exact A5 (Aa A4) ⟨by rw [av hlt (by simpa using ht16) hx.2],rfl⟩
  refine Z50 ?_;refine A0 [0,1,7,8] ?_;exact B0 (x+1) ⟨hlt,Ce hlt hx.2 (by simpa using ht16)⟩ (by omega) (Dn rfl)
 refine Z29 ?_;refine Z54 ?_;exact A5 (Aa A4) ⟨by rw [Uy (Ku (by simp at ht9;omega) hx.2)],rfl⟩

theorem c71 (c:List Col) (hc:OkCols c) (nm:Str) (Hp:List AObj):AFun Tryz.prog 71 [Ad c,Am nm] Hp (A3 (B7 nm c)):=by
 refine Ac [.tmp 4] [0,1] Tryz.func71 Tryz.ntmps71 (fun d=>?_)
 refine Z3 ?_;refine Mw ?_;refine Z0 ?_;refine Nr ?_;refine A7 Tryz.call92 (c92 c hc nm _) ?_;refine A2 ?_;exact ef

def Xv (s of:Str):Int:=(s.length:Int)-(Lib.trimLeftS s of).length
theorem f6 (s of:Str):(Lib.trimLeftS s of).length≤s.length:=by
 unfold Lib.trimLeftS
 exact (Ty _).length_le
def Hq:Str:=[32,97,100,100,32,100,114,111,112,32,114,101,110,97,109,101,32,115,112,108,105,116,32,109,101,114,103,101,32,114,101,116,121,112,101,32,105,110,116,111,32,116,111,32,98,97,99,107,32,97,110,100,32,111,114,32,110,111,116,32,116,114,117,101,32,102,97,108,115,101,32,110,117,108,108,32,105,110,116,32,116,101,120,116,32,98,111,111,108,32,115,101,108,101,99,116,32,119,104,101,114,101,32,102,114,111,109,32,108,105,109,105,116,32]
def letters:Str:=[97,98,99,100,101,102,103,104,105,106,107,108,109,110,111,112,113,114,115,116,117,118,119,120,121,122]
def tails:Str:=[97,98,99,100,101,102,103,104,105,106,107,108,109,110,111,112,113,114,115,116,117,118,119,120,121,122,48,49,50,51,52,53,54,55,56,57,95]
theorem mm (s of:Str) (hs:s.length≤1048576) (ho:of.length≤1048576) (ha:∀c∈of,c.toNat<128) (Hp:List AObj):AFun Tryz.prog 136 [Am s,Am of] Hp (A3 (Xv s of)):=by
 refine Ac [.tmp 4] [0,1] Tryz.func136 Tryz.ntmps136 (fun d=>?_)
 refine Z41 ?_;refine Z31 ?_;refine A7 Tryz.call151 (o0 s of (by omega) ha _) ?_;refine A2 ?_
 have htl:=f6 s of
 refine Z1 ?_;exact ef

def Fe (s:Str):Bool:=(!(s==[]) && !Lib.contains s [32])&&Lib.contains Hq ([32]++s++[32])
theorem o5 (s:Str) (hs:s.length≤1048576) (Hp:List AObj):AFun Tryz.prog 137 [Am s] Hp (Ag (Fe s)):=by
 refine Ac [.tmp 2] [0] Tryz.func137 Tryz.ntmps137 (fun d=>?_)
 refine Z49 ?_;refine Z8 ?_;refine Bk ?_;refine Br Tryz.call143 (fun hB=>ey s [32] (by omega) _) ?_;refine Z45 ?_;refine Z11 ?_;refine Bk ?_;refine Br Tryz.call143 (fun hB=>ey Hq ([32]++s++[32]) (by decide) _) ?_;exact eg

theorem jg {s:Str} {b c:Bool} (h:(((!(s==[])&&b)&&c)==true)=true):1≤s.length:=by
 cases s with
 | nil=>simp at h
 | cons x r=>simp
def D4 (s:Str):Bool:=((((!(s==[])&&decide ((s.length:Int)≤16))&&(Xv s tails==(s.length:Int)))&&(Xv (s.take 1) letters==1)) && !Fe s)
theorem f7 (s:Str) (hs:s.length≤1048576) (Hp:List AObj):AFun Tryz.prog 111 [Am s] Hp (Ag (D4 s)):=by
 refine Ac [.tmp 2] [0] Tryz.func111 Tryz.ntmps111 (fun d=>?_)
 refine Z49 ?_;refine Z8 ?_;refine Z73 ?_;refine Bk ?_;refine Br Tryz.call136 (fun hB=>mm s tails hs (by decide) (by decide) _) ?_;refine Z73 ?_;refine Bk ?_
 refine Bk (h:=Q.scutH 1 (fun _=>Au _) (fun hB=>jg hB)) (hr:=?_)
 refine Br Tryz.call136 (fun hB=>mm (s.take 1) letters (by simp;omega) (by decide) (by decide) _) ?_
 refine Z45 ?_;refine Bk ?_;refine Br Tryz.call137 (fun hB=>o5 s hs _) ?_;refine Z45 ?_;exact j7

end Go.SX.Nb
namespace Go.SX.Nb
open Go Go.SX Go.Proofs Go.RowKit
variable [ErrAt]
set_option maxRecDepth 4000
theorem o6 (s t:Str) (Hp:List AObj):AFun Tryz.prog 200 [Am s,Am t] Hp (Am (Lib.trimPrefix s t)):=by
 refine Jk (xs:=[sv s,sv t]) (v:=sv (Lib.trimPrefix s t)) (fun G w=>.v _ _) (fun w hg=>?_)
 refine (Any.strings_TrimPrefix Tryz.lays101 ⟨s.toArray⟩ ⟨t.toArray⟩ w).mono ?_
 rintro e w' ⟨rfl,rfl⟩
 exact et
theorem o7 (s t:Str) (hs:s.length≤9223372036854775807) (ht:t.length<4294967281) (ha:∀c∈t,c.toNat<128) (Hp:List AObj):AFun Tryz.prog 201 [Am s,Am t] Hp (Am (Lib.trimS s t)):=by
 refine Jk (xs:=[sv s,sv t]) (v:=sv (Lib.trimS s t)) (fun G w=>.v _ _) (fun w hg=>?_)
 refine (Any.strings_Trim_laid Tryz.lays160 (by kernel_rfl) ⟨s.toArray⟩ ⟨t.toArray⟩ w (by simpa [ByteArray.size] using hs) (by simpa [ByteArray.size] using ht) (fun j b hj=>ha b (Ae hj))).mono ?_
 rintro e w' ⟨rfl,hb⟩
 exact ⟨rfl,hb⟩
theorem f8 (s:Str) (hs:s.length≤1048576) (v:Int) (h:Lib.parseIntB 64 s=.ok v) (Hp:List AObj):AFun Tryz.prog 202 [Am s,A3 10,A3 64] Hp (.tup [A3 v,.v .nilIface]):=by
 refine Jk (xs:=[sv s,.int .i64 10,.int .i64 64]) (v:=.tuple #[.int .i64 v,.nilIface]) (fun G w=>Hg rfl (fun i y u hy hu=>?_)) (fun w hg=>?_)
 ·match i with
  | 0=>simp at hy hu;subst hy;subst hu;exact .v _ _
  | 1=>simp at hy hu;subst hy;subst hu;exact .v _ _
  | i+2=>simp at hy
 refine (Any.strconv_ParseInt_10_at64_ok Tryz.lays174 ⟨s.toArray⟩ (by simp [ByteArray.size];omega) v h w).mono ?_
 rintro e w' ⟨rfl,rfl|⟨t,rfl⟩⟩
 ·exact et
 exact ⟨rfl,Lib.bytesWorld_below _ _ _⟩
def Ls (s:Str):AV:=.iface 235 (.ro [.v (sv [80,97,114,115,101,73,110,116]),.v (sv s),.v (.iface 260 (.pointer (some ErrAt.b)))])
theorem Uz (s:Str) (hs:s.length≤1048576) (h:Lib.parseIntB 64 s=.range) (Hp:List AObj):AFun Tryz.prog 202 [Am s,A3 10,A3 64] Hp (.tup [A3 (Lib.intSat 64 s),Ls s]):=by
 refine AFun.libErr (xs:=[sv s,.int .i64 10,.int .i64 64]) (n:=.int .i64 (Lib.intSat 64 s)) (cs:=[sv [80,97,114,115,101,73,110,116],sv s,.iface 260 (.pointer (some ErrAt.b))]) (te:=256) (fun y hy=>?_) (fun w hg=>?_)
 ·simp only [Cd,E8,or_false] at hy
  rcases hy with rfl|rfl|rfl<;>rfl
 refine (Any.strconv_ParseInt_10_at64_range Tryz.lays174 ⟨s.toArray⟩ (by simp [ByteArray.size];omega) h (.iface 260 (.pointer (some ErrAt.b))) w (Mi hg) (.inr ⟨_,_,rfl⟩)).mono ?_
 rintro e w' ⟨N,rfl,h1,h2,h3⟩
 exact ⟨N,rfl,h1,h2,h3⟩
theorem ax (Hp:List AObj):AFun Tryz.prog 203 [.v .nilIface,.v (.iface 260 (.pointer (some ErrAt.b)))] Hp (Ag false):=by
 refine Jk (xs:=[.nilIface,.iface 260 (.pointer (some ErrAt.b))]) (v:=.bool false) (fun G w=>.v _ _) (fun w hg=>?_)
 refine (Tryz.is_nil _ w).mono ?_
 rintro e w' ⟨rfl,rfl⟩
 exact et
theorem V0 (s:Str) (Hp:List AObj):AFun Tryz.prog 203 [Ls s,.v (.iface 260 (.pointer (some ErrAt.b)))] Hp (Ag true):=by
 intro d G w vs hn hv hH hT _
 have hsz:vs.size=2:=hn
 have h0:=hv 0 (Ls s) vs[0] rfl (D8 (by omega))
 have h1:=Ko (hv 1 (.v (.iface 260 (.pointer (some ErrAt.b)))) vs[1] rfl (D8 (by omega)))
 have hvs:vs=#[vs[0],vs[1]]:=by
  apply Vw
  ·exact hsz
  intro i hi1 hi2
  match i with
  | 0=>rfl
  | 1=>rfl
  | i+2=>omega
 unfold Ls at h0
 generalize vs[0]=u0 at h0 hvs
 cases h0 with
 | iface _ _ _ u h =>
  cases h with
  | ro _ _ ad f hs h1' hf hr =>
   obtain ⟨ab,ao,asp⟩:=ad
   simp only at hs
   subst hs
   have hc:=(hf 2 _ rfl).2
   have he:=Ko (hr 2 _ rfl)
   rw [he] at hc
   rw [hvs,h1]
   refine (callsIn_wide.2 (Tryz.is_range ab ao ErrAt.b w hc)).mono ?_
   rintro e w' ⟨rfl,rfl⟩
   exact ⟨_,G,_,Hp,rfl,.v _ _,hH,hT,Dm _ _ _,rfl,rfl,rfl⟩
end Go.SX.Nb
namespace Go.SX.Nb
open Go Go.SX Go.Proofs
variable [ErrAt]
set_option maxRecDepth 4000
def Sm:Str:=[32,105,110,116,32,116,101,120,116,32,98,111,111,108]
def kindNames:List Str:=[[],[105,110,116],[116,101,120,116],[98,111,111,108]]
theorem Xw:Jz Sm [32]=kindNames:=by kernel_rfl
def Dt (k:Int):Str:=if k<1∨3<k then [] else kindNames.getD k.toNat []
theorem c77 (k:Int) (Hp:List AObj):AFun Tryz.prog 77 [A3 k] Hp (Am (Dt k)):=by
 refine Ac [.tmp 2] [0] Tryz.func77 Tryz.ntmps77 (fun d=>?_)
 refine Ut ?_;refine Uq ?_;refine A0 [0,8] ?_
 refine A1 (fun ht8=>?_) (fun ht8=>?_)
 ·refine Z51 ?_;refine Bn ?_;exact A5 (Aa A4) ⟨by rw [show Dt k=[] from if_pos (by simpa using ht8)],rfl⟩
 refine Z9 ?_;refine Ds ?_
 have hk:1≤k∧k≤3:=by simp at ht8;omega
 have hget:(kindNames.map Am)[k.toNat]? = some (Am (kindNames.getD k.toNat [])):=by
  have hlt:k.toNat<kindNames.length:=by show k.toNat<4;omega
  rw [Cc,A9 hlt,D9,A9 hlt]
  rfl
 refine A7 Tryz.call103 (Xw ▸ mh Sm [32] (by decide) (by decide) _) ?_;refine A2 ?_
 refine A2 (h:=Ab (k.toNat) (Am (kindNames.getD k.toNat [])) (fun _=>hget)) (hr:=?_)
 refine Z60 ?_;exact A5 (Aa A4) ⟨by rw [show Dt k=kindNames.getD k.toNat [] from if_neg (by omega)],rfl⟩

def Jc (s of:Str):Bool:=(!(s==[]) && !Lib.contains s [32])&&Lib.contains of ([32]++s++[32])
theorem o8 (s of:Str) (hs:s.length≤1048576) (ho:of.length≤1048576) (Hp:List AObj):AFun Tryz.prog 125 [Am s,Am of] Hp (Ag (Jc s of)):=by
 refine Ac [.tmp 4] [0,1] Tryz.func125 Tryz.ntmps125 (fun d=>?_)
 refine Z41 ?_;refine Z8 ?_;refine Bk ?_;refine Br Tryz.call143 (fun hB=>ey s [32] (by omega) _) ?_;refine Z45 ?_;refine Z42 ?_;refine Br Tryz.call143 (fun hB=>ey of ([32]++s++[32]) (by omega) _) ?_;refine Z1 ?_;exact ef

def Pv:Str:=[108,101,110,58,49,32,115,116,114,58,49,32,110,117,109,58,49,32,105,115,110,117,108,108,58,49,32,110,118,108,58,50,32,108,101,102,116,58,50,32,114,105,103,104,116,58,50,32,105,102,58,51]
def arityList:List (Str×UInt8):=[([108,101,110],49),([115,116,114],49),([110,117,109],49),([105,115,110,117,108,108],49),([110,118,108],50),([108,101,102,116],50),([114,105,103,104,116],50),([105,102],51)]
def Ey (p:Str×UInt8):Str:=p.1++[58,p.2]
theorem V1:Jz Pv [32]=arityList.map Ey:=by kernel_rfl
theorem ay {p:Str×UInt8} (hp:p∈arityList):Lib.cut (Ey p) [58]=(p.1,[p.2],true):=by
 have h:(arityList.all fun p=>decide (Lib.cut (Ey p) [58]=(p.1,[p.2],true)))=true:=by kernel_rfl
 exact of_decide_eq_true (Ax.1 h p hp)
def jh (p:Str×UInt8):Int:=IntKind.i64.wrap (IntKind.u8.wrap ((p.2.toNat:Int)-48))
def Be (nm:Str):Int:=match arityList.find? (fun p=>p.1==nm) with|some p=>jh p|none => -1
theorem Rd {α:Type} {p:α→Bool} {l:List α} {x:Nat} (h:x<l.length) (hp:p l[x]=true) (h2:∀(j:Nat) (y:α),j<x→l[j]? = some y→p y=false):l.find? p=some l[x]:=by
 rw [List.find?_eq_some_iff_getElem]
 exact ⟨hp,x,h,rfl,fun j hj=>by simpa using h2 j l[j] hj (A9 _)⟩
theorem Lt {α:Type} {p:α→Bool} {l:List α} (h:∀(j:Nat) (y:α),l[j]? = some y→p y=false):l.find? p=none:=by
 rw [U0]
 intro y hy
 obtain ⟨j,hj⟩:=C3 hy
 simpa using h j y hj
theorem Lu:arityList.length=8:=rfl
theorem Xx {p:Str×UInt8} (hp:p∈arityList):(Ey p).length<4294967281:=by
 have h:(arityList.all fun p=>decide ((Ey p).length<4294967281))=true:=by kernel_rfl
 exact of_decide_eq_true (Ax.1 h p hp)
theorem mn (nm:Str) (Hp:List AObj):AFun Tryz.prog 126 [Am nm] Hp (A3 (Be nm)):=by
 refine Ac [.tmp 2] [0] Tryz.func126 Tryz.ntmps126 (fun d=>?_)
 refine Z49 ?_;refine Z59 ?_;refine A7 Tryz.call103 (V1 ▸ mh Pv [32] (by decide) (by decide) _) ?_;refine Z1 ?_;refine A0 [0,8,9,10] ?_
 refine Bz (α:=Nat) (fun x=>⟨28,A6 0 (Am nm) (A6 8 (Ec (arityList.map Ey)) (A6 9 (A3 8) (A6 10 (A3 (x:Nat)) (fun _=>.any)))),Hp,[],[],none⟩) (fun x=>x≤8∧∀(j:Nat) (y:Str×UInt8),j<x→arityList[j]? = some y→(y.1==nm)=false) (fun x=>8-x) (0) (by simp) (Li _) rfl (fun x hx=>?_)
 refine Z0 ?_;refine A0 [0,8,9,10,11] ?_
 refine C5 (fun ht11=>?_) (fun ht11=>?_)
 ·have hlt:x<arityList.length:=by rw [Lu];simp at ht11;omega
  have hal:=Lu
  have hget:((arityList.map Ey).map Am)[x]? = some (Am (Ey arityList[x])):=by rw [Lh];exact As hlt
  refine Z65 ?_
  refine A2 (h:=Ab (x) (Am (Ey arityList[x])) (fun _=>hget)) (hr:=?_)
  refine Z1 ?_;refine A0 [0,4,8,9,10] ?_;refine Z0 ?_;refine A7 Tryz.call144 ((ay (Bc hlt)) ▸ nz (Ey arityList[x]) [58] (Xx (Bc hlt)) _) ?_;refine Z1 ?_;refine Z74 ?_;refine A0 [0,5,6,8,9,10] ?_;refine Z8 ?_;refine A0 [0,6,8,9,10,22] ?_
  refine A1 (fun ht22=>?_) (fun ht22=>?_)
  ·refine Z0 ?_
   refine A2 (h:=Q.sindex 0 arityList[x].2 (fun _=>rfl)) (hr:=?_)
   refine A2 (h:=Q.sub) (hr:=?_)
   refine Z60 ?_;refine Z53 ?_;exact A5 (Aa A4) ⟨by rw [Be,Rd hlt ht22 hx.2];rfl,rfl⟩
  refine Z50 ?_;refine A0 [0,8,9,10] ?_;exact B0 (x+1) ⟨by omega,Ce hlt hx.2 ht22⟩ (by omega) (Dn rfl)
 have hal:=Lu
 refine Z29 ?_;refine Z51 ?_;exact A5 (Aa A4) ⟨by rw [Be,Lt (Ku (by simp at ht11;omega) hx.2)],rfl⟩

def V2 (s:Str):Int:=match Lib.parseIntB 64 s with|.ok v=>v|_=>Lib.intSat 64 s
def Ph (s:Str):Bool:=match Lib.parseIntB 64 s with|.ok _=>false|_=>true
def Pi (s:Str):AV:=bif Ph s then Ls s else .v .nilIface
theorem V3 (s:Str):(Pi s).strip=Pi s:=by unfold Pi;cases Ph s<;>rfl
attribute [go_sem] V3
theorem o9 (s:Str) (hs:s.length≤1048576) (h:f5 (Lib.parseIntB 64 s)=false) (Hp:List AObj):AFun Tryz.prog 202 [Am s,A3 10,A3 64] Hp (.tup [A3 (V2 s),Pi s]):=by
 cases hp:Lib.parseIntB 64 s with
 | ok v =>
  have:=f8 s hs v hp Hp
  rwa [show v=V2 s by unfold V2;rw [hp],show AV.v .nilIface=Pi s by unfold Pi Ph;rw [hp];rfl] at this
 | range =>
  have:=Uz s hs hp Hp
  rwa [show Lib.intSat 64 s=V2 s by unfold V2;rw [hp],show Ls s=Pi s by unfold Pi Ph;rw [hp];rfl] at this
 | _=>rw [hp] at h;cases h
theorem oa (s:Str) (Hp:List AObj):AFun Tryz.prog 203 [Pi s,.v (.iface 260 (.pointer (some ErrAt.b)))] Hp (Ag (Ph s)):=by
 unfold Pi
 cases Ph s
 ·exact ax Hp
 exact V0 s Hp
theorem az (s t:Str):(Lib.trimPrefix s t).length≤s.length:=by
 unfold Lib.trimPrefix;split<;>simp
theorem Xy {d:Str} {b:Bool} (h:(((d==[]) || b)==false)=true):d≠[]:=by rintro rfl;simp at h
theorem V4:∀c∈digs,c.toNat<128:=by decide
theorem Nz (s:Str):((((Lib.trimPrefix s [45]==[]) || (Lib.trimS (Lib.trimPrefix s [45]) digs != [])) || ((((Lib.trimPrefix s [45]).headD 0).toNat:Int)==48&&decide ((1:Int)<s.length))))=Hn s:=by
 unfold Hn Nx
 have e1:((((Lib.trimPrefix s [45]).headD 0).toNat:Int)==48)=((Lib.trimPrefix s [45]).headD 0==48):=by
  rw [Bool.eq_iff_iff]
  simp only [beq_iff_eq]
  constructor
  ·intro h
   exact UInt8.toNat_inj.1 (by have:(48:UInt8).toNat=48:=rfl;omega)
  intro h;rw [h];rfl
 have e2:decide ((1:Int)<s.length)=decide (1<s.length):=by rw [decide_eq_decide];omega
 rw [e1,e2]
 rfl
theorem Xz {s:Str} (hb:Hn s=false) (h:Ph s=true):Cq s=(0,4):=by
 unfold Cq
 rw [hb]
 have:=Ir hb
 unfold Ph at h
 revert h this
 cases Lib.parseIntB 64 s with
 | ok v=>intro h;cases h
 | range=>intro _ _;rfl
 | _=>intro _ h;cases h
theorem ji {s:Str} (hb:Hn s=false) (h:Ph s=false):Cq s=(V2 s,0):=by
 unfold Cq V2
 rw [hb]
 unfold Ph at h
 revert h
 cases Lib.parseIntB 64 s with
 | ok v=>intro h;rfl
 | _=>intro h;cases h
theorem b6 (s:Str):s.take (min s.length 200)=s.take 200:=by
 rcases Nat.le_total s.length 200 with h|h
 ·rw [Nat.min_eq_left h,List.take_of_length_le (Nat.le_refl _),List.take_of_length_le h]
 rw [Nat.min_eq_right h]
theorem ob (s:Str) (hs:s.length≤1048576) (Hp:List AObj):AFun Tryz.prog 186 [Am s] Hp (.tup [A3 (Cq s).1,A3 (Cq s).2]):=by
 refine ACall.body [.tmp 2,.tmp 3] [0] Tryz.func186 Tryz.ntmps186 (fun d=>?_)
 refine Z3 ?_;refine R.fin [0] ?_;refine Z0 ?_;refine R.call Tryz.call200 (o6 s [45] _) ?_;refine R.go ?_;refine R.fin [0,4] ?_;refine Z25 ?_;refine G.go ?_
 refine G.call Tryz.call201 (fun hB=>o7 (Lib.trimPrefix s [45]) digs (by have:=az s [45];omega) (by decide) V4 _) ?_
 refine Z45 ?_;refine G.go ?_
 refine G.go (h:=Q.sindex 0 ((Lib.trimPrefix s [45]).headD 0) (fun hB=>Xu (Xy hB))) (hr:=?_)
 refine Z42 ?_;refine Uq ?_;refine R.fin [0,25] ?_
 refine W.cond (fun ht25=>?_) (fun ht25=>?_)
 ·have hb:Hn s=true:=by rw [←Nz];exact ht25
  refine Z3 ?_;refine Z84 ?_;refine K.thR ?_;exact K.fin (V.two V.tmp V.tmp) ⟨by rw [Cq,hb];rfl,rfl⟩
 have hb:Hn s=false:=by rw [←Nz];exact ht25
 refine Pa ?_;refine R.call Tryz.call202 (o9 s hs (Ir hb) _) ?_;refine Z74 ?_;refine R.fin [5,6] ?_;refine Z40 ?_;refine R.loadGlob Tryz.isAgg211 (fun w hg=>Mi hg) ?_;refine R.call Tryz.call203 (oa s _) ?_;refine R.fin [5,33] ?_
 refine W.cond (fun ht33=>?_) (fun ht33=>?_)
 ·refine Z3 ?_;refine Z84 ?_;refine K.thR ?_;exact K.fin (V.two V.tmp V.tmp) ⟨by rw [Xz hb ht33],rfl⟩
 refine Pe ?_;refine Z84 ?_;exact K.fin (V.two V.tmp V.tmp) ⟨by rw [ji hb ht33],rfl⟩

theorem od (n:Int) (h0 : -9223372036854775808≤n) (h1:n≤9223372036854775807) (Hp:List AObj):AFun Tryz.prog 185 [A3 n] Hp (Am (Lib.itoa n)):=by
 refine ACall.body [.tmp 2] [0] Tryz.func185 Tryz.ntmps185 (fun d=>?_)
 refine Z49 ?_;refine Z0 ?_;refine R.call Tryz.call199 (o4 n h0 h1 _) ?_;refine R.go ?_;exact j7

theorem c66 (Hp:List AObj):AFun Tryz.prog 66 [] Hp (Av ⟨0,0,[]⟩):=by
 refine ACall.body [.cell 0 44] [] Tryz.func66 Tryz.ntmps66 (fun d=>?_)
 refine Z44 ?_;refine R.fin [0] ?_;refine Z95 ?_;refine Gq ?_;refine R.fin [0] ?_;refine AW.ret ?_;exact K.fin (V.one (V.cellN jA jS))

theorem mo (n:Int) (Hp:List AObj):AFun Tryz.prog 182 [A3 n] Hp (Av ⟨1,n,[]⟩):=by
 refine ACall.body [.cell 2 44] [0] Tryz.func182 Tryz.ntmps182 (fun d=>?_)
 refine Xh ?_;refine lv ?_;refine Z13 ?_;exact K.fin (V.one (V.cellN jA jS))

theorem Y0 (b:Bool) (Hp:List AObj):AFun Tryz.prog 129 [Ag b] Hp (Av ⟨3,if b then 1 else 0,[]⟩):=by
 refine ACall.body [.cell 2 44] [0] Tryz.func129 Tryz.ntmps129 (fun d=>?_)
 refine Xh ?_;refine Z95 ?_;refine Xf ?_;refine R.fin [0,2,3] ?_;refine Z40 ?_;refine R.fin [2,3,5] ?_
 refine W.cond (fun ht5=>?_) (fun ht5=>?_)
 ·refine AW.region ?_;refine Z70 ?_;refine R.fin [2,3] ?_;refine K.thN ?_;refine Z0 ?_;exact lb
 refine Pa ?_;exact lb

theorem f9 (s:Str) (Hp:List AObj):AFun Tryz.prog 184 [Am s] Hp (Av ⟨2,0,s.take 200⟩):=by
 refine ACall.body [.cell 2 44] [0] Tryz.func184 Tryz.ntmps184 (fun d=>?_)
 refine Xh ?_;refine Z8 ?_;refine R.minI ?_
 refine R.go (h:=Q.scutH (min s.length 200) (fun _=>Nat.zero_le _) (fun _=>Nat.min_le_left _ _) (hb:=fun _=>by split<;>omega)) (hr:=?_)
 refine eu ?_;refine Z13 ?_;exact K.fin (V.one (V.cellN jA jS)) ⟨by rw [b6],rfl⟩

def W9:Val:=⟨0,0,[]⟩
def Ej (b:Bool):Val:=⟨3,if b then 1 else 0,[]⟩
def V5 (v:Val):Str:=
 if !Cn v then [] else if v.kind==1 then Lib.itoa v.n else if v.kind==2 then [39]++Lib.replaceAll v.s [39] [39,39]++[39]
 else if v.kind==0 then [110,117,108,108] else if v.n==1 then [116,114,117,101] else [102,97,108,115,101]
def jk (s:Str):Str:=Lib.replaceAll ((s.take (s.length-1)).drop 1) [39,39] [39]
def io (s:Str):Val:=⟨2,0,(jk s).take 200⟩
def mp (s:Str):Val×Int:=if !(V5 (io s)==s) then (W9,7) else (io s,0)
def mq (s:Str):Bool:=(decide ((1:Int)<s.length)&&Lib.hasPrefix s [39])&&Lib.hasSuffix s [39]
def mr (s:Str):Val×Int:=
 if s==[110,117,108,108] then (W9,0) else if (s==[116,114,117,101]) || (s==[102,97,108,115,101]) then (Ej (s==[116,114,117,101]),0)
 else if mq s then mp s else if (Cq s).2==0 then (⟨1,(Cq s).1,[]⟩,0) else if (Cq s).2==4 then (W9,4) else (W9,7)
structure Tok where
 kind:Int
 text:Str
 at_:Nat
 deriving DecidableEq
end Go.SX.Nb
namespace Go.SX
variable [GI:GlobInv]
open Classical
@[simp] theorem oe {n o k m c:Nat}:Low n (.sl o k m c)↔o<n:=⟨fun h=>by cases h;assumption,fun h=>.sl o k m c h⟩
/-- The cells of elements, one behind the other. -/
abbrev Gg (xs:List AV):List AV:=xs.flatMap AV.cells
theorem K2 (x:AV) (r:List AV):Gg (x::r)=x.cells++Gg r:=by simp [Gg]
theorem Lv {k:Nat}:∀{xs:List AV},(∀x∈xs,x.cells.length=k)→(Gg xs).length=xs.length*k
 | [],_=>by simp
 | x::r,h=>by
  rw [K2,Ai,h x Kg,Lv (fun y hy=>h y (Qv _ hy)),Bj,Dr]
  omega
theorem Lw {k:Nat}:∀{xs:List AV},(∀x∈xs,x.cells.length=k)→∀{i j:Nat} {x y:AV},xs[i]? = some x→x.cells[j]? = some y→(Gg xs)[i*k+j]? = some y
 | [],_,i,j,x,y,h,_=>by simp at h
 | a::r,hk,0,j,x,y,h,h2=>by
  simp at h
  subst h
  rw [K2,Nat.zero_mul,C4,C8 (A8.1 h2).1]
  exact h2
 | a::r,hk,i+1,j,x,y,h,h2=>by
  rw [Qs] at h
  have ha:=hk a Kg
  have hh:=Lw (fun y hy=>hk y (Qv _ hy)) h h2
  rw [K2,Cb (by rw [ha,Dr];omega),ha]
  rw [show (i+1)*k+j-k=i*k+j by rw [Dr];omega]
  exact hh
section
variable {P:Program} {d:Nat} {st:St} {dst:Option Tmp} {ty:TypeId} {pos:String} {aft:Array Edge} {gd:Option (Nat×Bool)}
/-- The address of an element. -/
theorem OpV.indexAddrSl {t e:TypeId} {x i:Operand} {o k n c m:Nat} {q:IntKind} (hu:P.underlying t=some (.slice e)) (hsz:∀w,(sizeOf e).run P w=.ok k w) (hm:m<n)
  (hx:st.ev x=.sl o k n c) (hi:st.ev i=.v (.int q (m:Int))):OpV P d ⟨dst,.indexAddr t x i,ty,pos,aft,gd⟩ st (.ptr o (m*k)):=
 B6 (by intro c h;cases h) fun G a w h=>by
  have hr:=hx ▸ h.eval x
  have hi':=Bl h hi
  generalize hv:a.eval x=u at hr
  cases hr with
  | sl l o k n c ho =>
   have hlt':(m:Int)<n:=by omega
   refine ⟨.pointer (some ((⟨G.blk o,0,none⟩:Addr).add (m*k))),by simp [execOp,Instr.indexAt,asIntOf,hi',hv,run_underlying hu,hm,hlt',hsz],?_⟩
   rw [By rfl,C4]
   exact .ptr _ o _ ho
/-- An empty slice, over an object of its own. -/
theorem AOp.buildObj0 {t e:TypeId} {k s n:Nat} (hu:P.underlying t=some (.slice e)) (hsz:∀w,(sizeOf e).run P w=.ok k w) (hn:st.own.length=n) (hs:s<st.sz):
  AOp P d ⟨some s,.buildSlice t 0 #[],ty,pos,aft,gd⟩ st (·=({ st with own:=st.own++[.cells e []] }:St).set s (.sl (st.up.length+n) k 0 0)):=by
 intro G a w h Q'
 obtain ⟨G',h1,T,hb,hlt⟩:=Gw h e [] #[] rfl (fun j y u h1 _=>by simp at h1)
 have hlen:(st.up++st.own).length=st.up.length+n:=by rw [Ai,hn]
 rw [hlen] at hb hlt
 have hrun:(execOp a.eval (⟨some s,.buildSlice t 0 #[],ty,pos,aft,gd⟩:Oper)).run P w=.ok (.value (.slice (some ⟨w.heap.size,0,none⟩) 0 0)) (w.alloc (.cells #[] e)):=by
  have hfl:∀f:Nat→Option (Nat×Nat),Instr.fill f ((Array.range 0).map fun _=>(default:Value)) []=some #[]:=fun f=>by simp [Instr.fill]
  simp [execOp,Instr.buildSlice,run_underlying hu,hsz,newRow,hfl]
 refine Bx (by intro c h;cases h) hrun ⟨G',_,h1.put (s:=s) (y:=.sl (st.up.length+n) k 0 0) hs ?_,T.keep d,rfl,rfl,rfl,rfl⟩
 rw [←hb]
 exact .sl _ _ _ _ _ hlt
/-- What is appended to an empty slice lies in a new object of ours; of its spare cells nothing is known. -/
theorem AOp.appendObj {t e:TypeId} {i:TypeInfo} {z:Value} {k by' s o n:Nat} {xr x:Operand} {o2:Bool} {ys:List AV}
  (hu:P.underlying t=some (.slice e)) (hi:P.info? e=some i) (hz:i.zero=some z) (hsz:i.size=k) (hby:i.bytes=by') (hzk:z.cells.size=k) (hk:0<k)
  (hb:st.ev xr=.sl o k 0 0) (hx:U5 (st.ev x) o2 k ys) (hne:ys≠[]) (hn:st.own.length=n) (hs:s<st.sz) (hl:ys.length*by'≤140737488355328) (hl2:ys.length≤4611686018427387904):
  AOp P d ⟨some s,.call ⟨.builtin .append,#[xr,x],#[t,t]⟩,ty,pos,aft,gd⟩ st (fun st'=>∃c,ys.length≤c∧st'=({ st with own:=st.own++[.cells e (Gg ys++List.replicate ((c-ys.length)*k) .any)] }:St).set s (.sl (st.up.length+n) k ys.length c)):=by
 subst hsz
 subst hby
 intro G a w h Q'
 have hrb:=hb ▸ h.eval xr
 have hrx:=h.eval x
 have hm:ys.length≠0:=fun e=>hne (Lf e)
 generalize hvb:a.eval xr=vb at hrb
 cases hrb with
 | sl l o k n' c ho =>
  rcases He hx hrx with ⟨_,e0⟩|⟨ad2,c2,f2,hvx,hc2,F2,_⟩
  ·exact absurd e0 hne
  have hge:=Hf w (0+ys.length) 0 e
  have hv:=run_append_grow (P:=P) w t ty e i z hu hi hz ⟨G.blk o,0,none⟩ 0 0 [] (by simp) (by simp) ad2 ys.length c2 (Bq i.size ys.length f2) (B2 _ _ _) (F2.vals hk) (by omega) (by omega) (growslice_fits (by omega) (by rw [C4];exact hl))
  rw [C4] at hv hge
  let c':=grownCap w ys.length 0 e
  have hfl:(Gg ys).length=ys.length*i.size:=Lv F2.k
  have hd':StRel d G st a w.drew:=h.drew (w.drawn+1)
  obtain ⟨G',h1,T,hbk,hlt⟩:=Gw hd' e (Gg ys++List.replicate ((c'-ys.length)*i.size) .any) (([]:List Value).toArray++(Bq i.size ys.length f2).toArray++Builtin.zeroCells z.cells (c'-ys.length)) (by
    simp only [Jo,G6,B2,Value.oneSize _ hzk,Ai,List.length_replicate,hfl,Ct]
    omega) (fun j y u hy hu'=>by
    by_cases hj:j<ys.length*i.size
    ·rw [C8 (by rw [hfl];exact hj)] at hy
     have hq:j / i.size<ys.length:=by rw [Nat.div_lt_iff_lt_mul hk];exact hj
     have hjm:j % i.size<i.size:=Nat.mod_lt _ hk
     have hx0:ys[j / i.size]? = some (ys[j / i.size]):=A9 hq
     have hcl:=F2.k _ (Bc hq)
     have hy0:(ys[j / i.size]).cells[j % i.size]? = some ((ys[j / i.size]).cells[j % i.size]'(by omega)):=A9 _
     have e1:j / i.size*i.size+j % i.size=j:=by have:=Nat.div_add_mod j i.size;rw [Km] at this;exact this
     have hfg:=Lw F2.k hx0 hy0
     rw [e1,hy] at hfg
     injection hfg with hfg
     have hval:(Bq i.size ys.length f2)[j]? = some (f2 (j / i.size) (j % i.size)):=Fc hj
     rw [I6 (by simp only [Jo,G6,B2,Ct];omega)] at hu'
     have e2:u=f2 (j / i.size) (j % i.size):=by
      have:(([]:List Value).toArray++(Bq i.size ys.length f2).toArray)[j]? = (Bq i.size ys.length f2)[j]? := by simp
      rw [this,hval] at hu'
      injection hu' with hu'
      exact hu'.symm
     rw [e2,hfg]
     exact (J9 G w (w.drawn+1)).rep (F2.rep _ _ _ _ hx0 hy0)
    rw [Cb (by rw [hfl];omega)] at hy
    rw [Zg] at hy
    split at hy
    ·injection hy with hy;subst hy;exact .any _ _
    cases hy)
  have hlen:(st.up++st.own).length=st.up.length+n:=by rw [Ai,hn]
  rw [hlen] at hbk hlt
  have hrun:(execOp a.eval (⟨some s,.call ⟨.builtin .append,#[xr,x],#[t,t]⟩,ty,pos,aft,gd⟩:Oper)).run P w=.ok (.value (.slice (some ⟨w.heap.size,0,none⟩) ys.length c')) (w.drew.alloc (.cells (([]:List Value).toArray++(Bq i.size ys.length f2).toArray++Builtin.zeroCells z.cells (c'-ys.length)) e)):=by
   simp only [execOp,resolve,invoke,builtin,Sem.run_bind,Sem.run_pure,Result.andThen_ok,Qu,Dg,Js,hvb,hvx,hv]
   rfl
  have K0:=(J9 G w (w.drawn+1)).keep d
  refine Bx (by intro c h;cases h) hrun ⟨G',_,h1.put (s:=s) (y:=.sl (st.up.length+n) i.size ys.length c') hs ?_,K0.trans (T.keep d),rfl,rfl,rfl,c',hge,rfl⟩
  have hsz':w.drew.heap.size=w.heap.size:=rfl
  rw [←hsz',←hbk]
  exact .sl _ _ _ _ _ hlt

/-- The elements are written no more: the object goes, and the slice is one of known elements. -/
theorem StRel.freeze {G:Gh} {a:Act} {w:World} (h:StRel d G st a w) {r i k c:Nat} {t:TypeId} {cs xs:List AV} (hr:st.fr r=.sl (st.up.length+i) k xs.length c) (ho:st.own[i]? = some (.cells t cs)) (hnc:xs.length≤c)
  (hcs:cs.take (xs.length*k)=Gg xs) (hk:∀x∈xs,x.cells.length=k) (h1:∀x∈xs,∀y∈x.cells,y.one=true) (hst:∀x∈xs,∀y∈x.cells,y.strip=y):
  ∃G',StRel d G' { st with fr:=A6 r (.slice false k xs) st.fr,own:=st.own.set i .gone } a w∧Keep d G w G' w:=by
 let G':Gh:={ G with tag:=fun b q=>if G.tag b q=.obj (st.up.length+i) then .fix else G.tag b q }
 have hto:(st.up++st.own)[st.up.length+i]? = some (.cells t cs):=by rw [Cw];exact ho
 have hol:st.up.length+i<(st.up++st.own).length:=(A8.1 hto).1
 have htag:∀b q,G.tag b q≠.obj (st.up.length+i)→G'.tag b q=G.tag b q:=fun b q hb=>by simp only [G'];rw [if_neg hb]
 have htagO:∀b q,G.tag b q=.obj (st.up.length+i)→G'.tag b q=.fix:=fun b q hb=>by simp only [G'];rw [if_pos hb]
 have hfix:∀b q,G.tag b q=.fix→G'.tag b q=.fix:=fun b q hb=>by rw [htag b q (by rw [hb];simp)];exact hb
 have htail:∀b q L,G.tag b q=.tail L→G'.tag b q=.tail L:=fun b q L hb=>by rw [htag b q (by rw [hb];simp)];exact hb
 have hrep:∀{l:Option Loc} {y:AV} {u:Value},Rep G w l y u→Rep G' w l y u:=fun hy =>
  hy.mono (G':=G') (fun b q e=>⟨hfix b q e,rfl⟩) (Al _) (fun _ _=>rfl) (fun L _ b q e=>htail b q L e)
 have hst':Still G w G' w:=fun b hb=>⟨rfl,hb.1,fun q=>by
  rcases hb.2.1 q with e|e
  ·exact .inl (hfix b q e)
  exact .inr (by rw [htag b q (by rw [e];simp)];exact e),hb.2.2⟩
 obtain ⟨vs,q1,q2,q3,q4⟩:=h.heap.obj _ _ hto
 refine ⟨G',⟨h.size,fun s=>?_,⟨fun j x hx=>?_,?_,h.heap.inj⟩,h.defs,fun q hq=>?_,h.defsNodup,h.defsGe,⟨fun b q hb=>h.tags.ex b q (fun e=>?_),fun b q j hb=>?_,fun b q L hb=>?_,h.tags.globKeep hst'⟩,h.rnd,h.low,h.top⟩,
  ⟨fun b q e=>⟨hfix b q e,rfl⟩,fun b q e s _ ht=>htail b q _ ht,Al _,fun _ _=>rfl,rfl,rfl,rfl,Al _,hst'⟩⟩
 ·show Rep G' w _ (A6 r (.slice false k xs) st.fr s) _
  unfold A6
  by_cases hs:s=r
  ·subst hs
   rw [if_pos rfl]
   have hsl:=h.slots s
   rw [hr] at hsl
   generalize a.tmps.getD s undef=v at hsl
   cases hsl with
   | sl l o k n c ho' =>
    refine .slice _ false k xs ⟨G.blk (st.up.length+i),0,none⟩ _ c (fun q j=>vs.getD (q*k+j) undef) rfl rfl hnc hk h1 (fun q x j y hx hy=>?_) (fun q x j y hx hy=>?_) (fun e=>by cases e)
    all_goals
     have hfg:=Lw hk hx hy
     have hlt:q*k+j<xs.length*k:=by
      have:=(A8.1 hfg).1
      rw [Lv hk] at this;exact this
     rw [←hcs,List.getElem?_take_of_lt hlt] at hfg
     have hcl:=(A8.1 hfg).1
    ·refine ⟨htagO _ _ (by simpa using q4 _ hcl),?_⟩
     simp only [C4]
     simp [World.cell?,q1,show q*k+j<vs.size by omega]
    have hu:=q3 _ y (vs[q*k+j]'(by omega)) hfg (D8 (by omega))
    have e1:vs.getD (q*k+j) undef=vs[q*k+j]'(by omega):=by simp [show q*k+j<vs.size by omega]
    rw [e1]
    have:=hrep (hu.strip (l':=none))
    rw [hst x (Ae hx) y (Ae hy)] at this
    exact this
  rw [if_neg hs]
  exact hrep (h.slots s)
 ·have hx':(st.up++st.own.set i .gone)[j]? = some x:=hx
  rw [←Bd,Ia] at hx'
  by_cases hj:st.up.length+i=j
  ·rw [if_pos hj,if_pos hol] at hx'
   injection hx' with hx'
   subst hx'
   subst hj
   exact ⟨vs,t,(0,0),q1,fun q hq=>htagO _ _ (q4 q (by omega))⟩
  rw [if_neg hj] at hx'
  exact (h.heap.obj j x hx').free (fun e=>hj e.symm) htag rfl rfl
 ·show G.n=(st.up++st.own.set i .gone).length
  have:=h.heap.n
  simpa using this
 ·show (st.up++st.own.set i .gone)[q]? = _
  have h2:=h.defsAt q hq
  rw [←Bd,Ia]
  by_cases hj:st.up.length+i=q
  ·subst hj;rw [hto] at h2;cases h2
  rw [if_neg hj];exact h2
 ·simp only [G'] at hb
  split at hb
  ·rename_i e';rw [e] at e';cases e'
  exact hb e
 ·simp only [G'] at hb
  split at hb
  ·cases hb
  exact h.tags.obj b q j hb
 simp only [G'] at hb
 split at hb
 ·cases hb
 exact h.tags.tail b q L hb
end
section
variable {P:Program} {d:Nat} {ops:Array Oper}
theorem ARun.turnSt {l:List Oper} {st st':St} {Q:St→Prop} (h:∀(G:Gh) (a:Act) (w:World),StRel d G st a w→∃G',StRel d G' st' a w∧Keep d G w G' w) (e1:st'.up.length=st.up.length) (e2:st'.rnd=st.rnd) (e3:st'.sz=st.sz) (hr:ARun P d ops l st' Q):ARun P d ops l st Q:=by
 intro G a w hrel idx hidx
 obtain ⟨G',h1,k⟩:=h G a w hrel
 have:=hr G' a w h1 idx hidx
 rw [E9 hrel k e2] at this
 exact Ck (fun e a' w' hp=>⟨hp.1,hp.2.next k e1 e2 e3⟩) _ _ _ this
variable {sz:Nat} {fr:Nat→AV} {up own own':List AObj} {dfs:List Nat} {rnd:Option Nat} {Q:St→Prop} {rest:List Oper} {s:Nat} {ty:TypeId} {pos:String} {aft:Array Edge}
theorem R.indexAddrSl {t e:TypeId} {x i:Operand} {o k n c:Nat} {q:IntKind} {z:Int} (m:Nat) (ht:P.underlying t=some (.slice e)) (hsz:∀w,(Go.sizeOf e).run P w=.ok k w) (hm:m<n) (hr:ARun P d ops rest ⟨sz,A6 s (.ptr o (m*k)) fr,up,own,dfs,rnd⟩ Q)
  (hx:B5 fr x=.sl o k n c:=by exact sL0) (hi:B5 fr i=.v (.int q z):=by exact sL0) (hz:z=(m:Int):=by first|rfl|omega) (hs:Nat.blt s sz=true:=by rfl):
  ARun P d ops (⟨some s,.indexAddr t x i,ty,pos,aft,none⟩::rest) ⟨sz,fr,up,own,dfs,rnd⟩ Q:=
 Nk rfl rfl hs (OpV.indexAddrSl ht hsz hm hx (by subst hz;exact hi)) hr
theorem R.buildObj0 {t e:TypeId} {k n:Nat} (ht:P.underlying t=some (.slice e)) (hsz:∀w,(Go.sizeOf e).run P w=.ok k w) (hr:ARun P d ops rest ⟨sz,A6 s (.sl (oid up.length n) k 0 0) fr,up,own',dfs,rnd⟩ Q)
  (hn:own.length=n:=by rfl) (ho:own++[.cells e []]=own':=by rfl) (hs:Nat.blt s sz=true:=by rfl):
  ARun P d ops (⟨some s,.buildSlice t 0 #[],ty,pos,aft,none⟩::rest) ⟨sz,fr,up,own,dfs,rnd⟩ Q:=by
 subst ho
 exact Zq rfl (AOp.buildObj0 (st:=⟨sz,fr,up,own,dfs,rnd⟩) ht hsz hn (by simpa using hs)) hr
theorem R.appendObj {t e:TypeId} {i:TypeInfo} {z:Value} {k o n:Nat} {xr x:Operand} {o2:Bool} {y:AV} {ys:List AV} (hu:P.underlying t=some (.slice e)) (hi:P.info? e=some i) (hne:ys≠[]) (hl:ys.length*i.bytes≤140737488355328) (hl2:ys.length≤4611686018427387904)
  (hr:∀c,ys.length≤c→ARun P d ops rest ⟨sz,A6 s (.sl (oid up.length n) k ys.length c) fr,up,own++[.cells e (Gg ys++List.replicate ((c-ys.length)*k) .any)],dfs,rnd⟩ Q)
  (hz:i.zero=some z:=by rfl) (hsz:i.size=k:=by rfl) (hzk:z.cells.size=k:=by rfl) (hk:0<k:=by decide) (hb:B5 fr xr=.sl o k 0 0:=by exact sL0)
  (hx:B5 fr x=y:=by exact sL0) (hx':U5 y o2 k ys:=by first|exact .inl rfl|exact .inr ⟨rfl,rfl⟩) (hn:own.length=n:=by rfl) (hs:Nat.blt s sz=true:=by rfl):
  ARun P d ops (⟨some s,.call ⟨.builtin .append,#[xr,x],#[t,t]⟩,ty,pos,aft,none⟩::rest) ⟨sz,fr,up,own,dfs,rnd⟩ Q:=by
 subst hx
 refine W3 rfl (AOp.appendObj (st:=⟨sz,fr,up,own,dfs,rnd⟩) hu hi hz hsz rfl hzk hk hb hx' hne hn (by simpa using hs) hl hl2) (fun s' hs'=>?_)
 obtain ⟨c,hc,rfl⟩:=hs'
 exact hr c hc
/-- The elements of the slice in slot r, over object i of ours, are written no more. -/
theorem R.freeze {l:List Oper} (r i:Nat) {k n c:Nat} {t:TypeId} {cs:List AV} (xs:List AV) (hnc:n≤c) (hn:n=xs.length) (hcs:cs.take (n*k)=Gg xs) (hk:∀x∈xs,x.cells.length=k) (h1:∀x∈xs,∀y∈x.cells,y.one=true) (hst:∀x∈xs,∀y∈x.cells,y.strip=y)
  (hr:ARun P d ops l ⟨sz,A6 r (.slice false k xs) fr,up,own',dfs,rnd⟩ Q) (hf:fr r=.sl (oid up.length i) k n c:=by exact sL0) (ho:own[i]? = some (.cells t cs):=by rfl) (hset:own.set i .gone=own':=by rfl):
  ARun P d ops l ⟨sz,fr,up,own,dfs,rnd⟩ Q:=by
 subst hset
 subst hn
 exact ARun.turnSt (fun G a w h=>h.freeze (st:=⟨sz,fr,up,own,dfs,rnd⟩) hf ho hnc hcs hk h1 hst) rfl rfl rfl hr
end
end Go.SX
namespace Go.SX
variable [GI:GlobInv]
open Classical
variable {P:Program} {d:Nat} {l0:List Oper} {kd:Nat} {ops:Array Oper} {rest:List Oper} {sz:Nat} {fr:Nat→AV} {up own:List AObj} {dfs:List Nat} {rnd:Option Nat} {Q:St→Prop} {s:Nat} {ty:TypeId} {pos:String} {aft:Array Edge} {E:List Oper→(Nat→AV)→Prop}
theorem R.nilTmp {l:List Oper} (s k:Nat) (o:Bool) (hr:ARun P d ops l ⟨sz,A6 s (.slice o k []) fr,up,own,dfs,rnd⟩ Q) (h:fr s=.nil:=by exact sL0):
  ARun P d ops l ⟨sz,fr,up,own,dfs,rnd⟩ Q:=
 ARun.le (st':=⟨sz,A6 s (.slice o k []) fr,up,own,dfs,rnd⟩) (Nh (s:=⟨sz,fr,up,own,dfs,rnd⟩) fun i=>by
  show Le (fr i) (A6 s (.slice o k []) fr i)
  unfold A6
  by_cases hi:i=s
  ·subst hi;rw [if_pos rfl,h];exact .nil _ _
  rw [if_neg hi];exact .refl _) hr
/-! A slice without room behind its end: whoever appends to it gets a new one. -/
theorem V6 (k:Nat) (xs:List AV):(AV.full k xs).strip=.full k xs:=rfl
theorem V7 (k:Nat) (xs:List AV):(AV.full k xs).cells=[.full k xs]:=rfl
theorem b7 (k:Nat) (xs:List AV):(AV.full k xs).one=true:=rfl
attribute [go_sem] V6 V7 b7
section
variable {KP:List PanicEntry→St→Prop} {up own:(Nat→Bool)→List AObj} {S:List SegY} {l:List Oper} {T F:List Nat}
/-- The p-th of those that turn the heap: a store into an object of whoever waits. -/
theorem Y.storeUp {t t':TypeId} {p x:Operand} {o off k pn:Nat} {y:AV} {ys cs cs':List AV} (hsz:∀w,(Go.sizeOf t).run P w=.ok k w)
  (hU:∀B:Nat→Bool,B pn=false→(up B)[o]? = some (.cells t' cs)∧up (upd B pn)=(up B).set o (.cells t' cs')∧own (upd B pn)=own B∧∀y∈ys,Low (up B).length y)
  (h:ChainY P d l0 sz up own dfs rnd KP E S l fr)
  (hp:B5 fr p=.ptr o off:=by exact sL0) (hx:B5 fr x=y:=by exact sL0) (hc:y.cells=ys:=by exact sL0) (hk:ys.length=k:=by rfl)
  (h1:ys.all AV.one=true:=by exact sL2) (hfit:off+k≤cs.length:=by exact sL1) (hput:B4 cs off ys=cs':=by exact sL0):
  ChainY P d l0 sz up own dfs rnd KP E (.s [] (some pn) T F::S) (⟨none,.store t p x,ty,pos,aft,none⟩::l) fr:=by
 subst hput
 subst hc
 refine ⟨_,l,[],rfl,⟨rfl,rfl,fun B f _ _ hB hf=>.of ?_⟩,h⟩
 obtain ⟨a1,a2,a3,a4⟩:=hU B (hB pn rfl)
 have e:B5 f p=.ptr o off:=by rw [agr hf (by simp [Op.operands])];exact hp
 have ex:B5 f x=y:=by rw [agr hf (by simp [Op.operands])];exact hx
 refine AOp.eqTo (AOp.storeUp (st:=⟨sz,f,up B,own B,dfs,rnd⟩) hsz e a1 ex hk h1 hfit a4) ?_
 show _=St.mk sz f (up (upd B pn)) (own (upd B pn)) dfs rnd
 rw [a2,a3]
end
end Go.SX
namespace Go.SX
def Lx:=@R.nilTmp
end Go.SX
