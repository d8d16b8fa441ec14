/- On the way (part 4). -/
import Derived.Below
import Derived.Test.YtdjhkihdmiednaaGreatDoorProg
import Derived.KernelRfl
import Derived.Shelf.Strconv.Itoa4
import Derived.Shelf.Strings.SplitShaped
import Derived.Shelf.Strings.SlTrimAscii
import Derived.Shelf.Strings.OnBuilder
import Derived.Shelf.Strings.Replace
import Derived.Shelf.Small.Strs
import Derived.Shelf.Strings.Prefix
import Derived.Shelf.Strconv.ErrVarParseInt
import Derived.Shelf.Strconv.AtoiAll
import Derived.Shelf.Strings.IndexAnyAll
import Derived.Shelf.Strings.Builder1
import Derived.Shelf.Bits.Mul64
import Derived.Shelf.Strings.Cut
import Derived.Lib.SplitLaws
import Derived.LaidEql
import Derived.Stop.Asserts
import Derived.RowKitTokens
import Derived.WalkKit
import Derived.Lib.AtoiErrMem
import Derived.Lib.Strings
import Derived.BigCall
import Derived.Lib.ParseIntB
import Derived.Test.YtdjhkihdmiednaaGreatDoorLoadCallsCardSaidPart3
set_option linter.all false
namespace Go.SX
variable [GI:GlobInv]
open Classical Go.RowKit
section
variable {P:Program} {g:FuncId} {Hp:List AObj}

/-- What is known of package-level variables, of a world alone. -/
def Fm (w:World):Prop:=∀x∈GI.blocks,∃o,w.heap[x.1]? = some o∧x.2 o

theorem Oh {G:Gh} {w:World} {xs:List Value} {vs:Array Value} (hn:vs.size=(xs.map AV.v).length) (h:∀(i:Nat) (y:AV) (u:Value),(xs.map AV.v)[i]? = some y→vs[i]? = some u→∃l,Rep G w l y u):vs=xs.toArray:=by
 apply R8
 ·simpa using hn
 intro i h1 h2
 have hi:i<xs.length:=by simpa using h2
 obtain ⟨l,hr⟩:=h i (.v xs[i]) vs[i] (by simp [hi]) (Cz h1)
 have:=J1 hr
 simpa using this

theorem Ea {G:Gh} {w w':World} (hT:TagOK G w) (hb:Below w.heap.size w w') {b o:Nat} (h:G.tag b o≠.free):w'.cell? ⟨b,o,none⟩=w.cell? ⟨b,o,none⟩∧w'.frozen? ⟨b,o,none⟩=w.frozen? ⟨b,o,none⟩:=by
 obtain ⟨u,hu⟩:=hT.ex b o h
 have hlt:b<w.heap.size:=World.block_lt_of_cell? _ _ hu
 have:=hb.block b hlt
 exact ⟨Gp this,Gj this⟩

theorem Ir {G:Gh} {w w':World} (hT:TagOK G w) (hb:Below w.heap.size w w'):Turn G w G w':=
 ⟨fun b o h=>⟨h,(Ea hT hb (by rw [h];simp)).1⟩,fun _ _ _ h=>h,fun _ _ _ h=>h,Ah _,fun _ _=>rfl,hb.os,hb.tape,hb.output,hb.size,Il (fun b hv=>hb.block b hv.1) hb.size (fun _ _ _=>.inl rfl) (fun _ hi=>.inl ⟨hi,rfl⟩)⟩

theorem L4 {G:Gh} {H:List AObj} {w w':World} (hH:HeapRel G H w) (hT:TagOK G w) (hb:Below w.heap.size w w'):HeapRel G H w'∧TagOK G w':=by
 have T:=Ir hT hb
 refine ⟨⟨fun i x hx=>?_,hH.n,hH.inj⟩,⟨fun b o h=>?_,fun b o i h=>?_,fun b o L h=>?_,hT.globKeep T.old⟩⟩
 ·have hi:i<G.n:=by rw [hH.n];exact (Ac.1 hx).1
  exact T.objRel hi (hb.block _ (Ji hH i hi)) (hH.obj i x hx) (fun b h=>hb.block b h.lt)
 ·rw [(Ea hT hb h).1];exact hT.ex b o h
 ·rw [(Ea hT hb (by rw [h];simp)).2];exact hT.obj b o i h
 rw [(Ea hT hb (by rw [h];simp)).2];exact hT.tail b o L h

/-- A function of plain values that hands back a plain value. -/
theorem AFun.lib {xs:List Value} {r:AV} {v:Value} (hr:∀G w,Rep G w none r v) (h:∀w,Fm w→Calls P g xs.toArray w (fun e w'=>e=.returned v∧Below w.heap.size w w')):AFun P g (xs.map .v) Hp r:=by
 intro d G w vs hn hv hH hT hTop
 have hvs:=Oh hn (fun i y u a b=>⟨_,hv i y u a b⟩)
 subst hvs
 refine (callsIn_wide.2 (h w (fun x hx=>let ⟨_,u,a,b⟩:=hT.glob x hx;⟨u,a,b⟩))).mono ?_
 rintro e w' ⟨rfl,hb⟩
 obtain ⟨h1,h2⟩:=L4 hH hT hb
 exact ⟨v,G,r,Hp,rfl,(hr G w').lift,h1,h2,(Ir hT hb).keep _,rfl,rfl,rfl⟩


/-- A function of plain values that hands back a new slice of plain values. -/
theorem AFun.libSlice {xs ys:List Value} {t:TypeId} (hone:∀y∈ys,y.oneCell'=true) (h:∀w,Fm w→Calls P g xs.toArray w (fun e w'=>e=.returned (.slice (some ⟨w.heap.size,0,none⟩) ys.length ys.length)∧w'=w.alloc (.cells ys.toArray t))):
  AFun P g (xs.map .v) Hp (.slice false 1 (ys.map .v)):=by
 intro d G w vs hn hv hH hT hTop
 have hvs:=Oh hn (fun i y u a b=>⟨_,hv i y u a b⟩)
 subst hvs
 refine (callsIn_wide.2 (h w (fun x hx=>let ⟨_,u,a,b⟩:=hT.glob x hx;⟨u,a,b⟩))).mono ?_
 rintro e w' ⟨rfl,rfl⟩
 have hst:StRel (d+1) G ⟨0,fun _=>.any,Hp,[],[],none⟩ { tmps:=#[],defers:=[] } w:=
  ⟨rfl,fun s=>.any _ _,by simpa using hH,(by rw [J8 hTop];rfl),(fun o ho=>by simp at ho),O8,(fun o ho=>by simp at ho),hT,(fun l hl=>by cases hl),P5 hH,Sl hTop⟩
 obtain ⟨G',g1,T,g2⟩:=Mh hst t ys.toArray
 refine ⟨_,G',_,Hp,rfl,?_,by simpa using g1.heap,g1.tags,T.keep _,rfl,rfl,rfl⟩
 refine .slice _ false 1 _ _ _ _ (fun i j=>ys.toArray.getD i undef) rfl (by simp) (Ah _) (fun x hx=>?_) (fun x hx y hy=>?_) (fun i x j y hx hy=>?_) (fun i x j y hx hy=>?_) (fun h=>by cases h)
 ·obtain ⟨z,_,rfl⟩:=E2.1 hx
  rfl
 ·obtain ⟨z,hz,rfl⟩:=E2.1 hx
  have:y=.v z:=by simpa [AV.cells] using hy
  subst this
  exact hone z hz
 all_goals
  rw [C4,Da] at hx
  obtain ⟨z,hz,rfl⟩:=hx
  have hlt:i<ys.length:=(Ac.1 hz).1
  have hj:j=0:=by
   match j,hy with
   | 0,_=>rfl
   | j+1,hy=>simp [AV.cells] at hy
  subst hj
 ·refine ⟨by simpa using g2 i (by simpa using hlt),?_⟩
  rw [World.cell?_alloc_new]
  simp [hlt]
 have:y=.v z:=by simpa [AV.cells] using hy.symm
 subst this
 have e:ys.toArray.getD i undef=z:=by
  have:=Ad hlt
  rw [this] at hz
  injection hz with hz
  simp [hlt,hz]
 rw [e]
 exact .v _ _
/-- A function that hands back a plain value and, behind an interface value, a new record of plain values. -/
theorem AFun.libErr {xs cs:List Value} {n:Value} {T te:TypeId} (hone:∀y∈cs,y.oneCell'=true) (h:∀w,Fm w→Calls P g xs.toArray w (fun e w'=>∃N,e=.returned (.tuple #[n,.iface T (.pointer (some ⟨N,0,none⟩))])∧w.heap.size≤N∧w'.heap[N]? = some (.cells cs.toArray te (0,0))∧Below w.heap.size w w')):
  AFun P g (xs.map .v) Hp (.tup [.v n,.iface T (.ro (cs.map .v))]):=by
 intro d G w vs hn hv hH hT hTop
 have hvs:=Oh hn (fun i y u a b=>⟨_,hv i y u a b⟩)
 subst hvs
 refine (callsIn_wide.2 (h w (fun x hx=>let ⟨_,u,a,b⟩:=hT.glob x hx;⟨u,a,b⟩))).mono ?_
 rintro e w' ⟨N,rfl,hN,hcell,hb⟩
 have hfree:∀o,G.tag N o=.free:=fun o=>Fj hT _ o hN
 let G':Gh:={ G with tag:=fun b o=>if b=N∧o<cs.length then .fix else G.tag b o }
 have hne:∀b o,G.tag b o≠.free→¬(b=N∧o<cs.length):=fun b o hb hc=>by rw [hc.1] at hb;exact hb (hfree o)
 have hnew:∀o,o<cs.length→w'.cell? ⟨N,o,none⟩=cs[o]? := fun o ho=>by simp [World.cell?,hcell,ho]
 have T1:Turn G w G' w':=by
  refine ⟨fun b o h=>⟨?_,(Ea hT hb (by rw [h];simp)).1⟩,fun b o L h=>?_,fun b o i h=>?_,Ah _,fun _ _=>rfl,hb.os,hb.tape,hb.output,hb.size,
   Il (fun b hv=>hb.block b hv.1) hb.size (fun b o hlt=>.inl ?_) (fun _ hi=>.inl ⟨hi,rfl⟩)⟩
  ·simp only [G'];rw [if_neg (hne b o (by rw [h];simp))];exact h
  ·simp only [G'];rw [if_neg (hne b o (by rw [h];simp))];exact h
  ·simp only [G'];rw [if_neg (hne b o (by rw [h];simp))];exact h
  simp only [G'];rw [if_neg (by omega)]
 have hH':HeapRel G' Hp w':=⟨fun i x hx=>by
  have hi:i<G.n:=by rw [hH.n];exact (Ac.1 hx).1
  exact T1.objRel hi (hb.block _ (Ji hH i hi)) (hH.obj i x hx) (fun b h=>hb.block b h.lt),hH.n,hH.inj⟩
 have hT':TagOK G' w':=by
  refine ⟨fun b o h=>?_,fun b o i h=>?_,fun b o L h=>?_,hT.globKeep T1.old⟩
  ·simp only [G'] at h
   split at h
   ·rename_i hc;obtain ⟨rfl,ho⟩:=hc;exact ⟨_,(hnew o ho).trans (Ad ho)⟩
   rw [(Ea hT hb h).1];exact hT.ex b o h
  ·simp only [G'] at h
   split at h
   ·cases h
   rw [(Ea hT hb (by rw [h];simp)).2];exact hT.obj b o i h
  simp only [G'] at h
  split at h
  ·cases h
  rw [(Ea hT hb (by rw [h];simp)).2];exact hT.tail b o L h
 refine ⟨_,G',_,Hp,rfl,?_,hH',hT',T1.keep _,rfl,rfl,rfl⟩
 refine .tup _ _ _ rfl (fun i y u hy hu=>?_)
 match i with
 | 0=>simp at hy hu;subst hy;subst hu;exact .v _ _
 | 1 =>
  simp at hy hu;subst hy;subst hu
  refine .iface _ _ _ _ (.ro _ _ ⟨N,0,none⟩ (fun j=>cs.getD j undef) rfl (fun y hy=>?_) (fun j y hy=>?_) (fun j y hy=>?_))
  ·obtain ⟨z,hz,rfl⟩:=E2.1 hy
   exact hone z hz
  all_goals
   rw [C4,Da] at hy
   obtain ⟨z,hz,rfl⟩:=hy
   have hlt:j<cs.length:=(Ac.1 hz).1
   have e:cs.getD j undef=z:=by rw [Dw,hz];rfl
  ·refine ⟨by simp [G',hlt],?_⟩
   rw [B7,hnew j hlt,hz,e]
  rw [e];exact .v _ _
 | i+2=>simp at hy
theorem TagOK.globIn {G:Gh} {w:World} (h:TagOK G w):Fm w:=fun x hx=>(h.glob x hx).2
/-- A package-level variable of which something is known. -/
theorem R.loadGlob {d:Nat} {ops:Array Oper} {rest:List Oper} {sz:Nat} {fr:Nat→AV} {up own:List AObj} {dfs:List Nat} {rnd:Option Nat} {Q:St→Prop} {s:Nat} {ty:TypeId} {pos:String} {aft:Array Edge} {t:TypeId} {gl:Nat} {v:Value}
  (hagg:∀w,(isAgg t).run P w=.ok false w) (hv:∀w,Fm w→w.cell? ⟨gl,0,none⟩=some v) (hr:ARun P d ops rest ⟨sz,Aa s (.v v) fr,up,own,dfs,rnd⟩ Q) (hs:Nat.blt s sz=true:=by rfl):
  ARun P d ops (⟨some s,.load t (.global gl),ty,pos,aft,none⟩::rest) ⟨sz,fr,up,own,dfs,rnd⟩ Q:=by
 refine ARun.v rfl rfl (by simpa using hs) (Be (by intro c h;cases h) fun G a w h=>⟨v,?_,.v _ _⟩) hr
 have hc:=hv w h.tags.globIn
 have e:a.eval (.global gl)=.pointer (some ⟨gl,0,none⟩):=rfl
 simp [execOp,e,Instr.loadAt,Instr.sureAddr,loadVar,hagg,hc]
end
end Go.SX
namespace Go.SX
def Ht:=@AFun.lib
end Go.SX
namespace Go.SX.Nb
open Go Go.SX Go.Proofs
set_option maxRecDepth 4000

/-- Where strconv.ErrRange and strconv.ErrSyntax point. -/
class ErrAt where
 b:Addr
 bs:Addr
 bd:Nat:=0
 bl:List Deferred:=[]
/-- The package-level variables of which something is known: bytealg.MaxLen is a number; strconv.ErrRange is an error of errors.New's make; the table of powers of ten. -/
def P9 [E:ErrAt]:List (Nat×(Obj→Prop)):=[(0,fun o=>∃m t f,o=.cells #[.int .i64 m] t f),(2,fun o=>∃t f,o=.cells #[.iface 269 (.pointer (some E.b))] t f),(3,fun o=>∃t f,o=.cells #[.iface 269 (.pointer (some E.bs))] t f),(1,fun o=>∃t f,o=.cells (Lib.pow10Tab.map fun z=>Value.int .u64 z).toArray t f)]
instance globInv [E:ErrAt]:GlobInv:={ blocks:=P9,bd:=E.bd,bl:=E.bl }
variable [ErrAt]

abbrev Str:=List UInt8
structure Col where
 name:Str
 kind:Int
 deriving DecidableEq
structure Val where
 kind:Int
 n:Int
 s:Str
 deriving DecidableEq
abbrev A8 (s:Str):AV:=.v (sv s)
abbrev A3 (n:Int):AV:=.v (.int .i64 n)
abbrev Cf (n:Int):AV:=.v (.int .u64 n)
abbrev Aj (b:Bool):AV:=.v (.bool b)
abbrev Jp (c:Col):AV:=.agg [.v (sv c.name),.v (.int .i64 c.kind)]
abbrev Cu (c:List Col):AV:=.slice false 2 (c.map Jp)
abbrev Fo (v:Val):AV:=.agg [.v (.int .i64 v.kind),.v (.int .i64 v.n),.v (sv v.s)]
abbrev Ia (l:List Val):AV:=.slice false 3 (l.map Fo)
abbrev Fv (l:List Str):AV:=.slice false 1 (l.map A8)
theorem Bg {α β:Type} {f:α→β} {l:List α} {i:Nat} (h:i<l.length):(l.map f)[i]? = some (f l[i]):=by simp [h]
theorem Av:Tryz.prog.follows .mixedOrders=true:=by kernel_rfl
theorem eo:Tryz.prog.eqGuardType Tryz.prog.depth 35=false:=by kernel_rfl
theorem Ls (k n k' n':Int) (s s':List UInt8) (w:World):(Op.equal 35 (.agg #[.int .i64 k,.int .i64 n,.string ⟨s.toArray⟩]) (.agg #[.int .i64 k',.int .i64 n',.string ⟨s'.toArray⟩])).run Tryz.prog w=.ok (k==k'&&n==n'&&s==s') w:=by
 have h1:Tryz.prog.stoodInHeld 35=false:=by kernel_rfl
 show (Op.equalIn (9999+1) _ _ _).run _ _=_
 rw [Op.equalIn]
 generalize hd:(9999:Nat)=d
 obtain ⟨d,rfl⟩:∃e,d=e+1:=⟨9998,hd.symm⟩
 clear hd
 simp [run_underlying Tryz.underlying35,h1,part,lf _ _ _ _ _ _ Tryz.underlying3,lf _ _ _ _ _ _ Tryz.underlying2,nk _ _ _ _ _ Tryz.underlying9,Tryz.isAgg3,Tryz.isAgg2,Tryz.isAgg9]
 by_cases e1:k=k'<;>by_cases e2:n=n'<;>by_cases e3:s=s'<;>simp [e1,e2,e3]
end Go.SX.Nb
namespace Go.Proofs
open Go Go.Shelf
theorem ly {p:Prop} (h:p:=by repeat' first|kernel_rfl|(intro w;kernel_rfl)|constructor):p:=h
def Tryz.ren144:Ren where
 f:=fun x=>match x with|144=>32|143=>63|219=>99|217=>144|225=>145|224=>146|267=>147|266=>191|314=>192|n=>n
 t:=fun x=>match x with|9=>9|4=>4|3=>3|5=>5|46=>46|146=>218|51=>202|n=>n
 g:=fun x=>match x with|1=>0|n=>n
theorem Tryz.lays144:Lays.n144 Tryz.prog Tryz.ren144:=ly
def Tryz.ren145:Ren where
 f:=fun x=>match x with|145=>60|220=>89|219=>99|217=>144|225=>145|224=>146|267=>147|266=>191|314=>192|n=>n
 t:=fun x=>match x with|9=>9|4=>4|59=>114|3=>3|5=>5|46=>46|146=>218|51=>202|n=>n
 g:=fun x=>match x with|1=>0|n=>n
theorem Tryz.lays145:Lays.n145 Tryz.prog Tryz.ren145:=ly
def Tryz.ren146:Ren where
 f:=fun x=>match x with|146=>79|221=>109|268=>158|138=>159|143=>63|195=>198|197=>167|218=>199|219=>99|260=>204|217=>144|225=>145|224=>146|267=>147|266=>191|314=>192|n=>n
 t:=fun x=>match x with|9=>9|31=>33|3=>3|4=>4|0=>0|105=>198|21=>21|5=>5|46=>46|119=>249|139=>252|138=>251|146=>218|51=>202|n=>n
 g:=fun x=>match x with|1=>0|3=>4|4=>5|n=>n
theorem Tryz.lays146:Lays.n146 Tryz.prog Tryz.ren146:=ly
def Tryz.ren161:Ren where
 f:=fun x=>match x with|161=>200|231=>207|227=>209|233=>210|235=>212|228=>229|197=>167|151=>230|260=>204|152=>232|137=>241|119=>242|224=>146|225=>145|217=>144|266=>191|n=>n
 t:=fun x=>match x with|9=>9|4=>4|3=>3|5=>5|117=>230|116=>229|0=>0|124=>233|105=>198|21=>21|119=>249|46=>46|139=>252|138=>251|n=>n
 g:=fun x=>match x with|3=>4|4=>5|n=>n
theorem Tryz.lays161:Lays.n161 Tryz.prog Tryz.ren161:=ly
def Tryz.ren99:Ren where
 f:=fun x=>match x with|99=>127|206=>177|n=>n
 t:=fun x=>match x with|9=>9|4=>4|3=>3|n=>n
 g:=fun x=>x
theorem Tryz.lays99:Lays.n99 Tryz.prog Tryz.ren99:=ly
def Tryz.ren100:Ren where
 f:=fun x=>match x with|100=>138|207=>184|n=>n
 t:=fun x=>match x with|9=>9|4=>4|3=>3|n=>n
 g:=fun x=>x
theorem Tryz.lays100:Lays.n100 Tryz.prog Tryz.ren100:=ly
def Tryz.ren101:Ren where
 f:=fun x=>match x with|101=>93|208=>135|206=>177|n=>n
 t:=fun x=>match x with|9=>9|4=>4|3=>3|n=>n
 g:=fun x=>x
theorem Tryz.lays101:Lays.n101 Tryz.prog Tryz.ren101:=ly
def Tryz.ren160:Ren where
 f:=fun x=>match x with|160=>174|232=>208|231=>207|227=>209|234=>211|233=>210|236=>213|235=>212|228=>229|271=>231|151=>230|197=>167|120=>240|152=>232|260=>204|137=>241|119=>242|224=>146|225=>145|217=>144|266=>191|n=>n
 t:=fun x=>match x with|9=>9|4=>4|3=>3|5=>5|117=>230|116=>229|0=>0|124=>233|21=>21|105=>198|46=>46|119=>249|139=>252|138=>251|n=>n
 g:=fun x=>match x with|3=>4|4=>5|n=>n
theorem Tryz.lays160:Lays.n160 Tryz.prog Tryz.ren160:=ly
def Tryz.ren155:Ren where
 f:=fun x=>match x with|155=>86|154=>119|138=>159|165=>114|143=>63|166=>115|197=>167|169=>116|195=>198|218=>199|240=>163|241=>164|219=>99|260=>204|276=>201|277=>202|217=>144|225=>145|224=>146|267=>147|266=>191|314=>192|n=>n
 t:=fun x=>match x with|9=>9|3=>3|4=>4|72=>157|0=>0|76=>159|105=>198|21=>21|5=>5|70=>155|20=>20|37=>90|75=>141|127=>196|164=>223|46=>46|119=>249|139=>252|138=>251|146=>218|51=>202|80=>100|n=>n
 g:=fun x=>match x with|1=>0|3=>4|4=>5|n=>n
theorem Tryz.lays155:Lays.n155 Tryz.prog Tryz.ren155:=ly
def Tryz.ren156:Ren where
 f:=fun x=>match x with|156=>83|165=>114|166=>115|169=>116|240=>163|241=>164|276=>201|277=>202|n=>n
 t:=fun x=>match x with|31=>33|9=>9|3=>3|4=>4|0=>0|20=>20|72=>157|76=>159|70=>155|37=>90|75=>141|127=>196|164=>223|5=>5|80=>100|n=>n
 g:=fun x=>x
theorem Tryz.lays156:Lays.n156 Tryz.prog Tryz.ren156:=ly
def Tryz.ren174:Ren where
 f:=fun x=>match x with|174=>175|247=>214|245=>142|287=>141|279=>187|280=>188|281=>189|282=>190|321=>185|322=>186|316=>227|171=>58|205=>228|243=>87|246=>120|283=>121|284=>122|285=>123|286=>124|129=>169|317=>168|318=>170|319=>171|320=>172|337=>205|338=>206|n=>n
 t:=fun x=>match x with|9=>9|3=>3|2=>2|75=>141|85=>205|4=>4|167=>213|5=>5|53=>22|175=>142|46=>46|168=>215|37=>90|0=>0|210=>247|21=>21|127=>196|145=>271|143=>269|171=>167|173=>170|212=>201|51=>202|20=>20|213=>203|232=>253|233=>254|80=>100|n=>n
 g:=fun x=>match x with|15=>3|16=>2|17=>1|18=>6|19=>7|n=>n
theorem Tryz.lays174:LaysC.n174 Tryz.prog Tryz.ren174:=ly
def Tryz.ren173:Ren where
 f:=fun x=>match x with|173=>110|246=>120|283=>121|284=>122|285=>123|286=>124|129=>169|317=>168|318=>170|319=>171|320=>172|337=>205|338=>206|n=>n
 t:=fun x=>match x with|2=>2|3=>3|9=>9|4=>4|171=>167|0=>0|53=>22|37=>90|5=>5|173=>170|212=>201|51=>202|20=>20|213=>203|46=>46|232=>253|233=>254|n=>n
 g:=fun x=>match x with|17=>1|18=>6|19=>7|n=>n
theorem Tryz.lays173:LaysM.n173 Tryz.prog Tryz.ren173:=ly
def Tryz.ren137:Ren where
 f:=fun x=>match x with|137=>241|217=>144|266=>191|n=>n
 t:=fun x=>match x with|9=>9|5=>5|3=>3|n=>n
 g:=fun x=>x
theorem Tryz.lays137:Lays.n137 Tryz.prog Tryz.ren137:=ly
def Tryz.ren172:Ren where
 f:=fun x=>match x with|172=>183|244=>226|245=>142|247=>214|279=>187|280=>188|281=>189|282=>190|287=>141|316=>227|171=>58|205=>228|321=>185|322=>186|243=>87|246=>120|283=>121|284=>122|285=>123|286=>124|129=>169|317=>168|318=>170|319=>171|320=>172|337=>205|338=>206|n=>n
 t:=fun x=>match x with|9=>9|3=>3|75=>141|76=>159|4=>4|5=>5|167=>213|37=>90|0=>0|85=>205|2=>2|168=>215|53=>22|175=>142|46=>46|210=>247|127=>196|145=>271|143=>269|21=>21|171=>167|173=>170|212=>201|51=>202|20=>20|213=>203|232=>253|233=>254|80=>100|n=>n
 g:=fun x=>match x with|15=>3|16=>2|17=>1|18=>6|19=>7|n=>n
theorem Tryz.lays172:LaysC.n172 Tryz.prog Tryz.ren172:=ly
def Tryz.ren171:Ren where
 f:=fun x=>match x with|171=>58|243=>87|246=>120|283=>121|284=>122|285=>123|286=>124|129=>169|317=>168|318=>170|319=>171|320=>172|337=>205|338=>206|n=>n
 t:=fun x=>match x with|3=>3|9=>9|2=>2|4=>4|171=>167|0=>0|53=>22|37=>90|5=>5|173=>170|212=>201|51=>202|20=>20|213=>203|46=>46|232=>253|233=>254|n=>n
 g:=fun x=>match x with|17=>1|18=>6|19=>7|n=>n
theorem Tryz.lays171:LaysM.n171 Tryz.prog Tryz.ren171:=ly
def Tryz.ren153:Ren where
 f:=fun x=>match x with|153=>217|152=>232|226=>233|227=>209|228=>229|137=>241|119=>242|224=>146|225=>145|217=>144|266=>191|n=>n
 t:=fun x=>match x with|9=>9|3=>3|4=>4|5=>5|21=>21|117=>230|116=>229|0=>0|46=>46|124=>233|n=>n
 g:=fun x=>x
theorem Tryz.lays153:Lays.n153 Tryz.prog Tryz.ren153:=ly
end Go.Proofs
namespace Go.SX.Nb
open Go Go.SX Go.Proofs Go.RowKit
variable [ErrAt]
set_option maxRecDepth 4000
theorem Kd {w:World} (h:Fm w):∃m,w.cell? ⟨0,0,none⟩=some (.int .i64 m):=by
 obtain ⟨_,a,m,t,f,rfl⟩:=h (0,fun o=>∃m t f,o=.cells #[.int .i64 m] t f) (by simp [GlobInv.blocks,P9])
 exact ⟨m,by simp [World.cell?,a]⟩
theorem Jq {w:World} (h:Fm w):w.cell? ⟨2,0,none⟩=some (.iface 269 (.pointer (some ErrAt.b))):=by
 obtain ⟨_,a,t,f,rfl⟩:=h (2,fun o=>∃t f,o=.cells #[.iface 269 (.pointer (some ErrAt.b))] t f) (by simp [GlobInv.blocks,P9])
 simp [World.cell?,a]
theorem Tc {w:World} (h:Fm w):w.cell? ⟨3,0,none⟩=some (.iface 269 (.pointer (some ErrAt.bs))):=by
 obtain ⟨_,a,t,f,rfl⟩:=h (3,fun o=>∃t f,o=.cells #[.iface 269 (.pointer (some ErrAt.bs))] t f) (by simp [GlobInv.blocks,P9])
 simp [World.cell?,a]
theorem V2 {w:World} (h:Fm w):Lib.TabIs Tryz.prog w "internal/strconv.uint64pow10" .u64 Lib.pow10Tab:=by
 obtain ⟨_,a,t,f,rfl⟩:=h (1,fun o=>∃t f,o=.cells (Lib.pow10Tab.map fun z=>Value.int .u64 z).toArray t f) (by simp [GlobInv.blocks,P9])
 have hg:Tryz.prog.globalNamed "internal/strconv.uint64pow10" = some 1:=by kernel_rfl
 simp only at a
 simp [Lib.TabIs,World.var?,hg,a]
theorem V3 (w:World) (n:Nat):Below w.heap.size w (w.drewN n):=⟨rfl,rfl,rfl,Ah _,fun _ _=>rfl⟩
theorem c32 (s t:Str) (hs:s.length<4294967281) (Hp:List AObj):AFun Tryz.prog 32 [A8 s,A8 t] Hp (Aj (Lib.contains s t)):=by
 refine Ht (xs:=[sv s,sv t]) (v:=.bool (Lib.contains s t)) (fun G w=>.v _ _) (fun w hg=>?_)
 obtain ⟨m,hm⟩:=Kd hg
 refine (Any.strings_Contains Tryz.lays144 ⟨s.toArray⟩ ⟨t.toArray⟩ m w (by simpa [ByteArray.size] using hs) hm).mono ?_
 rintro e w' ⟨rfl,rfl⟩
 exact V0
theorem c60 (s t:Str) (hs:s.length<4294967281) (Hp:List AObj):AFun Tryz.prog 60 [A8 s,A8 t] Hp (.tup [A8 (Lib.cut s t).1,A8 (Lib.cut s t).2.1,Aj (Lib.cut s t).2.2]):=by
 refine Ht (xs:=[sv s,sv t]) (v:=.tuple #[sv (Lib.cut s t).1,sv (Lib.cut s t).2.1,.bool (Lib.cut s t).2.2]) (fun G w=>Ka rfl (fun i y u hy hu=>?_)) (fun w hg=>?_)
 ·match i with
  | 0=>simp at hy hu;subst hy;subst hu;exact .v _ _
  | 1=>simp at hy hu;subst hy;subst hu;exact .v _ _
  | 2=>simp at hy hu;subst hy;subst hu;exact .v _ _
  | i+3=>simp at hy
 obtain ⟨m,hm⟩:=Kd hg
 refine (Any.strings_Cut Tryz.lays145 ⟨s.toArray⟩ ⟨t.toArray⟩ m w (by simpa [ByteArray.size] using hs) hm).mono ?_
 rintro e w' ⟨rfl,n,rfl⟩
 exact ⟨rfl,V3 _ _⟩
theorem r7 (s t:Str) (ht:t.length<4294967281) (ha:∀c∈t,c.toNat<128) (Hp:List AObj):AFun Tryz.prog 200 [A8 s,A8 t] Hp (A8 (Lib.trimLeftS s t)):=by
 refine Ht (xs:=[sv s,sv t]) (v:=sv (Lib.trimLeftS s t)) (fun G w=>.v _ _) (fun w hg=>?_)
 refine (Any.strings_TrimLeft_laid Tryz.lays161 (by kernel_rfl) ⟨s.toArray⟩ ⟨t.toArray⟩ w (by simpa [ByteArray.size] using ht) (fun j b hj=>ha b (Ax hj))).mono ?_
 rintro e w' ⟨rfl,hb⟩
 exact ⟨rfl,hb⟩
/-- The pieces of a split. -/
def Jr (s t:Str):List Str:=(Lib.splitB ⟨t.toArray⟩ 0 (Lib.countB ⟨s.toArray⟩ ⟨t.toArray⟩) ⟨s.toArray⟩).map (·.data.toList)
theorem c79 (s t:Str) (hs:s.length<4294967281) (ht:1≤t.length) (Hp:List AObj):AFun Tryz.prog 79 [A8 s,A8 t] Hp (Fv (Jr s t)):=by
 have:=AFun.libSlice (P:=Tryz.prog) (g:=79) (Hp:=Hp) (xs:=[sv s,sv t]) (ys:=(Jr s t).map sv) (t:=9) (by intro y hy;obtain ⟨z,_,rfl⟩:=E2.1 hy;rfl) (fun w hg=>by
  obtain ⟨m,hm⟩:=Kd hg
  refine (Any.strings_Split Tryz.lays146 (by kernel_rfl) ⟨s.toArray⟩ ⟨t.toArray⟩ m w (by simpa [ByteArray.size] using hs) hm (by simpa [ByteArray.size] using ht)).mono ?_
  rintro e w' ⟨rfl,rfl⟩
  have hl:((Jr s t).map sv).length=Lib.countB ⟨s.toArray⟩ ⟨t.toArray⟩+1:=by
   rw [Bs]
   unfold Jr
   rw [Bs]
   exact Lib.splitB_all _ (by simpa [ByteArray.size] using ht) _ _ _ rfl
  refine ⟨by rw [hl],?_⟩
  unfold Jr
  rw [Ku]
  rfl)
 rw [Ku] at this
 exact this
end Go.SX.Nb
namespace Go.Proofs
open Go Go.RowKit Go.Extern.Stop Go.Stop Go.Extern
theorem Tryz.isTypeOf (v:Value) (w:World):(Extern.ReflectliteType.typeOf #[.iface 269 v]).run Tryz.prog w=.ok (.iface 257 (.agg #[.pointer (some ⟨8,269,none⟩)])) w:=by kernel_rfl
def Tryz.cmpOf:Array Value→Sem Value:=Extern.ReflectliteType.method fun t=>do Extern.Rtype.noPackHeld "Comparable" t;pure (.bool (←typeInfo t).comparable)
theorem Tryz.isComparable (w:World):(Tryz.cmpOf #[.agg #[.pointer (some ⟨8,269,none⟩)]]).run Tryz.prog w=.ok (.bool true) w:=by kernel_rfl
theorem Tryz.isMethodComparable (v:Value) (w:World):(Go.method 406 257 v "Comparable").run Tryz.prog w=.ok (279,v) w:=by kernel_rfl
theorem Tryz.isComp:(Tryz.prog.info? 269).map (·.comparable)=some true:=by kernel_rfl
theorem Tryz.isSize:(Tryz.prog.info? 271).map (·.size)=some 1:=by kernel_rfl
theorem Tryz.noIsW (v:Value) (xT:TypeId) (w:World):(Instr.typeAssert (.iface 215 v) xT 259 true).run Tryz.prog w=.ok (.tuple #[.nilIface,.bool false]) w:=run_typeAssert_lacksB Tryz.underlying259 (by kernel_rfl) (by kernel_rfl) v xT w
theorem Tryz.hasUnwrapW (v:Value) (xT:TypeId) (w:World):(Instr.typeAssert (.iface 215 v) xT 262 true).run Tryz.prog w=.ok (.tuple #[.iface 215 v,.bool true]) w:=run_typeAssert_hasB Tryz.underlying262 (by kernel_rfl) v xT w
theorem Tryz.methodUnwrap (v:Value) (w:World):(Go.method 406 215 v "Unwrap").run Tryz.prog w=.ok (275,v) w:=by kernel_rfl
namespace Tryz
theorem is_nil (b:Addr) (w:World):
  Calls Tryz.prog 176 #[.nilIface,.iface 269 (.pointer (some b))] w fun e w'=>e=.returned (.bool false)∧w'=w:=by
 have hn:=run_eql_iface_nil_left (P:=Tryz.prog) w 269 (.pointer (some b)) Tryz.underlying141
 go_enter Tryz.func176,Tryz.ntmps176
 go_wp2
 go_ret
 exact ⟨rfl,rfl⟩
set_option maxRecDepth 100000 in
theorem is_range (pb po:Nat) (b:Addr) (w:World) (h1:w.cell? ⟨pb,po+2,none⟩=some (.iface 269 (.pointer (some b)))):
  Calls Tryz.prog 176 #[.iface 215 (.pointer (some ⟨pb,po,none⟩)),.iface 269 (.pointer (some b))] w fun e w'=>e=.returned (.bool true)∧w'=w:=by
 obtain ⟨i,hi,hcmp⟩:=Option.map_eq_some_iff.1 Tryz.isComp
 obtain ⟨j,hj,hjs⟩:=Option.map_eq_some_iff.1 Tryz.isSize
 have h8:=@run_callFunc_extern Tryz.prog 215 _ Extern.ReflectliteType.typeOf Tryz.func215 (by kernel_rfl) (by kernel_rfl) (by kernel_rfl) (by kernel_rfl)
 have h32:=@run_callFunc_extern Tryz.prog 279 _ Tryz.cmpOf Tryz.func279 (by kernel_rfl) (by kernel_rfl) (by kernel_rfl) (by kernel_rfl)
 have tT:=Tryz.isTypeOf
 have cT:=Tryz.isComparable
 have mR:=Tryz.isMethodComparable
 have nW:=Tryz.noIsW
 have uW:=Tryz.hasUnwrapW
 have mU:=Tryz.methodUnwrap
 have heq:=run_eql_iface_ptr_same (P:=Tryz.prog) w b Tryz.underlying141 Tryz.underlying269 hi hcmp hj
 have hty:=run_eql_iface_types (P:=Tryz.prog) 215 269 (.pointer (some ⟨pb,po,none⟩)) (.pointer (some b)) Tryz.underlying141 (by decide) w
 go_enter Tryz.func176,Tryz.ntmps176
 go_wp2
 refine wp_loop_rounds 2 ?_
 rw [rounds_succ]
 go_wp2
 rw [rounds_succ]
 go_wp2
 go_ret
 exact ⟨rfl,rfl⟩
end Tryz
end Go.Proofs
namespace Go.SX.Nb
open Go Go.SX Go.Proofs Go.RowKit Go.Sort
variable [ErrAt]
set_option maxRecDepth 4000
theorem iu (s t:Str) (Hp:List AObj):AFun Tryz.prog 127 [A8 s,A8 t] Hp (Aj (Lib.hasPrefix s t)):=by
 refine Ht (xs:=[sv s,sv t]) (v:=.bool (Lib.hasPrefix s t)) (fun G w=>.v _ _) (fun w hg=>?_)
 refine (Any.strings_HasPrefix Tryz.lays99 ⟨s.toArray⟩ ⟨t.toArray⟩ w).mono ?_
 rintro e w' ⟨rfl,rfl⟩
 exact V0
theorem r8 (s t:Str) (hs:s.length≤9223372036854775807) (Hp:List AObj):AFun Tryz.prog 138 [A8 s,A8 t] Hp (Aj (Lib.hasSuffix s t)):=by
 refine Ht (xs:=[sv s,sv t]) (v:=.bool (Lib.hasSuffix s t)) (fun G w=>.v _ _) (fun w hg=>?_)
 refine (Any.strings_HasSuffix Tryz.lays100 ⟨s.toArray⟩ ⟨t.toArray⟩ w (by simpa [ByteArray.size] using hs)).mono ?_
 rintro e w' ⟨rfl,rfl⟩
 exact V0
theorem r9 (s:Str) (c:UInt8) (Hp:List AObj):AFun Tryz.prog 241 [A8 s,.v (.int .u8 (c.toNat:Int))] Hp (A3 (Lib.indexByte s c)):=by
 refine Ht (xs:=[sv s,.int .u8 (c.toNat:Int)]) (v:=.int .i64 (Lib.indexByte s c)) (fun G w=>.v _ _) (fun w hg=>?_)
 refine (Any.strings_IndexByte Tryz.lays137 ⟨s.toArray⟩ (c.toNat:Int) w).mono ?_
 rintro e w' ⟨rfl,rfl⟩
 exact ⟨by simp,Below.refl _ _⟩
theorem ra:Builder.Extra Tryz.prog Tryz.ren155:={ sizeBuilder:=by kernel_rfl,liesBuilder:=by kernel_rfl,t5:=Tryz.underlying5,a5:=Tryz.isAgg5,z5:=Tryz.sizeOf5,v5:=Tryz.zeroValue5,infoByte:=by kernel_rfl,cellsByte:=by kernel_rfl,sizeByte:=by kernel_rfl,neB5:=by decide }
theorem c86 (s o n:Str) (hs:s.length<4294967281) (ho:1≤o.length) (hl:s.length+Lib.countB ⟨s.toArray⟩ ⟨o.toArray⟩*n.length≤140737488355328) (Hp:List AObj):AFun Tryz.prog 86 [A8 s,A8 o,A8 n] Hp (A8 (Lib.replaceAll s o n)):=by
 refine Ht (xs:=[sv s,sv o,sv n]) (v:=sv (Lib.replaceAll s o n)) (fun G w=>.v _ _) (fun w hg=>?_)
 obtain ⟨m,hm⟩:=Kd hg
 refine (Any.strings_ReplaceAll Tryz.lays155 ra ⟨s.toArray⟩ ⟨o.toArray⟩ ⟨n.toArray⟩ m w (by simpa [ByteArray.size] using hs) hm (by simpa [ByteArray.size] using ho) (by simpa [ByteArray.size] using hl)).mono ?_
 rintro e w' ⟨rfl,hb⟩
 exact ⟨rfl,hb⟩
theorem Pa (w:World) (k:Nat) (os:Array Obj):Below w.heap.size w (grow (w.drewN k) os):=by
 refine ⟨rfl,rfl,rfl,by simp [grow],fun b hb=>?_⟩
 show ((w.drewN k).heap++os)[b]? = w.heap[b]?
 rw [J4 (by exact hb)]
 rfl
theorem rb (n:Int) (h0 : -9223372036854775808≤n) (h1:n≤9223372036854775807) (Hp:List AObj):AFun Tryz.prog 110 [.v (.int .i64 n),A3 10] Hp (A8 (Lib.itoa n)):=by
 refine Ht (xs:=[.int .i64 n,.int .i64 10]) (v:=sv (Lib.itoa n)) (fun G w=>.v _ _) (fun w hg=>?_)
 refine (Any.strconv_FormatInt_10 Tryz.lays173 n h0 h1 w (V2 hg)).mono ?_
 rintro e w' ⟨rfl,k,os,rfl⟩
 exact ⟨rfl,Pa _ _ _⟩
end Go.SX.Nb
namespace Go.SX.Nb
open Go Go.SX Go.Proofs Go.RowKit
variable [ErrAt]
set_option maxRecDepth 4000
def digs:Str:=[48,49,50,51,52,53,54,55,56,57]
def J3 (s:Str):Str:=Lib.trimPrefix s [45]
def Fa (s:Str):Bool:=(J3 s==[]) || !(Lib.trimS (J3 s) digs==[]) || (((J3 s).headD 0==48)&&decide (1<s.length))
def C9 (s:Str):Int×Int:=if Fa s then (0,6) else match Lib.parseIntB 64 s with|.ok v=>(v,0)|.range=>(0,4)|_=>(0,0)
def iv {α:Type}:Lib.NumEnd α→Bool|.ok _=>false|.range=>false|_=>true
theorem Td {p:UInt8→Bool}:∀{l:Str},l.dropWhile p=[]↔∀b∈l,p b=true
 | []=>by simp
 | b::r=>by
  rw [Me]
  by_cases h:p b=true
  ·rw [if_pos h,Td]
   simp [h]
  rw [if_neg h]
  simp [h]
theorem ep {p:UInt8→Bool}:∀{l:Str} {b:UInt8},b∈l→p b=false→b∈l.dropWhile p
 | x::r,b,h,hb=>by
  rw [Me]
  by_cases hx:p x=true
  ·rw [if_pos hx]
   rcases Bt.1 h with rfl|h
   ·rw [hb] at hx;cases hx
   exact ep h hb
  rw [if_neg hx];exact h
theorem Re {l cs:Str}:Lib.trimS l cs=[]↔∀b∈l,cs.contains b=true:=by
 unfold Lib.trimS Lib.trimLeftS Lib.trimRightS
 rw [Td]
 constructor
 ·intro h b hb
  cases hc:cs.contains b with
  | true=>rfl
  | false =>
   have:=h b (O7.2 (ep (p:=(cs.contains ·)) (O7.2 hb) hc))
   rw [hc] at this;exact this
 intro h b hb
 exact h b (O7.1 ((Wg (cs.contains ·)).subset (O7.1 hb)))
theorem Km (c:UInt8):digs.contains c=(decide (48≤c.toNat)&&decide (c.toNat≤57)):=by
 have h:((List.range 256).all fun n=>digs.contains (UInt8.ofNat n)==(decide (48≤(UInt8.ofNat n).toNat)&&decide ((UInt8.ofNat n).toNat≤57)))=true:=by kernel_rfl
 have:=Ap.1 h c.toNat (Dm.2 c.toNat_lt)
 simpa using this
theorem Rf (M:Nat):∀(l:Str) (acc:Nat),(∀b∈l,digs.contains b=true)→iv (Lib.parseUintM M acc l)=false
 | [],acc,_=>by rw [Lib.parseUintM];rfl
 | c::r,acc,h=>by
  have hc:=h c (by simp)
  rw [Km] at hc
  simp only [B1,decide_eq_true_eq] at hc
  rw [Lib.parseUintM,if_pos hc]
  split
  ·rfl
  split
  ·rfl
  exact Rf M r _ (fun b hb=>h b (by simp [hb]))
theorem Ni (s:Str):(s.head? ≠ some 45∧J3 s=s)∨∃r,s=45::r∧J3 s=r:=by
 unfold J3 Lib.trimPrefix Lib.hasPrefix
 cases s with
 | nil=>exact .inl ⟨by simp,rfl⟩
 | cons c r =>
  by_cases hc:c=45
  ·subst hc;exact .inr ⟨r,rfl,by simp [List.isPrefixOf]⟩
  refine .inl ⟨by simpa using hc,?_⟩
  rw [if_neg]
  simp [List.isPrefixOf,Ne.symm hc]
theorem Js {s:Str} (h:Fa s=false):iv (Lib.parseIntB 64 s)=false:=by
 unfold Fa at h
 simp only [Kt,Md,beq_iff_eq,beq_eq_false_iff_ne] at h
 obtain ⟨⟨h1,h2⟩,_⟩:=h
 rw [Re] at h2
 have key:∀l:Str,l≠[]→(∀b∈l,digs.contains b=true)→iv (Lib.parseUintB 64 l)=false:=fun l hl ha=>by
  unfold Lib.parseUintB
  rw [if_neg hl]
  exact Rf _ l 0 ha
 rcases Ni s with ⟨h3,h4⟩|⟨r,rfl,h4⟩
 ·rw [h4] at h1 h2
  cases s with
  | nil=>exact absurd rfl h1
  | cons c r =>
   have hcd:=h2 c (by simp)
   rw [Km] at hcd
   simp only [B1,decide_eq_true_eq] at hcd
   have e1:¬(c.toNat=43∨c.toNat=45):=by omega
   have:=key (c::r) (by simp) h2
   simp only [Lib.parseIntB,if_neg e1]
   revert this
   cases Lib.parseUintB 64 (c::r) with
   | range=>intro _;rfl
   | ok u=>intro _;simp only;split<;>(try split)<;>rfl
   | _=>intro h;cases h
 rw [h4] at h1 h2
 have:=key r h1 h2
 have e1:((45:UInt8).toNat=43∨(45:UInt8).toNat=45):=.inr rfl
 simp only [Lib.parseIntB,if_pos e1]
 revert this
 cases Lib.parseUintB 64 r with
 | range=>intro _;rfl
 | ok u=>intro _;simp only;split<;>(try split)<;>rfl
 | _=>intro h;cases h
end Go.SX.Nb
namespace Go.SX.Nb
open Go Go.SX Go.Proofs
variable [ErrAt]
set_option maxRecDepth 4000
def F3 (c:UInt8):Bool:=decide ((97:Int)≤c.toNat)&&decide ((c.toNat:Int)≤122)
def Mq (c:UInt8):Bool:=decide ((48:Int)≤c.toNat)&&decide ((c.toNat:Int)≤57)
theorem c66 (c:UInt8) (Hp:List AObj):AFun Tryz.prog 66 [.v (.int .u8 (c.toNat:Int))] Hp (.v (.bool (F3 c))):=by
 refine Ai [.tmp 2] [0] Tryz.func66 Tryz.ntmps66 (fun d=>?_)
 refine Z31 ?_;refine Z16 ?_;refine Z3 ?_;exact X3

theorem c68 (c:UInt8) (Hp:List AObj):AFun Tryz.prog 68 [.v (.int .u8 (c.toNat:Int))] Hp (.v (.bool (Mq c))):=by
 refine Ai [.tmp 2] [0] Tryz.func68 Tryz.ntmps68 (fun d=>?_)
 refine Z31 ?_;refine Z16 ?_;refine Z3 ?_;exact X3

def words:List Str:=[[97,100,100],[100,114,111,112],[114,101,110,97,109,101],[115,112,108,105,116],[109,101,114,103,101],[114,101,116,121,112,101],[105,110,116,111],[116,111],[98,97,99,107],[97,110,100],[111,114],[110,111,116],[116,114,117,101],[102,97,108,115,101],[110,117,108,108],[105,110,116],[116,101,120,116],[98,111,111,108],[115,101,108,101,99,116],[119,104,101,114,101],[102,114,111,109],[108,105,109,105,116]]
def G7 (s:Str):Bool:=words.any (·==s)
theorem Rg:words.length=22:=rfl
theorem er {α:Type} {p:α→Bool} {l:List α} {i:Nat} (h:i<l.length) (hp:p l[i]=true):l.any p=true:=by
 rw [S8];exact ⟨l[i],C7 h,hp⟩
theorem V4 {α:Type} {p:α→Bool} {l:List α} (h:∀(j:Nat) (y:α),l[j]? = some y→p y=false):l.any p=false:=by
 rw [List.any_eq_false]
 intro x hx
 obtain ⟨j,hj⟩:=Cc hx
 simp [h j x hj]
theorem G8 {α:Type} {l:List α} {x:Nat} {p:α→Prop} (hlt:x<l.length) (h:∀(j:Nat) (y:α),j<x→l[j]? = some y→p y) (hx:p l[x]):∀(j:Nat) (y:α),j<x+1→l[j]? = some y→p y:=by
 intro j y hj hy
 rcases B0 j x with h'|h'
 ·exact h j y h' hy
 have:j=x:=by omega
 subst this
 rw [Ad hlt] at hy
 injection hy with hy
 subst hy
 exact hx
theorem Ib {α:Type} {l:List α} {x:Nat} {p:α→Prop} (hge:l.length≤x) (h:∀(j:Nat) (y:α),j<x→l[j]? = some y→p y):∀(j:Nat) (y:α),l[j]? = some y→p y:=
 fun j y hy=>h j y (by have:=(Ac.1 hy).1;omega) hy
theorem c67 (s:Str) (Hp:List AObj):AFun Tryz.prog 67 [A8 s] Hp (Aj (G7 s)):=by
 refine Ai [.tmp 2] [0] Tryz.func67 Tryz.ntmps67 (fun d=>?_)
 refine Z31 ?_;refine ee ?_;refine Ki ?_;refine Z19 ?_;refine A2 [0,3,4] ?_
 refine C8 (α:=Nat) (fun x=>⟨18,Aa 0 (A8 s) (Aa 3 (.slice true 1 (words.map A8)) (Aa 4 (A3 (x:Nat)) (fun _=>.any))),Hp,[],[],none⟩) (fun x=>x≤words.length∧∀(j:Nat) (y:Str),j<x→words[j]? = some y→(y==s)=false) (fun x=>words.length-x) (0) (by simp) (Es _) rfl (fun x hx=>?_)
 refine Z36 ?_;refine A2 [0,3,4,9] ?_
 refine A6 (fun ht9=>?_) (fun ht9=>?_)
 ·have hlt:x<words.length:=by simpa using ht9
  have hwl:=Rg
  refine T9 ?_
  refine A4 (h:=Ay (x) (A8 words[x]) (fun _=>Bg hlt)) (hr:=?_)
  refine Z6 ?_;refine A2 [0,3,4,17] ?_
  refine A6 (fun ht17=>?_) (fun ht17=>?_)
  ·refine Z45 ?_;refine Z61 ?_;exact A9 (Af A7) ⟨by rw [show G7 s=true from er hlt ht17],rfl⟩
  refine Z77 ?_;refine A2 [0,3,4] ?_;exact C0 (x+1) ⟨hlt,G8 hlt hx.2 ht17⟩ (by have:=Rg;omega) (Cm rfl)
 refine Z59 ?_;refine Z45 ?_;exact A9 (Af A7) ⟨by rw [show G7 s=false from V4 (Ib (by simp at ht9;omega) hx.2)],rfl⟩

def Ic (c:UInt8):Bool:=F3 c || Mq c || c==95
def Nj (s:Str):Bool:=match s with
 | []=>false
 | c::_=>decide (s.length≤16)&&F3 c && !G7 s&&s.all Ic
theorem et {α:Type} {p:α→Bool} {l:List α} {i:Nat} (h:i<l.length) (hp:p l[i]=false):l.all p=false:=by
 rw [List.all_eq_false];exact ⟨l[i],C7 h,by simp [hp]⟩
theorem m8 {α:Type} {p:α→Bool} {l:List α} (h:∀(j:Nat) (y:α),l[j]? = some y→p y=true):l.all p=true:=by
 rw [Ap]
 intro x hx
 obtain ⟨j,hj⟩:=Cc hx
 exact h j x hj
theorem nn {s:Str} {b:Bool} (h:((((s.length:Int)==0) || b)==false)=true):s≠[]:=by rintro rfl;simp at h
theorem Mr {s:Str} (h:s≠[]):s[0]? = some (s.headD 0):=by cases s with
 | nil=>exact absurd rfl h
 | cons c r=>rfl
theorem Pb (s:Str):Nj s=(!((s.length:Int)==0 || decide ((16:Int)<s.length) || !F3 (s.headD 0) || G7 s)&&s.all Ic):=by
 cases s with
 | nil=>rfl
 | cons c r =>
  have h1:(((c::r).length:Int)==0)=false:=by simp;omega
  have h2:decide ((c::r).length≤16) = !decide ((16:Int)<(c::r).length):=by
   by_cases h:(c::r).length≤16
   ·have:¬((16:Int)<(c::r).length):=by omega
    simp only [h,this,decide_true,decide_false,Bool.not_false]
   have:((16:Int)<(c::r).length):=by omega
   simp only [h,this,decide_true,decide_false,Ig]
  simp only [Nj,h1,h2,List.headD_cons,Bool.not_or,Bool.not_not,Mc]
theorem iw {c:UInt8} (h:((!F3 c && !Mq c)&&((c.toNat:Int) != 95))=false):Ic c=true:=by
 unfold Ic
 have e:((c.toNat:Int) != 95) = !(c==95):=by
  by_cases hc:c=95
  ·subst hc;rfl
  have:c.toNat≠95:=fun h=>hc (Fi.1 h)
  have:(c.toNat:Int)≠95:=by omega
  rw [bne_iff_ne.2 this,beq_eq_false_iff_ne.2 hc];rfl
 rw [e] at h
 revert h
 cases F3 c<;>cases Mq c<;>cases (c==95)<;>simp
theorem ix {c:UInt8} (h:((!F3 c && !Mq c)&&((c.toNat:Int) != 95))=true):Ic c=false:=by
 unfold Ic
 have e:((c.toNat:Int) != 95) = !(c==95):=by
  by_cases hc:c=95
  ·subst hc;rfl
  have:c.toNat≠95:=fun h=>hc (Fi.1 h)
  have:(c.toNat:Int)≠95:=by omega
  rw [bne_iff_ne.2 this,beq_eq_false_iff_ne.2 hc];rfl
 rw [e] at h
 revert h
 cases F3 c<;>cases Mq c<;>cases (c==95)<;>simp
theorem c36 (s:Str) (hs:s.length≤1048576) (Hp:List AObj):AFun Tryz.prog 36 [A8 s] Hp (Aj (Nj s)):=by
 refine Ai [.tmp 2] [0] Tryz.func36 Tryz.ntmps36 (fun d=>?_)
 refine Z31 ?_;refine Z7 ?_;refine Qy ?_;refine Z88 ?_
 refine B9 (h:=E9 0 (s.headD 0) (fun hB=>Mr (nn hB))) (hr:=?_)
 refine Bh Tryz.call66 (fun hB=>c66 (s.headD 0) _) ?_;refine B9 ?_;refine Z88 ?_;refine Bh Tryz.call67 (fun hB=>c67 s _) ?_;refine A4 ?_;refine A2 [0,21] ?_
 refine A6 (fun ht21=>?_) (fun ht21=>?_)
 ·refine ap ?_;exact A9 (Af A7) ⟨by rw [Pb,ht21];rfl,rfl⟩
 refine Z82 ?_;refine Ki ?_
 refine C8 (α:=Nat) (fun x=>⟨46,Aa 0 (A8 s) (Aa 3 (A3 (x:Nat)) (fun _=>.any)),Hp,[],[],none⟩) (fun x=>x≤s.length∧∀(j:Nat) (y:UInt8),j<x→s[j]? = some y→Ic y=true) (fun x=>s.length-x) (0) (by simp) (Es _) rfl (fun x hx=>?_)
 refine Z36 ?_;refine A2 [0,3,25] ?_
 refine A6 (fun ht25=>?_) (fun ht25=>?_)
 ·have hlt:x<s.length:=by simpa using ht25
  refine T9 ?_
  refine A4 (h:=E9 x s[x] (fun _=>Ad hlt)) (hr:=?_)
  refine Ab Tryz.call66 (c66 s[x] _) ?_;refine Z15 ?_
  refine B9 (h:=E9 x s[x] (fun _=>Ad hlt)) (hr:=?_)
  refine Bh Tryz.call68 (fun hB=>c68 s[x] _) ?_;refine B9 ?_;refine Z15 ?_
  refine B9 (h:=E9 x s[x] (fun _=>Ad hlt)) (hr:=?_)
  refine Z57 ?_;refine A2 [0,3,45] ?_
  refine A6 (fun ht45=>?_) (fun ht45=>?_)
  ·refine Z45 ?_;refine Z61 ?_;exact A9 (Af A7) ⟨by rw [Pb,ht21,et hlt (ix ht45)];rfl,rfl⟩
  refine Z77 ?_;refine Ki ?_;exact C0 (x+1) ⟨hlt,G8 hlt hx.2 (iw ht45)⟩ (by omega) (Cm rfl)
 refine Z59 ?_;refine Z45 ?_;exact A9 (Af A7) ⟨by rw [Pb,ht21,m8 (Ib (by simp at ht25;omega) hx.2)];rfl,rfl⟩

def Kn (nm:Str) (c:List Col):Int:=match c.findIdx? (fun y=>y.name==nm) with|some i=>i|none => -1
theorem V5 {nm:List UInt8} {c:List Col} {x:Nat} (h:x<c.length) (h1:c[x].name=nm) (h2:∀(j:Nat) (y:Col),j<x→c[j]? = some y→¬(y.name=nm)):Kn nm c=x:=by
 have:c.findIdx? (fun y=>y.name==nm)=some x:=by
  rw [List.findIdx?_eq_some_iff_getElem]
  exact ⟨h,by simpa using h1,fun j hj=>by simpa using h2 j c[j] hj (Ad _)⟩
 simp [Kn,this]
theorem Xa {nm:List UInt8} {c:List Col} (h:∀(j:Nat) (y:Col),c[j]? = some y→¬(y.name=nm)):Kn nm c = -1:=by
 have:c.findIdx? (fun y=>y.name==nm)=none:=by
  rw [List.findIdx?_eq_none_iff]
  intro y hy
  obtain ⟨j,hj⟩:=Cc hy
  simpa using h j y hj
 simp [Kn,this]
structure OkCols (c:List Col):Prop where
 len:c.length≤1048576
 names:∀y∈c,y.name.length≤1048576
theorem c37 (c:List Col) (hc:OkCols c) (nm:Str) (Hp:List AObj):AFun Tryz.prog 37 [Cu c,A8 nm] Hp (A3 (Kn nm c)):=by
 refine Ai [.tmp 4] [0,1] Tryz.func37 Tryz.ntmps37 (fun d=>?_)
 refine Z39 ?_;refine Z19 ?_;refine Ta ?_
 refine C8 (α:=Nat) (fun x=>⟨20,Aa 0 (Cu c) (Aa 1 (A8 nm) (Aa 5 (A3 (x:Nat)) (fun _=>.any))),Hp,[],[],none⟩) (fun x=>x≤c.length∧∀(j:Nat) (y:Col),j<x→c[j]? = some y→¬(y.name=nm)) (fun x=>c.length-x) (0) (by simp) (Es _) rfl (fun x hx=>?_)
 refine Z36 ?_;refine A2 [0,1,5,9] ?_
 refine A6 (fun ht9=>?_) (fun ht9=>?_)
 ·have hlt:x<c.length:=by simpa using ht9
  have hcl:=hc.len
  refine T9 ?_
  refine A4 (h:=Ay (x) (Jp c[x]) (fun _=>Bg hlt)) (hr:=?_)
  refine Z66 ?_;refine A2 [0,1,5,18] ?_
  refine A6 (fun ht18=>?_) (fun ht18=>?_)
  ·refine Z1 ?_;refine Z13 ?_;refine Z61 ?_;exact A9 (Af A7) ⟨by rw [V5 hlt (by simpa using ht18) hx.2],rfl⟩
  refine Z77 ?_;refine Ta ?_;exact C0 (x+1) ⟨hlt,G8 hlt hx.2 (by simpa using ht18)⟩ (by omega) (Cm rfl)
 refine Z59 ?_;exact nq

def Pc (c:List Col) (x:Nat) (y:Col):Bool := !(((!Nj y.name || decide (y.kind<1)) || decide ((3:Int)<y.kind)) || (Kn y.name c != (x:Int)))
def Nk (c:List Col):Bool:=c.zipIdx.all fun x=>Pc c x.2 x.1
theorem colsM_true {c:List Col}:Nk c=true↔∀(j:Nat) (y:Col),c[j]? = some y→Pc c j y=true:=by
 unfold Nk
 rw [Ap]
 constructor
 ·intro h j y hj
  exact od
 rintro h ⟨y,j⟩ hx
 rw [Hn] at hx
 exact h j y hx
theorem L5 {α:Type} {l:List α} {x:Nat} {p:Nat→α→Prop} (hlt:x<l.length) (h:∀(j:Nat) (y:α),j<x→l[j]? = some y→p j y) (hx:p x l[x]):∀(j:Nat) (y:α),j<x+1→l[j]? = some y→p j y:=by
 intro j y hj hy
 rcases B0 j x with h'|h'
 ·exact h j y h' hy
 have:j=x:=by omega
 subst this
 rw [Ad hlt] at hy
 injection hy with hy
 subst hy
 exact hx
theorem Ms {α:Type} {l:List α} {x:Nat} {p:Nat→α→Prop} (hge:l.length≤x) (h:∀(j:Nat) (y:α),j<x→l[j]? = some y→p j y):∀(j:Nat) (y:α),l[j]? = some y→p j y:=
 fun j y hy=>h j y (by have:=(Ac.1 hy).1;omega) hy
theorem c15 (c:List Col) (hc:OkCols c) (Hp:List AObj):AFun Tryz.prog 15 [Cu c] Hp (Aj (Nk c)):=by
 refine Ai [.tmp 2] [0] Tryz.func15 Tryz.ntmps15 (fun d=>?_)
 refine Z31 ?_;refine Z19 ?_;refine Ki ?_
 refine C8 (α:=Nat) (fun x=>⟨44,Aa 0 (Cu c) (Aa 3 (A3 (x:Nat)) (fun _=>.any)),Hp,[],[],none⟩) (fun x=>x≤c.length∧∀(j:Nat) (y:Col),j<x→c[j]? = some y→Pc c j y=true) (fun x=>c.length-x) (0) (by simp) (Es _) rfl (fun x hx=>?_)
 refine Z36 ?_;refine A2 [0,3,7] ?_
 refine A6 (fun ht7=>?_) (fun ht7=>?_)
 ·have hlt:x<c.length:=by simpa using ht7
  have hcl:=hc.len
  refine T9 ?_
  refine A4 (h:=Ay (x) (Jp c[x]) (fun _=>Bg hlt)) (hr:=?_)
  refine Z0 ?_;refine Ab Tryz.call36 (c36 c[x].name (hc.names _ (C7 hlt)) _) ?_;refine Z15 ?_
  refine B9 (h:=Ay (x) (Jp c[x]) (fun _=>Bg hlt)) (hr:=?_)
  refine X7 ?_;refine Z15 ?_
  refine B9 (h:=Ay (x) (Jp c[x]) (fun _=>Bg hlt)) (hr:=?_)
  refine X7 ?_;refine Qy ?_
  refine B9 (h:=Ay (x) (Jp c[x]) (fun _=>Bg hlt)) (hr:=?_)
  refine Z3 ?_;refine Bh Tryz.call37 (fun hB=>c37 c hc c[x].name _) ?_;refine Uy ?_;refine A2 [0,3,43] ?_
  refine A6 (fun ht43=>?_) (fun ht43=>?_)
  ·refine Z45 ?_;refine Z61 ?_
   exact A9 (Af A7) ⟨by rw [show Nk c=false from Mb.2 fun h=>by have:=colsM_true.1 h x c[x] (Ad hlt);unfold Pc at this;rw [ht43] at this;cases this],rfl⟩
  refine Z77 ?_;refine Ki ?_;exact C0 (x+1) ⟨hlt,L5 hlt hx.2 (by unfold Pc;rw [ht43];rfl)⟩ (by omega) (Cm rfl)
 refine Z59 ?_;refine Z45 ?_;exact A9 (Af A7) ⟨by rw [colsM_true.2 (Ms (by simp at ht7;omega) hx.2)],rfl⟩

def Is (c:List Col):Bool:=decide ((c.length:Int)≤12)&&Nk c
theorem c7 (c:List Col) (hc:OkCols c) (Hp:List AObj):AFun Tryz.prog 7 [Cu c] Hp (Aj (Is c)):=by
 refine Ai [.tmp 2] [0] Tryz.func7 Tryz.ntmps7 (fun d=>?_)
 refine Z31 ?_;refine aq ?_;refine Bh Tryz.call15 (fun hB=>c15 c hc _) ?_;refine Z64 ?_;exact A9 (Af A7) ⟨by unfold Is;simp,rfl⟩

def E0 (v:Val):Bool:=if v.kind==0 then v.n==0&&v.s==[] else if v.kind==1 then v.s==[] else if v.kind==2 then v.n==0&&decide ((v.s.length:Int)≤200) else v.kind==3&&v.s==[]&&decide (0≤v.n)&&decide (v.n≤1)
theorem m9 (e:Bool) (n:Int):(e&&(n==0 || n==1))=(e&&decide (0≤n)&&decide (n≤1)):=by
 cases e
 ·rfl
 rw [We]
 simp
 omega
theorem c51 (v:Val) (Hp:List AObj):AFun Tryz.prog 51 [Fo v] Hp (Aj (E0 v)):=by
 refine Ai [.tmp 2] [0] Tryz.func51 Tryz.ntmps51 (fun d=>?_)
 refine an ?_;refine A4 ?_;refine A2 [1] ?_;refine Z7 ?_;refine A2 [1,4] ?_;refine Z97 ?_;refine A2 [1,4,5] ?_
 refine A6 (fun ht5=>?_) (fun ht5=>?_)
 ·refine oa ?_
  refine A4 (h:=Q.eqlAgg eo (Ls v.kind v.n 0 0 v.s [])) (hr:=?_)
  refine A4 ?_;refine Z4 ?_;refine Z10 ?_;exact A9 (Af A7) ⟨by simp [E0,ht5],rfl⟩
 refine Z1 ?_;refine A2 [1,4,10] ?_
 refine A6 (fun ht10=>?_) (fun ht10=>?_)
 ·refine Z21 ?_;refine Z4 ?_;refine Z10 ?_;exact A9 (Af A7) ⟨by simp [E0,ht5,ht10],rfl⟩
 refine Z1 ?_;refine A2 [1,4,15] ?_
 refine A6 (fun ht15=>?_) (fun ht15=>?_)
 ·refine Z1 ?_;refine Z24 ?_;refine Z64 ?_;refine Z10 ?_;exact A9 (Af A7) ⟨by simp [E0,ht5,ht10,ht15],rfl⟩
 refine Z1 ?_;refine A2 [1,26] ?_
 refine A6 (fun ht26=>?_) (fun ht26=>?_)
 ·refine Z1 ?_;refine Z24 ?_;refine Z3 ?_;refine Z3 ?_;refine Z64 ?_;refine Z10 ?_;exact A9 (Af A7) ⟨by simp [E0,ht5,ht10,ht15,ht26];rw [m9],rfl⟩
 refine Z55 ?_;refine Z45 ?_;exact A9 (Af A7) ⟨by simp [E0,ht5,ht10,ht15,ht26],rfl⟩

def Lt (c:List Col):Bool:=decide ((50:Int)<c.length) || c.any fun y=>decide ((100:Int)<y.name.length)
theorem pc {α:Type} [DecidableEq α] {a b:List α} (h:((a.length:Int) != b.length)=true):decide (a=b)=false:=by
 rw [decide_eq_false_iff_not]
 rintro rfl
 simp at h
theorem rc {α:Type} [DecidableEq α] {a b:List α} {x:Nat} (h1:x<a.length) (h2:x<b.length) (h:a[x]≠b[x]):decide (a=b)=false:=by
 rw [decide_eq_false_iff_not]
 rintro rfl
 exact h rfl
theorem pe {α β:Type} {a:List α} {b:List β} (hl:((a.length:Int) != b.length)=false):a.length=b.length:=by simp at hl;omega
theorem pg {α:Type} [DecidableEq α] {a b:List α} (hl:((a.length:Int) != b.length)=false) (h:∀(j:Nat) (y:α),a[j]? = some y→b[j]? = some y):decide (a=b)=true:=by
 rw [decide_eq_true_eq]
 have hl':a.length=b.length:=pe hl
 apply Ih fun i=>?_
 cases hi:a[i]? with
 | some y=>exact (h i y hi).symm
 | none=>rw [d8] at hi;exact (Dx (by omega)).symm
theorem ma {α β γ δ:Type} {a:List α} {b:List β} {f:α→γ} {g:β→δ} (hl:(((a.map f).length:Int) != (b.map g).length)=false):a.length=b.length:=by simp at hl;omega
theorem Xb {α:Type} {c:List α} {p:Nat→α→Bool}:(c.zipIdx.all fun x=>p x.2 x.1)=true↔∀(j:Nat) (y:α),c[j]? = some y→p j y=true:=by
 rw [Ap]
 constructor
 ·intro h j y hj
  exact od
 rintro h ⟨y,j⟩ hx
 rw [Hn] at hx
 exact h j y hx
theorem rd (y:Col) (nm:Str) (Hp:List AObj):AFun Tryz.prog 151 [Jp y,.ro [A8 nm]] Hp (Aj (y.name==nm)):=by
 refine Ai [.tmp 3] [0,1] Tryz.func151 Tryz.ntmps151 (fun d=>?_)
 refine Z1 ?_;refine A2 [1,2] ?_;refine Z1 ?_;refine Z6 ?_;refine A2 [3] ?_;refine Dg ?_;exact ar

theorem re (c:List Col) (hc:OkCols c) (nm:Str) (Hp:List AObj):AFun Tryz.prog 150 [Cu c,.fn (.func 151) [] [.ro [A8 nm]]] Hp (A3 (Kn nm c)):=by
 refine Ai [.tmp 4] [0,1] Tryz.func150 Tryz.ntmps150 (fun d=>?_)
 refine Z39 ?_;refine Z30 ?_;refine A2 [0,1,7,8] ?_
 refine C8 (α:=Nat) (fun x=>⟨19,Aa 0 (Cu c) (Aa 1 (.fn (.func 151) [] [.ro [A8 nm]]) (Aa 7 (A3 c.length) (Aa 8 (A3 (x:Nat)) (fun _=>.any)))),Hp,[],[],none⟩) (fun x=>x≤c.length∧∀(j:Nat) (y:Col),j<x→c[j]? = some y→¬(y.name=nm)) (fun x=>c.length-x) (0) (by simp) (C1 (by simp)) rfl (fun x hx=>?_)
 refine Z2 ?_;refine A2 [0,1,7,8,9] ?_
 refine Fl (fun ht9=>?_) (fun ht9=>?_)
 ·have hlt:x<c.length:=by simpa using ht9
  have hcl:=hc.len
  refine Z14 ?_;refine Z1 ?_;refine A2 [0,1,5,7,8] ?_;refine Z16 ?_
  refine A4 (h:=Ay (x) (Jp c[x]) (fun _=>Bg hlt)) (hr:=?_)
  refine A4 ?_;refine R.callV Tryz.call151 (rd c[x] nm _) ?_;refine A2 [0,1,5,7,8,16] ?_
  refine A6 (fun ht16=>?_) (fun ht16=>?_)
  ·refine Z1 ?_;refine Z13 ?_;refine Z61 ?_;exact A9 (Af A7) ⟨by rw [V5 hlt (by simpa using ht16) hx.2],rfl⟩
  refine Uz ?_;refine A2 [0,1,7,8] ?_;exact C0 (x+1) ⟨hlt,G8 hlt hx.2 (by simpa using ht16)⟩ (by omega) (Cm rfl)
 refine Z23 ?_;exact nq

theorem rf (c:List Col) (hc:OkCols c) (nm:Str) (Hp:List AObj):AFun Tryz.prog 102 [Cu c,A8 nm] Hp (A3 (Kn nm c)):=by
 refine Ai [.tmp 4] [0,1] Tryz.func102 Tryz.ntmps102 (fun d=>?_)
 refine Z1 ?_;refine Ki ?_;refine Z2 ?_;refine Hc ?_;refine Ab Tryz.call150 (re c hc nm _) ?_;refine A4 ?_;refine Z13 ?_;exact ar

def Lu (s of:Str):Int:=(s.length:Int)-(Lib.trimLeftS s of).length
theorem Oi (s of:Str):(Lib.trimLeftS s of).length≤s.length:=by
 unfold Lib.trimLeftS
 exact (Wg _).length_le
def It:Str:=[32,97,100,100,32,100,114,111,112,32,114,101,110,97,109,101,32,115,112,108,105,116,32,109,101,114,103,101,32,114,101,116,121,112,101,32,105,110,116,111,32,116,111,32,98,97,99,107,32,97,110,100,32,111,114,32,110,111,116,32,116,114,117,101,32,102,97,108,115,101,32,110,117,108,108,32,105,110,116,32,116,101,120,116,32,98,111,111,108,32,115,101,108,101,99,116,32,119,104,101,114,101,32,102,114,111,109,32,108,105,109,105,116,32]
def letters:Str:=[97,98,99,100,101,102,103,104,105,106,107,108,109,110,111,112,113,114,115,116,117,118,119,120,121,122]
def tails:Str:=[97,98,99,100,101,102,103,104,105,106,107,108,109,110,111,112,113,114,115,116,117,118,119,120,121,122,48,49,50,51,52,53,54,55,56,57,95]
theorem Xc (s of:Str) (hs:s.length≤1048576) (ho:of.length≤1048576) (ha:∀c∈of,c.toNat<128) (Hp:List AObj):AFun Tryz.prog 161 [A8 s,A8 of] Hp (A3 (Lu s of)):=by
 refine Ai [.tmp 4] [0,1] Tryz.func161 Tryz.ntmps161 (fun d=>?_)
 refine Z39 ?_;refine Z21 ?_;refine Ab Tryz.call200 (r7 s of (by omega) ha _) ?_;refine A4 ?_
 have htl:=Oi s of
 exact lw

def Ej (s:Str):Bool:=(!(s==[]) && !Lib.contains s [32])&&Lib.contains It ([32]++s++[32])
theorem ph (s:Str) (hs:s.length≤1048576) (Hp:List AObj):AFun Tryz.prog 162 [A8 s] Hp (Aj (Ej s)):=by
 refine Ai [.tmp 2] [0] Tryz.func162 Tryz.ntmps162 (fun d=>?_)
 refine Z31 ?_;refine Z16 ?_;refine B9 ?_;refine Bh Tryz.call32 (fun hB=>c32 s [32] (by omega) _) ?_;refine B9 ?_;refine Qy ?_;refine Bh Tryz.call32 (fun hB=>c32 It ([32]++s++[32]) (by decide) _) ?_;exact X3

theorem mb {s:Str} {b c:Bool} (h:(((!(s==[])&&b)&&c)==true)=true):1≤s.length:=by
 cases s with
 | nil=>simp at h
 | cons x r=>simp
def Ew (s:Str):Bool:=((((!(s==[])&&decide ((s.length:Int)≤16))&&(Lu s tails==(s.length:Int)))&&(Lu (s.take 1) letters==1)) && !Ej s)
theorem mc (s:Str) (hs:s.length≤1048576) (Hp:List AObj):AFun Tryz.prog 113 [A8 s] Hp (Aj (Ew s)):=by
 refine Ai [.tmp 2] [0] Tryz.func113 Tryz.ntmps113 (fun d=>?_)
 refine Z31 ?_;refine Z16 ?_;refine X7 ?_;refine Z88 ?_;refine Bh Tryz.call161 (fun hB=>Xc s tails hs (by decide) (by decide) _) ?_;refine X7 ?_;refine Z88 ?_
 refine B9 (h:=Gv 1 (fun _=>Aw _) (fun hB=>mb hB)) (hr:=?_)
 refine Bh Tryz.call161 (fun hB=>Xc (s.take 1) letters (by simp;omega) (by decide) (by decide) _) ?_
 refine B9 ?_;refine Z88 ?_;refine Bh Tryz.call162 (fun hB=>ph s hs _) ?_;refine B9 ?_;exact X3

end Go.SX.Nb
namespace Go.SX.Nb
open Go Go.SX Go.Proofs Go.RowKit
variable [ErrAt]
set_option maxRecDepth 4000
theorem c93 (s t:Str) (Hp:List AObj):AFun Tryz.prog 93 [A8 s,A8 t] Hp (A8 (Lib.trimPrefix s t)):=by
 refine Ht (xs:=[sv s,sv t]) (v:=sv (Lib.trimPrefix s t)) (fun G w=>.v _ _) (fun w hg=>?_)
 refine (Any.strings_TrimPrefix Tryz.lays101 ⟨s.toArray⟩ ⟨t.toArray⟩ w).mono ?_
 rintro e w' ⟨rfl,rfl⟩
 exact V0
theorem rg (s t:Str) (hs:s.length≤9223372036854775807) (ht:t.length<4294967281) (ha:∀c∈t,c.toNat<128) (Hp:List AObj):AFun Tryz.prog 174 [A8 s,A8 t] Hp (A8 (Lib.trimS s t)):=by
 refine Ht (xs:=[sv s,sv t]) (v:=sv (Lib.trimS s t)) (fun G w=>.v _ _) (fun w hg=>?_)
 refine (Any.strings_Trim_laid Tryz.lays160 (by kernel_rfl) ⟨s.toArray⟩ ⟨t.toArray⟩ w (by simpa [ByteArray.size] using hs) (by simpa [ByteArray.size] using ht) (fun j b hj=>ha b (Ax hj))).mono ?_
 rintro e w' ⟨rfl,hb⟩
 exact ⟨rfl,hb⟩
theorem iy (s:Str) (hs:s.length≤1048576) (v:Int) (h:Lib.parseIntB 64 s=.ok v) (Hp:List AObj):AFun Tryz.prog 175 [A8 s,A3 10,A3 64] Hp (.tup [A3 v,.v .nilIface]):=by
 refine Ht (xs:=[sv s,.int .i64 10,.int .i64 64]) (v:=.tuple #[.int .i64 v,.nilIface]) (fun G w=>Ka rfl (fun i y u hy hu=>?_)) (fun w hg=>?_)
 ·match i with
  | 0=>simp at hy hu;subst hy;subst hu;exact .v _ _
  | 1=>simp at hy hu;subst hy;subst hu;exact .v _ _
  | i+2=>simp at hy
 refine (Any.strconv_ParseInt_10_at64_ok Tryz.lays174 ⟨s.toArray⟩ (by simp [ByteArray.size];omega) v h w).mono ?_
 rintro e w' ⟨rfl,rfl|⟨t,rfl⟩⟩
 ·exact V0
 exact ⟨rfl,Lib.bytesWorld_below _ _ _⟩
def Mt (s:Str):AV:=.iface 215 (.ro [.v (sv [80,97,114,115,101,73,110,116]),.v (sv s),.v (.iface 269 (.pointer (some ErrAt.b)))])
theorem Xd (s:Str) (hs:s.length≤1048576) (h:Lib.parseIntB 64 s=.range) (Hp:List AObj):AFun Tryz.prog 175 [A8 s,A3 10,A3 64] Hp (.tup [A3 (Lib.intSat 64 s),Mt s]):=by
 refine AFun.libErr (xs:=[sv s,.int .i64 10,.int .i64 64]) (n:=.int .i64 (Lib.intSat 64 s)) (cs:=[sv [80,97,114,115,101,73,110,116],sv s,.iface 269 (.pointer (some ErrAt.b))]) (te:=247) (fun y hy=>?_) (fun w hg=>?_)
 ·simp only [Bt,K3,or_false] at hy
  rcases hy with rfl|rfl|rfl<;>rfl
 refine (Any.strconv_ParseInt_10_at64_range Tryz.lays174 ⟨s.toArray⟩ (by simp [ByteArray.size];omega) h (.iface 269 (.pointer (some ErrAt.b))) w (Jq hg) (.inr ⟨_,_,rfl⟩)).mono ?_
 rintro e w' ⟨N,rfl,h1,h2,h3⟩
 exact ⟨N,rfl,h1,h2,h3⟩
theorem eu (Hp:List AObj):AFun Tryz.prog 176 [.v .nilIface,.v (.iface 269 (.pointer (some ErrAt.b)))] Hp (Aj false):=by
 refine Ht (xs:=[.nilIface,.iface 269 (.pointer (some ErrAt.b))]) (v:=.bool false) (fun G w=>.v _ _) (fun w hg=>?_)
 refine (Tryz.is_nil _ w).mono ?_
 rintro e w' ⟨rfl,rfl⟩
 exact V0
theorem Xe (s:Str) (Hp:List AObj):AFun Tryz.prog 176 [Mt s,.v (.iface 269 (.pointer (some ErrAt.b)))] Hp (Aj true):=by
 intro d G w vs hn hv hH hT _
 have hsz:vs.size=2:=hn
 have h0:=hv 0 (Mt s) vs[0] rfl (Cz (by omega))
 have h1:=J1 (hv 1 (.v (.iface 269 (.pointer (some ErrAt.b)))) vs[1] rfl (Cz (by omega)))
 have hvs:vs=#[vs[0],vs[1]]:=by
  apply R8
  ·exact hsz
  intro i hi1 hi2
  match i with
  | 0=>rfl
  | 1=>rfl
  | i+2=>omega
 unfold Mt at h0
 generalize vs[0]=u0 at h0 hvs
 cases h0 with
 | iface _ _ _ u h =>
  cases h with
  | ro _ _ ad f hs h1' hf hr =>
   obtain ⟨ab,ao,asp⟩:=ad
   simp only at hs
   subst hs
   have hc:=(hf 2 _ rfl).2
   have he:=J1 (hr 2 _ rfl)
   rw [he] at hc
   rw [hvs,h1]
   refine (callsIn_wide.2 (Tryz.is_range ab ao ErrAt.b w hc)).mono ?_
   rintro e w' ⟨rfl,rfl⟩
   exact ⟨_,G,_,Hp,rfl,.v _ _,hH,hT,Er _ _ _,rfl,rfl,rfl⟩
end Go.SX.Nb
namespace Go.SX.Nb
open Go Go.SX Go.Proofs
variable [ErrAt]
set_option maxRecDepth 4000
def V6:Str:=[32,105,110,116,32,116,101,120,116,32,98,111,111,108]
def kindNames:List Str:=[[],[105,110,116],[116,101,120,116],[98,111,111,108]]
theorem av:Jr V6 [32]=kindNames:=by kernel_rfl
def H7 (k:Int):Str:=if k<1∨3<k then [] else kindNames.getD k.toNat []
theorem rh (k:Int) (Hp:List AObj):AFun Tryz.prog 101 [A3 k] Hp (A8 (H7 k)):=by
 refine Ai [.tmp 2] [0] Tryz.func101 Tryz.ntmps101 (fun d=>?_)
 refine Z31 ?_;refine Z30 ?_;refine Uy ?_;refine A2 [0,8] ?_
 refine A6 (fun ht8=>?_) (fun ht8=>?_)
 ·refine ap ?_;exact A9 (Af A7) ⟨by rw [show H7 k=[] from if_pos (by simpa using ht8)],rfl⟩
 refine Z5 ?_;refine Df ?_
 have hk:1≤k∧k≤3:=by simp at ht8;omega
 have hget:(kindNames.map A8)[k.toNat]? = some (A8 (kindNames.getD k.toNat [])):=by
  have hlt:k.toNat<kindNames.length:=by show k.toNat<4;omega
  rw [C4,Ad hlt,Dw,Ad hlt]
  rfl
 refine Ab Tryz.call79 (av ▸ c79 V6 [32] (by decide) (by decide) _) ?_;refine A4 ?_
 refine A4 (h:=Ay (k.toNat) (A8 (kindNames.getD k.toNat [])) (fun _=>hget)) (hr:=?_)
 refine Z64 ?_;exact A9 (Af A7) ⟨by rw [show H7 k=kindNames.getD k.toNat [] from if_neg (by omega)],rfl⟩

def Te (s of:Str):Bool:=(!(s==[]) && !Lib.contains s [32])&&Lib.contains of ([32]++s++[32])
theorem pi (s of:Str) (hs:s.length≤1048576) (ho:of.length≤1048576) (Hp:List AObj):AFun Tryz.prog 195 [A8 s,A8 of] Hp (Aj (Te s of)):=by
 refine Ai [.tmp 4] [0,1] Tryz.func195 Tryz.ntmps195 (fun d=>?_)
 refine Z39 ?_;refine Z16 ?_;refine B9 ?_;refine Bh Tryz.call32 (fun hB=>c32 s [32] (by omega) _) ?_;refine Z52 ?_;refine Bh Tryz.call32 (fun hB=>c32 of ([32]++s++[32]) (by omega) _) ?_;exact lw

def Rh:Str:=[108,101,110,58,49,32,115,116,114,58,49,32,110,117,109,58,49,32,105,115,110,117,108,108,58,49,32,110,118,108,58,50,32,108,101,102,116,58,50,32,114,105,103,104,116,58,50,32,105,102,58,51]
def arityList:List (Str×UInt8):=[([108,101,110],49),([115,116,114],49),([110,117,109],49),([105,115,110,117,108,108],49),([110,118,108],50),([108,101,102,116],50),([114,105,103,104,116],50),([105,102],51)]
def Gl (p:Str×UInt8):Str:=p.1++[58,p.2]
theorem Xf:Jr Rh [32]=arityList.map Gl:=by kernel_rfl
theorem ew {p:Str×UInt8} (hp:p∈arityList):Lib.cut (Gl p) [58]=(p.1,[p.2],true):=by
 have h:(arityList.all fun p=>decide (Lib.cut (Gl p) [58]=(p.1,[p.2],true)))=true:=by kernel_rfl
 exact of_decide_eq_true (Ap.1 h p hp)
def md (p:Str×UInt8):Int:=IntKind.i64.wrap (IntKind.u8.wrap ((p.2.toNat:Int)-48))
def Jt (nm:Str):Int:=match arityList.find? (fun p=>p.1==nm) with|some p=>md p|none => -1
theorem iz {α:Type} {p:α→Bool} {l:List α} {x:Nat} (h:x<l.length) (hp:p l[x]=true) (h2:∀(j:Nat) (y:α),j<x→l[j]? = some y→p y=false):l.find? p=some l[x]:=by
 rw [cz]
 exact ⟨hp,x,h,rfl,fun j hj=>by simpa using h2 j l[j] hj (Ad _)⟩
theorem aw {α:Type} {p:α→Bool} {l:List α} (h:∀(j:Nat) (y:α),l[j]? = some y→p y=false):l.find? p=none:=by
 rw [Se]
 intro y hy
 obtain ⟨j,hj⟩:=Cc hy
 simpa using h j y hj
theorem Mu:arityList.length=8:=rfl
theorem ax {p:Str×UInt8} (hp:p∈arityList):(Gl p).length<4294967281:=by
 have h:(arityList.all fun p=>decide ((Gl p).length<4294967281))=true:=by kernel_rfl
 exact of_decide_eq_true (Ap.1 h p hp)
theorem me (nm:Str) (Hp:List AObj):AFun Tryz.prog 196 [A8 nm] Hp (A3 (Jt nm)):=by
 refine Ai [.tmp 2] [0] Tryz.func196 Tryz.ntmps196 (fun d=>?_)
 refine Z31 ?_;refine Z53 ?_;refine Ab Tryz.call79 (Xf ▸ c79 Rh [32] (by decide) (by decide) _) ?_;refine Z0 ?_;refine A2 [0,8,9,10] ?_
 refine C8 (α:=Nat) (fun x=>⟨28,Aa 0 (A8 nm) (Aa 8 (Fv (arityList.map Gl)) (Aa 9 (A3 8) (Aa 10 (A3 (x:Nat)) (fun _=>.any)))),Hp,[],[],none⟩) (fun x=>x≤8∧∀(j:Nat) (y:Str×UInt8),j<x→arityList[j]? = some y→(y.1==nm)=false) (fun x=>8-x) (0) (by simp) (Es _) rfl (fun x hx=>?_)
 refine Z2 ?_;refine A2 [0,8,9,10,11] ?_
 refine Fl (fun ht11=>?_) (fun ht11=>?_)
 ·have hlt:x<arityList.length:=by rw [Mu];simp at ht11;omega
  have hal:=Mu
  have hget:((arityList.map Gl).map A8)[x]? = some (A8 (Gl arityList[x])):=by rw [Ku];exact Bg hlt
  refine Ut ?_
  refine A4 (h:=Ay (x) (A8 (Gl arityList[x])) (fun _=>hget)) (hr:=?_)
  refine Z0 ?_;refine A2 [0,4,8,9,10] ?_;refine Z2 ?_;refine Ab Tryz.call60 ((ew (C7 hlt)) ▸ c60 (Gl arityList[x]) [58] (ax (C7 hlt)) _) ?_;refine Z0 ?_;refine Z33 ?_;refine A2 [0,5,6,8,9,10] ?_;refine Z16 ?_;refine A2 [0,6,8,9,10,22] ?_
  refine A6 (fun ht22=>?_) (fun ht22=>?_)
  ·refine Z2 ?_
   refine A4 (h:=E9 0 arityList[x].2 (fun _=>rfl)) (hr:=?_)
   refine A4 (h:=Q.sub) (hr:=?_)
   refine Z64 ?_;refine Z61 ?_;exact A9 (Af A7) ⟨by rw [Jt,iz hlt ht22 hx.2];rfl,rfl⟩
  refine Uz ?_;refine A2 [0,8,9,10] ?_;exact C0 (x+1) ⟨by omega,G8 hlt hx.2 ht22⟩ (by omega) (Cm rfl)
 have hal:=Mu
 refine Z23 ?_;refine Z45 ?_;exact A9 (Af A7) ⟨by rw [Jt,aw (Ib (by simp at ht11;omega) hx.2)],rfl⟩

def Xg (s:Str):Int:=match Lib.parseIntB 64 s with|.ok v=>v|_=>Lib.intSat 64 s
def Qz (s:Str):Bool:=match Lib.parseIntB 64 s with|.ok _=>false|_=>true
def R0 (s:Str):AV:=bif Qz s then Mt s else .v .nilIface
theorem Xh (s:Str):(R0 s).strip=R0 s:=by unfold R0;cases Qz s<;>rfl
attribute [go_sem] Xh
theorem ri (s:Str) (hs:s.length≤1048576) (h:iv (Lib.parseIntB 64 s)=false) (Hp:List AObj):AFun Tryz.prog 175 [A8 s,A3 10,A3 64] Hp (.tup [A3 (Xg s),R0 s]):=by
 cases hp:Lib.parseIntB 64 s with
 | ok v =>
  have:=iy s hs v hp Hp
  rwa [show v=Xg s by unfold Xg;rw [hp],show AV.v .nilIface=R0 s by unfold R0 Qz;rw [hp];rfl] at this
 | range =>
  have:=Xd s hs hp Hp
  rwa [show Lib.intSat 64 s=Xg s by unfold Xg;rw [hp],show Mt s=R0 s by unfold R0 Qz;rw [hp];rfl] at this
 | _=>rw [hp] at h;cases h
theorem rj (s:Str) (Hp:List AObj):AFun Tryz.prog 176 [R0 s,.v (.iface 269 (.pointer (some ErrAt.b)))] Hp (Aj (Qz s)):=by
 unfold R0
 cases Qz s
 ·exact eu Hp
 exact Xe s Hp
theorem ey (s t:Str):(Lib.trimPrefix s t).length≤s.length:=by
 unfold Lib.trimPrefix;split<;>simp
theorem ay {d:Str} {b:Bool} (h:(((d==[]) || b)==false)=true):d≠[]:=by rintro rfl;simp at h
theorem L6:∀c∈digs,c.toNat<128:=by decide
theorem Pd (s:Str):((((Lib.trimPrefix s [45]==[]) || (Lib.trimS (Lib.trimPrefix s [45]) digs != [])) || ((((Lib.trimPrefix s [45]).headD 0).toNat:Int)==48&&decide ((1:Int)<s.length))))=Fa s:=by
 unfold Fa J3
 have e1:((((Lib.trimPrefix s [45]).headD 0).toNat:Int)==48)=((Lib.trimPrefix s [45]).headD 0==48):=by
  rw [Bool.eq_iff_iff]
  simp only [beq_iff_eq]
  constructor
  ·intro h
   exact UInt8.toNat_inj.1 (by have:(48:UInt8).toNat=48:=rfl;omega)
  intro h;rw [h];rfl
 have e2:decide ((1:Int)<s.length)=decide (1<s.length):=by rw [decide_eq_decide];omega
 rw [e1,e2]
 rfl
theorem az {s:Str} (hb:Fa s=false) (h:Qz s=true):C9 s=(0,4):=by
 unfold C9
 rw [hb]
 have:=Js hb
 unfold Qz at h
 revert h this
 cases Lib.parseIntB 64 s with
 | ok v=>intro h;cases h
 | range=>intro _ _;rfl
 | _=>intro _ h;cases h
theorem mf {s:Str} (hb:Fa s=false) (h:Qz s=false):C9 s=(Xg s,0):=by
 unfold C9 Xg
 rw [hb]
 unfold Qz at h
 revert h
 cases Lib.parseIntB 64 s with
 | ok v=>intro h;rfl
 | _=>intro h;cases h
theorem f6 (s:Str):s.take (min s.length 200)=s.take 200:=by
 rcases Nat.le_total s.length 200 with h|h
 ·rw [Nat.min_eq_left h,List.take_of_length_le (Nat.le_refl _),List.take_of_length_le h]
 rw [Nat.min_eq_right h]
theorem mg (s:Str) (hs:s.length≤1048576) (Hp:List AObj):AFun Tryz.prog 126 [A8 s] Hp (.tup [A3 (C9 s).1,A3 (C9 s).2]):=by
 refine ACall.body [.tmp 2,.tmp 3] [0] Tryz.func126 Tryz.ntmps126 (fun d=>?_)
 refine Z1 ?_;refine R.fin [0] ?_;refine Z2 ?_;refine R.call Tryz.call93 (c93 s [45] _) ?_;refine R.go ?_;refine R.fin [0,4] ?_;refine Z30 ?_;refine G.go ?_
 refine G.call Tryz.call174 (fun hB=>rg (Lib.trimPrefix s [45]) digs (by have:=ey s [45];omega) (by decide) L6 _) ?_
 refine G.go ?_;refine Z88 ?_
 refine G.go (h:=Q.sindex 0 ((Lib.trimPrefix s [45]).headD 0) (fun hB=>Mr (ay hB))) (hr:=?_)
 refine Z3 ?_;refine Z3 ?_;refine Uy ?_;refine R.fin [0,25] ?_
 refine W.cond (fun ht25=>?_) (fun ht25=>?_)
 ·have hb:Fa s=true:=by rw [←Pd];exact ht25
  refine Z1 ?_;refine Z20 ?_;refine K.thR ?_;exact K.fin (V.two V.tmp V.tmp) ⟨by rw [C9,hb];rfl,rfl⟩
 have hb:Fa s=false:=by rw [←Pd];exact ht25
 refine Z73 ?_;refine R.call Tryz.call175 (ri s hs (Js hb) _) ?_;refine Z33 ?_;refine R.fin [5,6] ?_;refine Z19 ?_;refine R.loadGlob Tryz.isAgg141 (fun w hg=>Jq hg) ?_;refine R.call Tryz.call176 (rj s _) ?_;refine R.fin [5,33] ?_
 refine W.cond (fun ht33=>?_) (fun ht33=>?_)
 ·refine Z1 ?_;refine Z20 ?_;refine K.thR ?_;exact K.fin (V.two V.tmp V.tmp) ⟨by rw [az hb ht33],rfl⟩
 refine Z5 ?_;refine Z16 ?_;refine Z20 ?_;exact K.fin (V.two V.tmp V.tmp) ⟨by rw [mf hb ht33],rfl⟩

theorem c80 (n:Int) (h0 : -9223372036854775808≤n) (h1:n≤9223372036854775807) (Hp:List AObj):AFun Tryz.prog 80 [A3 n] Hp (A8 (Lib.itoa n)):=by
 refine ACall.body [.tmp 2] [0] Tryz.func80 Tryz.ntmps80 (fun d=>?_)
 refine Z31 ?_;refine Z2 ?_;refine R.call Tryz.call110 (rb n h0 h1 _) ?_;exact ip

theorem rk (Hp:List AObj):AFun Tryz.prog 136 [] Hp (Fo ⟨0,0,[]⟩):=by
 refine ACall.body [.cell 0 35] [] Tryz.func136 Tryz.ntmps136 (fun d=>?_)
 refine Z18 ?_;refine R.fin [0] ?_;refine Z26 ?_;refine Fu ?_;refine R.fin [0] ?_;refine AW.ret ?_;exact K.fin (V.one (V.cellN jA jS))

theorem rl (n:Int) (Hp:List AObj):AFun Tryz.prog 140 [A3 n] Hp (Fo ⟨1,n,[]⟩):=by
 refine ACall.body [.cell 2 35] [0] Tryz.func140 Tryz.ntmps140 (fun d=>?_)
 refine Z50 ?_;refine oa ?_;exact lr

theorem rm (b:Bool) (Hp:List AObj):AFun Tryz.prog 137 [Aj b] Hp (Fo ⟨3,if b then 1 else 0,[]⟩):=by
 refine ACall.body [.cell 2 35] [0] Tryz.func137 Tryz.ntmps137 (fun d=>?_)
 refine Z50 ?_;refine Z26 ?_;refine Z8 ?_;refine Tb ?_;refine Z19 ?_;refine R.fin [2,3,5] ?_
 refine W.cond (fun ht5=>?_) (fun ht5=>?_)
 ·refine Z27 ?_;refine Fu ?_;refine R.fin [2,3] ?_;refine K.thN ?_;refine Z2 ?_;exact nz
 refine Z73 ?_;exact nz

theorem c57 (s:Str) (Hp:List AObj):AFun Tryz.prog 57 [A8 s] Hp (Fo ⟨2,0,s.take 200⟩):=by
 refine ACall.body [.cell 2 35] [0] Tryz.func57 Tryz.ntmps57 (fun d=>?_)
 refine Z50 ?_;refine Z16 ?_;refine R.minI ?_
 refine R.go (h:=Q.scutH (min s.length 200) (fun _=>Nat.zero_le _) (fun _=>Nat.min_le_left _ _) (hb:=fun _=>by split<;>omega)) (hr:=?_)
 refine V1 ?_;refine Z22 ?_;exact K.fin (V.one (V.cellN jA jS)) ⟨by rw [f6],rfl⟩

theorem Xi {p s:Str} (h:p.isPrefixOf s=true):p.length≤s.length:=(List.isPrefixOf_iff_prefix.1 h).length_le
theorem Xj (s o:Str) (h:0≤Lib.index s o):(Lib.index s o).toNat+o.length≤s.length:=by
 induction s with
 | nil =>
  unfold Lib.index at h ⊢
  split at h
  ·rename_i he
   rw [if_pos he]
   cases o with
   | nil=>simp
   | cons a b=>simp at he
  omega
 | cons b l ih =>
  unfold Lib.index at h ⊢
  split at h
  ·rename_i hp
   rw [if_pos hp]
   have:=Xi hp
   simpa using this
  rename_i hp
  rw [if_neg hp]
  split at h
  ·omega
  rename_i hi
  rw [if_neg hi]
  have hg:=Lib.index_ge l o
  have hi':Lib.index l o ≠ -1:=by simpa using hi
  have:=ih (by omega)
  simp only [Ar]
  omega
def V7:Val:=⟨0,0,[]⟩
def pj (b:Bool):Val:=⟨3,if b then 1 else 0,[]⟩
def j1 (n:Int):Prop := -9223372036854775808≤n∧n≤9223372036854775807
def At (v:Val):Str:=
 if !E0 v then [] else if v.kind==1 then Lib.itoa v.n else if v.kind==2 then [39]++Lib.replaceAll v.s [39] [39,39]++[39]
 else if v.kind==0 then [110,117,108,108] else if v.n==1 then [116,114,117,101] else [102,97,108,115,101]
theorem b6 {v:Val} (h:E0 v=true) (h2:(v.kind==2)=true):v.s.length≤200:=by
 have e:v.kind=2:=by simpa using h2
 unfold E0 at h
 rw [e] at h
 simp at h
 omega
theorem V8 (s o:Str) (ho:1≤o.length):Lib.countB ⟨s.toArray⟩ ⟨o.toArray⟩≤s.length:=Lib.countB_le ⟨o.toArray⟩ (by simpa [ByteArray.size] using ho) s.length ⟨s.toArray⟩ (by simp [ByteArray.size])
theorem Nl (o n:Str) (B:Nat) (hn:n.length≤B*o.length) (hB:1≤B):∀(k:Nat) (s:Str),(Lib.replaceK o n k s).length≤B*s.length
 | 0,s=>by rw [Lib.replaceK];exact O9 _ hB
 | k+1,s=>by
  rw [Lib.replaceK]
  split
  ·exact O9 _ hB
  rename_i h
  have ih:=Nl o n B hn hB k (s.drop ((Lib.index s o).toNat+o.length))
  have hx:(Lib.index s o).toNat+o.length≤s.length:=by
   have hg:=Lib.index_ge s o
   have hi:Lib.index s o ≠ -1:=by simpa using h
   exact Xj s o (by omega)
  simp only [Am,Ep,Gt] at ih ⊢
  have h1:min (Lib.index s o).toNat s.length≤B*(Lib.index s o).toNat:=Ob (Nat.min_le_left _ _) (O9 _ hB)
  have h2:B*s.length=B*(Lib.index s o).toNat+B*o.length+B*(s.length-((Lib.index s o).toNat+o.length)):=by
   rw [←Nat.mul_add,←Nat.mul_add];congr 1;omega
  omega
theorem R1 (s o n:Str) (B:Nat) (hn:n.length≤B*o.length) (hB:1≤B):(Lib.replaceAll s o n).length≤B*s.length:=by
 unfold Lib.replaceAll Lib.replace
 split
 ·exact O9 _ hB
 exact Nl o n B hn hB _ s
theorem c56 (v:Val) (hn:j1 v.n) (Hp:List AObj):AFun Tryz.prog 56 [Fo v] Hp (A8 (At v)):=by
 refine Ai [.tmp 2] [0] Tryz.func56 Tryz.ntmps56 (fun d=>?_)
 refine Z83 ?_;refine Z14 ?_;refine Z2 ?_;refine Ab Tryz.call51 (c51 v _) ?_;refine Z0 ?_;refine A2 [1,3] ?_
 refine A6 (fun ht3=>?_) (fun ht3=>?_)
 ·refine Z45 ?_;refine Z10 ?_;exact A9 (Af A7) ⟨by simp only [At,ht3,if_true],rfl⟩
 have hp:E0 v=true:=by simpa using ht3
 refine Z21 ?_;refine A2 [1,7] ?_
 refine A6 (fun ht7=>?_) (fun ht7=>?_)
 ·refine Z1 ?_;refine Ab Tryz.call80 (c80 v.n hn.1 hn.2 _) ?_;refine A4 ?_;refine Z4 ?_;refine Z10 ?_;exact A9 (Af A7) ⟨by simp only [At,hp,ht7,Ig,Co,if_false,if_true];try rfl,rfl⟩
 refine Z21 ?_;refine A2 [1,14] ?_
 refine A6 (fun ht14=>?_) (fun ht14=>?_)
 ·refine Z1 ?_
  have hl:=b6 hp ht14
  have hrl:=R1 v.s [39] [39,39] 2 (by decide) (by decide)
  refine Ab Tryz.call86 (c86 v.s [39] [39,39] (by omega) (by decide) (by have:=V8 v.s [39] (by decide);simp;omega) _) ?_
  refine Z6 ?_;refine Z4 ?_;refine Z10 ?_;exact A9 (Af A7) ⟨by simp only [At,hp,ht7,ht14,Ig,Co,if_false,if_true];try rfl,rfl⟩
 refine Z21 ?_;refine A2 [1,23] ?_
 refine A6 (fun ht23=>?_) (fun ht23=>?_)
 ·refine Z45 ?_;refine Z10 ?_;exact A9 (Af A7) ⟨by simp only [At,hp,ht7,ht14,ht23,Ig,Co,if_false,if_true];try rfl,rfl⟩
 refine Z21 ?_;refine A2 [27] ?_
 refine A6 (fun ht27=>?_) (fun ht27=>?_)
 ·refine Z45 ?_;refine Z10 ?_;exact oe
 refine Z55 ?_;refine Z45 ?_;exact oe

def Tf (s:Str):Str:=Lib.replaceAll ((s.take (s.length-1)).drop 1) [39,39] [39]
def Lv (s:Str):Val:=⟨2,0,(Tf s).take 200⟩
def Ri (s:Str):Val×Int:=if !(At (Lv s)==s) then (V7,7) else (Lv s,0)
theorem rn (s:Str) (h2:2≤s.length) (hs:s.length≤1048576) (Hp:List AObj):AFun Tryz.prog 139 [A8 s] Hp (.tup [Fo (Ri s).1,A3 (Ri s).2]):=by
 refine Ai [.cell 2 35,.tmp 3] [0] Tryz.func139 Tryz.ntmps139 (fun d=>?_)
 refine Z18 ?_;refine A4 ?_;refine A2 [0,2] ?_;refine Z21 ?_
 refine A4 (h:=Q.scutLH 1 (s.length-1) (fun _=>show 1≤s.length-1 by omega) (fun _=>show s.length-1≤s.length by omega)) (hr:=?_)
 refine Ab Tryz.call86 (c86 ((s.take (s.length-1)).drop 1) [39,39] [39] (by simp;omega) (by decide) (by have:=V8 ((s.take (s.length-1)).drop 1) [39,39] (by decide);simp at this ⊢;omega) _) ?_
 refine A4 ?_;refine A2 [0,2,4] ?_;refine Z2 ?_;refine Ab Tryz.call57 (c57 (Tf s) _) ?_;refine Z8 ?_;refine A2 [0,2,5] ?_;refine Z19 ?_
 refine Ab Tryz.call56 (c56 (Lv s) ⟨by show (-9223372036854775808:Int)≤0;decide,by show (0:Int)≤9223372036854775807;decide⟩ _) ?_
 refine Z0 ?_;refine A2 [2,5,17] ?_
 refine A6 (fun ht17=>?_) (fun ht17=>?_)
 ·refine Z26 ?_;refine Ux ?_;refine Dn ?_;exact og
 refine Z73 ?_;refine Ux ?_;exact og

def Nm (s:Str):Bool:=(decide ((1:Int)<s.length)&&Lib.hasPrefix s [39])&&Lib.hasSuffix s [39]
def Eb (s:Str):Val×Int:=
 if s==[110,117,108,108] then (V7,0) else if (s==[116,114,117,101]) || (s==[102,97,108,115,101]) then (pj (s==[116,114,117,101]),0)
 else if Nm s then Ri s else if (C9 s).2==0 then (⟨1,(C9 s).1,[]⟩,0) else if (C9 s).2==4 then (V7,4) else (V7,7)
theorem f7 {s:Str} (h:Nm s=true):2≤s.length:=by
 unfold Nm at h
 simp only [B1,decide_eq_true_eq] at h
 omega
theorem c94 (s:Str) (hs:s.length≤1048576) (Hp:List AObj):AFun Tryz.prog 94 [A8 s] Hp (.tup [Fo (Eb s).1,A3 (Eb s).2]):=by
 refine Ai [.cell 2 35,.tmp 3] [0] Tryz.func94 Tryz.ntmps94 (fun d=>?_)
 refine Z18 ?_;refine A4 ?_;refine A2 [0,2] ?_;refine Z14 ?_;refine Z16 ?_;refine A2 [0,2,6] ?_
 refine A6 (fun ht6=>?_) (fun ht6=>?_)
 ·refine Df ?_;refine Ab Tryz.call136 (rk _) ?_;refine Ux ?_;refine Z10 ?_;exact A9 (Cr (B3 jA jS) A7) ⟨by simp only [Eb,ht6,if_true,if_false,Co];try rfl,rfl⟩
 refine Z16 ?_;refine Z3 ?_;refine Z0 ?_;refine A2 [0,2,10] ?_
 refine A6 (fun ht10=>?_) (fun ht10=>?_)
 ·refine Z1 ?_;refine Ab Tryz.call137 (rm (s==[116,114,117,101]) _) ?_;refine Ux ?_;refine Z10 ?_;exact A9 (Cr (B3 jA jS) A7) ⟨by simp only [Eb,ht6,ht10,if_true,if_false,Co];try rfl,rfl⟩
 refine aq ?_;refine Bh Tryz.call127 (fun hB=>iu s [39] _) ?_;refine Z88 ?_;refine Bh Tryz.call138 (fun hB=>r8 s [39] (by omega) _) ?_;refine Z0 ?_;refine A2 [0,2,20] ?_
 refine A6 (fun ht20=>?_) (fun ht20=>?_)
 ·have hq:Nm s=true:=ht20
  refine Z2 ?_;refine Ab Tryz.call139 (rn s (f7 hq) hs _) ?_;refine Z0 ?_;refine Ux ?_;refine Z10 ?_;exact A9 (Cr (B3 jA jS) A7) ⟨by simp only [Eb,ht6,ht10,hq,if_true,if_false,Co];try rfl,rfl⟩
 have hq:Nm s=false:=ht20
 refine Z55 ?_;refine Z2 ?_;refine Ab Tryz.call126 (mg s hs _) ?_;refine Z33 ?_;refine A2 [2,4,5] ?_;refine Z19 ?_;refine A2 [2,4,5,41] ?_;refine Z97 ?_;refine A2 [2,4,5,41,42] ?_
 refine A6 (fun ht42=>?_) (fun ht42=>?_)
 ·refine Z2 ?_;refine Ab Tryz.call140 (rl (C9 s).1 _) ?_;refine Ux ?_;refine Z10 ?_;exact A9 (Cr (B3 jA jS) A7) ⟨by simp only [Eb,ht6,ht10,hq,ht42,if_true,if_false,Co];try rfl,rfl⟩
 refine Z1 ?_;refine A2 [2,5,46] ?_
 refine A6 (fun ht46=>?_) (fun ht46=>?_)
 ·refine Z26 ?_;refine A4 ?_;refine Ux ?_;refine Z10 ?_;exact A9 (Cr (B3 jA jS) A7) ⟨by simp only [Eb,ht6,ht10,hq,ht42,ht46,if_true,if_false,Co];rw [show (C9 s).2=4 by simpa using ht46];rfl,rfl⟩
 refine Z55 ?_;refine Z26 ?_;refine Ux ?_;exact A9 (Cr (B3 jA jS) A7) ⟨by simp only [Eb,ht6,ht10,hq,ht42,ht46,if_true,if_false,Co];try rfl,rfl⟩

def blanks:Str:=[32,9,10]
/-- What stands behind blanks and notes. -/
def Ek:Str→Bool→Str
 | [],_=>[]
 | c::r,false=>if blanks.contains c then Ek r false else if c==35 then Ek r true else c::r
 | c::r,true=>if c==10 then Ek r false else Ek r true
def runN (s of:Str):Nat:=s.length-(Lib.trimLeftS s of).length
theorem Tg (s of:Str):Lu s of=(runN s of:Int):=by
 have:=Oi s of
 unfold Lu runN
 omega
theorem Th (s of:Str):runN s of≤s.length:=Nat.sub_le _ _
theorem f8 (s of:Str):s.drop (runN s of)=Lib.trimLeftS s of:=by
 unfold runN Lib.trimLeftS
 have h:∀l:Str,l.drop (l.length-(l.dropWhile (of.contains ·)).length)=l.dropWhile (of.contains ·):=by
  intro l
  have e:=Ya (p:=(of.contains ·)) (l:=l)
  have hl:l.length-(l.dropWhile (of.contains ·)).length=(l.takeWhile (of.contains ·)).length:=by
   have:=congrArg List.length e
   simp only [Am] at this
   omega
  rw [hl]
  conv=>lhs;rw [←e]
  rw [List.drop_left']
  rw [e]
 exact h s
theorem f9 (s of:Str):s.take (runN s of)=s.takeWhile (of.contains ·):=by
 have e:=Ya (p:=(of.contains ·)) (l:=s)
 have hl:runN s of=(s.takeWhile (of.contains ·)).length:=by
  unfold runN Lib.trimLeftS
  have:=congrArg List.length e
  simp only [Am] at this
  omega
 rw [hl]
 conv=>lhs;rw [←e]
 rw [List.take_left']
 rw [e]
theorem Mv:∀s:Str,Ek (Lib.trimLeftS s blanks) false=Ek s false
 | []=>rfl
 | c::r=>by
  unfold Lib.trimLeftS
  rw [Me]
  by_cases h:blanks.contains c=true
  ·rw [if_pos h,Ek,if_pos h]
   exact Mv r
  rw [if_neg h]
theorem Rj (of:Str):∀(s:Str) (c:UInt8) (t:Str),Lib.trimLeftS s of=c::t→of.contains c=false
 | [],c,t,h=>by cases h
 | b::r,c,t,h=>by
  unfold Lib.trimLeftS at h
  rw [Me] at h
  split at h
  ·exact Rj of r c t h
  rename_i hb
  injection h with h1 h2
  subst h1
  simpa using hb
def Gm:Str→Str
 | []=>[]
 | c::r=>if c==10 then r else Gm r
theorem mh (s:Str):(Lib.cut s [10]).2.1=Gm s:=by
 unfold Lib.cut
 induction s with
 | nil=>rfl
 | cons c r ih =>
  have hg:=Lib.index_ge r [10]
  rw [Gm]
  unfold Lib.index
  by_cases hc:c=10
  ·subst hc
   simp [List.isPrefixOf]
  have h1:([10]:Str).isPrefixOf (c::r)=false:=by simp [List.isPrefixOf,Ne.symm hc]
  have h2:(c==10)=false:=by simpa using hc
  rw [h1,h2]
  simp only [Co,if_false]
  by_cases hi:Lib.index r [10] = -1
  ·rw [hi] at ih ⊢
   simpa using ih
  have h3:(Lib.index r [10] == -1)=false:=by simpa using hi
  rw [h3]
  simp only [Co,if_false]
  rw [if_pos (by omega)] at ih ⊢
  have e:(Lib.index r [10]+1).toNat=(Lib.index r [10]).toNat+1:=by omega
  rw [e]
  rw [←ih]
  show (c::r).drop _=_
  rw [show (Lib.index r [10]).toNat+1+([10]:Str).length=((Lib.index r [10]).toNat+([10]:Str).length)+1 by omega,Mf]
theorem Rk:∀t:Str,Ek t true=Ek (Gm t) false
 | []=>rfl
 | c::r=>by
  rw [Ek,Gm]
  split
  ·rfl
  exact Rk r
theorem Pe:∀t:Str,(Gm t).length≤t.length
 | []=>Ah _
 | c::r=>by
  rw [Gm]
  split
  ·simp
  have:=Pe r;simp only [Ar];omega
def gapM (s:Str):Nat:=s.length-(Ek s false).length
theorem b7 {d:Str} (h:((d==[])==false)=true):d≠[]:=by rintro rfl;simp at h
theorem Ti:∀c∈blanks,c.toNat<128:=by decide
/-- The gap is at its end. -/
theorem j2 {x s:Str} (hx:Ek x false=Ek s false) (h:((Lib.trimLeftS x blanks==[]) || ((((Lib.trimLeftS x blanks).headD 0).toNat:Int) != 35))=true):Ek s false=Lib.trimLeftS x blanks:=by
 rw [←hx,←Mv]
 cases ht:Lib.trimLeftS x blanks with
 | nil=>rfl
 | cons c t =>
  rw [ht] at h
  have hb:=Rj blanks x c t ht
  have hc:(c==35)=false:=by
   simp at h
   rw [beq_eq_false_iff_ne]
   rintro rfl
   exact h rfl
  rw [Ek,hb,hc]
  rfl
theorem mi {x s:Str} (hx:Ek x false=Ek s false) (h:((Lib.trimLeftS x blanks==[]) || ((((Lib.trimLeftS x blanks).headD 0).toNat:Int) != 35))=false):
  Ek (Lib.cut (Lib.trimLeftS x blanks) [10]).2.1 false=Ek s false∧(Lib.cut (Lib.trimLeftS x blanks) [10]).2.1.length<x.length:=by
 have hl:=Oi x blanks
 rw [mh,←hx,←Mv x]
 cases ht:Lib.trimLeftS x blanks with
 | nil=>rw [ht] at h;simp at h
 | cons c t =>
  rw [ht] at h hl
  have hc:c=35:=by
   simp at h
   exact Fi.1 (by have:(35:UInt8).toNat=35:=rfl;omega)
  subst hc
  have ha:=Pe t
  refine ⟨?_,?_⟩
  ·rw [Gm,Ek]
   have e1:blanks.contains 35=false:=by decide
   rw [e1]
   exact (Rk t).symm
  rw [Gm]
  simp only [Ar] at hl
  show (Gm t).length<_
  omega
theorem pk (s:Str) (hs:s.length≤1048576) (Hp:List AObj):AFun Tryz.prog 220 [A8 s] Hp (A3 (gapM s)):=by
 refine Ai [.tmp 2] [0] Tryz.func220 Tryz.ntmps220 (fun d=>?_)
 refine Z31 ?_;refine Z1 ?_;refine Ki ?_
 refine C8 (α:=Str) (fun x=>⟨27,Aa 0 (A8 s) (Aa 3 (A8 x) (fun _=>.any)),Hp,[],[],none⟩) (fun x=>Ek x false=Ek s false∧x.length≤s.length) (fun x=>x.length) (s) (by simp) (Es _) rfl (fun x hx=>?_)
 refine ea ?_
 have hx2:=hx.2
 have htl:=Oi x blanks
 refine Z0 ?_;refine Ab Tryz.call161 (Xc x blanks (by omega) (by decide) Ti _) ?_
 refine A4 (h:=I0 (runN x blanks) (fun _=>Th _ _) (fun _=>Ah _) (ha:=fun _=>Tg x blanks)) (hr:=?_)
 rw [f8]
 refine A4 ?_;refine Ki ?_;refine Z30 ?_;refine B9 ?_
 refine B9 (h:=E9 0 ((Lib.trimLeftS x blanks).headD 0) (fun hB=>Mr (b7 hB))) (hr:=?_)
 refine Z57 ?_;refine A2 [0,3,15] ?_
 refine A6 (fun ht15=>?_) (fun ht15=>?_)
 ·have he:=j2 hx.1 ht15
  refine Z21 ?_;refine Z64 ?_;refine Dn ?_;refine eh ?_;exact A9 (Af A7) ⟨by rw [show ((s.length:Int)-(Lib.trimLeftS x blanks).length)=(gapM s:Int) by unfold gapM;rw [he];omega],rfl⟩
 have he:=mi hx.1 ht15
 refine Z5 ?_;refine Z27 ?_;refine Ab Tryz.call60 (c60 (Lib.trimLeftS x blanks) [10] (by omega) _) ?_;refine Z33 ?_;refine Ki ?_;refine F8 ?_;exact C0 _ ⟨he.1,by omega⟩ he.2 (Cm rfl)

def Cg (s of:Str):Str:=s.take (runN s of)
theorem G9 (s of:Str):(Cg s of).length≤s.length:=by unfold Cg;simp;omega
def L7 (s:Str):Int×Str×Int×Int:=
 if Ej (Cg s tails) then (2,Cg s tails,(Cg s tails).length,0) else if !Ew (Cg s tails) then (0,[],0,3) else (1,Cg s tails,(Cg s tails).length,0)
abbrev fa (r:Int×Str×Int×Int):AV:=.tup [A3 r.1,A8 r.2.1,A3 r.2.2.1,A3 r.2.2.2]
theorem V9:∀c∈tails,c.toNat<128:=by decide
theorem R2:∀c∈letters,c.toNat<128:=by decide
theorem rp (s:Str) (hs:s.length≤1048576) (Hp:List AObj):AFun Tryz.prog 234 [A8 s] Hp (fa (L7 s)):=by
 refine Ai [.tmp 2,.tmp 3,.tmp 4,.tmp 5] [0] Tryz.func234 Tryz.ntmps234 (fun d=>?_)
 refine eg ?_;refine Z1 ?_;refine Ab Tryz.call161 (Xc s tails hs (by decide) V9 _) ?_
 refine A4 (h:=Gv (runN s tails) (fun _=>Aw _) (fun _=>Th _ _) (hb:=fun _=>Tg s tails)) (hr:=?_)
 refine A4 ?_;refine A2 [6] ?_;refine Z14 ?_;refine Z2 ?_
 refine Ab Tryz.call162 (ph (Cg s tails) (by have:=G9 s tails;omega) _) ?_
 refine A4 ?_;refine A2 [6,11] ?_
 refine A6 (fun ht11=>?_) (fun ht11=>?_)
 ·refine Df ?_
  have hwl:=G9 s tails
  refine Z0 ?_;refine Z33 ?_;refine dx ?_;exact A9 (Hd A7 A7 A7 A7) ⟨by simp only [L7,ht11,if_true,if_false,Co];try rfl,rfl⟩
 refine Z2 ?_
 refine Ab Tryz.call113 (mc (Cg s tails) (by have:=G9 s tails;omega) _) ?_
 refine Z0 ?_;refine A2 [6,17] ?_
 refine A6 (fun ht17=>?_) (fun ht17=>?_)
 ·refine Z21 ?_;refine dx ?_;exact oh
 refine Z55 ?_;refine Df ?_
 have hwl:=G9 s tails
 refine Z0 ?_;refine Z33 ?_;refine dw ?_;exact oh

def Tj (s:Str):Int×Str×Int×Int:=(3,Cg s digs,(Cg s digs).length,(Eb (Cg s digs)).2)
theorem rq (s:Str) (hs:s.length≤1048576) (Hp:List AObj):AFun Tryz.prog 235 [A8 s] Hp (fa (Tj s)):=by
 refine Ai [.tmp 2,.tmp 3,.tmp 4,.tmp 5] [0] Tryz.func235 Tryz.ntmps235 (fun d=>?_)
 refine eg ?_;refine Z1 ?_;refine Ab Tryz.call161 (Xc s digs hs (by decide) L6 _) ?_
 refine A4 (h:=Gv (runN s digs) (fun _=>Aw _) (fun _=>Th _ _) (hb:=fun _=>Tg s digs)) (hr:=?_)
 refine A4 ?_;refine A2 [6] ?_;refine Z2 ?_
 refine Ab Tryz.call94 (c94 (Cg s digs) (by have:=G9 s digs;omega) _) ?_
 refine X6 ?_;refine A2 [6,8] ?_;refine Z21 ?_;refine Z66 ?_;refine dw ?_;exact A9 (Hd A7 A7 A7 A7) ⟨rfl,rfl⟩

/-- Behind a mark: how many bytes up to the one that closes, it too. -/
def C5:Str→Option Nat
 | []=>none
 | [c]=>if c==39 then some 1 else none
 | c::d::t=>if c==39 then (if d==39 then (C5 t).map (·+2) else some 1) else (C5 (d::t)).map (·+1)
theorem Nn {c:UInt8} (h:¬(c==39)=true) (r:Str):C5 (c::r)=(C5 r).map (·+1):=by
 cases r with
 | nil=>simp [C5,h]
 | cons d t=>rw [C5,if_neg h]
theorem Pf (r:Str):C5 (39::r)=match r with
   | []=>some 1
   | d::t=>if d==39 then (C5 t).map (·+2) else some 1:=by
 cases r with
 | nil=>rfl
 | cons d t=>rw [C5];simp
def Hu (s:Str):Int×Str×Int×Int:=
 match C5 (s.drop 1) with
 | none=>(0,[],0,7)
 | some n=>if (Eb (s.take (n+1))).2 != 0 then (0,[],0,3) else (4,(Eb (s.take (n+1))).1.s,((n+1:Nat):Int),0)
theorem Pg:∀l:Str,Lib.indexByte l 39 = -1→C5 l=none
 | [],_=>by rw [C5]
 | c::r,h=>by
  rw [Lib.indexByte] at h
  split at h
  ·omega
  rename_i hc
  rw [Nn hc]
  split at h
  ·rename_i hi
   rw [Pg r (by simpa using hi)]
   rfl
  have:=Lib.indexByte_ge r 39;omega
theorem Va:∀(l:Str) (k:Nat),Lib.indexByte l 39=(k:Int)→k<l.length∧C5 l=(C5 (l.drop k)).map (·+k)∧l[k]? = some 39
 | [],k,h=>by rw [Lib.indexByte] at h;omega
 | c::r,k,h=>by
  rw [Lib.indexByte] at h
  split at h
  ·rename_i hc
   have:k=0:=by omega
   subst this
   refine ⟨by simp,?_,by simpa using hc⟩
   rw [Ov]
   cases C5 (c::r)<;>simp
  rename_i hc
  split at h
  ·omega
  have hg:=Lib.indexByte_ge r 39
  rename_i hi
  have hi':Lib.indexByte r 39 ≠ -1:=by simpa using hi
  obtain ⟨m,rfl⟩:∃m,k=m+1:=⟨k-1,by omega⟩
  obtain ⟨h1,h2,h3⟩:=Va r m (by omega)
  refine ⟨by simpa using h1,?_,by simpa using h3⟩
  rw [Nn hc,Mf,h2]
  cases C5 (r.drop m)<;>simp [Ho]
theorem Iu {s:Str} {n:Nat} {c:UInt8} (h:s[n]? = some c):s.drop n=c::s.drop (n+1):=by
 obtain ⟨hlt,he⟩:=Ac.1 h
 rw [Sb hlt,he]
theorem Lw {s:Str} {n:Nat} (h:n<s.length):s[n]? = some (s.getD n 0):=by
 rw [Dw,Ad h];rfl
theorem fb {s:Str} {x k:Nat} (h:(decide (((x:Int)+((k:Int)+1))<s.length)==true)=true):x+(k+1)<s.length:=by
 have:=of_decide_eq_true (by simpa using h:decide (((x:Int)+((k:Int)+1))<s.length)=true)
 omega
/-- What a round of the search for the mark that closes comes to. -/
theorem Xk {s:Str} {x k:Nat} (h1:1≤x) (hx:C5 (s.drop 1)=(C5 (s.drop x)).map (·+(x-1))) (hk:Lib.indexByte (s.drop x) 39=(k:Int)):
  x+(k+1)≤s.length ∧
   ((decide (((x:Int)+((k:Int)+1))<s.length)&&(((s.getD (x+(k+1)) 0).toNat:Int)==39))=true→x+(k+1)+1≤s.length∧C5 (s.drop 1)=(C5 (s.drop (x+(k+1)+1))).map (·+(x+(k+1)+1-1))) ∧
   ((decide (((x:Int)+((k:Int)+1))<s.length)&&(((s.getD (x+(k+1)) 0).toNat:Int)==39))=false→C5 (s.drop 1)=some (x+k)):=by
 obtain ⟨g1,g2,g3⟩:=Va _ k hk
 rw [Ep] at g1
 rw [Dl] at g3
 have e0:(s.drop x).drop k=39::s.drop (x+(k+1)):=by rw [Sa,Iu g3,Ho]
 rw [e0] at g2
 refine ⟨by omega,fun h=>?_,fun h=>?_⟩
 ·simp only [B1,decide_eq_true_eq,beq_iff_eq] at h
  have hlt:x+(k+1)<s.length:=by omega
  have hc:s.getD (x+(k+1)) 0=39:=Fi.1 (by have:(39:UInt8).toNat=39:=rfl;omega)
  have hd:=Iu (Lw hlt)
  rw [hc] at hd
  refine ⟨by omega,?_⟩
  rw [hx,g2,hd,Pf]
  simp only [beq_self_eq_true,if_true]
  cases C5 (s.drop (x+(k+1)+1)) with
  | none=>rfl
  | some m=>simp;omega
 rw [hx,g2,Pf]
 cases hd:s.drop (x+(k+1)) with
 | nil=>simp;omega
 | cons d t =>
  have hlt:x+(k+1)<s.length:=by
   have:=congrArg List.length hd
   simp at this;omega
  have hg:=Iu (Lw hlt)
  rw [hd] at hg
  injection hg with hg1 hg2
  have hne:(d==39)=false:=by
   rw [hg1,beq_eq_false_iff_ne]
   intro e
   rw [e] at h
   simp at h
   omega
  simp [hne];omega
theorem rr (s:Str) (h0:1≤s.length) (hs:s.length≤1048576) (Hp:List AObj):AFun Tryz.prog 236 [A8 s] Hp (fa (Hu s)):=by
 refine Ai [.tmp 2,.tmp 3,.tmp 4,.tmp 5] [0] Tryz.func236 Tryz.ntmps236 (fun d=>?_)
 refine eg ?_;refine Z2 ?_;refine A2 [0,6] ?_
 refine C8 (α:=Nat) (fun x=>⟨44,Aa 0 (A8 s) (Aa 6 (A3 (x:Nat)) (fun _=>.any)),Hp,[],[],none⟩) (fun x=>1≤x∧x≤s.length∧C5 (s.drop 1)=(C5 (s.drop x)).map (·+(x-1))) (fun x=>s.length-x) (1) ⟨Ah _,h0,by cases C5 (s.drop 1)<;>rfl⟩ (Es _) rfl (fun x hx=>?_)
 refine Z97 ?_
 refine A4 (h:=I0 x (fun _=>hx.2.1) (fun _=>Ah _)) (hr:=?_)
 refine Ab Tryz.call241 (r9 (s.drop x) 39 _) ?_;refine A4 ?_;refine A2 [0,6,7] ?_;refine Z7 ?_;refine A2 [0,6,7,15] ?_
 refine A6 (fun ht15=>?_) (fun ht15=>?_)
 ·have hk:Lib.indexByte (s.drop x) 39 = -1:=by have:=Lib.indexByte_ge (s.drop x) 39;simp at ht15;omega
  have hcq:C5 (s.drop 1)=none:=by rw [hx.2.2,Pg _ hk];rfl
  refine Z21 ?_;refine ig ?_;refine eh ?_;exact A9 (Hd A7 A7 A7 A7) ⟨by simp only [Hu,hcq],rfl⟩
 obtain ⟨k0,hk⟩:=Int.eq_ofNat_of_zero_le (show 0≤Lib.indexByte (s.drop x) 39 by simp at ht15;omega)
 rw [hk]
 refine Z5 ?_;refine Df ?_
 have hst:=Xk hx.1 hx.2.2 hk
 refine Z33 ?_;refine A2 [0,6] ?_;refine X4 ?_;refine Z3 ?_
 refine B9 (h:=E9 (x+(k0+1)) (s.getD (x+(k0+1)) 0) (fun hB=>Lw (fb hB))) (hr:=?_)
 refine Z57 ?_;refine A2 [0,6,29] ?_
 refine A6 (fun ht29=>?_) (fun ht29=>?_)
 ·have hon:=hst.2.1 ht29
  refine Z16 ?_;refine A2 [0,6] ?_;refine Z29 ?_;refine K.blE ?_;exact C0 ((x+(k0+1))+1) ⟨by omega,hon.1,hon.2⟩ (by omega) (Cm rfl)
 have hcq:=hst.2.2 ht29
 refine Z5 ?_;refine Z1 ?_
 refine A4 (h:=Gv (x+(k0+1)) (fun _=>Aw _) (fun _=>hst.1)) (hr:=?_)
 refine Ab Tryz.call94 (c94 (s.take (x+(k0+1))) (by simp;omega) _) ?_
 refine X6 ?_;refine A2 [6,8,9] ?_;refine Z7 ?_;refine A2 [6,8,40] ?_
 refine A6 (fun ht40=>?_) (fun ht40=>?_)
 ·refine Z21 ?_;refine ig ?_;refine eh ?_;exact A9 (Hd A7 A7 A7 A7) ⟨by simp only [Hu,hcq,show x+k0+1=x+(k0+1) by omega];rw [if_pos ht40],rfl⟩
 refine Z5 ?_;refine Hf [0,1,0,0,11,31,63] 5 Av (by kernel_rfl) ?_;refine Z11 ?_;refine Z34 ?_;refine In ?_;refine Z0 ?_;refine dw ?_;refine eh ?_;exact A9 (Hd A7 A7 A7 A7) ⟨by simp only [Hu,hcq,show x+k0+1=x+(k0+1) by omega];rw [if_neg (by rw [ht40];simp)];rfl,rfl⟩

def Yi:Str:=[60,61,32,62,61,32,33,61]
def Yj:Str:=[40,41,44,59,61,60,62,43,45,42,47,37,38,58]
def Ph (s:Str):Int×Str×Int×Int:=
 if (decide ((1:Int)<s.length)&&Lib.contains Yi (s.take 2))&&(((s.getD 1 0).toNat:Int)==61) then (5,s.take 2,2,0)
 else if Lib.contains Yj (s.take 1) then (5,s.take 1,1,0) else (0,[],0,7)
theorem b8 {s:Str} {b c:Bool} (h:(((decide ((1:Int)<s.length)&&b)&&c)==true)=true):1<s.length:=by
 revert h
 cases hd:decide ((1:Int)<s.length) with
 | true=>intro _;have:=of_decide_eq_true hd;omega
 | false=>intro h;simp at h
theorem Pi {s:Str} {b:Bool} (h:((decide ((1:Int)<s.length)&&b)==true)=true):1<s.length:=b8 (c:=true) (by rw [Wd];exact h)
theorem Xl {s:Str} (h:(decide ((1:Int)<s.length)==true)=true):2≤s.length:=Pi (b:=true) (by rw [Wd];exact h)
theorem rt (s:Str) (h0:1≤s.length) (Hp:List AObj):AFun Tryz.prog 237 [A8 s] Hp (fa (Ph s)):=by
 refine Ai [.tmp 2,.tmp 3,.tmp 4,.tmp 5] [0] Tryz.func237 Tryz.ntmps237 (fun d=>?_)
 refine eg ?_;refine Z36 ?_;refine B9 ?_
 refine B9 (h:=Gv 2 (fun _=>Aw _) (fun hB=>Xl hB)) (hr:=?_)
 refine Bh Tryz.call32 (fun hB=>c32 Yi (s.take 2) (by decide) _) ?_;refine Z88 ?_
 refine B9 (h:=E9 1 (s.getD 1 0) (fun hB=>Lw (Pi hB))) (hr:=?_)
 refine Z57 ?_;refine A2 [0,18] ?_
 refine A6 (fun ht18=>?_) (fun ht18=>?_)
 ·have h2:2≤s.length:=by revert ht18;cases hd:decide ((1:Int)<s.length) with
   | true=>intro _;have:=of_decide_eq_true hd;omega
   | false=>intro h;simp at h
  refine Hf [0,1,0,7,15,31] 3 Av (by kernel_rfl) ?_;refine Bb ?_
  refine Bb (h:=Gv 2 (fun _=>Aw _) (fun _=>h2)) (hr:=?_)
  refine Uu ?_;refine Z6 ?_;refine ig ?_;exact A9 (Hd A7 A7 A7 A7) ⟨by simp only [Ph,ht18,if_true,if_false,Co];try rfl,rfl⟩
 refine Z82 ?_
 refine A4 (h:=Gv 1 (fun _=>Aw _) (fun _=>h0)) (hr:=?_)
 refine Ab Tryz.call32 (c32 Yj (s.take 1) (by decide) _) ?_;refine A2 [0,23] ?_
 refine A6 (fun ht23=>?_) (fun ht23=>?_)
 ·refine Hf [0,1,0,7,15,31] 3 Av (by kernel_rfl) ?_;refine Bb ?_
  refine Bb (h:=Gv 1 (fun _=>Aw _) (fun _=>h0)) (hr:=?_)
  refine Uu ?_;refine Z6 ?_;refine ig ?_;exact oi
 refine Z5 ?_;refine Z21 ?_;refine dw ?_;exact oi

def Bj (s:Str):Int×Str×Int×Int:=
 if decide (0<Lu (s.take 1) letters) then L7 s else if decide (0<Lu (s.take 1) digs) then Tj s else if ((s.getD 0 0).toNat:Int)==39 then Hu s else Ph s
theorem ru (s:Str) (h0:1≤s.length) (hs:s.length≤1048576) (Hp:List AObj):AFun Tryz.prog 221 [A8 s] Hp (fa (Bj s)):=by
 refine Ai [.tmp 2,.tmp 3,.tmp 4,.tmp 5] [0] Tryz.func221 Tryz.ntmps221 (fun d=>?_)
 refine eg ?_;refine Z14 ?_;refine Z2 ?_
 refine A4 (h:=Gv 1 (fun _=>Aw _) (fun _=>h0)) (hr:=?_)
 refine Ab Tryz.call161 (Xc (s.take 1) letters (by simp;omega) (by decide) R2 _) ?_
 refine Z0 ?_;refine A2 [0,6] ?_
 refine A6 (fun ht6=>?_) (fun ht6=>?_)
 ·refine Z2 ?_;refine Ab Tryz.call234 (rp s hs _) ?_;refine Z66 ?_;refine Z66 ?_;refine dx ?_;exact A9 (Hd A7 A7 A7 A7) ⟨by simp only [Bj,ht6,if_true,if_false,Co],rfl⟩
 refine Z2 ?_
 refine A4 (h:=Gv 1 (fun _=>Aw _) (fun _=>h0)) (hr:=?_)
 refine Ab Tryz.call161 (Xc (s.take 1) digs (by simp;omega) (by decide) L6 _) ?_
 refine Z0 ?_;refine A2 [0,17] ?_
 refine A6 (fun ht17=>?_) (fun ht17=>?_)
 ·refine Z2 ?_;refine Ab Tryz.call235 (rq s hs _) ?_;refine Z66 ?_;refine Z66 ?_;refine dx ?_;exact A9 (Hd A7 A7 A7 A7) ⟨by simp only [Bj,ht6,ht17,if_true,if_false,Co],rfl⟩
 refine Z2 ?_
 refine A4 (h:=E9 0 (s.getD 0 0) (fun _=>Lw h0)) (hr:=?_)
 refine Z0 ?_;refine A2 [0,28] ?_
 refine A6 (fun ht28=>?_) (fun ht28=>?_)
 ·refine Z2 ?_;refine Ab Tryz.call236 (rr s h0 hs _) ?_;refine Z66 ?_;refine Z66 ?_;refine dx ?_;exact ol
 refine Z55 ?_;refine Z2 ?_;refine Ab Tryz.call237 (rt s h0 _) ?_;refine Z66 ?_;refine Z66 ?_;refine dw ?_;exact ol

structure Tok where
 kind:Int
 text:Str
 at_:Nat
 deriving DecidableEq
abbrev Ga (t:Tok):AV:=.agg [.v (.int .i64 t.kind),.v (sv t.text),.v (.int .i64 (t.at_:Int))]
abbrev fc (l:List Tok):AV:=.slice false 3 (l.map Ga)
theorem Yk {c:UInt8} {of:Str} (h:decide (0<Lu ([c]:Str) of)=true):of.contains c=true:=by
 have:=of_decide_eq_true h
 unfold Lu Lib.trimLeftS at this
 rw [Me] at this
 cases hc:of.contains c with
 | true=>rfl
 | false=>rw [hc] at this;simp at this
theorem Pj {c:UInt8} {r of:Str} (h:of.contains c=true):1≤(Cg (c::r) of).length:=by
 unfold Cg
 rw [f9,List.takeWhile_cons,h]
 simp
theorem R3:∀c:UInt8,letters.contains c=true→tails.contains c=true:=by
 have h:((List.range 256).all fun n => !letters.contains (UInt8.ofNat n) || tails.contains (UInt8.ofNat n))=true:=by kernel_rfl
 intro c hc
 have:=Ap.1 h c.toNat (Dm.2 c.toNat_lt)
 rw [show UInt8.ofNat c.toNat=c by simp,hc] at this
 simpa using this
theorem Pk:∀(l:Str) (n:Nat),C5 l=some n→1≤n∧n≤l.length
 | [],n,h=>by cases h
 | [c],n,h=>by
  rw [C5] at h
  split at h
  ·injection h with h;subst h;simp
  cases h
 | c::d::t,n,h=>by
  rw [C5] at h
  split at h
  ·split at h
   ·rw [Da] at h
    obtain ⟨m,hm,rfl⟩:=h
    have:=Pk t m hm
    simp only [Ar];omega
   injection h with h;subst h;simp
  rw [Da] at h
  obtain ⟨m,hm,rfl⟩:=h
  have:=Pk (d::t) m hm
  simp only [Ar] at this ⊢;omega
theorem Yl {s:Str} (h0:1≤s.length) (h:(Bj s).2.2.2=0):∃n:Nat,(Bj s).2.2.1=(n:Int)∧1≤n∧n≤s.length:=by
 cases s with
 | nil=>simp at h0
 | cons c r =>
  unfold Bj at h ⊢
  split at h
  ·rename_i h1
   rw [if_pos h1]
   have hc:=R3 c (Yk h1)
   have hw:=Pj (r:=r) hc
   have hl:=G9 (c::r) tails
   unfold L7 at h ⊢
   split at h
   ·rename_i h2;rw [if_pos h2];exact ⟨_,rfl,hw,hl⟩
   rename_i h2
   rw [if_neg h2]
   split at h
   ·exact ej
   rename_i h3;rw [if_neg h3];exact ⟨_,rfl,hw,hl⟩
  rename_i h1
  rw [if_neg h1]
  split at h
  ·rename_i h2
   rw [if_pos h2]
   exact ⟨_,rfl,Pj (r:=r) (Yk h2),G9 _ _⟩
  rename_i h2
  rw [if_neg h2]
  split at h
  ·rename_i h3
   rw [if_pos h3]
   unfold Hu at h ⊢
   split at h
   ·exact ej
   rename_i n hn
   split at h
   ·exact ej
   rename_i h4
   simp only [if_neg h4]
   have:=Pk _ n hn
   simp at this
   exact ⟨n+1,rfl,by omega,by simp only [Ar];omega⟩
  rename_i h3
  rw [if_neg h3]
  unfold Ph at h ⊢
  split at h
  ·rename_i h4
   rw [if_pos h4]
   refine ⟨2,rfl,by omega,?_⟩
   simp only [B1,decide_eq_true_eq] at h4
   have:=h4.1.1
   omega
  rename_i h4
  rw [if_neg h4]
  split at h
  ·rename_i h5;rw [if_pos h5];exact ⟨1,rfl,by omega,h0⟩
  exact ej
/-- The words from a place on, up to one that is wrong. -/
def Gb:Nat→Nat→Str→List (Tok×Int)
 | 0,_,_=>[]
 | f+1,k,s=>if s==[] then [] else
  (⟨(Bj s).1,(Bj s).2.1,k⟩,(Bj s).2.2.2)::(if (Bj s).2.2.2==0 then Gb f (k+(Bj s).2.2.1.toNat+gapM (s.drop (Bj s).2.2.1.toNat)) ((s.drop (Bj s).2.2.1.toNat).drop (gapM (s.drop (Bj s).2.2.1.toNat))) else [])
def Bi (s:Str):List (Tok×Int):=Gb (s.length+1) (gapM s) (s.drop (gapM s))
theorem Xm (s:Str):gapM s≤s.length:=Nat.sub_le _ _
end Go.SX.Nb
namespace Go.SX
variable [GI:GlobInv]
open Classical
section
variable {P:Program} {d:Nat} {st:St} {dst:Option Tmp} {ty:TypeId} {pos:String} {aft:Array Edge} {gd:Option (Nat×Bool)}
end
section
variable {P:Program} {d:Nat} {ops:Array Oper}
variable {sz:Nat} {fr:Nat→AV} {up own own':List AObj} {dfs:List Nat} {rnd:Option Nat} {Q:St→Prop} {rest:List Oper} {s:Nat} {ty:TypeId} {pos:String} {aft:Array Edge}
end
end Go.SX
namespace Go.SX
variable [GI:GlobInv]
open Classical
variable {P:Program} {d:Nat} {l0:List Oper} {kd:Nat} {ops:Array Oper} {rest:List Oper} {sz:Nat} {fr:Nat→AV} {up own:List AObj} {dfs:List Nat} {rnd:Option Nat} {Q:St→Prop} {s:Nat} {ty:TypeId} {pos:String} {aft:Array Edge} {E:List Oper→(Nat→AV)→Prop}
theorem R.nilTmp {l:List Oper} (s k:Nat) (o:Bool) (hr:ARun P d ops l ⟨sz,Aa s (.slice o k []) fr,up,own,dfs,rnd⟩ Q) (h:fr s=.nil:=by exact sL0):
  ARun P d ops l ⟨sz,fr,up,own,dfs,rnd⟩ Q:=
 ARun.le (st':=⟨sz,Aa s (.slice o k []) fr,up,own,dfs,rnd⟩) (Oz (s:=⟨sz,fr,up,own,dfs,rnd⟩) fun i=>by
  show Le (fr i) (Aa s (.slice o k []) fr i)
  unfold Aa
  by_cases hi:i=s
  ·subst hi;rw [if_pos rfl,h];exact .nil _ _
  rw [if_neg hi];exact .refl _) hr
/-! A slice without room behind its end: whoever appends to it gets a new one. -/
theorem Xn (k:Nat) (xs:List AV):(AV.full k xs).strip=.full k xs:=rfl
theorem Xo (k:Nat) (xs:List AV):(AV.full k xs).cells=[.full k xs]:=rfl
theorem fe (k:Nat) (xs:List AV):(AV.full k xs).one=true:=rfl
attribute [go_sem] Xn Xo fe
section
variable {KP:List PanicEntry→St→Prop} {up own:(Nat→Bool)→List AObj} {S:List SegY} {l:List Oper} {T F:List Nat}
/-- The p-th of those that turn the heap: a store into an object of whoever waits. -/
theorem Y.storeUp {t t':TypeId} {p x:Operand} {o off k pn:Nat} {y:AV} {ys cs cs':List AV} (hsz:∀w,(Go.sizeOf t).run P w=.ok k w)
  (hU:∀B:Nat→Bool,B pn=false→(up B)[o]? = some (.cells t' cs)∧up (upd B pn)=(up B).set o (.cells t' cs')∧own (upd B pn)=own B∧∀y∈ys,Low (up B).length y)
  (h:ChainY P d l0 sz up own dfs rnd KP E S l fr)
  (hp:B6 fr p=.ptr o off:=by exact sL0) (hx:B6 fr x=y:=by exact sL0) (hc:y.cells=ys:=by exact sL0) (hk:ys.length=k:=by rfl)
  (h1:ys.all AV.one=true:=by exact sL1) (hfit:off+k≤cs.length:=by exact sL2) (hput:Bl cs off ys=cs':=by exact sL0):
  ChainY P d l0 sz up own dfs rnd KP E (.s [] (some pn) T F::S) (⟨none,.store t p x,ty,pos,aft,none⟩::l) fr:=by
 subst hput
 subst hc
 refine ⟨_,l,[],rfl,⟨rfl,rfl,fun B f _ _ hB hf=>.of ?_⟩,h⟩
 obtain ⟨a1,a2,a3,a4⟩:=hU B (hB pn rfl)
 have e:B6 f p=.ptr o off:=by rw [agr hf (by simp [Op.operands])];exact hp
 have ex:B6 f x=y:=by rw [agr hf (by simp [Op.operands])];exact hx
 refine AOp.eqTo (AOp.storeUp (st:=⟨sz,f,up B,own B,dfs,rnd⟩) hsz e a1 ex hk h1 hfit a4) ?_
 show _=St.mk sz f (up (upd B pn)) (own (upd B pn)) dfs rnd
 rw [a2,a3]
end
end Go.SX
namespace Go.SX
def L8:=@R.nilTmp
end Go.SX
