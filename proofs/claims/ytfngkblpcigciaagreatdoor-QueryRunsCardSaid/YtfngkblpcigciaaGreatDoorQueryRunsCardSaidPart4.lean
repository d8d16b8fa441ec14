/- On the way (part 4). -/
import Derived.Below
import Derived.Test.YtfngkblpcigciaaGreatDoorProg
import Derived.KernelRfl
import Derived.Shelf.Strconv.Itoa4
import Derived.Shelf.Strings.SplitShaped
import Derived.Shelf.Strings.SlTrimAscii
import Derived.Shelf.Strings.OnBuilder
import Derived.Shelf.Strings.Replace
import Derived.Shelf.Small.Strs
import Derived.Shelf.Strings.Prefix
import Derived.Shelf.Strconv.ErrVarParseInt
import Derived.Shelf.Strconv.AtoiAll
import Derived.Shelf.Strings.Builder1
import Derived.Shelf.Bits.Mul64
import Derived.Shelf.Strings.Cut
import Derived.Lib.SplitLaws
import Derived.LaidEql
import Derived.Stop.Asserts
import Derived.RowKitTokens
import Derived.WalkKit
import Derived.Lib.AtoiErrMem
import Derived.Lib.Strings
import Derived.BigCall
import Derived.Lib.ParseIntB
import Derived.Test.YtfngkblpcigciaaGreatDoorQueryRunsCardSaidPart3
set_option linter.all false
namespace Go.SX
variable [GI:GlobInv]
open Classical Go.RowKit
section
variable {P:Program} {g:FuncId} {Hp:List AObj}

/-- What is known of package-level variables, of a world alone. -/
def Hu (w:World):Prop:=∀x∈GI.blocks,∃o,w.heap[x.1]? = some o∧x.2 o

theorem Uj {G:Gh} {w:World} {xs:List Value} {vs:Array Value} (hn:vs.size=(xs.map AV.v).length) (h:∀(i:Nat) (y:AV) (u:Value),(xs.map AV.v)[i]? = some y→vs[i]? = some u→∃l,Rep G w l y u):vs=xs.toArray:=by
 apply Y2
 ·simpa using hn
 intro i h1 h2
 have hi:i<xs.length:=by simpa using h2
 obtain ⟨l,hr⟩:=h i (.v xs[i]) vs[i] (by simp [hi]) (Eb h1)
 have:=Kh hr
 simpa using this

theorem Gb {G:Gh} {w w':World} (hT:TagOK G w) (hb:Below w.heap.size w w') {b o:Nat} (h:G.tag b o≠.free):w'.cell? ⟨b,o,none⟩=w.cell? ⟨b,o,none⟩∧w'.frozen? ⟨b,o,none⟩=w.frozen? ⟨b,o,none⟩:=by
 obtain ⟨u,hu⟩:=hT.ex b o h
 have hlt:b<w.heap.size:=World.block_lt_of_cell? _ _ hu
 have:=hb.block b hlt
 exact ⟨E8 this,Dc this⟩

theorem Lv {G:Gh} {w w':World} (hT:TagOK G w) (hb:Below w.heap.size w w'):Turn G w G w':=
 ⟨fun b o h=>⟨h,(Gb hT hb (by rw [h];simp)).1⟩,fun _ _ _ h=>h,fun _ _ _ h=>h,Ap _,fun _ _=>rfl,hb.os,hb.tape,hb.output,hb.size,Lk (fun b hv=>hb.block b hv.1) hb.size (fun _ _ _=>.inl rfl) (fun _ hi=>.inl ⟨hi,rfl⟩)⟩

theorem Pb {G:Gh} {H:List AObj} {w w':World} (hH:HeapRel G H w) (hT:TagOK G w) (hb:Below w.heap.size w w'):HeapRel G H w'∧TagOK G w':=by
 have T:=Lv hT hb
 refine ⟨⟨fun i x hx=>?_,hH.n,hH.inj⟩,⟨fun b o h=>?_,fun b o i h=>?_,fun b o L h=>?_,hT.globKeep T.old⟩⟩
 ·have hi:i<G.n:=by rw [hH.n];exact (Ad.1 hx).1
  exact T.objRel hi (hb.block _ (Mu hH i hi)) (hH.obj i x hx) (fun b h=>hb.block b h.lt)
 ·rw [(Gb hT hb h).1];exact hT.ex b o h
 ·rw [(Gb hT hb (by rw [h];simp)).2];exact hT.obj b o i h
 rw [(Gb hT hb (by rw [h];simp)).2];exact hT.tail b o L h

/-- A function of plain values that hands back a plain value. -/
theorem AFun.lib {xs:List Value} {r:AV} {v:Value} (hr:∀G w,Rep G w none r v) (h:∀w,Hu w→Calls P g xs.toArray w (fun e w'=>e=.returned v∧Below w.heap.size w w')):AFun P g (xs.map .v) Hp r:=by
 intro d G w vs hn hv hH hT hTop
 have hvs:=Uj hn (fun i y u a b=>⟨_,hv i y u a b⟩)
 subst hvs
 refine (callsIn_wide.2 (h w (fun x hx=>let ⟨_,u,a,b⟩:=hT.glob x hx;⟨u,a,b⟩))).mono ?_
 rintro e w' ⟨rfl,hb⟩
 obtain ⟨h1,h2⟩:=Pb hH hT hb
 exact ⟨v,G,r,Hp,rfl,(hr G w').lift,h1,h2,(Lv hT hb).keep _,rfl,rfl,rfl⟩


/-- A function of plain values that hands back a new slice of plain values. -/
theorem AFun.libSlice {xs ys:List Value} {t:TypeId} (hone:∀y∈ys,y.oneCell'=true) (h:∀w,Hu w→Calls P g xs.toArray w (fun e w'=>e=.returned (.slice (some ⟨w.heap.size,0,none⟩) ys.length ys.length)∧w'=w.alloc (.cells ys.toArray t))):
  AFun P g (xs.map .v) Hp (.slice false 1 (ys.map .v)):=by
 intro d G w vs hn hv hH hT hTop
 have hvs:=Uj hn (fun i y u a b=>⟨_,hv i y u a b⟩)
 subst hvs
 refine (callsIn_wide.2 (h w (fun x hx=>let ⟨_,u,a,b⟩:=hT.glob x hx;⟨u,a,b⟩))).mono ?_
 rintro e w' ⟨rfl,rfl⟩
 have hst:StRel (d+1) G ⟨0,fun _=>.any,Hp,[],[],none⟩ { tmps:=#[],defers:=[] } w:=
  ⟨rfl,fun s=>.any _ _,by simpa using hH,(by rw [Ml hTop];rfl),(fun o ho=>by simp at ho),U5,(fun o ho=>by simp at ho),hT,(fun l hl=>by cases hl),V4 hH,aj hTop⟩
 obtain ⟨G',g1,T,g2⟩:=Rc hst t ys.toArray
 refine ⟨_,G',_,Hp,rfl,?_,by simpa using g1.heap,g1.tags,T.keep _,rfl,rfl,rfl⟩
 refine .slice _ false 1 _ _ _ _ (fun i j=>ys.toArray.getD i undef) rfl (by simp) (Ap _) (fun x hx=>?_) (fun x hx y hy=>?_) (fun i x j y hx hy=>?_) (fun i x j y hx hy=>?_) (fun h=>by cases h)
 ·obtain ⟨z,_,rfl⟩:=Du.1 hx
  rfl
 ·obtain ⟨z,hz,rfl⟩:=Du.1 hx
  have:y=.v z:=by simpa [AV.cells] using hy
  subst this
  exact hone z hz
 all_goals
  rw [C8,Dw] at hx
  obtain ⟨z,hz,rfl⟩:=hx
  have hlt:i<ys.length:=(Ad.1 hz).1
  have hj:j=0:=by
   match j,hy with
   | 0,_=>rfl
   | j+1,hy=>simp [AV.cells] at hy
  subst hj
 ·refine ⟨by simpa using g2 i (by simpa using hlt),?_⟩
  rw [World.cell?_alloc_new]
  simp [hlt]
 have:y=.v z:=by simpa [AV.cells] using hy.symm
 subst this
 have e:ys.toArray.getD i undef=z:=by
  have:=Aa hlt
  rw [this] at hz
  injection hz with hz
  simp [hlt,hz]
 rw [e]
 exact .v _ _
/-- A function that hands back a plain value and, behind an interface value, a new record of plain values. -/
theorem AFun.libErr {xs cs:List Value} {n:Value} {T te:TypeId} (hone:∀y∈cs,y.oneCell'=true) (h:∀w,Hu w→Calls P g xs.toArray w (fun e w'=>∃N,e=.returned (.tuple #[n,.iface T (.pointer (some ⟨N,0,none⟩))])∧w.heap.size≤N∧w'.heap[N]? = some (.cells cs.toArray te (0,0))∧Below w.heap.size w w')):
  AFun P g (xs.map .v) Hp (.tup [.v n,.iface T (.ro (cs.map .v))]):=by
 intro d G w vs hn hv hH hT hTop
 have hvs:=Uj hn (fun i y u a b=>⟨_,hv i y u a b⟩)
 subst hvs
 refine (callsIn_wide.2 (h w (fun x hx=>let ⟨_,u,a,b⟩:=hT.glob x hx;⟨u,a,b⟩))).mono ?_
 rintro e w' ⟨N,rfl,hN,hcell,hb⟩
 have hfree:∀o,G.tag N o=.free:=fun o=>Gm hT _ o hN
 let G':Gh:={ G with tag:=fun b o=>if b=N∧o<cs.length then .fix else G.tag b o }
 have hne:∀b o,G.tag b o≠.free→¬(b=N∧o<cs.length):=fun b o hb hc=>by rw [hc.1] at hb;exact hb (hfree o)
 have hnew:∀o,o<cs.length→w'.cell? ⟨N,o,none⟩=cs[o]? := fun o ho=>by simp [World.cell?,hcell,ho]
 have T1:Turn G w G' w':=by
  refine ⟨fun b o h=>⟨?_,(Gb hT hb (by rw [h];simp)).1⟩,fun b o L h=>?_,fun b o i h=>?_,Ap _,fun _ _=>rfl,hb.os,hb.tape,hb.output,hb.size,
   Lk (fun b hv=>hb.block b hv.1) hb.size (fun b o hlt=>.inl ?_) (fun _ hi=>.inl ⟨hi,rfl⟩)⟩
  ·simp only [G'];rw [if_neg (hne b o (by rw [h];simp))];exact h
  ·simp only [G'];rw [if_neg (hne b o (by rw [h];simp))];exact h
  ·simp only [G'];rw [if_neg (hne b o (by rw [h];simp))];exact h
  simp only [G'];rw [if_neg (by omega)]
 have hH':HeapRel G' Hp w':=⟨fun i x hx=>by
  have hi:i<G.n:=by rw [hH.n];exact (Ad.1 hx).1
  exact T1.objRel hi (hb.block _ (Mu hH i hi)) (hH.obj i x hx) (fun b h=>hb.block b h.lt),hH.n,hH.inj⟩
 have hT':TagOK G' w':=by
  refine ⟨fun b o h=>?_,fun b o i h=>?_,fun b o L h=>?_,hT.globKeep T1.old⟩
  ·simp only [G'] at h
   split at h
   ·rename_i hc;obtain ⟨rfl,ho⟩:=hc;exact ⟨_,(hnew o ho).trans (Aa ho)⟩
   rw [(Gb hT hb h).1];exact hT.ex b o h
  ·simp only [G'] at h
   split at h
   ·cases h
   rw [(Gb hT hb (by rw [h];simp)).2];exact hT.obj b o i h
  simp only [G'] at h
  split at h
  ·cases h
  rw [(Gb hT hb (by rw [h];simp)).2];exact hT.tail b o L h
 refine ⟨_,G',_,Hp,rfl,?_,hH',hT',T1.keep _,rfl,rfl,rfl⟩
 refine .tup _ _ _ rfl (fun i y u hy hu=>?_)
 match i with
 | 0=>simp at hy hu;subst hy;subst hu;exact .v _ _
 | 1 =>
  simp at hy hu;subst hy;subst hu
  refine .iface _ _ _ _ (.ro _ _ ⟨N,0,none⟩ (fun j=>cs.getD j undef) rfl (fun y hy=>?_) (fun j y hy=>?_) (fun j y hy=>?_))
  ·obtain ⟨z,hz,rfl⟩:=Du.1 hy
   exact hone z hz
  all_goals
   rw [C8,Dw] at hy
   obtain ⟨z,hz,rfl⟩:=hy
   have hlt:j<cs.length:=(Ad.1 hz).1
   have e:cs.getD j undef=z:=by rw [D6,hz];rfl
  ·refine ⟨by simp [G',hlt],?_⟩
   rw [Bm,hnew j hlt,hz,e]
  rw [e];exact .v _ _
 | i+2=>simp at hy
theorem TagOK.globIn {G:Gh} {w:World} (h:TagOK G w):Hu w:=fun x hx=>(h.glob x hx).2
/-- A package-level variable of which something is known. -/
theorem R.loadGlob {d:Nat} {ops:Array Oper} {rest:List Oper} {sz:Nat} {fr:Nat→AV} {up own:List AObj} {dfs:List Nat} {rnd:Option Nat} {Q:St→Prop} {s:Nat} {ty:TypeId} {pos:String} {aft:Array Edge} {t:TypeId} {gl:Nat} {v:Value}
  (hagg:∀w,(isAgg t).run P w=.ok false w) (hv:∀w,Hu w→w.cell? ⟨gl,0,none⟩=some v) (hr:ARun P d ops rest ⟨sz,A9 s (.v v) fr,up,own,dfs,rnd⟩ Q) (hs:Nat.blt s sz=true:=by rfl):
  ARun P d ops (⟨some s,.load t (.global gl),ty,pos,aft,none⟩::rest) ⟨sz,fr,up,own,dfs,rnd⟩ Q:=by
 refine ARun.v rfl rfl (by simpa using hs) (Ca (by intro c h;cases h) fun G a w h=>⟨v,?_,.v _ _⟩) hr
 have hc:=hv w h.tags.globIn
 have e:a.eval (.global gl)=.pointer (some ⟨gl,0,none⟩):=rfl
 simp [execOp,e,Instr.loadAt,Instr.sureAddr,loadVar,hagg,hc]
end
end Go.SX
namespace Go.SX
def K0:=@AFun.lib
end Go.SX
namespace Go.SX.Nb
open Go Go.SX Go.Proofs
set_option maxRecDepth 4000

/-- Where strconv.ErrRange and strconv.ErrSyntax point. -/
class ErrAt where
 b:Addr
 bs:Addr
 bd:Nat:=0
 bl:List Deferred:=[]
/-- The package-level variables of which something is known: bytealg.MaxLen is a number; strconv.ErrRange is an error of errors.New's make; the table of powers of ten. -/
def Vi [E:ErrAt]:List (Nat×(Obj→Prop)):=[(2,fun o=>∃m t f,o=.cells #[.int .i64 m] t f),(1,fun o=>∃t f,o=.cells #[.iface 229 (.pointer (some E.b))] t f),(0,fun o=>∃t f,o=.cells #[.iface 229 (.pointer (some E.bs))] t f),(3,fun o=>∃t f,o=.cells (Lib.pow10Tab.map fun z=>Value.int .u64 z).toArray t f)]
instance globInv [E:ErrAt]:GlobInv:={ blocks:=Vi,bd:=E.bd,bl:=E.bl }
variable [ErrAt]

abbrev Str:=List UInt8
structure Col where
 name:Str
 kind:Int
 deriving DecidableEq
structure Val where
 kind:Int
 n:Int
 s:Str
 deriving DecidableEq
structure Row where
 key:Int
 l:List Val
 deriving DecidableEq
abbrev Ac (s:Str):AV:=.v (sv s)
abbrev A5 (n:Int):AV:=.v (.int .i64 n)
abbrev Bd (n:Int):AV:=.v (.int .u64 n)
abbrev At (b:Bool):AV:=.v (.bool b)
abbrev N5 (c:Col):AV:=.agg [.v (sv c.name),.v (.int .i64 c.kind)]
abbrev Ce (c:List Col):AV:=.slice false 2 (c.map N5)
abbrev B8 (v:Val):AV:=.agg [.v (.int .i64 v.kind),.v (.int .i64 v.n),.v (sv v.s)]
abbrev Fh (l:List Val):AV:=.slice false 3 (l.map B8)
abbrev Fi (r:Row):AV:=.agg [.v (.int .i64 r.key),.slice false 3 (r.l.map B8)]
abbrev Hi (l:List Row):AV:=.slice false 2 (l.map Fi)
abbrev J4 (l:List Str):AV:=.slice false 1 (l.map Ac)
theorem B7 {α β:Type} {f:α→β} {l:List α} {i:Nat} (h:i<l.length):(l.map f)[i]? = some (f l[i]):=by simp [h]
theorem Aj:Tryz.prog.follows .mixedOrders=true:=by kernel_rfl
theorem Rn:Tryz.prog.eqGuardType Tryz.prog.depth 24=false:=by kernel_rfl
theorem Gn (k n k' n':Int) (s s':List UInt8) (w:World):(Op.equal 24 (.agg #[.int .i64 k,.int .i64 n,.string ⟨s.toArray⟩]) (.agg #[.int .i64 k',.int .i64 n',.string ⟨s'.toArray⟩])).run Tryz.prog w=.ok (k==k'&&n==n'&&s==s') w:=by
 have h1:Tryz.prog.stoodInHeld 24=false:=by kernel_rfl
 show (Op.equalIn (9999+1) _ _ _).run _ _=_
 rw [Op.equalIn]
 generalize hd:(9999:Nat)=d
 obtain ⟨d,rfl⟩:∃e,d=e+1:=⟨9998,hd.symm⟩
 clear hd
 simp [run_underlying Tryz.underlying24,h1,part,AE4 _ _ _ _ _ _ Tryz.underlying3,AE4 _ _ _ _ _ _ Tryz.underlying2,AH9 _ _ _ _ _ Tryz.underlying9,Tryz.isAgg3,Tryz.isAgg2,Tryz.isAgg9]
 by_cases e1:k=k'<;>by_cases e2:n=n'<;>by_cases e3:s=s'<;>simp [e1,e2,e3]
end Go.SX.Nb
namespace Go.Proofs
open Go Go.Shelf
theorem ly {p:Prop} (h:p:=by repeat' first|kernel_rfl|(intro w;kernel_rfl)|constructor):p:=h
def Tryz.ren144:Ren where
 f:=fun x=>match x with|144=>125|143=>163|219=>190|217=>198|225=>210|224=>211|267=>212|266=>220|314=>229|n=>n
 t:=fun x=>match x with|9=>9|4=>4|3=>3|5=>5|46=>42|146=>250|51=>217|n=>n
 g:=fun x=>match x with|1=>2|n=>n
theorem Tryz.lays144:Lays.n144 Tryz.prog Tryz.ren144:=ly
def Tryz.ren145:Ren where
 f:=fun x=>match x with|145=>136|220=>167|219=>190|217=>198|225=>210|224=>211|267=>212|266=>220|314=>229|n=>n
 t:=fun x=>match x with|9=>9|4=>4|59=>174|3=>3|5=>5|46=>42|146=>250|51=>217|n=>n
 g:=fun x=>match x with|1=>2|n=>n
theorem Tryz.lays145:Lays.n145 Tryz.prog Tryz.ren145:=ly
def Tryz.ren146:Ren where
 f:=fun x=>match x with|146=>94|221=>130|268=>164|138=>165|143=>163|195=>191|197=>188|218=>192|219=>190|260=>208|217=>198|225=>210|224=>211|267=>212|266=>220|314=>229|n=>n
 t:=fun x=>match x with|9=>9|31=>22|3=>3|4=>4|0=>0|105=>223|21=>21|5=>5|46=>42|119=>245|139=>248|138=>247|146=>250|51=>217|n=>n
 g:=fun x=>match x with|1=>2|3=>6|4=>7|n=>n
theorem Tryz.lays146:Lays.n146 Tryz.prog Tryz.ren146:=ly
def Tryz.ren161:Ren where
 f:=fun x=>match x with|161=>124|231=>159|227=>160|233=>161|235=>162|228=>187|197=>188|151=>189|260=>208|152=>209|137=>169|119=>228|224=>211|225=>210|217=>198|266=>220|n=>n
 t:=fun x=>match x with|9=>9|4=>4|3=>3|5=>5|117=>199|116=>198|0=>0|124=>202|105=>223|21=>21|119=>245|46=>42|139=>248|138=>247|n=>n
 g:=fun x=>match x with|3=>6|4=>7|n=>n
theorem Tryz.lays161:Lays.n161 Tryz.prog Tryz.ren161:=ly
def Tryz.ren99:Ren where
 f:=fun x=>match x with|99=>193|206=>213|n=>n
 t:=fun x=>match x with|9=>9|4=>4|3=>3|n=>n
 g:=fun x=>x
theorem Tryz.lays99:Lays.n99 Tryz.prog Tryz.ren99:=ly
def Tryz.ren100:Ren where
 f:=fun x=>match x with|100=>194|207=>214|n=>n
 t:=fun x=>match x with|9=>9|4=>4|3=>3|n=>n
 g:=fun x=>x
theorem Tryz.lays100:Lays.n100 Tryz.prog Tryz.ren100:=ly
def Tryz.ren101:Ren where
 f:=fun x=>match x with|101=>216|208=>230|206=>213|n=>n
 t:=fun x=>match x with|9=>9|4=>4|3=>3|n=>n
 g:=fun x=>x
theorem Tryz.lays101:Lays.n101 Tryz.prog Tryz.ren101:=ly
def Tryz.ren160:Ren where
 f:=fun x=>match x with|160=>217|232=>231|231=>159|227=>160|234=>232|233=>161|236=>233|235=>162|228=>187|271=>242|151=>189|197=>188|120=>252|152=>209|260=>208|137=>169|119=>228|224=>211|225=>210|217=>198|266=>220|n=>n
 t:=fun x=>match x with|9=>9|4=>4|3=>3|5=>5|117=>199|116=>198|0=>0|124=>202|21=>21|105=>223|46=>42|119=>245|139=>248|138=>247|n=>n
 g:=fun x=>match x with|3=>6|4=>7|n=>n
theorem Tryz.lays160:Lays.n160 Tryz.prog Tryz.ren160:=ly
def Tryz.ren155:Ren where
 f:=fun x=>match x with|155=>152|154=>177|138=>165|165=>76|143=>163|166=>77|197=>188|169=>78|195=>191|218=>192|240=>114|241=>115|219=>190|260=>208|276=>148|277=>149|217=>198|225=>210|224=>211|267=>212|266=>220|314=>229|n=>n
 t:=fun x=>match x with|9=>9|3=>3|4=>4|72=>121|0=>0|76=>116|105=>223|21=>21|5=>5|70=>118|20=>20|37=>119|75=>115|127=>158|164=>183|46=>42|119=>245|139=>248|138=>247|146=>250|51=>217|80=>123|n=>n
 g:=fun x=>match x with|1=>2|3=>6|4=>7|n=>n
theorem Tryz.lays155:Lays.n155 Tryz.prog Tryz.ren155:=ly
def Tryz.ren156:Ren where
 f:=fun x=>match x with|156=>43|165=>76|166=>77|169=>78|240=>114|241=>115|276=>148|277=>149|n=>n
 t:=fun x=>match x with|31=>22|9=>9|3=>3|4=>4|0=>0|20=>20|72=>121|76=>116|70=>118|37=>119|75=>115|127=>158|164=>183|5=>5|80=>123|n=>n
 g:=fun x=>x
theorem Tryz.lays156:Lays.n156 Tryz.prog Tryz.ren156:=ly
def Tryz.ren174:Ren where
 f:=fun x=>match x with|174=>218|247=>143|245=>113|287=>173|279=>144|280=>145|281=>146|282=>147|321=>202|322=>203|316=>174|171=>45|205=>175|243=>81|246=>119|283=>153|284=>154|285=>155|286=>156|129=>179|317=>178|318=>180|319=>181|320=>182|337=>204|338=>205|n=>n
 t:=fun x=>match x with|9=>9|3=>3|2=>2|75=>115|85=>178|4=>4|167=>177|5=>5|53=>97|175=>207|46=>42|168=>180|37=>119|0=>0|210=>211|21=>21|127=>158|145=>231|143=>229|171=>187|173=>190|212=>216|51=>217|20=>20|213=>218|232=>237|233=>238|80=>123|n=>n
 g:=fun x=>match x with|15=>0|16=>1|17=>3|18=>4|19=>5|n=>n
theorem Tryz.lays174:LaysC.n174 Tryz.prog Tryz.ren174:=ly
def Tryz.ren173:Ren where
 f:=fun x=>match x with|173=>176|246=>119|283=>153|284=>154|285=>155|286=>156|129=>179|317=>178|318=>180|319=>181|320=>182|337=>204|338=>205|n=>n
 t:=fun x=>match x with|2=>2|3=>3|9=>9|4=>4|171=>187|0=>0|53=>97|37=>119|5=>5|173=>190|212=>216|51=>217|20=>20|213=>218|46=>42|232=>237|233=>238|n=>n
 g:=fun x=>match x with|17=>3|18=>4|19=>5|n=>n
theorem Tryz.lays173:LaysM.n173 Tryz.prog Tryz.ren173:=ly
def Tryz.ren137:Ren where
 f:=fun x=>match x with|137=>169|217=>198|266=>220|n=>n
 t:=fun x=>match x with|9=>9|5=>5|3=>3|n=>n
 g:=fun x=>x
theorem Tryz.lays137:Lays.n137 Tryz.prog Tryz.ren137:=ly
def Tryz.ren170:Ren where
 f:=fun x=>match x with|170=>80|n=>n
 t:=fun x=>match x with|70=>118|3=>3|0=>0|72=>121|37=>119|5=>5|n=>n
 g:=fun x=>x
theorem Tryz.lays170:Lays.n170 Tryz.prog Tryz.ren170:=ly
def Tryz.ren172:Ren where
 f:=fun x=>match x with|172=>75|244=>112|245=>113|247=>143|279=>144|280=>145|281=>146|282=>147|287=>173|316=>174|171=>45|205=>175|321=>202|322=>203|243=>81|246=>119|283=>153|284=>154|285=>155|286=>156|129=>179|317=>178|318=>180|319=>181|320=>182|337=>204|338=>205|n=>n
 t:=fun x=>match x with|9=>9|3=>3|75=>115|76=>116|4=>4|5=>5|167=>177|37=>119|0=>0|85=>178|2=>2|168=>180|53=>97|175=>207|46=>42|210=>211|127=>158|145=>231|143=>229|21=>21|171=>187|173=>190|212=>216|51=>217|20=>20|213=>218|232=>237|233=>238|80=>123|n=>n
 g:=fun x=>match x with|15=>0|16=>1|17=>3|18=>4|19=>5|n=>n
theorem Tryz.lays172:LaysC.n172 Tryz.prog Tryz.ren172:=ly
def Tryz.ren264:Ren where
 f:=fun x=>match x with|264=>257|n=>n
 t:=fun x=>match x with|53=>97|46=>42|n=>n
 g:=fun x=>x
theorem Tryz.lays264:Lays.n264 Tryz.prog Tryz.ren264:=ly
def Tryz.ren106:Ren where
 f:=fun x=>match x with|106=>247|213=>256|265=>262|n=>n
 t:=fun x=>match x with|9=>9|3=>3|n=>n
 g:=fun x=>x
theorem Tryz.lays106:Lays.n106 Tryz.prog Tryz.ren106:=ly
theorem Tryz.lays166:Lays.n166 Tryz.prog Tryz.ren155:={ Tryz.lays155 with }
end Go.Proofs
namespace Go.SX.Nb
open Go Go.SX Go.Proofs Go.RowKit
variable [ErrAt]
set_option maxRecDepth 4000
theorem O2 {w:World} (h:Hu w):∃m,w.cell? ⟨2,0,none⟩=some (.int .i64 m):=by
 obtain ⟨_,a,m,t,f,rfl⟩:=h (2,fun o=>∃m t f,o=.cells #[.int .i64 m] t f) (by simp [GlobInv.blocks,Vi])
 exact ⟨m,by simp [World.cell?,a]⟩
theorem N6 {w:World} (h:Hu w):w.cell? ⟨1,0,none⟩=some (.iface 229 (.pointer (some ErrAt.b))):=by
 obtain ⟨_,a,t,f,rfl⟩:=h (1,fun o=>∃t f,o=.cells #[.iface 229 (.pointer (some ErrAt.b))] t f) (by simp [GlobInv.blocks,Vi])
 simp [World.cell?,a]
theorem bo {w:World} (h:Hu w):w.cell? ⟨0,0,none⟩=some (.iface 229 (.pointer (some ErrAt.bs))):=by
 obtain ⟨_,a,t,f,rfl⟩:=h (0,fun o=>∃t f,o=.cells #[.iface 229 (.pointer (some ErrAt.bs))] t f) (by simp [GlobInv.blocks,Vi])
 simp [World.cell?,a]
theorem el {w:World} (h:Hu w):Lib.TabIs Tryz.prog w "internal/strconv.uint64pow10" .u64 Lib.pow10Tab:=by
 obtain ⟨_,a,t,f,rfl⟩:=h (3,fun o=>∃t f,o=.cells (Lib.pow10Tab.map fun z=>Value.int .u64 z).toArray t f) (by simp [GlobInv.blocks,Vi])
 have hg:Tryz.prog.globalNamed "internal/strconv.uint64pow10" = some 3:=by kernel_rfl
 simp only at a
 simp [Lib.TabIs,World.var?,hg,a]
theorem en (w:World) (n:Nat):Below w.heap.size w (w.drewN n):=⟨rfl,rfl,rfl,Ap _,fun _ _=>rfl⟩
theorem qd (s t:Str) (hs:s.length<4294967281) (Hp:List AObj):AFun Tryz.prog 125 [Ac s,Ac t] Hp (At (Lib.contains s t)):=by
 refine K0 (xs:=[sv s,sv t]) (v:=.bool (Lib.contains s t)) (fun G w=>.v _ _) (fun w hg=>?_)
 obtain ⟨m,hm⟩:=O2 hg
 refine (Any.strings_Contains Tryz.lays144 ⟨s.toArray⟩ ⟨t.toArray⟩ m w (by simpa [ByteArray.size] using hs) hm).mono ?_
 rintro e w' ⟨rfl,rfl⟩
 exact eh
theorem AJw (s t:Str) (hs:s.length<4294967281) (Hp:List AObj):AFun Tryz.prog 136 [Ac s,Ac t] Hp (.tup [Ac (Lib.cut s t).1,Ac (Lib.cut s t).2.1,At (Lib.cut s t).2.2]):=by
 refine K0 (xs:=[sv s,sv t]) (v:=.tuple #[sv (Lib.cut s t).1,sv (Lib.cut s t).2.1,.bool (Lib.cut s t).2.2]) (fun G w=>Ln rfl (fun i y u hy hu=>?_)) (fun w hg=>?_)
 ·match i with
  | 0=>simp at hy hu;subst hy;subst hu;exact .v _ _
  | 1=>simp at hy hu;subst hy;subst hu;exact .v _ _
  | 2=>simp at hy hu;subst hy;subst hu;exact .v _ _
  | i+3=>simp at hy
 obtain ⟨m,hm⟩:=O2 hg
 refine (Any.strings_Cut Tryz.lays145 ⟨s.toArray⟩ ⟨t.toArray⟩ m w (by simpa [ByteArray.size] using hs) hm).mono ?_
 rintro e w' ⟨rfl,n,rfl⟩
 exact ⟨rfl,en _ _⟩
theorem ALd (s t:Str) (ht:t.length<4294967281) (ha:∀c∈t,c.toNat<128) (Hp:List AObj):AFun Tryz.prog 124 [Ac s,Ac t] Hp (Ac (Lib.trimLeftS s t)):=by
 refine K0 (xs:=[sv s,sv t]) (v:=sv (Lib.trimLeftS s t)) (fun G w=>.v _ _) (fun w hg=>?_)
 refine (Any.strings_TrimLeft_laid Tryz.lays161 (by kernel_rfl) ⟨s.toArray⟩ ⟨t.toArray⟩ w (by simpa [ByteArray.size] using ht) (fun j b hj=>ha b (Be hj))).mono ?_
 rintro e w' ⟨rfl,hb⟩
 exact ⟨rfl,hb⟩
/-- The pieces of a split. -/
def Pc (s t:Str):List Str:=(Lib.splitB ⟨t.toArray⟩ 0 (Lib.countB ⟨s.toArray⟩ ⟨t.toArray⟩) ⟨s.toArray⟩).map (·.data.toList)
theorem c94 (s t:Str) (hs:s.length<4294967281) (ht:1≤t.length) (Hp:List AObj):AFun Tryz.prog 94 [Ac s,Ac t] Hp (J4 (Pc s t)):=by
 have:=AFun.libSlice (P:=Tryz.prog) (g:=94) (Hp:=Hp) (xs:=[sv s,sv t]) (ys:=(Pc s t).map sv) (t:=9) (by intro y hy;obtain ⟨z,_,rfl⟩:=Du.1 hy;rfl) (fun w hg=>by
  obtain ⟨m,hm⟩:=O2 hg
  refine (Any.strings_Split Tryz.lays146 (by kernel_rfl) ⟨s.toArray⟩ ⟨t.toArray⟩ m w (by simpa [ByteArray.size] using hs) hm (by simpa [ByteArray.size] using ht)).mono ?_
  rintro e w' ⟨rfl,rfl⟩
  have hl:((Pc s t).map sv).length=Lib.countB ⟨s.toArray⟩ ⟨t.toArray⟩+1:=by
   rw [B6]
   unfold Pc
   rw [B6]
   exact Lib.splitB_all _ (by simpa [ByteArray.size] using ht) _ _ _ rfl
  refine ⟨by rw [hl],?_⟩
  unfold Pc
  rw [Gj]
  rfl)
 rw [Gj] at this
 exact this
end Go.SX.Nb
namespace Go.Proofs
open Go Go.RowKit Go.Extern.Stop Go.Stop Go.Extern
theorem Tryz.isTypeOf (v:Value) (w:World):(Extern.ReflectliteType.typeOf #[.iface 229 v]).run Tryz.prog w=.ok (.iface 263 (.agg #[.pointer (some ⟨8,229,none⟩)])) w:=by kernel_rfl
def Tryz.cmpOf:Array Value→Sem Value:=Extern.ReflectliteType.method fun t=>do Extern.Rtype.noPackHeld "Comparable" t;pure (.bool (←typeInfo t).comparable)
theorem Tryz.isComparable (w:World):(Tryz.cmpOf #[.agg #[.pointer (some ⟨8,229,none⟩)]]).run Tryz.prog w=.ok (.bool true) w:=by kernel_rfl
theorem Tryz.isMethodComparable (v:Value) (w:World):(Go.method 411 263 v "Comparable").run Tryz.prog w=.ok (287,v) w:=by kernel_rfl
theorem Tryz.isComp:(Tryz.prog.info? 229).map (·.comparable)=some true:=by kernel_rfl
theorem Tryz.isSize:(Tryz.prog.info? 231).map (·.size)=some 1:=by kernel_rfl
theorem Tryz.noIsW (v:Value) (xT:TypeId) (w:World):(Instr.typeAssert (.iface 180 v) xT 265 true).run Tryz.prog w=.ok (.tuple #[.nilIface,.bool false]) w:=run_typeAssert_lacksB Tryz.underlying265 (by kernel_rfl) (by kernel_rfl) v xT w
theorem Tryz.hasUnwrapW (v:Value) (xT:TypeId) (w:World):(Instr.typeAssert (.iface 180 v) xT 268 true).run Tryz.prog w=.ok (.tuple #[.iface 180 v,.bool true]) w:=run_typeAssert_hasB Tryz.underlying268 (by kernel_rfl) v xT w
theorem Tryz.methodUnwrap (v:Value) (w:World):(Go.method 411 180 v "Unwrap").run Tryz.prog w=.ok (282,v) w:=by kernel_rfl
namespace Tryz
theorem is_nil (b:Addr) (w:World):
  Calls Tryz.prog 219 #[.nilIface,.iface 229 (.pointer (some b))] w fun e w'=>e=.returned (.bool false)∧w'=w:=by
 have hn:=run_eql_iface_nil_left (P:=Tryz.prog) w 229 (.pointer (some b)) Tryz.underlying115
 go_enter Tryz.func219,Tryz.ntmps219
 go_wp2
 go_ret
 exact ⟨rfl,rfl⟩
set_option maxRecDepth 100000 in
theorem is_range (pb po:Nat) (b:Addr) (w:World) (h1:w.cell? ⟨pb,po+2,none⟩=some (.iface 229 (.pointer (some b)))):
  Calls Tryz.prog 219 #[.iface 180 (.pointer (some ⟨pb,po,none⟩)),.iface 229 (.pointer (some b))] w fun e w'=>e=.returned (.bool true)∧w'=w:=by
 obtain ⟨i,hi,hcmp⟩:=Option.map_eq_some_iff.1 Tryz.isComp
 obtain ⟨j,hj,hjs⟩:=Option.map_eq_some_iff.1 Tryz.isSize
 have h8:=@run_callFunc_extern Tryz.prog 234 _ Extern.ReflectliteType.typeOf Tryz.func234 (by kernel_rfl) (by kernel_rfl) (by kernel_rfl) (by kernel_rfl)
 have h32:=@run_callFunc_extern Tryz.prog 287 _ Tryz.cmpOf Tryz.func287 (by kernel_rfl) (by kernel_rfl) (by kernel_rfl) (by kernel_rfl)
 have tT:=Tryz.isTypeOf
 have cT:=Tryz.isComparable
 have mR:=Tryz.isMethodComparable
 have nW:=Tryz.noIsW
 have uW:=Tryz.hasUnwrapW
 have mU:=Tryz.methodUnwrap
 have heq:=run_eql_iface_ptr_same (P:=Tryz.prog) w b Tryz.underlying115 Tryz.underlying229 hi hcmp hj
 have hty:=run_eql_iface_types (P:=Tryz.prog) 180 229 (.pointer (some ⟨pb,po,none⟩)) (.pointer (some b)) Tryz.underlying115 (by decide) w
 go_enter Tryz.func219,Tryz.ntmps219
 go_wp2
 refine wp_loop_rounds 2 ?_
 rw [rounds_succ]
 go_wp2
 rw [rounds_succ]
 go_wp2
 go_ret
 exact ⟨rfl,rfl⟩
end Tryz
end Go.Proofs
namespace Go.SX.Nb
open Go Go.SX Go.Proofs Go.RowKit Go.Sort
variable [ErrAt]
set_option maxRecDepth 4000
theorem ALe (s t:Str) (Hp:List AObj):AFun Tryz.prog 193 [Ac s,Ac t] Hp (At (Lib.hasPrefix s t)):=by
 refine K0 (xs:=[sv s,sv t]) (v:=.bool (Lib.hasPrefix s t)) (fun G w=>.v _ _) (fun w hg=>?_)
 refine (Any.strings_HasPrefix Tryz.lays99 ⟨s.toArray⟩ ⟨t.toArray⟩ w).mono ?_
 rintro e w' ⟨rfl,rfl⟩
 exact eh
theorem ALf (s t:Str) (hs:s.length≤9223372036854775807) (Hp:List AObj):AFun Tryz.prog 194 [Ac s,Ac t] Hp (At (Lib.hasSuffix s t)):=by
 refine K0 (xs:=[sv s,sv t]) (v:=.bool (Lib.hasSuffix s t)) (fun G w=>.v _ _) (fun w hg=>?_)
 refine (Any.strings_HasSuffix Tryz.lays100 ⟨s.toArray⟩ ⟨t.toArray⟩ w (by simpa [ByteArray.size] using hs)).mono ?_
 rintro e w' ⟨rfl,rfl⟩
 exact eh
theorem ALg (s:Str) (c:UInt8) (Hp:List AObj):AFun Tryz.prog 169 [Ac s,.v (.int .u8 (c.toNat:Int))] Hp (A5 (Lib.indexByte s c)):=by
 refine K0 (xs:=[sv s,.int .u8 (c.toNat:Int)]) (v:=.int .i64 (Lib.indexByte s c)) (fun G w=>.v _ _) (fun w hg=>?_)
 refine (Any.strings_IndexByte Tryz.lays137 ⟨s.toArray⟩ (c.toNat:Int) w).mono ?_
 rintro e w' ⟨rfl,rfl⟩
 exact ⟨by simp,Below.refl _ _⟩
theorem ALh:Builder.Extra Tryz.prog Tryz.ren155:={ sizeBuilder:=by kernel_rfl,liesBuilder:=by kernel_rfl,t5:=Tryz.underlying5,a5:=Tryz.isAgg5,z5:=Tryz.sizeOf5,v5:=Tryz.zeroValue5,infoByte:=by kernel_rfl,cellsByte:=by kernel_rfl,sizeByte:=by kernel_rfl,neB5:=by decide }
theorem AJx (s o n:Str) (hs:s.length<4294967281) (ho:1≤o.length) (hl:s.length+Lib.countB ⟨s.toArray⟩ ⟨o.toArray⟩*n.length≤140737488355328) (Hp:List AObj):AFun Tryz.prog 152 [Ac s,Ac o,Ac n] Hp (Ac (Lib.replaceAll s o n)):=by
 refine K0 (xs:=[sv s,sv o,sv n]) (v:=sv (Lib.replaceAll s o n)) (fun G w=>.v _ _) (fun w hg=>?_)
 obtain ⟨m,hm⟩:=O2 hg
 refine (Any.strings_ReplaceAll Tryz.lays155 ALh ⟨s.toArray⟩ ⟨o.toArray⟩ ⟨n.toArray⟩ m w (by simpa [ByteArray.size] using hs) hm (by simpa [ByteArray.size] using ho) (by simpa [ByteArray.size] using hl)).mono ?_
 rintro e w' ⟨rfl,hb⟩
 exact ⟨rfl,hb⟩
theorem Vj (w:World) (k:Nat) (os:Array Obj):Below w.heap.size w (grow (w.drewN k) os):=by
 refine ⟨rfl,rfl,rfl,by simp [grow],fun b hb=>?_⟩
 show ((w.drewN k).heap++os)[b]? = w.heap[b]?
 rw [Mg (by exact hb)]
 rfl
theorem ALi (n:Int) (h0 : -9223372036854775808≤n) (h1:n≤9223372036854775807) (Hp:List AObj):AFun Tryz.prog 176 [.v (.int .i64 n),A5 10] Hp (Ac (Lib.itoa n)):=by
 refine K0 (xs:=[.int .i64 n,.int .i64 10]) (v:=sv (Lib.itoa n)) (fun G w=>.v _ _) (fun w hg=>?_)
 refine (Any.strconv_FormatInt_10 Tryz.lays173 n h0 h1 w (el hg)).mono ?_
 rintro e w' ⟨rfl,k,os,rfl⟩
 exact ⟨rfl,Vj _ _ _⟩
end Go.SX.Nb
namespace Go.SX.Nb
open Go Go.SX Go.Proofs Go.RowKit
variable [ErrAt]
set_option maxRecDepth 4000
def digs:Str:=[48,49,50,51,52,53,54,55,56,57]
def L3 (s:Str):Str:=Lib.trimPrefix s [45]
def Gc (s:Str):Bool:=(L3 s==[]) || !(Lib.trimS (L3 s) digs==[]) || (((L3 s).headD 0==48)&&decide (1<s.length))
def Bj (s:Str):Int×Int:=if Gc s then (0,6) else match Lib.parseIntB 64 s with|.ok v=>(v,0)|.range=>(0,4)|_=>(0,0)
def AB5 {α:Type}:Lib.NumEnd α→Bool|.ok _=>false|.range=>false|_=>true
theorem wi {p:UInt8→Bool}:∀{l:Str},l.dropWhile p=[]↔∀b∈l,p b=true
 | []=>by simp
 | b::r=>by
  rw [R6]
  by_cases h:p b=true
  ·rw [if_pos h,wi]
   simp [h]
  rw [if_neg h]
  simp [h]
theorem wj {p:UInt8→Bool}:∀{l:Str} {b:UInt8},b∈l→p b=false→b∈l.dropWhile p
 | x::r,b,h,hb=>by
  rw [R6]
  by_cases hx:p x=true
  ·rw [if_pos hx]
   rcases By.1 h with rfl|h
   ·rw [hb] at hx;cases hx
   exact wj h hb
  rw [if_neg hx];exact h
theorem trimS_nil {l cs:Str}:Lib.trimS l cs=[]↔∀b∈l,cs.contains b=true:=by
 unfold Lib.trimS Lib.trimLeftS Lib.trimRightS
 rw [wi]
 constructor
 ·intro h b hb
  cases hc:cs.contains b with
  | true=>rfl
  | false =>
   have:=h b (U4.2 (wj (p:=(cs.contains ·)) (U4.2 hb) hc))
   rw [hc] at this;exact this
 intro h b hb
 exact h b (U4.1 ((j5 (cs.contains ·)).subset (U4.1 hb)))
theorem Kt (c:UInt8):digs.contains c=(decide (48≤c.toNat)&&decide (c.toNat≤57)):=by
 have h:((List.range 256).all fun n=>digs.contains (UInt8.ofNat n)==(decide (48≤(UInt8.ofNat n).toNat)&&decide ((UInt8.ofNat n).toNat≤57)))=true:=by kernel_rfl
 have:=B1.1 h c.toNat (Nq.2 c.toNat_lt)
 simpa using this
theorem Y8 (M:Nat):∀(l:Str) (acc:Nat),(∀b∈l,digs.contains b=true)→AB5 (Lib.parseUintM M acc l)=false
 | [],acc,_=>by rw [Lib.parseUintM];rfl
 | c::r,acc,h=>by
  have hc:=h c (by simp)
  rw [Kt] at hc
  simp only [Al,decide_eq_true_eq] at hc
  rw [Lib.parseUintM,if_pos hc]
  split
  ·rfl
  split
  ·rfl
  exact Y8 M r _ (fun b hb=>h b (by simp [hb]))
theorem Iq (s:Str):(s.head? ≠ some 45∧L3 s=s)∨∃r,s=45::r∧L3 s=r:=by
 unfold L3 Lib.trimPrefix Lib.hasPrefix
 cases s with
 | nil=>exact .inl ⟨by simp,rfl⟩
 | cons c r =>
  by_cases hc:c=45
  ·subst hc;exact .inr ⟨r,rfl,by simp [List.isPrefixOf]⟩
  refine .inl ⟨by simpa using hc,?_⟩
  rw [if_neg]
  simp [List.isPrefixOf,Ne.symm hc]
theorem N7 {s:Str} (h:Gc s=false):AB5 (Lib.parseIntB 64 s)=false:=by
 unfold Gc at h
 simp only [Cv,Jt,beq_iff_eq,beq_eq_false_iff_ne] at h
 obtain ⟨⟨h1,h2⟩,_⟩:=h
 rw [trimS_nil] at h2
 have key:∀l:Str,l≠[]→(∀b∈l,digs.contains b=true)→AB5 (Lib.parseUintB 64 l)=false:=fun l hl ha=>by
  unfold Lib.parseUintB
  rw [if_neg hl]
  exact Y8 _ l 0 ha
 rcases Iq s with ⟨h3,h4⟩|⟨r,rfl,h4⟩
 ·rw [h4] at h1 h2
  cases s with
  | nil=>exact absurd rfl h1
  | cons c r =>
   have hcd:=h2 c (by simp)
   rw [Kt] at hcd
   simp only [Al,decide_eq_true_eq] at hcd
   have e1:¬(c.toNat=43∨c.toNat=45):=by omega
   have:=key (c::r) (by simp) h2
   simp only [Lib.parseIntB,if_neg e1]
   revert this
   cases Lib.parseUintB 64 (c::r) with
   | range=>intro _;rfl
   | ok u=>intro _;simp only;split<;>(try split)<;>rfl
   | _=>intro h;cases h
 rw [h4] at h1 h2
 have:=key r h1 h2
 have e1:((45:UInt8).toNat=43∨(45:UInt8).toNat=45):=.inr rfl
 simp only [Lib.parseIntB,if_pos e1]
 revert this
 cases Lib.parseUintB 64 r with
 | range=>intro _;rfl
 | ok u=>intro _;simp only;split<;>(try split)<;>rfl
 | _=>intro h;cases h
end Go.SX.Nb
namespace Go.SX.Nb
open Go Go.SX Go.Proofs
variable [ErrAt]
set_option maxRecDepth 4000
def H8 (c:UInt8):Bool:=decide ((97:Int)≤c.toNat)&&decide ((c.toNat:Int)≤122)
def Ro (c:UInt8):Bool:=decide ((48:Int)≤c.toNat)&&decide ((c.toNat:Int)≤57)
theorem c98 (c:UInt8) (Hp:List AObj):AFun Tryz.prog 98 [.v (.int .u8 (c.toNat:Int))] Hp (.v (.bool (H8 c))):=by
 refine Ah [.tmp 2] [0] Tryz.func98 Tryz.ntmps98 (fun d=>?_)
 refine Z58 ?_;refine Z13 ?_;refine Z6 ?_;exact jo

theorem ALj (c:UInt8) (Hp:List AObj):AFun Tryz.prog 100 [.v (.int .u8 (c.toNat:Int))] Hp (.v (.bool (Ro c))):=by
 refine Ah [.tmp 2] [0] Tryz.func100 Tryz.ntmps100 (fun d=>?_)
 refine Z58 ?_;refine Z13 ?_;refine Z6 ?_;exact jo

def words:List Str:=[[97,100,100],[100,114,111,112],[114,101,110,97,109,101],[115,112,108,105,116],[109,101,114,103,101],[114,101,116,121,112,101],[105,110,116,111],[116,111],[98,97,99,107],[97,110,100],[111,114],[110,111,116],[116,114,117,101],[102,97,108,115,101],[110,117,108,108],[105,110,116],[116,101,120,116],[98,111,111,108],[115,101,108,101,99,116],[119,104,101,114,101],[102,114,111,109],[108,105,109,105,116]]
def Ia (s:Str):Bool:=words.any (·==s)
theorem Y9:words.length=22:=rfl
theorem wl {α:Type} {p:α→Bool} {l:List α} {i:Nat} (h:i<l.length) (hp:p l[i]=true):l.any p=true:=by
 rw [Gw];exact ⟨l[i],Br h,hp⟩
theorem eo {α:Type} {p:α→Bool} {l:List α} (h:∀(j:Nat) (y:α),l[j]? = some y→p y=false):l.any p=false:=by
 rw [Li]
 intro x hx
 obtain ⟨j,hj⟩:=Cg hx
 simp [h j x hj]
theorem Dn {α:Type} {l:List α} {x:Nat} {p:α→Prop} (hlt:x<l.length) (h:∀(j:Nat) (y:α),j<x→l[j]? = some y→p y) (hx:p l[x]):∀(j:Nat) (y:α),j<x+1→l[j]? = some y→p y:=by
 intro j y hj hy
 rcases Bf j x with h'|h'
 ·exact h j y h' hy
 have:j=x:=by omega
 subst this
 rw [Aa hlt] at hy
 injection hy with hy
 subst hy
 exact hx
theorem K1 {α:Type} {l:List α} {x:Nat} {p:α→Prop} (hge:l.length≤x) (h:∀(j:Nat) (y:α),j<x→l[j]? = some y→p y):∀(j:Nat) (y:α),l[j]? = some y→p y:=
 fun j y hy=>h j y (by have:=(Ad.1 hy).1;omega) hy
theorem c99 (s:Str) (Hp:List AObj):AFun Tryz.prog 99 [Ac s] Hp (At (Ia s)):=by
 refine Ah [.tmp 2] [0] Tryz.func99 Tryz.ntmps99 (fun d=>?_)
 refine Z58 ?_;refine Z45 ?_;refine Iy ?_;refine Kr ?_;refine Z23 ?_;refine bm ?_
 refine Bh (α:=Nat) (fun x=>⟨18,A9 0 (Ac s) (A9 3 (.slice true 1 (words.map Ac)) (A9 4 (A5 (x:Nat)) (fun _=>.any))),Hp,[],[],none⟩) (fun x=>x≤words.length∧∀(j:Nat) (y:Str),j<x→words[j]? = some y→(y==s)=false) (fun x=>words.length-x) (0) (by simp) (Fq _) rfl (fun x hx=>?_)
 refine Z48 ?_;refine A2 [0,3,4,9] ?_
 refine A3 (fun ht9=>?_) (fun ht9=>?_)
 ·have hlt:x<words.length:=by simpa using ht9
  have hwl:=Y9
  refine Xo ?_
  refine A4 (h:=Ag (x) (Ac words[x]) (fun _=>B7 hlt)) (hr:=?_)
  refine Z11 ?_;refine A2 [0,3,4,17] ?_
  refine A3 (fun ht17=>?_) (fun ht17=>?_)
  ·refine dy ?_;exact A8 (Ai A6) ⟨by rw [show Ia s=true from wl hlt ht17],rfl⟩
  refine Z96 ?_;refine bm ?_;exact B5 (x+1) ⟨hlt,Dn hlt hx.2 ht17⟩ (by have:=Y9;omega) (Bx rfl)
 refine ec ?_;exact A8 (Ai A6) ⟨by rw [show Ia s=false from eo (K1 (by simp at ht9;omega) hx.2)],rfl⟩

def L4 (c:UInt8):Bool:=H8 c || Ro c || c==95
def K2 (s:Str):Bool:=match s with
 | []=>false
 | c::_=>decide (s.length≤16)&&H8 c && !Ia s&&s.all L4
theorem wm {α:Type} {p:α→Bool} {l:List α} {i:Nat} (h:i<l.length) (hp:p l[i]=false):l.all p=false:=by
 rw [List.all_eq_false];exact ⟨l[i],Br h,by simp [hp]⟩
theorem AFi {α:Type} {p:α→Bool} {l:List α} (h:∀(j:Nat) (y:α),l[j]? = some y→p y=true):l.all p=true:=by
 rw [B1]
 intro x hx
 obtain ⟨j,hj⟩:=Cg hx
 exact h j x hj
theorem nn {s:Str} {b:Bool} (h:((((s.length:Int)==0) || b)==false)=true):s≠[]:=by rintro rfl;simp at h
theorem Jn {s:Str} (h:s≠[]):s[0]? = some (s.headD 0):=by cases s with
 | nil=>exact absurd rfl h
 | cons c r=>rfl
theorem Vk (s:Str):K2 s=(!((s.length:Int)==0 || decide ((16:Int)<s.length) || !H8 (s.headD 0) || Ia s)&&s.all L4):=by
 cases s with
 | nil=>rfl
 | cons c r =>
  have h1:(((c::r).length:Int)==0)=false:=by simp;omega
  have h2:decide ((c::r).length≤16) = !decide ((16:Int)<(c::r).length):=by
   by_cases h:(c::r).length≤16
   ·have:¬((16:Int)<(c::r).length):=by omega
    simp only [h,this,decide_true,decide_false,Cj]
   have:((16:Int)<(c::r).length):=by omega
   simp only [h,this,decide_true,decide_false,Bn]
  simp only [K2,h1,h2,List.headD_cons,Bool.not_or,Bool.not_not,Dd]
theorem AB6 {c:UInt8} (h:((!H8 c && !Ro c)&&((c.toNat:Int) != 95))=false):L4 c=true:=by
 unfold L4
 have e:((c.toNat:Int) != 95) = !(c==95):=by
  by_cases hc:c=95
  ·subst hc;rfl
  have:c.toNat≠95:=fun h=>hc (Je.1 h)
  have:(c.toNat:Int)≠95:=by omega
  rw [bne_iff_ne.2 this,beq_eq_false_iff_ne.2 hc];rfl
 rw [e] at h
 revert h
 cases H8 c<;>cases Ro c<;>cases (c==95)<;>simp
theorem AB7 {c:UInt8} (h:((!H8 c && !Ro c)&&((c.toNat:Int) != 95))=true):L4 c=false:=by
 unfold L4
 have e:((c.toNat:Int) != 95) = !(c==95):=by
  by_cases hc:c=95
  ·subst hc;rfl
  have:c.toNat≠95:=fun h=>hc (Je.1 h)
  have:(c.toNat:Int)≠95:=by omega
  rw [bne_iff_ne.2 this,beq_eq_false_iff_ne.2 hc];rfl
 rw [e] at h
 revert h
 cases H8 c<;>cases Ro c<;>cases (c==95)<;>simp
theorem c68 (s:Str) (hs:s.length≤1048576) (Hp:List AObj):AFun Tryz.prog 68 [Ac s] Hp (At (K2 s)):=by
 refine Ah [.tmp 2] [0] Tryz.func68 Tryz.ntmps68 (fun d=>?_)
 refine Z58 ?_;refine Z48 ?_;refine Z78 ?_;refine B3 ?_
 refine B3 (h:=El 0 (s.headD 0) (fun hB=>Jn (nn hB))) (hr:=?_)
 refine Bw Tryz.call98 (fun hB=>c98 (s.headD 0) _) ?_;refine B3 ?_;refine N4 ?_;refine Bw Tryz.call99 (fun hB=>c99 s _) ?_;refine A4 ?_;refine A2 [0,21] ?_
 refine A3 (fun ht21=>?_) (fun ht21=>?_)
 ·refine dw ?_;exact A8 (Ai A6) ⟨by rw [Vk,ht21];rfl,rfl⟩
 refine Kq ?_;refine Kr ?_
 refine Bh (α:=Nat) (fun x=>⟨46,A9 0 (Ac s) (A9 3 (A5 (x:Nat)) (fun _=>.any)),Hp,[],[],none⟩) (fun x=>x≤s.length∧∀(j:Nat) (y:UInt8),j<x→s[j]? = some y→L4 y=true) (fun x=>s.length-x) (0) (by simp) (Fq _) rfl (fun x hx=>?_)
 refine Z48 ?_;refine A2 [0,3,25] ?_
 refine A3 (fun ht25=>?_) (fun ht25=>?_)
 ·have hlt:x<s.length:=by simpa using ht25
  refine Xo ?_
  refine A4 (h:=El x s[x] (fun _=>Aa hlt)) (hr:=?_)
  refine A7 Tryz.call98 (c98 s[x] _) ?_;refine Z46 ?_
  refine B3 (h:=El x s[x] (fun _=>Aa hlt)) (hr:=?_)
  refine Bw Tryz.call100 (fun hB=>ALj s[x] _) ?_;refine B3 ?_;refine Z46 ?_
  refine B3 (h:=El x s[x] (fun _=>Aa hlt)) (hr:=?_)
  refine Z95 ?_;refine A2 [0,3,45] ?_
  refine A3 (fun ht45=>?_) (fun ht45=>?_)
  ·refine dy ?_;exact A8 (Ai A6) ⟨by rw [Vk,ht21,wm hlt (AB7 ht45)];rfl,rfl⟩
  refine Z96 ?_;refine Kr ?_;exact B5 (x+1) ⟨hlt,Dn hlt hx.2 (AB6 ht45)⟩ (by omega) (Bx rfl)
 refine ec ?_;exact A8 (Ai A6) ⟨by rw [Vk,ht21,AFi (K1 (by simp at ht25;omega) hx.2)];rfl,rfl⟩

def Co (nm:Str) (c:List Col):Int:=match c.findIdx? (fun y=>y.name==nm) with|some i=>i|none => -1
theorem ep {nm:List UInt8} {c:List Col} {x:Nat} (h:x<c.length) (h1:c[x].name=nm) (h2:∀(j:Nat) (y:Col),j<x→c[j]? = some y→¬(y.name=nm)):Co nm c=x:=by
 have:c.findIdx? (fun y=>y.name==nm)=some x:=by
  rw [R9]
  exact ⟨h,by simpa using h1,fun j hj=>by simpa using h2 j c[j] hj (Aa _)⟩
 simp [Co,this]
theorem ka {nm:List UInt8} {c:List Col} (h:∀(j:Nat) (y:Col),c[j]? = some y→¬(y.name=nm)):Co nm c = -1:=by
 have:c.findIdx? (fun y=>y.name==nm)=none:=by
  rw [Zv]
  intro y hy
  obtain ⟨j,hj⟩:=Cg hy
  simpa using h j y hj
 simp [Co,this]
structure OkCols (c:List Col):Prop where
 len:c.length≤1048576
 names:∀y∈c,y.name.length≤1048576
theorem c24 (c:List Col) (hc:OkCols c) (nm:Str) (Hp:List AObj):AFun Tryz.prog 24 [Ce c,Ac nm] Hp (A5 (Co nm c)):=by
 refine Ah [.tmp 4] [0,1] Tryz.func24 Tryz.ntmps24 (fun d=>?_)
 refine Z64 ?_;refine Z23 ?_;refine Vg ?_
 refine Bh (α:=Nat) (fun x=>⟨20,A9 0 (Ce c) (A9 1 (Ac nm) (A9 5 (A5 (x:Nat)) (fun _=>.any))),Hp,[],[],none⟩) (fun x=>x≤c.length∧∀(j:Nat) (y:Col),j<x→c[j]? = some y→¬(y.name=nm)) (fun x=>c.length-x) (0) (by simp) (Fq _) rfl (fun x hx=>?_)
 refine Z48 ?_;refine A2 [0,1,5,9] ?_
 refine A3 (fun ht9=>?_) (fun ht9=>?_)
 ·have hlt:x<c.length:=by simpa using ht9
  have hcl:=hc.len
  refine Xo ?_
  refine A4 (h:=Ag (x) (N5 c[x]) (fun _=>B7 hlt)) (hr:=?_)
  refine Z61 ?_;refine A2 [0,1,5,18] ?_
  refine A3 (fun ht18=>?_) (fun ht18=>?_)
  ·refine Z1 ?_;refine py ?_;exact A8 (Ai A6) ⟨by rw [ep hlt (by simpa using ht18) hx.2],rfl⟩
  refine AAq ?_;exact B5 (x+1) ⟨hlt,Dn hlt hx.2 (by simpa using ht18)⟩ (by omega) (Bx rfl)
 refine Z52 ?_;exact AHm

def Ya (c:List Col) (x:Nat) (y:Col):Bool := !(((!K2 y.name || decide (y.kind<1)) || decide ((3:Int)<y.kind)) || (Co y.name c != (x:Int)))
def Mb (c:List Col):Bool:=c.zipIdx.all fun x=>Ya c x.2 x.1
theorem colsM_true {c:List Col}:Mb c=true↔∀(j:Nat) (y:Col),c[j]? = some y→Ya c j y=true:=by
 unfold Mb
 rw [B1]
 constructor
 ·intro h j y hj
  exact AJ1
 rintro h ⟨y,j⟩ hx
 rw [Ke] at hx
 exact h j y hx
theorem K3 {α:Type} {l:List α} {x:Nat} {p:Nat→α→Prop} (hlt:x<l.length) (h:∀(j:Nat) (y:α),j<x→l[j]? = some y→p j y) (hx:p x l[x]):∀(j:Nat) (y:α),j<x+1→l[j]? = some y→p j y:=by
 intro j y hj hy
 rcases Bf j x with h'|h'
 ·exact h j y h' hy
 have:j=x:=by omega
 subst this
 rw [Aa hlt] at hy
 injection hy with hy
 subst hy
 exact hx
theorem Yb {α:Type} {l:List α} {x:Nat} {p:Nat→α→Prop} (hge:l.length≤x) (h:∀(j:Nat) (y:α),j<x→l[j]? = some y→p j y):∀(j:Nat) (y:α),l[j]? = some y→p j y:=
 fun j y hy=>h j y (by have:=(Ad.1 hy).1;omega) hy
theorem c34 (c:List Col) (hc:OkCols c) (Hp:List AObj):AFun Tryz.prog 34 [Ce c] Hp (At (Mb c)):=by
 refine Ah [.tmp 2] [0] Tryz.func34 Tryz.ntmps34 (fun d=>?_)
 refine Z58 ?_;refine Z23 ?_;refine Kr ?_
 refine Bh (α:=Nat) (fun x=>⟨44,A9 0 (Ce c) (A9 3 (A5 (x:Nat)) (fun _=>.any)),Hp,[],[],none⟩) (fun x=>x≤c.length∧∀(j:Nat) (y:Col),j<x→c[j]? = some y→Ya c j y=true) (fun x=>c.length-x) (0) (by simp) (Fq _) rfl (fun x hx=>?_)
 refine Z48 ?_;refine A2 [0,3,7] ?_
 refine A3 (fun ht7=>?_) (fun ht7=>?_)
 ·have hlt:x<c.length:=by simpa using ht7
  have hcl:=hc.len
  refine Xo ?_
  refine A4 (h:=Ag (x) (N5 c[x]) (fun _=>B7 hlt)) (hr:=?_)
  refine Z0 ?_;refine A7 Tryz.call68 (c68 c[x].name (hc.names _ (Br hlt)) _) ?_;refine Z46 ?_
  refine B3 (h:=Ag (x) (N5 c[x]) (fun _=>B7 hlt)) (hr:=?_)
  refine Z29 ?_;refine Z46 ?_
  refine B3 (h:=Ag (x) (N5 c[x]) (fun _=>B7 hlt)) (hr:=?_)
  refine Z78 ?_;refine Z29 ?_
  refine B3 (h:=Ag (x) (N5 c[x]) (fun _=>B7 hlt)) (hr:=?_)
  refine Z6 ?_;refine Bw Tryz.call24 (fun hB=>c24 c hc c[x].name _) ?_;refine Qa ?_;refine A2 [0,3,43] ?_
  refine A3 (fun ht43=>?_) (fun ht43=>?_)
  ·refine dy ?_
   exact A8 (Ai A6) ⟨by rw [show Mb c=false from I7.2 fun h=>by have:=colsM_true.1 h x c[x] (Aa hlt);unfold Ya at this;rw [ht43] at this;cases this],rfl⟩
  refine Z96 ?_;refine Kr ?_;exact B5 (x+1) ⟨hlt,K3 hlt hx.2 (by unfold Ya;rw [ht43];rfl)⟩ (by omega) (Bx rfl)
 refine ec ?_;exact A8 (Ai A6) ⟨by rw [colsM_true.2 (Yb (by simp at ht7;omega) hx.2)],rfl⟩

def Bu (v:Val):Bool:=if v.kind==0 then v.n==0&&v.s==[] else if v.kind==1 then v.s==[] else if v.kind==2 then v.n==0&&decide ((v.s.length:Int)≤200) else v.kind==3&&v.s==[]&&decide (0≤v.n)&&decide (v.n≤1)
theorem c50 (v:Val) (Hp:List AObj):AFun Tryz.prog 50 [B8 v] Hp (At (Bu v)):=by
 refine Ah [.tmp 2] [0] Tryz.func50 Tryz.ntmps50 (fun d=>?_)
 refine Eg ?_;refine R.box ?_;refine A4 ?_;refine A2 [1] ?_;refine Z32 ?_;refine A2 [1,5] ?_
 refine A3 (fun ht5=>?_) (fun ht5=>?_)
 ·refine Z20 ?_;refine Z29 ?_;refine Z63 ?_;refine Ex ?_;exact AJ2
 refine L2 ?_;refine A2 [1,16] ?_
 refine A3 (fun ht16=>?_) (fun ht16=>?_)
 ·refine Z20 ?_;refine Z4 ?_;refine Ex ?_;exact A8 (Ai A6) ⟨by simp [Bu,ht5,ht16],rfl⟩
 refine L2 ?_;refine A2 [1,22] ?_
 refine A3 (fun ht22=>?_) (fun ht22=>?_)
 ·refine pz ?_;refine Z63 ?_;refine Ex ?_;exact AJ3
 refine Tv ?_;refine Z78 ?_;refine Z78 ?_;refine Z29 ?_;refine Z63 ?_;exact AJ3

theorem AFj (e:Bool) (n:Int):(e&&(n==0 || n==1))=(e&&decide (0≤n)&&decide (n≤1)):=by
 cases e
 ·rfl
 rw [Js]
 simp
 omega
theorem wn (v:Val) (Hp:List AObj):AFun Tryz.prog 120 [B8 v] Hp (At (Bu v)):=by
 refine Ah [.tmp 2] [0] Tryz.func120 Tryz.ntmps120 (fun d=>?_)
 refine Eg ?_;refine R.box ?_;refine A4 ?_;refine A2 [1] ?_;refine Z8 ?_;refine A2 [1,4] ?_;refine Z91 ?_;refine A2 [1,4,5] ?_
 refine A3 (fun ht5=>?_) (fun ht5=>?_)
 ·refine AIy ?_
  refine A4 (h:=Lo Rn (Gn v.kind v.n 0 0 v.s [])) (hr:=?_)
  refine A4 ?_;refine Z4 ?_;refine Z5 ?_;exact AJ2
 refine Z1 ?_;refine A2 [1,4,10] ?_
 refine A3 (fun ht10=>?_) (fun ht10=>?_)
 ·refine Z20 ?_;refine Z4 ?_;refine Z5 ?_;exact A8 (Ai A6) ⟨by simp [Bu,ht5,ht10],rfl⟩
 refine Z1 ?_;refine A2 [1,4,15] ?_
 refine A3 (fun ht15=>?_) (fun ht15=>?_)
 ·refine pz ?_;refine Z63 ?_;refine Z5 ?_;exact A8 (Ai A6) ⟨by simp [Bu,ht5,ht10,ht15],rfl⟩
 refine Z1 ?_;refine A2 [1,26] ?_
 refine A3 (fun ht26=>?_) (fun ht26=>?_)
 ·refine pz ?_;refine Q8 ?_;refine Z63 ?_;refine Z5 ?_;exact A8 (Ai A6) ⟨by simp [Bu,ht5,ht10,ht15,ht26];rw [AFj],rfl⟩
 refine Z18 ?_;refine Z24 ?_;exact A8 (Ai A6) ⟨by simp [Bu,ht5,ht10,ht15,ht26],rfl⟩

def Sw (c:List Col):Bool:=decide ((50:Int)<c.length) || c.any fun y=>decide ((100:Int)<y.name.length)
theorem me {a b:Val}:(a.kind==b.kind&&a.n==b.n&&a.s==b.s)=decide (a=b):=by
 rw [Js]
 cases a;cases b
 simp [and_assoc]
theorem mf {a b:Row}:((a.key != b.key) || !decide (a.l=b.l)) = !decide (a=b):=by
 rw [Js]
 cases a;cases b
 simp [Classical.or_iff_not_imp_left]
theorem kb {α:Type} {c:List α} {p:Nat→α→Bool}:(c.zipIdx.all fun x=>p x.2 x.1)=true↔∀(j:Nat) (y:α),c[j]? = some y→p j y=true:=by
 rw [B1]
 constructor
 ·intro h j y hj
  exact AJ1
 rintro h ⟨y,j⟩ hx
 rw [Ke] at hx
 exact h j y hx
theorem c65 (y:Col) (nm:Str) (Hp:List AObj):AFun Tryz.prog 65 [N5 y,.ro [Ac nm]] Hp (At (y.name==nm)):=by
 refine Ah [.tmp 3] [0,1] Tryz.func65 Tryz.ntmps65 (fun d=>?_)
 refine Z1 ?_;refine A2 [1,2] ?_;refine jx ?_;refine A2 [3] ?_;exact AF3

theorem c64 (c:List Col) (hc:OkCols c) (nm:Str) (Hp:List AObj):AFun Tryz.prog 64 [Ce c,.fn (.func 65) [] [.ro [Ac nm]]] Hp (A5 (Co nm c)):=by
 refine Ah [.tmp 4] [0,1] Tryz.func64 Tryz.ntmps64 (fun d=>?_)
 refine Z64 ?_;refine Z32 ?_;refine A2 [0,1,7,8] ?_
 refine Bh (α:=Nat) (fun x=>⟨19,A9 0 (Ce c) (A9 1 (.fn (.func 65) [] [.ro [Ac nm]]) (A9 7 (A5 c.length) (A9 8 (A5 (x:Nat)) (fun _=>.any)))),Hp,[],[],none⟩) (fun x=>x≤c.length∧∀(j:Nat) (y:Col),j<x→c[j]? = some y→¬(y.name=nm)) (fun x=>c.length-x) (0) (by simp) (Bc (by simp)) rfl (fun x hx=>?_)
 refine Z2 ?_;refine A2 [0,1,7,8,9] ?_
 refine Gz (fun ht9=>?_) (fun ht9=>?_)
 ·have hlt:x<c.length:=by simpa using ht9
  have hcl:=hc.len
  refine Z19 ?_;refine Z1 ?_;refine A2 [0,1,5,7,8] ?_;refine Z13 ?_
  refine A4 (h:=Ag (x) (N5 c[x]) (fun _=>B7 hlt)) (hr:=?_)
  refine A4 ?_;refine R.callV Tryz.call65 (c65 c[x] nm _) ?_;refine A2 [0,1,5,7,8,16] ?_
  refine A3 (fun ht16=>?_) (fun ht16=>?_)
  ·refine Z1 ?_;refine py ?_;exact A8 (Ai A6) ⟨by rw [ep hlt (by simpa using ht16) hx.2],rfl⟩
  refine Vf ?_;refine A2 [0,1,7,8] ?_;exact B5 (x+1) ⟨hlt,Dn hlt hx.2 (by simpa using ht16)⟩ (by omega) (Bx rfl)
 refine Z31 ?_;exact AHm

theorem c29 (c:List Col) (hc:OkCols c) (nm:Str) (Hp:List AObj):AFun Tryz.prog 29 [Ce c,Ac nm] Hp (A5 (Co nm c)):=by
 refine Ah [.tmp 4] [0,1] Tryz.func29 Tryz.ntmps29 (fun d=>?_)
 refine Z1 ?_;refine Kr ?_;refine Z2 ?_;refine I9 ?_;refine A7 Tryz.call64 (c64 c hc nm _) ?_;refine A4 ?_;exact vd

def Qb (s of:Str):Int:=(s.length:Int)-(Lib.trimLeftS s of).length
theorem Uk (s of:Str):(Lib.trimLeftS s of).length≤s.length:=by
 unfold Lib.trimLeftS
 exact (j5 _).length_le
def Lw:Str:=[32,97,100,100,32,100,114,111,112,32,114,101,110,97,109,101,32,115,112,108,105,116,32,109,101,114,103,101,32,114,101,116,121,112,101,32,105,110,116,111,32,116,111,32,98,97,99,107,32,97,110,100,32,111,114,32,110,111,116,32,116,114,117,101,32,102,97,108,115,101,32,110,117,108,108,32,105,110,116,32,116,101,120,116,32,98,111,111,108,32,115,101,108,101,99,116,32,119,104,101,114,101,32,102,114,111,109,32,108,105,109,105,116,32]
def letters:Str:=[97,98,99,100,101,102,103,104,105,106,107,108,109,110,111,112,113,114,115,116,117,118,119,120,121,122]
def tails:Str:=[97,98,99,100,101,102,103,104,105,106,107,108,109,110,111,112,113,114,115,116,117,118,119,120,121,122,48,49,50,51,52,53,54,55,56,57,95]
theorem c90 (s of:Str) (hs:s.length≤1048576) (ho:of.length≤1048576) (ha:∀c∈of,c.toNat<128) (Hp:List AObj):AFun Tryz.prog 90 [Ac s,Ac of] Hp (A5 (Qb s of)):=by
 refine Ah [.tmp 4] [0,1] Tryz.func90 Tryz.ntmps90 (fun d=>?_)
 refine Z64 ?_;refine Z20 ?_;refine A7 Tryz.call124 (ALd s of (by omega) ha _) ?_;refine A4 ?_
 have htl:=Uk s of
 refine Z0 ?_;exact vd

def Gp (s:Str):Bool:=(!(s==[]) && !Lib.contains s [32])&&Lib.contains Lw ([32]++s++[32])
theorem c91 (s:Str) (hs:s.length≤1048576) (Hp:List AObj):AFun Tryz.prog 91 [Ac s] Hp (At (Gp s)):=by
 refine Ah [.tmp 2] [0] Tryz.func91 Tryz.ntmps91 (fun d=>?_)
 refine Z58 ?_;refine Z13 ?_;refine B3 ?_;refine Bw Tryz.call125 (fun hB=>qd s [32] (by omega) _) ?_;refine B3 ?_;refine Z0 ?_;refine Z29 ?_;refine Bw Tryz.call125 (fun hB=>qd Lw ([32]++s++[32]) (by decide) _) ?_;exact jo

theorem AFk {s:Str} {b c:Bool} (h:(((!(s==[])&&b)&&c)==true)=true):1≤s.length:=by
 cases s with
 | nil=>simp at h
 | cons x r=>simp
def Fj (s:Str):Bool:=((((!(s==[])&&decide ((s.length:Int)≤16))&&(Qb s tails==(s.length:Int)))&&(Qb (s.take 1) letters==1)) && !Gp s)
theorem c60 (s:Str) (hs:s.length≤1048576) (Hp:List AObj):AFun Tryz.prog 60 [Ac s] Hp (At (Fj s)):=by
 refine Ah [.tmp 2] [0] Tryz.func60 Tryz.ntmps60 (fun d=>?_)
 refine Z58 ?_;refine eg ?_;refine B3 ?_;refine Bw Tryz.call90 (fun hB=>c90 s tails hs (by decide) (by decide) _) ?_;refine Z78 ?_;refine B3 ?_
 refine B3 (h:=Iv 1 (fun _=>Av _) (fun hB=>AFk hB)) (hr:=?_)
 refine Bw Tryz.call90 (fun hB=>c90 (s.take 1) letters (by simp;omega) (by decide) (by decide) _) ?_
 refine B3 ?_;refine N4 ?_;refine Bw Tryz.call91 (fun hB=>c91 s hs _) ?_;refine B3 ?_;exact jo

end Go.SX.Nb
namespace Go.SX.Nb
open Go Go.SX Go.Proofs Go.RowKit
variable [ErrAt]
set_option maxRecDepth 4000
theorem ALk (s t:Str) (Hp:List AObj):AFun Tryz.prog 216 [Ac s,Ac t] Hp (Ac (Lib.trimPrefix s t)):=by
 refine K0 (xs:=[sv s,sv t]) (v:=sv (Lib.trimPrefix s t)) (fun G w=>.v _ _) (fun w hg=>?_)
 refine (Any.strings_TrimPrefix Tryz.lays101 ⟨s.toArray⟩ ⟨t.toArray⟩ w).mono ?_
 rintro e w' ⟨rfl,rfl⟩
 exact eh
theorem ALl (s t:Str) (hs:s.length≤9223372036854775807) (ht:t.length<4294967281) (ha:∀c∈t,c.toNat<128) (Hp:List AObj):AFun Tryz.prog 217 [Ac s,Ac t] Hp (Ac (Lib.trimS s t)):=by
 refine K0 (xs:=[sv s,sv t]) (v:=sv (Lib.trimS s t)) (fun G w=>.v _ _) (fun w hg=>?_)
 refine (Any.strings_Trim_laid Tryz.lays160 (by kernel_rfl) ⟨s.toArray⟩ ⟨t.toArray⟩ w (by simpa [ByteArray.size] using hs) (by simpa [ByteArray.size] using ht) (fun j b hj=>ha b (Be hj))).mono ?_
 rintro e w' ⟨rfl,hb⟩
 exact ⟨rfl,hb⟩
theorem AB8 (s:Str) (hs:s.length≤1048576) (v:Int) (h:Lib.parseIntB 64 s=.ok v) (Hp:List AObj):AFun Tryz.prog 218 [Ac s,A5 10,A5 64] Hp (.tup [A5 v,.v .nilIface]):=by
 refine K0 (xs:=[sv s,.int .i64 10,.int .i64 64]) (v:=.tuple #[.int .i64 v,.nilIface]) (fun G w=>Ln rfl (fun i y u hy hu=>?_)) (fun w hg=>?_)
 ·match i with
  | 0=>simp at hy hu;subst hy;subst hu;exact .v _ _
  | 1=>simp at hy hu;subst hy;subst hu;exact .v _ _
  | i+2=>simp at hy
 refine (Any.strconv_ParseInt_10_at64_ok Tryz.lays174 ⟨s.toArray⟩ (by simp [ByteArray.size];omega) v h w).mono ?_
 rintro e w' ⟨rfl,rfl|⟨t,rfl⟩⟩
 ·exact eh
 exact ⟨rfl,Lib.bytesWorld_below _ _ _⟩
def Rp (s:Str):AV:=.iface 180 (.ro [.v (sv [80,97,114,115,101,73,110,116]),.v (sv s),.v (.iface 229 (.pointer (some ErrAt.b)))])
theorem kc (s:Str) (hs:s.length≤1048576) (h:Lib.parseIntB 64 s=.range) (Hp:List AObj):AFun Tryz.prog 218 [Ac s,A5 10,A5 64] Hp (.tup [A5 (Lib.intSat 64 s),Rp s]):=by
 refine AFun.libErr (xs:=[sv s,.int .i64 10,.int .i64 64]) (n:=.int .i64 (Lib.intSat 64 s)) (cs:=[sv [80,97,114,115,101,73,110,116],sv s,.iface 229 (.pointer (some ErrAt.b))]) (te:=211) (fun y hy=>?_) (fun w hg=>?_)
 ·simp only [By,J7,or_false] at hy
  rcases hy with rfl|rfl|rfl<;>rfl
 refine (Any.strconv_ParseInt_10_at64_range Tryz.lays174 ⟨s.toArray⟩ (by simp [ByteArray.size];omega) h (.iface 229 (.pointer (some ErrAt.b))) w (N6 hg) (.inr ⟨_,_,rfl⟩)).mono ?_
 rintro e w' ⟨N,rfl,h1,h2,h3⟩
 exact ⟨N,rfl,h1,h2,h3⟩
theorem wo (Hp:List AObj):AFun Tryz.prog 219 [.v .nilIface,.v (.iface 229 (.pointer (some ErrAt.b)))] Hp (At false):=by
 refine K0 (xs:=[.nilIface,.iface 229 (.pointer (some ErrAt.b))]) (v:=.bool false) (fun G w=>.v _ _) (fun w hg=>?_)
 refine (Tryz.is_nil _ w).mono ?_
 rintro e w' ⟨rfl,rfl⟩
 exact eh
theorem ke (s:Str) (Hp:List AObj):AFun Tryz.prog 219 [Rp s,.v (.iface 229 (.pointer (some ErrAt.b)))] Hp (At true):=by
 intro d G w vs hn hv hH hT _
 have hsz:vs.size=2:=hn
 have h0:=hv 0 (Rp s) vs[0] rfl (Eb (by omega))
 have h1:=Kh (hv 1 (.v (.iface 229 (.pointer (some ErrAt.b)))) vs[1] rfl (Eb (by omega)))
 have hvs:vs=#[vs[0],vs[1]]:=by
  apply Y2
  ·exact hsz
  intro i hi1 hi2
  match i with
  | 0=>rfl
  | 1=>rfl
  | i+2=>omega
 unfold Rp at h0
 generalize vs[0]=u0 at h0 hvs
 cases h0 with
 | iface _ _ _ u h =>
  cases h with
  | ro _ _ ad f hs h1' hf hr =>
   obtain ⟨ab,ao,asp⟩:=ad
   simp only at hs
   subst hs
   have hc:=(hf 2 _ rfl).2
   have he:=Kh (hr 2 _ rfl)
   rw [he] at hc
   rw [hvs,h1]
   refine (callsIn_wide.2 (Tryz.is_range ab ao ErrAt.b w hc)).mono ?_
   rintro e w' ⟨rfl,rfl⟩
   exact ⟨_,G,_,Hp,rfl,.v _ _,hH,hT,Fp _ _ _,rfl,rfl,rfl⟩
end Go.SX.Nb
namespace Go.SX.Nb
open Go Go.SX Go.Proofs
variable [ErrAt]
set_option maxRecDepth 4000
def er:Str:=[32,105,110,116,32,116,101,120,116,32,98,111,111,108]
def kindNames:List Str:=[[],[105,110,116],[116,101,120,116],[98,111,111,108]]
theorem qe:Pc er [32]=kindNames:=by kernel_rfl
def Jo (k:Int):Str:=if k<1∨3<k then [] else kindNames.getD k.toNat []
theorem c62 (k:Int) (Hp:List AObj):AFun Tryz.prog 62 [A5 k] Hp (Ac (Jo k)):=by
 refine Ah [.tmp 2] [0] Tryz.func62 Tryz.ntmps62 (fun d=>?_)
 refine Z58 ?_;refine Z32 ?_;refine Qa ?_;refine A2 [0,8] ?_
 refine A3 (fun ht8=>?_) (fun ht8=>?_)
 ·refine dw ?_;exact A8 (Ai A6) ⟨by rw [show Jo k=[] from if_pos (by simpa using ht8)],rfl⟩
 refine jt ?_
 have hk:1≤k∧k≤3:=by simp at ht8;omega
 have hget:(kindNames.map Ac)[k.toNat]? = some (Ac (kindNames.getD k.toNat [])):=by
  have hlt:k.toNat<kindNames.length:=by show k.toNat<4;omega
  rw [C8,Aa hlt,D6,Aa hlt]
  rfl
 refine A7 Tryz.call94 (qe ▸ c94 er [32] (by decide) (by decide) _) ?_;refine A4 ?_
 refine A4 (h:=Ag (k.toNat) (Ac (kindNames.getD k.toNat [])) (fun _=>hget)) (hr:=?_)
 refine Z63 ?_;exact A8 (Ai A6) ⟨by rw [show Jo k=kindNames.getD k.toNat [] from if_neg (by omega)],rfl⟩

def O3 (s of:Str):Bool:=(!(s==[]) && !Lib.contains s [32])&&Lib.contains of ([32]++s++[32])
theorem AJy (s of:Str) (hs:s.length≤1048576) (ho:of.length≤1048576) (Hp:List AObj):AFun Tryz.prog 128 [Ac s,Ac of] Hp (At (O3 s of)):=by
 refine Ah [.tmp 4] [0,1] Tryz.func128 Tryz.ntmps128 (fun d=>?_)
 refine Z64 ?_;refine Z13 ?_;refine B3 ?_;refine Bw Tryz.call125 (fun hB=>qd s [32] (by omega) _) ?_;refine B3 ?_;refine Xl ?_;refine Bw Tryz.call125 (fun hB=>qd of ([32]++s++[32]) (by omega) _) ?_;refine Z0 ?_;exact vd

def Yc:Str:=[108,101,110,58,49,32,115,116,114,58,49,32,110,117,109,58,49,32,105,115,110,117,108,108,58,49,32,110,118,108,58,50,32,108,101,102,116,58,50,32,114,105,103,104,116,58,50,32,105,102,58,51]
def arityList:List (Str×UInt8):=[([108,101,110],49),([115,116,114],49),([110,117,109],49),([105,115,110,117,108,108],49),([110,118,108],50),([108,101,102,116],50),([114,105,103,104,116],50),([105,102],51)]
def Ik (p:Str×UInt8):Str:=p.1++[58,p.2]
theorem kg:Pc Yc [32]=arityList.map Ik:=by kernel_rfl
theorem wq {p:Str×UInt8} (hp:p∈arityList):Lib.cut (Ik p) [58]=(p.1,[p.2],true):=by
 have h:(arityList.all fun p=>decide (Lib.cut (Ik p) [58]=(p.1,[p.2],true)))=true:=by kernel_rfl
 exact of_decide_eq_true (B1.1 h p hp)
def AFl (p:Str×UInt8):Int:=IntKind.i64.wrap (IntKind.u8.wrap ((p.2.toNat:Int)-48))
def Bv (nm:Str):Int:=match arityList.find? (fun p=>p.1==nm) with|some p=>AFl p|none => -1
theorem bp {α:Type} {p:α→Bool} {l:List α} {x:Nat} (h:x<l.length) (hp:p l[x]=true) (h2:∀(j:Nat) (y:α),j<x→l[j]? = some y→p y=false):l.find? p=some l[x]:=by
 rw [uf]
 exact ⟨hp,x,h,rfl,fun j hj=>by simpa using h2 j l[j] hj (Aa _)⟩
theorem Rq {α:Type} {p:α→Bool} {l:List α} (h:∀(j:Nat) (y:α),l[j]? = some y→p y=false):l.find? p=none:=by
 rw [Km]
 intro y hy
 obtain ⟨j,hj⟩:=Cg hy
 simpa using h j y hj
theorem Rr:arityList.length=8:=rfl
theorem qf {p:Str×UInt8} (hp:p∈arityList):(Ik p).length<4294967281:=by
 have h:(arityList.all fun p=>decide ((Ik p).length<4294967281))=true:=by kernel_rfl
 exact of_decide_eq_true (B1.1 h p hp)
theorem AFm (nm:Str) (Hp:List AObj):AFun Tryz.prog 129 [Ac nm] Hp (A5 (Bv nm)):=by
 refine Ah [.tmp 2] [0] Tryz.func129 Tryz.ntmps129 (fun d=>?_)
 refine Z58 ?_;refine Rk ?_;refine A7 Tryz.call94 (kg ▸ c94 Yc [32] (by decide) (by decide) _) ?_;refine Z0 ?_;refine A2 [0,8,9,10] ?_
 refine Bh (α:=Nat) (fun x=>⟨28,A9 0 (Ac nm) (A9 8 (J4 (arityList.map Ik)) (A9 9 (A5 8) (A9 10 (A5 (x:Nat)) (fun _=>.any)))),Hp,[],[],none⟩) (fun x=>x≤8∧∀(j:Nat) (y:Str×UInt8),j<x→arityList[j]? = some y→(y.1==nm)=false) (fun x=>8-x) (0) (by simp) (Fq _) rfl (fun x hx=>?_)
 refine Z2 ?_;refine A2 [0,8,9,10,11] ?_
 refine Gz (fun ht11=>?_) (fun ht11=>?_)
 ·have hlt:x<arityList.length:=by rw [Rr];simp at ht11;omega
  have hal:=Rr
  have hget:((arityList.map Ik).map Ac)[x]? = some (Ac (Ik arityList[x])):=by rw [Gj];exact B7 hlt
  refine jq ?_
  refine A4 (h:=Ag (x) (Ac (Ik arityList[x])) (fun _=>hget)) (hr:=?_)
  refine Z0 ?_;refine A2 [0,4,8,9,10] ?_;refine Z2 ?_;refine A7 Tryz.call136 ((wq (Br hlt)) ▸ AJw (Ik arityList[x]) [58] (qf (Br hlt)) _) ?_;refine Z61 ?_;refine Z11 ?_;refine A2 [0,5,6,8,9,10] ?_;refine Z13 ?_;refine A2 [0,6,8,9,10,22] ?_
  refine A3 (fun ht22=>?_) (fun ht22=>?_)
  ·refine Z2 ?_
   refine A4 (h:=El 0 arityList[x].2 (fun _=>rfl)) (hr:=?_)
   refine A4 (h:=Iw) (hr:=?_)
   refine Z63 ?_;refine Z47 ?_;exact A8 (Ai A6) ⟨by rw [Bv,bp hlt ht22 hx.2];rfl,rfl⟩
  refine Vf ?_;refine A2 [0,8,9,10] ?_;exact B5 (x+1) ⟨by omega,Dn hlt hx.2 ht22⟩ (by omega) (Bx rfl)
 have hal:=Rr
 refine Z31 ?_;refine Z24 ?_;exact A8 (Ai A6) ⟨by rw [Bv,Rq (K1 (by simp at ht11;omega) hx.2)],rfl⟩

def ki (s:Str):Int:=match Lib.parseIntB 64 s with|.ok v=>v|_=>Lib.intSat 64 s
def Xt (s:Str):Bool:=match Lib.parseIntB 64 s with|.ok _=>false|_=>true
def Xu (s:Str):AV:=bif Xt s then Rp s else .v .nilIface
theorem kj (s:Str):(Xu s).strip=Xu s:=by unfold Xu;cases Xt s<;>rfl
attribute [go_sem] kj
theorem ALm (s:Str) (hs:s.length≤1048576) (h:AB5 (Lib.parseIntB 64 s)=false) (Hp:List AObj):AFun Tryz.prog 218 [Ac s,A5 10,A5 64] Hp (.tup [A5 (ki s),Xu s]):=by
 cases hp:Lib.parseIntB 64 s with
 | ok v =>
  have:=AB8 s hs v hp Hp
  rwa [show v=ki s by unfold ki;rw [hp],show AV.v .nilIface=Xu s by unfold Xu Xt;rw [hp];rfl] at this
 | range =>
  have:=kc s hs hp Hp
  rwa [show Lib.intSat 64 s=ki s by unfold ki;rw [hp],show Rp s=Xu s by unfold Xu Xt;rw [hp];rfl] at this
 | _=>rw [hp] at h;cases h
theorem ALn (s:Str) (Hp:List AObj):AFun Tryz.prog 219 [Xu s,.v (.iface 229 (.pointer (some ErrAt.b)))] Hp (At (Xt s)):=by
 unfold Xu
 cases Xt s
 ·exact wo Hp
 exact ke s Hp
theorem wr (s t:Str):(Lib.trimPrefix s t).length≤s.length:=by
 unfold Lib.trimPrefix;split<;>simp
theorem qg {d:Str} {b:Bool} (h:(((d==[]) || b)==false)=true):d≠[]:=by rintro rfl;simp at h
theorem Pd:∀c∈digs,c.toNat<128:=by decide
theorem Vl (s:Str):((((Lib.trimPrefix s [45]==[]) || (Lib.trimS (Lib.trimPrefix s [45]) digs != [])) || ((((Lib.trimPrefix s [45]).headD 0).toNat:Int)==48&&decide ((1:Int)<s.length))))=Gc s:=by
 unfold Gc L3
 have e1:((((Lib.trimPrefix s [45]).headD 0).toNat:Int)==48)=((Lib.trimPrefix s [45]).headD 0==48):=by
  rw [Bool.eq_iff_iff]
  simp only [beq_iff_eq]
  constructor
  ·intro h
   exact UInt8.toNat_inj.1 (by have:(48:UInt8).toNat=48:=rfl;omega)
  intro h;rw [h];rfl
 have e2:decide ((1:Int)<s.length)=decide (1<s.length):=by rw [decide_eq_decide];omega
 rw [e1,e2]
 rfl
theorem qh {s:Str} (hb:Gc s=false) (h:Xt s=true):Bj s=(0,4):=by
 unfold Bj
 rw [hb]
 have:=N7 hb
 unfold Xt at h
 revert h this
 cases Lib.parseIntB 64 s with
 | ok v=>intro h;cases h
 | range=>intro _ _;rfl
 | _=>intro _ h;cases h
theorem AFn {s:Str} (hb:Gc s=false) (h:Xt s=false):Bj s=(ki s,0):=by
 unfold Bj ki
 rw [hb]
 unfold Xt at h
 revert h
 cases Lib.parseIntB 64 s with
 | ok v=>intro h;rfl
 | _=>intro h;cases h
theorem wt (s:Str):s.take (min s.length 200)=s.take 200:=by
 rcases Nat.le_total s.length 200 with h|h
 ·rw [Nat.min_eq_left h,List.take_of_length_le (Nat.le_refl _),List.take_of_length_le h]
 rw [Nat.min_eq_right h]
theorem AJz (s:Str) (hs:s.length≤1048576) (Hp:List AObj):AFun Tryz.prog 196 [Ac s] Hp (.tup [A5 (Bj s).1,A5 (Bj s).2]):=by
 refine ACall.body [.tmp 2,.tmp 3] [0] Tryz.func196 Tryz.ntmps196 (fun d=>?_)
 refine Z1 ?_;refine R.fin [0] ?_;refine Z2 ?_;refine R.call Tryz.call216 (ALk s [45] _) ?_;refine R.go ?_;refine R.fin [0,4] ?_;refine Z32 ?_;refine G.go ?_
 refine G.call Tryz.call217 (fun hB=>ALl (Lib.trimPrefix s [45]) digs (by have:=wr s [45];omega) (by decide) Pd _) ?_
 refine G.go ?_;refine N4 ?_
 refine G.go (h:=Q.sindex 0 ((Lib.trimPrefix s [45]).headD 0) (fun hB=>Jn (qg hB))) (hr:=?_)
 refine Q8 ?_;refine Qa ?_;refine R.fin [0,25] ?_
 refine W.cond (fun ht25=>?_) (fun ht25=>?_)
 ·have hb:Gc s=true:=by rw [←Vl];exact ht25
  refine pu ?_;exact K.fin (V.two V.tmp V.tmp) ⟨by rw [Bj,hb];rfl,rfl⟩
 have hb:Gc s=false:=by rw [←Vl];exact ht25
 refine Z93 ?_;refine R.call Tryz.call218 (ALm s hs (N7 hb) _) ?_;refine Z86 ?_;refine R.fin [5,6] ?_;refine Z23 ?_;refine R.loadGlob Tryz.isAgg115 (fun w hg=>N6 hg) ?_;refine R.call Tryz.call219 (ALn s _) ?_;refine R.fin [5,33] ?_
 refine W.cond (fun ht33=>?_) (fun ht33=>?_)
 ·refine pu ?_;exact K.fin (V.two V.tmp V.tmp) ⟨by rw [qh hb ht33],rfl⟩
 refine Oh ?_;refine Z65 ?_;exact K.fin (V.two V.tmp V.tmp) ⟨by rw [AFn hb ht33],rfl⟩

theorem AK0 (n:Int) (h0 : -9223372036854775808≤n) (h1:n≤9223372036854775807) (Hp:List AObj):AFun Tryz.prog 151 [A5 n] Hp (Ac (Lib.itoa n)):=by
 refine ACall.body [.tmp 2] [0] Tryz.func151 Tryz.ntmps151 (fun d=>?_)
 refine Z58 ?_;refine Z2 ?_;refine R.call Tryz.call176 (ALi n h0 h1 _) ?_;refine R.go ?_;exact AF5

theorem ALo (Hp:List AObj):AFun Tryz.prog 183 [] Hp (B8 ⟨0,0,[]⟩):=by
 refine ACall.body [.cell 0 24] [] Tryz.func183 Tryz.ntmps183 (fun d=>?_)
 refine Z33 ?_;refine R.fin [0] ?_;refine Z25 ?_;refine F1 ?_;refine R.fin [0] ?_;refine AW.ret ?_;exact K.fin (V.one (V.cellN jA jS))

theorem AFo (n:Int) (Hp:List AObj):AFun Tryz.prog 197 [A5 n] Hp (B8 ⟨1,n,[]⟩):=by
 refine ACall.body [.cell 2 24] [0] Tryz.func197 Tryz.ntmps197 (fun d=>?_)
 refine Z75 ?_;refine AIy ?_;exact AAk

theorem eu (b:Bool) (Hp:List AObj):AFun Tryz.prog 122 [At b] Hp (B8 ⟨3,if b then 1 else 0,[]⟩):=by
 refine ACall.body [.cell 2 24] [0] Tryz.func122 Tryz.ntmps122 (fun d=>?_)
 refine Z75 ?_;refine Z25 ?_;refine AAt ?_;refine Z23 ?_;refine R.fin [2,3,5] ?_
 refine W.cond (fun ht5=>?_) (fun ht5=>?_)
 ·refine Z43 ?_;refine F1 ?_;refine R.fin [2,3] ?_;refine K.thN ?_;refine Z2 ?_;exact AI6
 refine Z93 ?_;exact AI6

theorem qi (s:Str) (Hp:List AObj):AFun Tryz.prog 215 [Ac s] Hp (B8 ⟨2,0,s.take 200⟩):=by
 refine ACall.body [.cell 2 24] [0] Tryz.func215 Tryz.ntmps215 (fun d=>?_)
 refine Z75 ?_;refine Z13 ?_;refine R.minI ?_
 refine R.go (h:=Q.scutH (min s.length 200) (fun _=>Nat.zero_le _) (fun _=>Nat.min_le_left _ _) (hb:=fun _=>by split<;>omega)) (hr:=?_)
 refine Xq ?_;refine Z38 ?_;exact K.fin (V.one (V.cellN jA jS)) ⟨by rw [wt],rfl⟩

theorem km {p s:Str} (h:p.isPrefixOf s=true):p.length≤s.length:=(List.isPrefixOf_iff_prefix.1 h).length_le
theorem kn (s o:Str) (h:0≤Lib.index s o):(Lib.index s o).toNat+o.length≤s.length:=by
 induction s with
 | nil =>
  unfold Lib.index at h ⊢
  split at h
  ·rename_i he
   rw [if_pos he]
   cases o with
   | nil=>simp
   | cons a b=>simp at he
  omega
 | cons b l ih =>
  unfold Lib.index at h ⊢
  split at h
  ·rename_i hp
   rw [if_pos hp]
   have:=km hp
   simpa using this
  rename_i hp
  rw [if_neg hp]
  split at h
  ·omega
  rename_i hi
  rw [if_neg hi]
  have hg:=Lib.index_ge l o
  have hi':Lib.index l o ≠ -1:=by simpa using hi
  have:=ih (by omega)
  simp only [Aw]
  omega
def mg:Val:=⟨0,0,[]⟩
def D9 (b:Bool):Val:=⟨3,if b then 1 else 0,[]⟩
def qj (n:Int):Prop := -9223372036854775808≤n∧n≤9223372036854775807
def Hd (v:Val):Str:=
 if !Bu v then [] else if v.kind==1 then Lib.itoa v.n else if v.kind==2 then [39]++Lib.replaceAll v.s [39] [39,39]++[39]
 else if v.kind==0 then [110,117,108,108] else if v.n==1 then [116,114,117,101] else [102,97,108,115,101]
theorem ql {v:Val} (h:Bu v=true) (h2:(v.kind==2)=true):v.s.length≤200:=by
 have e:v.kind=2:=by simpa using h2
 unfold Bu at h
 rw [e] at h
 simp at h
 omega
theorem ew (s o:Str) (ho:1≤o.length):Lib.countB ⟨s.toArray⟩ ⟨o.toArray⟩≤s.length:=Lib.countB_le ⟨o.toArray⟩ (by simpa [ByteArray.size] using ho) s.length ⟨s.toArray⟩ (by simp [ByteArray.size])
theorem Sx (o n:Str) (B:Nat) (hn:n.length≤B*o.length) (hB:1≤B):∀(k:Nat) (s:Str),(Lib.replaceK o n k s).length≤B*s.length
 | 0,s=>by rw [Lib.replaceK];exact Py _ hB
 | k+1,s=>by
  rw [Lib.replaceK]
  split
  ·exact Py _ hB
  rename_i h
  have ih:=Sx o n B hn hB k (s.drop ((Lib.index s o).toNat+o.length))
  have hx:(Lib.index s o).toNat+o.length≤s.length:=by
   have hg:=Lib.index_ge s o
   have hi:Lib.index s o ≠ -1:=by simpa using h
   exact kn s o (by omega)
  simp only [Aq,F5,Ei] at ih ⊢
  have h1:min (Lib.index s o).toNat s.length≤B*(Lib.index s o).toNat:=Nu (Nat.min_le_left _ _) (Py _ hB)
  have h2:B*s.length=B*(Lib.index s o).toNat+B*o.length+B*(s.length-((Lib.index s o).toNat+o.length)):=by
   rw [←Jd,←Jd];congr 1;omega
  omega
theorem Xv (s o n:Str) (B:Nat) (hn:n.length≤B*o.length) (hB:1≤B):(Lib.replaceAll s o n).length≤B*s.length:=by
 unfold Lib.replaceAll Lib.replace
 split
 ·exact Py _ hB
 exact Sx o n B hn hB _ s
theorem AK1 (v:Val) (hn:qj v.n) (Hp:List AObj):AFun Tryz.prog 117 [B8 v] Hp (Ac (Hd v)):=by
 refine Ah [.tmp 2] [0] Tryz.func117 Tryz.ntmps117 (fun d=>?_)
 refine Z87 ?_;refine Xp ?_;refine A7 Tryz.call120 (wn v _) ?_;refine Z0 ?_;refine Tw ?_
 refine A3 (fun ht3=>?_) (fun ht3=>?_)
 ·refine Z24 ?_;refine Z5 ?_;exact A8 (Ai A6) ⟨by simp only [Hd,ht3,if_true],rfl⟩
 have hp:Bu v=true:=by simpa using ht3
 refine Z20 ?_;refine A2 [1,7] ?_
 refine A3 (fun ht7=>?_) (fun ht7=>?_)
 ·refine Z1 ?_;refine A7 Tryz.call151 (AK0 v.n hn.1 hn.2 _) ?_;refine A4 ?_;refine Z4 ?_;refine Z5 ?_;exact A8 (Ai A6) ⟨by simp only [Hd,hp,ht7,Bn,Af,if_false,if_true];try rfl,rfl⟩
 refine Z20 ?_;refine A2 [1,14] ?_
 refine A3 (fun ht14=>?_) (fun ht14=>?_)
 ·refine Z1 ?_
  have hl:=ql hp ht14
  have hrl:=Xv v.s [39] [39,39] 2 (by decide) (by decide)
  refine A7 Tryz.call152 (AJx v.s [39] [39,39] (by omega) (by decide) (by have:=ew v.s [39] (by decide);simp;omega) _) ?_
  refine Z11 ?_;refine Z4 ?_;refine Z5 ?_;exact A8 (Ai A6) ⟨by simp only [Hd,hp,ht7,ht14,Bn,Af,if_false,if_true];try rfl,rfl⟩
 refine Z20 ?_;refine A2 [1,23] ?_
 refine A3 (fun ht23=>?_) (fun ht23=>?_)
 ·refine Z24 ?_;refine Z5 ?_;exact A8 (Ai A6) ⟨by simp only [Hd,hp,ht7,ht14,ht23,Bn,Af,if_false,if_true];try rfl,rfl⟩
 refine Z20 ?_;refine A2 [27] ?_
 refine A3 (fun ht27=>?_) (fun ht27=>?_)
 ·refine Z24 ?_;refine Z5 ?_;exact AJ4
 refine Z18 ?_;refine Z24 ?_;exact AJ4

def wu (s:Str):Str:=Lib.replaceAll ((s.take (s.length-1)).drop 1) [39,39] [39]
def Vm (s:Str):Val:=⟨2,0,(wu s).take 200⟩
def ey (s:Str):Val×Int:=if !(Hd (Vm s)==s) then (mg,7) else (Vm s,0)
theorem ALp (s:Str) (h2:2≤s.length) (hs:s.length≤1048576) (Hp:List AObj):AFun Tryz.prog 195 [Ac s] Hp (.tup [B8 (ey s).1,A5 (ey s).2]):=by
 refine Ah [.cell 2 24,.tmp 3] [0] Tryz.func195 Tryz.ntmps195 (fun d=>?_)
 refine ef ?_;refine A2 [0,2] ?_;refine Z20 ?_
 refine A4 (h:=Q.scutLH 1 (s.length-1) (fun _=>show 1≤s.length-1 by omega) (fun _=>show s.length-1≤s.length by omega)) (hr:=?_)
 refine A7 Tryz.call152 (AJx ((s.take (s.length-1)).drop 1) [39,39] [39] (by simp;omega) (by decide) (by have:=ew ((s.take (s.length-1)).drop 1) [39,39] (by decide);simp at this ⊢;omega) _) ?_
 refine A4 ?_;refine A2 [0,2,4] ?_;refine Z2 ?_;refine A7 Tryz.call215 (qi (wu s) _) ?_;refine Z16 ?_;refine A2 [0,2,5] ?_;refine Z23 ?_
 refine A7 Tryz.call117 (AK1 (Vm s) ⟨by show (-9223372036854775808:Int)≤0;decide,by show (0:Int)≤9223372036854775807;decide⟩ _) ?_
 refine Z0 ?_;refine A2 [2,5,17] ?_
 refine A3 (fun ht17=>?_) (fun ht17=>?_)
 ·refine Z25 ?_;refine Z7 ?_;refine Z54 ?_;exact AJ5
 refine Z93 ?_;refine jz ?_;exact AJ5

def Yd (s:Str):Bool:=(decide ((1:Int)<s.length)&&Lib.hasPrefix s [39])&&Lib.hasSuffix s [39]
def Hv (s:Str):Val×Int:=
 if s==[110,117,108,108] then (mg,0) else if (s==[116,114,117,101]) || (s==[102,97,108,115,101]) then (D9 (s==[116,114,117,101]),0)
 else if Yd s then ey s else if (Bj s).2==0 then (⟨1,(Bj s).1,[]⟩,0) else if (Bj s).2==4 then (mg,4) else (mg,7)
theorem wv {s:Str} (h:Yd s=true):2≤s.length:=by
 unfold Yd at h
 simp only [Al,decide_eq_true_eq] at h
 omega
theorem AFp (s:Str) (hs:s.length≤1048576) (Hp:List AObj):AFun Tryz.prog 168 [Ac s] Hp (.tup [B8 (Hv s).1,A5 (Hv s).2]):=by
 refine Ah [.cell 2 24,.tmp 3] [0] Tryz.func168 Tryz.ntmps168 (fun d=>?_)
 refine ef ?_;refine A2 [0,2] ?_;refine Z19 ?_;refine Z13 ?_;refine A2 [0,2,6] ?_
 refine A3 (fun ht6=>?_) (fun ht6=>?_)
 ·refine AF6 ?_;refine Z7 ?_;refine vn ?_;exact A8 (B4 (Az jA jS) A6) ⟨by simp only [Hv,ht6,if_true,if_false,Af];try rfl,rfl⟩
 refine Z13 ?_;refine Z6 ?_;refine Z0 ?_;refine A2 [0,2,10] ?_
 refine A3 (fun ht10=>?_) (fun ht10=>?_)
 ·refine Z1 ?_;refine A7 Tryz.call122 (eu (s==[116,114,117,101]) _) ?_;refine Z7 ?_;refine vn ?_;exact A8 (B4 (Az jA jS) A6) ⟨by simp only [Hv,ht6,ht10,if_true,if_false,Af];try rfl,rfl⟩
 refine Z20 ?_;refine B3 ?_;refine Bw Tryz.call193 (fun hB=>ALe s [39] _) ?_;refine N4 ?_;refine Bw Tryz.call194 (fun hB=>ALf s [39] (by omega) _) ?_;refine Z0 ?_;refine A2 [0,2,20] ?_
 refine A3 (fun ht20=>?_) (fun ht20=>?_)
 ·have hq:Yd s=true:=ht20
  refine Z2 ?_;refine A7 Tryz.call195 (ALp s (wv hq) hs _) ?_;refine Z0 ?_;refine Z7 ?_;refine vn ?_;exact A8 (B4 (Az jA jS) A6) ⟨by simp only [Hv,ht6,ht10,hq,if_true,if_false,Af];try rfl,rfl⟩
 have hq:Yd s=false:=ht20
 refine Z18 ?_;refine Z2 ?_;refine A7 Tryz.call196 (AJz s hs _) ?_;refine Z86 ?_;refine A2 [2,4,5] ?_;refine Z23 ?_;refine A2 [2,4,5,41] ?_;refine Z91 ?_;refine A2 [2,4,5,41,42] ?_
 refine A3 (fun ht42=>?_) (fun ht42=>?_)
 ·refine Z2 ?_;refine A7 Tryz.call197 (AFo (Bj s).1 _) ?_;refine Z7 ?_;refine vn ?_;exact A8 (B4 (Az jA jS) A6) ⟨by simp only [Hv,ht6,ht10,hq,ht42,if_true,if_false,Af];try rfl,rfl⟩
 refine Z1 ?_;refine A2 [2,5,46] ?_
 refine A3 (fun ht46=>?_) (fun ht46=>?_)
 ·refine Z25 ?_;refine A4 ?_;refine Z7 ?_;refine vn ?_;exact A8 (B4 (Az jA jS) A6) ⟨by simp only [Hv,ht6,ht10,hq,ht42,ht46,if_true,if_false,Af];rw [show (Bj s).2=4 by simpa using ht46];rfl,rfl⟩
 refine Z18 ?_;refine Z25 ?_;refine jz ?_;exact A8 (B4 (Az jA jS) A6) ⟨by simp only [Hv,ht6,ht10,hq,ht42,ht46,if_true,if_false,Af];try rfl,rfl⟩

def blanks:Str:=[32,9,10]
/-- What stands behind blanks and notes. -/
def Gr:Str→Bool→Str
 | [],_=>[]
 | c::r,false=>if blanks.contains c then Gr r false else if c==35 then Gr r true else c::r
 | c::r,true=>if c==10 then Gr r false else Gr r true
def runN (s of:Str):Nat:=s.length-(Lib.trimLeftS s of).length
theorem bq (s of:Str):Qb s of=(runN s of:Int):=by
 have:=Uk s of
 unfold Qb runN
 omega
theorem br (s of:Str):runN s of≤s.length:=Nat.sub_le _ _
theorem ww (s of:Str):s.drop (runN s of)=Lib.trimLeftS s of:=by
 unfold runN Lib.trimLeftS
 have h:∀l:Str,l.drop (l.length-(l.dropWhile (of.contains ·)).length)=l.dropWhile (of.contains ·):=by
  intro l
  have e:=m5 (p:=(of.contains ·)) (l:=l)
  have hl:l.length-(l.dropWhile (of.contains ·)).length=(l.takeWhile (of.contains ·)).length:=by
   have:=congrArg List.length e
   simp only [Aq] at this
   omega
  rw [hl]
  conv=>lhs;rw [←e]
  rw [List.drop_left']
  rw [e]
 exact h s
theorem wx (s of:Str):s.take (runN s of)=s.takeWhile (of.contains ·):=by
 have e:=m5 (p:=(of.contains ·)) (l:=s)
 have hl:runN s of=(s.takeWhile (of.contains ·)).length:=by
  unfold runN Lib.trimLeftS
  have:=congrArg List.length e
  simp only [Aq] at this
  omega
 rw [hl]
 conv=>lhs;rw [←e]
 rw [List.take_left']
 rw [e]
theorem Rt:∀s:Str,Gr (Lib.trimLeftS s blanks) false=Gr s false
 | []=>rfl
 | c::r=>by
  unfold Lib.trimLeftS
  rw [R6]
  by_cases h:blanks.contains c=true
  ·rw [if_pos h,Gr,if_pos h]
   exact Rt r
  rw [if_neg h]
theorem Ye (of:Str):∀(s:Str) (c:UInt8) (t:Str),Lib.trimLeftS s of=c::t→of.contains c=false
 | [],c,t,h=>by cases h
 | b::r,c,t,h=>by
  unfold Lib.trimLeftS at h
  rw [R6] at h
  split at h
  ·exact Ye of r c t h
  rename_i hb
  injection h with h1 h2
  subst h1
  simpa using hb
def Il:Str→Str
 | []=>[]
 | c::r=>if c==10 then r else Il r
theorem AFq (s:Str):(Lib.cut s [10]).2.1=Il s:=by
 unfold Lib.cut
 induction s with
 | nil=>rfl
 | cons c r ih =>
  have hg:=Lib.index_ge r [10]
  rw [Il]
  unfold Lib.index
  by_cases hc:c=10
  ·subst hc
   simp [List.isPrefixOf]
  have h1:([10]:Str).isPrefixOf (c::r)=false:=by simp [List.isPrefixOf,Ne.symm hc]
  have h2:(c==10)=false:=by simpa using hc
  rw [h1,h2]
  simp only [Af,if_false]
  by_cases hi:Lib.index r [10] = -1
  ·rw [hi] at ih ⊢
   simpa using ih
  have h3:(Lib.index r [10] == -1)=false:=by simpa using hi
  rw [h3]
  simp only [Af,if_false]
  rw [if_pos (by omega)] at ih ⊢
  have e:(Lib.index r [10]+1).toNat=(Lib.index r [10]).toNat+1:=by omega
  rw [e]
  rw [←ih]
  show (c::r).drop _=_
  rw [show (Lib.index r [10]).toNat+1+([10]:Str).length=((Lib.index r [10]).toNat+([10]:Str).length)+1 by omega,j7]
theorem Yf:∀t:Str,Gr t true=Gr (Il t) false
 | []=>rfl
 | c::r=>by
  rw [Gr,Il]
  split
  ·rfl
  exact Yf r
theorem Vn:∀t:Str,(Il t).length≤t.length
 | []=>Ap _
 | c::r=>by
  rw [Il]
  split
  ·simp
  have:=Vn r;simp only [Aw];omega
def gapM (s:Str):Nat:=s.length-(Gr s false).length
theorem qm {d:Str} (h:((d==[])==false)=true):d≠[]:=by rintro rfl;simp at h
theorem bt:∀c∈blanks,c.toNat<128:=by decide
/-- The gap is at its end. -/
theorem AB9 {x s:Str} (hx:Gr x false=Gr s false) (h:((Lib.trimLeftS x blanks==[]) || ((((Lib.trimLeftS x blanks).headD 0).toNat:Int) != 35))=true):Gr s false=Lib.trimLeftS x blanks:=by
 rw [←hx,←Rt]
 cases ht:Lib.trimLeftS x blanks with
 | nil=>rfl
 | cons c t =>
  rw [ht] at h
  have hb:=Ye blanks x c t ht
  have hc:(c==35)=false:=by
   simp at h
   rw [beq_eq_false_iff_ne]
   rintro rfl
   exact h rfl
  rw [Gr,hb,hc]
  rfl
theorem AFr {x s:Str} (hx:Gr x false=Gr s false) (h:((Lib.trimLeftS x blanks==[]) || ((((Lib.trimLeftS x blanks).headD 0).toNat:Int) != 35))=false):
  Gr (Lib.cut (Lib.trimLeftS x blanks) [10]).2.1 false=Gr s false∧(Lib.cut (Lib.trimLeftS x blanks) [10]).2.1.length<x.length:=by
 have hl:=Uk x blanks
 rw [AFq,←hx,←Rt x]
 cases ht:Lib.trimLeftS x blanks with
 | nil=>rw [ht] at h;simp at h
 | cons c t =>
  rw [ht] at h hl
  have hc:c=35:=by
   simp at h
   exact Je.1 (by have:(35:UInt8).toNat=35:=rfl;omega)
  subst hc
  have ha:=Vn t
  refine ⟨?_,?_⟩
  ·rw [Il,Gr]
   have e1:blanks.contains 35=false:=by decide
   rw [e1]
   exact (Yf t).symm
  rw [Il]
  simp only [Aw] at hl
  show (Il t).length<_
  omega
theorem AK2 (s:Str) (hs:s.length≤1048576) (Hp:List AObj):AFun Tryz.prog 106 [Ac s] Hp (A5 (gapM s)):=by
 refine Ah [.tmp 2] [0] Tryz.func106 Tryz.ntmps106 (fun d=>?_)
 refine Z58 ?_;refine Z1 ?_;refine Kr ?_
 refine Bh (α:=Str) (fun x=>⟨27,A9 0 (Ac s) (A9 3 (Ac x) (fun _=>.any)),Hp,[],[],none⟩) (fun x=>Gr x false=Gr s false∧x.length≤s.length) (fun x=>x.length) (s) (by simp) (Fq _) rfl (fun x hx=>?_)
 refine Et ?_;refine Eg ?_
 have hx2:=hx.2
 have htl:=Uk x blanks
 refine Z0 ?_;refine A7 Tryz.call90 (c90 x blanks (by omega) (by decide) bt _) ?_
 refine A4 (h:=P7 (runN x blanks) (fun _=>br _ _) (fun _=>Ap _) (ha:=fun _=>bq x blanks)) (hr:=?_)
 rw [ww]
 refine A4 ?_;refine Kr ?_;refine Z32 ?_;refine B3 ?_
 refine B3 (h:=El 0 ((Lib.trimLeftS x blanks).headD 0) (fun hB=>Jn (qm hB))) (hr:=?_)
 refine Z95 ?_;refine A2 [0,3,15] ?_
 refine A3 (fun ht15=>?_) (fun ht15=>?_)
 ·have he:=AB9 hx.1 ht15
  refine Z20 ?_;refine Z63 ?_;refine Ex ?_;refine Ko ?_;refine K.lpR ?_;exact A8 (Ai A6) ⟨by rw [show ((s.length:Int)-(Lib.trimLeftS x blanks).length)=(gapM s:Int) by unfold gapM;rw [he];omega],rfl⟩
 have he:=AFr hx.1 ht15
 refine Z3 ?_;refine Z43 ?_;refine A7 Tryz.call136 (AJw (Lib.trimLeftS x blanks) [10] (by omega) _) ?_;refine Z86 ?_;refine Kr ?_;refine Hc ?_;exact B5 _ ⟨he.1,by omega⟩ he.2 (Bx rfl)

def Do (s of:Str):Str:=s.take (runN s of)
theorem Ib (s of:Str):(Do s of).length≤s.length:=by unfold Do;simp;omega
def Pe (s:Str):Int×Str×Int×Int:=
 if Gp (Do s tails) then (2,Do s tails,(Do s tails).length,0) else if !Fj (Do s tails) then (0,[],0,3) else (1,Do s tails,(Do s tails).length,0)
abbrev wy (r:Int×Str×Int×Int):AV:=.tup [A5 r.1,Ac r.2.1,A5 r.2.2.1,A5 r.2.2.2]
theorem f6:∀c∈tails,c.toNat<128:=by decide
theorem Xw:∀c∈letters,c.toNat<128:=by decide
theorem ALq (s:Str) (hs:s.length≤1048576) (Hp:List AObj):AFun Tryz.prog 137 [Ac s] Hp (wy (Pe s)):=by
 refine Ah [.tmp 2,.tmp 3,.tmp 4,.tmp 5] [0] Tryz.func137 Tryz.ntmps137 (fun d=>?_)
 refine w4 ?_;refine Z1 ?_;refine A7 Tryz.call90 (c90 s tails hs (by decide) f6 _) ?_
 refine A4 (h:=Iv (runN s tails) (fun _=>Av _) (fun _=>br _ _) (hb:=fun _=>bq s tails)) (hr:=?_)
 refine A4 ?_;refine A2 [6] ?_;refine Xp ?_
 refine A7 Tryz.call91 (c91 (Do s tails) (by have:=Ib s tails;omega) _) ?_
 refine A4 ?_;refine A2 [6,11] ?_
 refine A3 (fun ht11=>?_) (fun ht11=>?_)
 ·refine Eg ?_
  have hwl:=Ib s tails
  refine Z61 ?_;refine Z11 ?_;refine vi ?_;exact A8 (Jy A6 A6 A6 A6) ⟨by simp only [Pe,ht11,if_true,if_false,Af];try rfl,rfl⟩
 refine Z2 ?_
 refine A7 Tryz.call60 (c60 (Do s tails) (by have:=Ib s tails;omega) _) ?_
 refine Z0 ?_;refine A2 [6,17] ?_
 refine A3 (fun ht17=>?_) (fun ht17=>?_)
 ·refine Z20 ?_;refine vi ?_;exact AJ6
 refine Z18 ?_;refine Eg ?_
 have hwl:=Ib s tails
 refine Z61 ?_;refine Z11 ?_;refine vg ?_;exact AJ6

def bu (s:Str):Int×Str×Int×Int:=(3,Do s digs,(Do s digs).length,(Hv (Do s digs)).2)
theorem ALr (s:Str) (hs:s.length≤1048576) (Hp:List AObj):AFun Tryz.prog 138 [Ac s] Hp (wy (bu s)):=by
 refine Ah [.tmp 2,.tmp 3,.tmp 4,.tmp 5] [0] Tryz.func138 Tryz.ntmps138 (fun d=>?_)
 refine w4 ?_;refine Z1 ?_;refine A7 Tryz.call90 (c90 s digs hs (by decide) Pd _) ?_
 refine A4 (h:=Iv (runN s digs) (fun _=>Av _) (fun _=>br _ _) (hb:=fun _=>bq s digs)) (hr:=?_)
 refine A4 ?_;refine A2 [6] ?_;refine Z2 ?_
 refine A7 Tryz.call168 (AFp (Do s digs) (by have:=Ib s digs;omega) _) ?_
 refine Xn ?_;refine A2 [6,8] ?_;refine Z20 ?_;refine Z61 ?_;refine vg ?_;exact A8 (Jy A6 A6 A6 A6) ⟨rfl,rfl⟩

/-- Behind a mark: how many bytes up to the one that closes, it too. -/
def D8:Str→Option Nat
 | []=>none
 | [c]=>if c==39 then some 1 else none
 | c::d::t=>if c==39 then (if d==39 then (D8 t).map (·+2) else some 1) else (D8 (d::t)).map (·+1)
theorem Sy {c:UInt8} (h:¬(c==39)=true) (r:Str):D8 (c::r)=(D8 r).map (·+1):=by
 cases r with
 | nil=>simp [D8,h]
 | cons d t=>rw [D8,if_neg h]
theorem Vo (r:Str):D8 (39::r)=match r with
   | []=>some 1
   | d::t=>if d==39 then (D8 t).map (·+2) else some 1:=by
 cases r with
 | nil=>rfl
 | cons d t=>rw [D8];simp
def Kk (s:Str):Int×Str×Int×Int:=
 match D8 (s.drop 1) with
 | none=>(0,[],0,7)
 | some n=>if (Hv (s.take (n+1))).2 != 0 then (0,[],0,3) else (4,(Hv (s.take (n+1))).1.s,((n+1:Nat):Int),0)
theorem Vp:∀l:Str,Lib.indexByte l 39 = -1→D8 l=none
 | [],_=>by rw [D8]
 | c::r,h=>by
  rw [Lib.indexByte] at h
  split at h
  ·omega
  rename_i hc
  rw [Sy hc]
  split at h
  ·rename_i hi
   rw [Vp r (by simpa using hi)]
   rfl
  have:=Lib.indexByte_ge r 39;omega
theorem f7:∀(l:Str) (k:Nat),Lib.indexByte l 39=(k:Int)→k<l.length∧D8 l=(D8 (l.drop k)).map (·+k)∧l[k]? = some 39
 | [],k,h=>by rw [Lib.indexByte] at h;omega
 | c::r,k,h=>by
  rw [Lib.indexByte] at h
  split at h
  ·rename_i hc
   have:k=0:=by omega
   subst this
   refine ⟨by simp,?_,by simpa using hc⟩
   rw [Zq]
   cases D8 (c::r)<;>simp
  rename_i hc
  split at h
  ·omega
  have hg:=Lib.indexByte_ge r 39
  rename_i hi
  have hi':Lib.indexByte r 39 ≠ -1:=by simpa using hi
  obtain ⟨m,rfl⟩:∃m,k=m+1:=⟨k-1,by omega⟩
  obtain ⟨h1,h2,h3⟩:=f7 r m (by omega)
  refine ⟨by simpa using h1,?_,by simpa using h3⟩
  rw [Sy hc,j7,h2]
  cases D8 (r.drop m)<;>simp [J9]
theorem Lx {s:Str} {n:Nat} {c:UInt8} (h:s[n]? = some c):s.drop n=c::s.drop (n+1):=by
 obtain ⟨hlt,he⟩:=Ad.1 h
 rw [Gx hlt,he]
theorem Qc {s:Str} {n:Nat} (h:n<s.length):s[n]? = some (s.getD n 0):=by
 rw [D6,Aa h];rfl
theorem wz {s:Str} {x k:Nat} (h:(decide (((x:Int)+((k:Int)+1))<s.length)==true)=true):x+(k+1)<s.length:=by
 have:=of_decide_eq_true (by simpa using h:decide (((x:Int)+((k:Int)+1))<s.length)=true)
 omega
/-- What a round of the search for the mark that closes comes to. -/
theorem ko {s:Str} {x k:Nat} (h1:1≤x) (hx:D8 (s.drop 1)=(D8 (s.drop x)).map (·+(x-1))) (hk:Lib.indexByte (s.drop x) 39=(k:Int)):
  x+(k+1)≤s.length ∧
   ((decide (((x:Int)+((k:Int)+1))<s.length)&&(((s.getD (x+(k+1)) 0).toNat:Int)==39))=true→x+(k+1)+1≤s.length∧D8 (s.drop 1)=(D8 (s.drop (x+(k+1)+1))).map (·+(x+(k+1)+1-1))) ∧
   ((decide (((x:Int)+((k:Int)+1))<s.length)&&(((s.getD (x+(k+1)) 0).toNat:Int)==39))=false→D8 (s.drop 1)=some (x+k)):=by
 obtain ⟨g1,g2,g3⟩:=f7 _ k hk
 rw [F5] at g1
 rw [F4] at g3
 have e0:(s.drop x).drop k=39::s.drop (x+(k+1)):=by rw [Zp,Lx g3,J9]
 rw [e0] at g2
 refine ⟨by omega,fun h=>?_,fun h=>?_⟩
 ·simp only [Al,decide_eq_true_eq,beq_iff_eq] at h
  have hlt:x+(k+1)<s.length:=by omega
  have hc:s.getD (x+(k+1)) 0=39:=Je.1 (by have:(39:UInt8).toNat=39:=rfl;omega)
  have hd:=Lx (Qc hlt)
  rw [hc] at hd
  refine ⟨by omega,?_⟩
  rw [hx,g2,hd,Vo]
  simp only [beq_self_eq_true,if_true]
  cases D8 (s.drop (x+(k+1)+1)) with
  | none=>rfl
  | some m=>simp;omega
 rw [hx,g2,Vo]
 cases hd:s.drop (x+(k+1)) with
 | nil=>simp;omega
 | cons d t =>
  have hlt:x+(k+1)<s.length:=by
   have:=congrArg List.length hd
   simp at this;omega
  have hg:=Lx (Qc hlt)
  rw [hd] at hg
  injection hg with hg1 hg2
  have hne:(d==39)=false:=by
   rw [hg1,beq_eq_false_iff_ne]
   intro e
   rw [e] at h
   simp at h
   omega
  simp [hne];omega
theorem ALs (s:Str) (h0:1≤s.length) (hs:s.length≤1048576) (Hp:List AObj):AFun Tryz.prog 139 [Ac s] Hp (wy (Kk s)):=by
 refine Ah [.tmp 2,.tmp 3,.tmp 4,.tmp 5] [0] Tryz.func139 Tryz.ntmps139 (fun d=>?_)
 refine w4 ?_;refine Z2 ?_;refine A2 [0,6] ?_
 refine Bh (α:=Nat) (fun x=>⟨44,A9 0 (Ac s) (A9 6 (A5 (x:Nat)) (fun _=>.any)),Hp,[],[],none⟩) (fun x=>1≤x∧x≤s.length∧D8 (s.drop 1)=(D8 (s.drop x)).map (·+(x-1))) (fun x=>s.length-x) (1) ⟨Ap _,h0,by cases D8 (s.drop 1)<;>rfl⟩ (Fq _) rfl (fun x hx=>?_)
 refine Z91 ?_
 refine A4 (h:=P7 x (fun _=>hx.2.1) (fun _=>Ap _)) (hr:=?_)
 refine A7 Tryz.call169 (ALg (s.drop x) 39 _) ?_;refine A4 ?_;refine A2 [0,6,7] ?_;refine Z8 ?_;refine A2 [0,6,7,15] ?_
 refine A3 (fun ht15=>?_) (fun ht15=>?_)
 ·have hk:Lib.indexByte (s.drop x) 39 = -1:=by have:=Lib.indexByte_ge (s.drop x) 39;simp at ht15;omega
  have hcq:D8 (s.drop 1)=none:=by rw [hx.2.2,Vp _ hk];rfl
  refine Z20 ?_;refine AAl ?_;refine Ko ?_;refine K.lpR ?_;exact A8 (Jy A6 A6 A6 A6) ⟨by simp only [Kk,hcq],rfl⟩
 obtain ⟨k0,hk⟩:=j2 (show 0≤Lib.indexByte (s.drop x) 39 by simp at ht15;omega)
 rw [hk]
 refine jt ?_
 have hst:=ko hx.1 hx.2.2 hk
 refine Z86 ?_;refine A2 [0,6] ?_;refine Lu ?_;refine Z6 ?_
 refine B3 (h:=El (x+(k0+1)) (s.getD (x+(k0+1)) 0) (fun hB=>Qc (wz hB))) (hr:=?_)
 refine Z95 ?_;refine A2 [0,6,29] ?_
 refine A3 (fun ht29=>?_) (fun ht29=>?_)
 ·have hon:=hst.2.1 ht29
  refine Z13 ?_;refine A2 [0,6] ?_;refine Z36 ?_;refine K.blE ?_;exact B5 ((x+(k0+1))+1) ⟨by omega,hon.1,hon.2⟩ (by omega) (Bx rfl)
 have hcq:=hst.2.2 ht29
 refine Z88 ?_
 refine A4 (h:=Iv (x+(k0+1)) (fun _=>Av _) (fun _=>hst.1)) (hr:=?_)
 refine A7 Tryz.call168 (AFp (s.take (x+(k0+1))) (by simp;omega) _) ?_
 refine Xn ?_;refine A2 [6,8,9] ?_;refine Z8 ?_;refine A2 [6,8,40] ?_
 refine A3 (fun ht40=>?_) (fun ht40=>?_)
 ·refine Z20 ?_;refine AAl ?_;refine Ko ?_;refine K.lpR ?_;exact A8 (Jy A6 A6 A6 A6) ⟨by simp only [Kk,hcq,show x+k0+1=x+(k0+1) by omega];rw [if_pos ht40],rfl⟩
 refine Z3 ?_;refine Ct [0,1,0,0,11,31,63] 5 Aj (by kernel_rfl) ?_;refine ee ?_;refine Ee ?_;refine Z0 ?_;refine vg ?_;refine Ko ?_;refine K.lpR ?_;exact A8 (Jy A6 A6 A6 A6) ⟨by simp only [Kk,hcq,show x+k0+1=x+(k0+1) by omega];rw [if_neg (by rw [ht40];simp)];rfl,rfl⟩

def mh:Str:=[60,61,32,62,61,32,33,61]
def mi:Str:=[40,41,44,59,61,60,62,43,45,42,47,37,38,58]
def Vq (s:Str):Int×Str×Int×Int:=
 if (decide ((1:Int)<s.length)&&Lib.contains mh (s.take 2))&&(((s.getD 1 0).toNat:Int)==61) then (5,s.take 2,2,0)
 else if Lib.contains mi (s.take 1) then (5,s.take 1,1,0) else (0,[],0,7)
theorem qn {s:Str} {b c:Bool} (h:(((decide ((1:Int)<s.length)&&b)&&c)==true)=true):1<s.length:=by
 revert h
 cases hd:decide ((1:Int)<s.length) with
 | true=>intro _;have:=of_decide_eq_true hd;omega
 | false=>intro h;simp at h
theorem Vr {s:Str} {b:Bool} (h:((decide ((1:Int)<s.length)&&b)==true)=true):1<s.length:=qn (c:=true) (by rw [P4];exact h)
theorem kp {s:Str} (h:(decide ((1:Int)<s.length)==true)=true):2≤s.length:=Vr (b:=true) (by rw [P4];exact h)
theorem ALt (s:Str) (h0:1≤s.length) (Hp:List AObj):AFun Tryz.prog 140 [Ac s] Hp (wy (Vq s)):=by
 refine Ah [.tmp 2,.tmp 3,.tmp 4,.tmp 5] [0] Tryz.func140 Tryz.ntmps140 (fun d=>?_)
 refine w4 ?_;refine Z48 ?_;refine B3 ?_
 refine B3 (h:=Iv 2 (fun _=>Av _) (fun hB=>kp hB)) (hr:=?_)
 refine Bw Tryz.call125 (fun hB=>qd mh (s.take 2) (by decide) _) ?_;refine N4 ?_
 refine B3 (h:=El 1 (s.getD 1 0) (fun hB=>Qc (Vr hB))) (hr:=?_)
 refine Z95 ?_;refine A2 [0,18] ?_
 refine A3 (fun ht18=>?_) (fun ht18=>?_)
 ·have h2:2≤s.length:=by revert ht18;cases hd:decide ((1:Int)<s.length) with
   | true=>intro _;have:=of_decide_eq_true hd;omega
   | false=>intro h;simp at h
  refine Ct [0,1,0,7,15,31] 3 Aj (by kernel_rfl) ?_;refine An ?_
  refine An (h:=Iv 2 (fun _=>Av _) (fun _=>h2)) (hr:=?_)
  refine Tr ?_;refine Z11 ?_;refine AAl ?_;exact A8 (Jy A6 A6 A6 A6) ⟨by simp only [Vq,ht18,if_true,if_false,Af];try rfl,rfl⟩
 refine Kq ?_
 refine A4 (h:=Iv 1 (fun _=>Av _) (fun _=>h0)) (hr:=?_)
 refine A7 Tryz.call125 (qd mi (s.take 1) (by decide) _) ?_;refine A2 [0,23] ?_
 refine A3 (fun ht23=>?_) (fun ht23=>?_)
 ·refine Ct [0,1,0,7,15,31] 3 Aj (by kernel_rfl) ?_;refine An ?_
  refine An (h:=Iv 1 (fun _=>Av _) (fun _=>h0)) (hr:=?_)
  refine Tr ?_;refine Z11 ?_;refine AAl ?_;exact AJ7
 refine Tv ?_;refine vg ?_;exact AJ7

def Cf (s:Str):Int×Str×Int×Int:=
 if decide (0<Qb (s.take 1) letters) then Pe s else if decide (0<Qb (s.take 1) digs) then bu s else if ((s.getD 0 0).toNat:Int)==39 then Kk s else Vq s
theorem ALu (s:Str) (h0:1≤s.length) (hs:s.length≤1048576) (Hp:List AObj):AFun Tryz.prog 107 [Ac s] Hp (wy (Cf s)):=by
 refine Ah [.tmp 2,.tmp 3,.tmp 4,.tmp 5] [0] Tryz.func107 Tryz.ntmps107 (fun d=>?_)
 refine w4 ?_;refine Xp ?_
 refine A4 (h:=Iv 1 (fun _=>Av _) (fun _=>h0)) (hr:=?_)
 refine A7 Tryz.call90 (c90 (s.take 1) letters (by simp;omega) (by decide) Xw _) ?_
 refine Z0 ?_;refine A2 [0,6] ?_
 refine A3 (fun ht6=>?_) (fun ht6=>?_)
 ·refine Z2 ?_;refine A7 Tryz.call137 (ALq s hs _) ?_;refine Z61 ?_;refine Z61 ?_;refine vi ?_;exact A8 (Jy A6 A6 A6 A6) ⟨by simp only [Cf,ht6,if_true,if_false,Af],rfl⟩
 refine Z2 ?_
 refine A4 (h:=Iv 1 (fun _=>Av _) (fun _=>h0)) (hr:=?_)
 refine A7 Tryz.call90 (c90 (s.take 1) digs (by simp;omega) (by decide) Pd _) ?_
 refine Z0 ?_;refine A2 [0,17] ?_
 refine A3 (fun ht17=>?_) (fun ht17=>?_)
 ·refine Z2 ?_;refine A7 Tryz.call138 (ALr s hs _) ?_;refine Z61 ?_;refine Z61 ?_;refine vi ?_;exact A8 (Jy A6 A6 A6 A6) ⟨by simp only [Cf,ht6,ht17,if_true,if_false,Af],rfl⟩
 refine Z2 ?_
 refine A4 (h:=El 0 (s.getD 0 0) (fun _=>Qc h0)) (hr:=?_)
 refine Z0 ?_;refine A2 [0,28] ?_
 refine A3 (fun ht28=>?_) (fun ht28=>?_)
 ·refine Z2 ?_;refine A7 Tryz.call139 (ALs s h0 hs _) ?_;refine Z61 ?_;refine Z61 ?_;refine vi ?_;exact AJ8
 refine Z18 ?_;refine Z2 ?_;refine A7 Tryz.call140 (ALt s h0 _) ?_;refine Z61 ?_;refine Z61 ?_;refine vg ?_;exact AJ8

structure Tok where
 kind:Int
 text:Str
 at_:Nat
 deriving DecidableEq
abbrev Ic (t:Tok):AV:=.agg [.v (.int .i64 t.kind),.v (sv t.text),.v (.int .i64 (t.at_:Int))]
abbrev x5 (l:List Tok):AV:=.slice false 3 (l.map Ic)
theorem mj {c:UInt8} {of:Str} (h:decide (0<Qb ([c]:Str) of)=true):of.contains c=true:=by
 have:=of_decide_eq_true h
 unfold Qb Lib.trimLeftS at this
 rw [R6] at this
 cases hc:of.contains c with
 | true=>rfl
 | false=>rw [hc] at this;simp at this
theorem Vs {c:UInt8} {r of:Str} (h:of.contains c=true):1≤(Do (c::r) of).length:=by
 unfold Do
 rw [wx,List.takeWhile_cons,h]
 simp
theorem Xx:∀c:UInt8,letters.contains c=true→tails.contains c=true:=by
 have h:((List.range 256).all fun n => !letters.contains (UInt8.ofNat n) || tails.contains (UInt8.ofNat n))=true:=by kernel_rfl
 intro c hc
 have:=B1.1 h c.toNat (Nq.2 c.toNat_lt)
 rw [show UInt8.ofNat c.toNat=c by simp,hc] at this
 simpa using this
theorem Vt:∀(l:Str) (n:Nat),D8 l=some n→1≤n∧n≤l.length
 | [],n,h=>by cases h
 | [c],n,h=>by
  rw [D8] at h
  split at h
  ·injection h with h;subst h;simp
  cases h
 | c::d::t,n,h=>by
  rw [D8] at h
  split at h
  ·split at h
   ·rw [Dw] at h
    obtain ⟨m,hm,rfl⟩:=h
    have:=Vt t m hm
    simp only [Aw];omega
   injection h with h;subst h;simp
  rw [Dw] at h
  obtain ⟨m,hm,rfl⟩:=h
  have:=Vt (d::t) m hm
  simp only [Aw] at this ⊢;omega
theorem ml {s:Str} (h0:1≤s.length) (h:(Cf s).2.2.2=0):∃n:Nat,(Cf s).2.2.1=(n:Int)∧1≤n∧n≤s.length:=by
 cases s with
 | nil=>simp at h0
 | cons c r =>
  unfold Cf at h ⊢
  split at h
  ·rename_i h1
   rw [if_pos h1]
   have hc:=Xx c (mj h1)
   have hw:=Vs (r:=r) hc
   have hl:=Ib (c::r) tails
   unfold Pe at h ⊢
   split at h
   ·rename_i h2;rw [if_pos h2];exact ⟨_,rfl,hw,hl⟩
   rename_i h2
   rw [if_neg h2]
   split at h
   ·exact w8
   rename_i h3;rw [if_neg h3];exact ⟨_,rfl,hw,hl⟩
  rename_i h1
  rw [if_neg h1]
  split at h
  ·rename_i h2
   rw [if_pos h2]
   exact ⟨_,rfl,Vs (r:=r) (mj h2),Ib _ _⟩
  rename_i h2
  rw [if_neg h2]
  split at h
  ·rename_i h3
   rw [if_pos h3]
   unfold Kk at h ⊢
   split at h
   ·exact w8
   rename_i n hn
   split at h
   ·exact w8
   rename_i h4
   simp only [if_neg h4]
   have:=Vt _ n hn
   simp at this
   exact ⟨n+1,rfl,by omega,by simp only [Aw];omega⟩
  rename_i h3
  rw [if_neg h3]
  unfold Vq at h ⊢
  split at h
  ·rename_i h4
   rw [if_pos h4]
   refine ⟨2,rfl,by omega,?_⟩
   simp only [Al,decide_eq_true_eq] at h4
   have:=h4.1.1
   omega
  rename_i h4
  rw [if_neg h4]
  split at h
  ·rename_i h5;rw [if_pos h5];exact ⟨1,rfl,by omega,h0⟩
  exact w8
/-- The words from a place on, up to one that is wrong. -/
def Id:Nat→Nat→Str→List (Tok×Int)
 | 0,_,_=>[]
 | f+1,k,s=>if s==[] then [] else
  (⟨(Cf s).1,(Cf s).2.1,k⟩,(Cf s).2.2.2)::(if (Cf s).2.2.2==0 then Id f (k+(Cf s).2.2.1.toNat+gapM (s.drop (Cf s).2.2.1.toNat)) ((s.drop (Cf s).2.2.1.toNat).drop (gapM (s.drop (Cf s).2.2.1.toNat))) else [])
def Cd (s:Str):List (Tok×Int):=Id (s.length+1) (gapM s) (s.drop (gapM s))
theorem kq (s:Str):gapM s≤s.length:=Nat.sub_le _ _
end Go.SX.Nb
namespace Go.SX
variable [GI:GlobInv]
open Classical
section
variable {P:Program} {d:Nat} {st:St} {dst:Option Tmp} {ty:TypeId} {pos:String} {aft:Array Edge} {gd:Option (Nat×Bool)}
end
section
variable {P:Program} {d:Nat} {ops:Array Oper}
variable {sz:Nat} {fr:Nat→AV} {up own own':List AObj} {dfs:List Nat} {rnd:Option Nat} {Q:St→Prop} {rest:List Oper} {s:Nat} {ty:TypeId} {pos:String} {aft:Array Edge}
end
end Go.SX
namespace Go.SX
variable [GI:GlobInv]
open Classical
variable {P:Program} {d:Nat} {l0:List Oper} {kd:Nat} {ops:Array Oper} {rest:List Oper} {sz:Nat} {fr:Nat→AV} {up own:List AObj} {dfs:List Nat} {rnd:Option Nat} {Q:St→Prop} {s:Nat} {ty:TypeId} {pos:String} {aft:Array Edge} {E:List Oper→(Nat→AV)→Prop}
theorem R.nilTmp {l:List Oper} (s k:Nat) (o:Bool) (hr:ARun P d ops l ⟨sz,A9 s (.slice o k []) fr,up,own,dfs,rnd⟩ Q) (h:fr s=.nil:=by exact sL0):
  ARun P d ops l ⟨sz,fr,up,own,dfs,rnd⟩ Q:=
 uq (st':=⟨sz,A9 s (.slice o k []) fr,up,own,dfs,rnd⟩) (Ux (s:=⟨sz,fr,up,own,dfs,rnd⟩) fun i=>by
  show Le (fr i) (A9 s (.slice o k []) fr i)
  unfold A9
  by_cases hi:i=s
  ·subst hi;rw [if_pos rfl,h];exact .nil _ _
  rw [if_neg hi];exact .refl _) hr
/-! A slice without room behind its end: whoever appends to it gets a new one. -/
theorem kr (k:Nat) (xs:List AV):(AV.full k xs).strip=.full k xs:=rfl
theorem kt (k:Nat) (xs:List AV):(AV.full k xs).cells=[.full k xs]:=rfl
theorem x6 (k:Nat) (xs:List AV):(AV.full k xs).one=true:=rfl
attribute [go_sem] kr kt x6
section
variable {KP:List PanicEntry→St→Prop} {up own:(Nat→Bool)→List AObj} {S:List SegY} {l:List Oper} {T F:List Nat}
/-- The p-th of those that turn the heap: a store into an object of whoever waits. -/
theorem Y.storeUp {t t':TypeId} {p x:Operand} {o off k pn:Nat} {y:AV} {ys cs cs':List AV} (hsz:∀w,(Go.sizeOf t).run P w=.ok k w)
  (hU:∀B:Nat→Bool,B pn=false→(up B)[o]? = some (.cells t' cs)∧up (upd B pn)=(up B).set o (.cells t' cs')∧own (upd B pn)=own B∧∀y∈ys,Low (up B).length y)
  (h:ChainY P d l0 sz up own dfs rnd KP E S l fr)
  (hp:B9 fr p=.ptr o off:=by exact sL0) (hx:B9 fr x=y:=by exact sL0) (hc:y.cells=ys:=by exact sL0) (hk:ys.length=k:=by rfl)
  (h1:ys.all AV.one=true:=by exact sL2) (hfit:off+k≤cs.length:=by exact sL1) (hput:Bz cs off ys=cs':=by exact sL0):
  ChainY P d l0 sz up own dfs rnd KP E (.s [] (some pn) T F::S) (⟨none,.store t p x,ty,pos,aft,none⟩::l) fr:=by
 subst hput
 subst hc
 refine ⟨_,l,[],rfl,⟨rfl,rfl,fun B f _ _ hB hf=>.of ?_⟩,h⟩
 obtain ⟨a1,a2,a3,a4⟩:=hU B (hB pn rfl)
 have e:B9 f p=.ptr o off:=by rw [agr hf (by simp [Op.operands])];exact hp
 have ex:B9 f x=y:=by rw [agr hf (by simp [Op.operands])];exact hx
 refine AOp.eqTo (AOp.storeUp (st:=⟨sz,f,up B,own B,dfs,rnd⟩) hsz e a1 ex hk h1 hfit a4) ?_
 show _=St.mk sz f (up (upd B pn)) (own (upd B pn)) dfs rnd
 rw [a2,a3]
end
end Go.SX
