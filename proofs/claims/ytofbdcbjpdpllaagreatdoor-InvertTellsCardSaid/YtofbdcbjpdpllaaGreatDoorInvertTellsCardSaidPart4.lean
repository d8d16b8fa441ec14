/- On the way (part 4). -/
import Derived.Below
import Derived.Test.YtofbdcbjpdpllaaGreatDoorProg
import Derived.KernelRfl
import Derived.Shelf.Strconv.Itoa4
import Derived.Shelf.Strings.SplitShaped
import Derived.Shelf.Strings.SlTrimAscii
import Derived.Shelf.Strings.OnBuilder
import Derived.Shelf.Strings.Replace
import Derived.Shelf.Small.Strs
import Derived.Shelf.Strings.Prefix
import Derived.Shelf.Strconv.ErrVarParseInt
import Derived.Shelf.Bits.Mul64
import Derived.Shelf.Strings.Builder1
import Derived.Shelf.Strings.Cut
import Derived.Lib.SplitLaws
import Derived.LaidEql
import Derived.Stop.Asserts
import Derived.RowKitTokens
import Derived.WalkKit
import Derived.Lib.AtoiErrMem
import Derived.Lib.Strings
import Derived.BigCall
import Derived.Lib.ParseIntB
import Derived.Test.YtofbdcbjpdpllaaGreatDoorInvertTellsCardSaidPart3
set_option linter.all false
namespace Go.SX
variable [GI:GlobInv]
open Classical Go.RowKit
section
variable {P:Program} {g:FuncId} {Hp:List AObj}

/-- What is known of package-level variables, of a world alone. -/
def Lc (w:World):Prop:=∀x∈GI.blocks,∃o,w.heap[x.1]? = some o∧x.2 o

theorem fq {G:Gh} {w:World} {xs:List Value} {vs:Array Value} (hn:vs.size=(xs.map AV.v).length) (h:∀(i:Nat) (y:AV) (u:Value),(xs.map AV.v)[i]? = some y→vs[i]? = some u→∃l,Rep G w l y u):vs=xs.toArray:=by
 apply AA6
 ·simpa using hn
 intro i h1 h2
 have hi:i<xs.length:=by simpa using h2
 obtain ⟨l,hr⟩:=h i (.v xs[i]) vs[i] (by simp [hi]) (F7 h1)
 have:=O0 hr
 simpa using this

theorem He {G:Gh} {w w':World} (hT:TagOK G w) (hb:Below w.heap.size w w') {b o:Nat} (h:G.tag b o≠.free):w'.cell? ⟨b,o,none⟩=w.cell? ⟨b,o,none⟩∧w'.frozen? ⟨b,o,none⟩=w.frozen? ⟨b,o,none⟩:=by
 obtain ⟨u,hu⟩:=hT.ex b o h
 have hlt:b<w.heap.size:=World.block_lt_of_cell? _ _ hu
 have:=hb.block b hlt
 exact ⟨F3 this,E4 this⟩

theorem Xy {G:Gh} {w w':World} (hT:TagOK G w) (hb:Below w.heap.size w w'):Turn G w G w':=
 ⟨fun b o h=>⟨h,(He hT hb (by rw [h];simp)).1⟩,fun _ _ _ h=>h,fun _ _ _ h=>h,Ao _,fun _ _=>rfl,hb.os,hb.tape,hb.output,hb.size,L1 (fun b hv=>hb.block b hv.1) hb.size (fun _ _ _=>.inl rfl) (fun _ hi=>.inl ⟨hi,rfl⟩)⟩

theorem o8 {G:Gh} {H:List AObj} {w w':World} (hH:HeapRel G H w) (hT:TagOK G w) (hb:Below w.heap.size w w'):HeapRel G H w'∧TagOK G w':=by
 have T:=Xy hT hb
 refine ⟨⟨fun i x hx=>?_,hH.n,hH.inj⟩,⟨fun b o h=>?_,fun b o i h=>?_,fun b o L h=>?_,hT.globKeep T.old⟩⟩
 ·have hi:i<G.n:=by rw [hH.n];exact (Ak.1 hx).1
  exact T.objRel hi (hb.block _ (Ot hH i hi)) (hH.obj i x hx) (fun b h=>hb.block b h.lt)
 ·rw [(He hT hb h).1];exact hT.ex b o h
 ·rw [(He hT hb (by rw [h];simp)).2];exact hT.obj b o i h
 rw [(He hT hb (by rw [h];simp)).2];exact hT.tail b o L h

/-- A function of plain values that hands back a plain value. -/
theorem AFun.lib {xs:List Value} {r:AV} {v:Value} (hr:∀G w,Rep G w none r v) (h:∀w,Lc w→Calls P g xs.toArray w (fun e w'=>e=.returned v∧Below w.heap.size w w')):AFun P g (xs.map .v) Hp r:=by
 intro d G w vs hn hv hH hT hTop
 have hvs:=fq hn (fun i y u a b=>⟨_,hv i y u a b⟩)
 subst hvs
 refine (callsIn_wide.2 (h w (fun x hx=>let ⟨_,u,a,b⟩:=hT.glob x hx;⟨u,a,b⟩))).mono ?_
 rintro e w' ⟨rfl,hb⟩
 obtain ⟨h1,h2⟩:=o8 hH hT hb
 exact ⟨v,G,r,Hp,rfl,(hr G w').lift,h1,h2,(Xy hT hb).keep _,rfl,rfl,rfl⟩


/-- A function of plain values that hands back a new slice of plain values. -/
theorem AFun.libSlice {xs ys:List Value} {t:TypeId} (hone:∀y∈ys,y.oneCell'=true) (h:∀w,Lc w→Calls P g xs.toArray w (fun e w'=>e=.returned (.slice (some ⟨w.heap.size,0,none⟩) ys.length ys.length)∧w'=w.alloc (.cells ys.toArray t))):
  AFun P g (xs.map .v) Hp (.slice false 1 (ys.map .v)):=by
 intro d G w vs hn hv hH hT hTop
 have hvs:=fq hn (fun i y u a b=>⟨_,hv i y u a b⟩)
 subst hvs
 refine (callsIn_wide.2 (h w (fun x hx=>let ⟨_,u,a,b⟩:=hT.glob x hx;⟨u,a,b⟩))).mono ?_
 rintro e w' ⟨rfl,rfl⟩
 have hst:StRel (d+1) G ⟨0,fun _=>.any,Hp,[],[],none⟩ { tmps:=#[],defers:=[] } w:=
  ⟨rfl,fun s=>.any _ _,by simpa using hH,(by rw [L2 hTop];rfl),(fun o ho=>by simp at ho),S9,(fun o ho=>by simp at ho),hT,(fun l hl=>by cases hl),Xf hH,Wt hTop⟩
 obtain ⟨G',g1,T,g2⟩:=Ty hst t ys.toArray
 refine ⟨_,G',_,Hp,rfl,?_,by simpa using g1.heap,g1.tags,T.keep _,rfl,rfl,rfl⟩
 refine .slice _ false 1 _ _ _ _ (fun i j=>ys.toArray.getD i undef) rfl (by simp) (Ao _) (fun x hx=>?_) (fun x hx y hy=>?_) (fun i x j y hx hy=>?_) (fun i x j y hx hy=>?_) (fun h=>by cases h)
 ·obtain ⟨z,_,rfl⟩:=Dm.1 hx
  rfl
 ·obtain ⟨z,hz,rfl⟩:=Dm.1 hx
  have:y=.v z:=by simpa [AV.cells] using hy
  subst this
  exact hone z hz
 all_goals
  rw [Cp,Ez] at hx
  obtain ⟨z,hz,rfl⟩:=hx
  have hlt:i<ys.length:=(Ak.1 hz).1
  have hj:j=0:=by
   match j,hy with
   | 0,_=>rfl
   | j+1,hy=>simp [AV.cells] at hy
  subst hj
 ·refine ⟨by simpa using g2 i (by simpa using hlt),?_⟩
  rw [World.cell?_alloc_new]
  simp [hlt]
 have:y=.v z:=by simpa [AV.cells] using hy.symm
 subst this
 have e:ys.toArray.getD i undef=z:=by
  have:=Ae hlt
  rw [this] at hz
  injection hz with hz
  simp [hlt,hz]
 rw [e]
 exact .v _ _
/-- A function that hands back a plain value and, behind an interface value, a new record of plain values. -/
theorem AFun.libErr {xs cs:List Value} {n:Value} {T te:TypeId} (hone:∀y∈cs,y.oneCell'=true) (h:∀w,Lc w→Calls P g xs.toArray w (fun e w'=>∃N,e=.returned (.tuple #[n,.iface T (.pointer (some ⟨N,0,none⟩))])∧w.heap.size≤N∧w'.heap[N]? = some (.cells cs.toArray te (0,0))∧Below w.heap.size w w')):
  AFun P g (xs.map .v) Hp (.tup [.v n,.iface T (.ro (cs.map .v))]):=by
 intro d G w vs hn hv hH hT hTop
 have hvs:=fq hn (fun i y u a b=>⟨_,hv i y u a b⟩)
 subst hvs
 refine (callsIn_wide.2 (h w (fun x hx=>let ⟨_,u,a,b⟩:=hT.glob x hx;⟨u,a,b⟩))).mono ?_
 rintro e w' ⟨N,rfl,hN,hcell,hb⟩
 have hfree:∀o,G.tag N o=.free:=fun o=>Ft hT _ o hN
 let G':Gh:={ G with tag:=fun b o=>if b=N∧o<cs.length then .fix else G.tag b o }
 have hne:∀b o,G.tag b o≠.free→¬(b=N∧o<cs.length):=fun b o hb hc=>by rw [hc.1] at hb;exact hb (hfree o)
 have hnew:∀o,o<cs.length→w'.cell? ⟨N,o,none⟩=cs[o]? := fun o ho=>by simp [World.cell?,hcell,ho]
 have T1:Turn G w G' w':=by
  refine ⟨fun b o h=>⟨?_,(He hT hb (by rw [h];simp)).1⟩,fun b o L h=>?_,fun b o i h=>?_,Ao _,fun _ _=>rfl,hb.os,hb.tape,hb.output,hb.size,
   L1 (fun b hv=>hb.block b hv.1) hb.size (fun b o hlt=>.inl ?_) (fun _ hi=>.inl ⟨hi,rfl⟩)⟩
  ·simp only [G'];rw [if_neg (hne b o (by rw [h];simp))];exact h
  ·simp only [G'];rw [if_neg (hne b o (by rw [h];simp))];exact h
  ·simp only [G'];rw [if_neg (hne b o (by rw [h];simp))];exact h
  simp only [G'];rw [if_neg (by omega)]
 have hH':HeapRel G' Hp w':=⟨fun i x hx=>by
  have hi:i<G.n:=by rw [hH.n];exact (Ak.1 hx).1
  exact T1.objRel hi (hb.block _ (Ot hH i hi)) (hH.obj i x hx) (fun b h=>hb.block b h.lt),hH.n,hH.inj⟩
 have hT':TagOK G' w':=by
  refine ⟨fun b o h=>?_,fun b o i h=>?_,fun b o L h=>?_,hT.globKeep T1.old⟩
  ·simp only [G'] at h
   split at h
   ·rename_i hc;obtain ⟨rfl,ho⟩:=hc;exact ⟨_,(hnew o ho).trans (Ae ho)⟩
   rw [(He hT hb h).1];exact hT.ex b o h
  ·simp only [G'] at h
   split at h
   ·cases h
   rw [(He hT hb (by rw [h];simp)).2];exact hT.obj b o i h
  simp only [G'] at h
  split at h
  ·cases h
  rw [(He hT hb (by rw [h];simp)).2];exact hT.tail b o L h
 refine ⟨_,G',_,Hp,rfl,?_,hH',hT',T1.keep _,rfl,rfl,rfl⟩
 refine .tup _ _ _ rfl (fun i y u hy hu=>?_)
 match i with
 | 0=>simp at hy hu;subst hy;subst hu;exact .v _ _
 | 1 =>
  simp at hy hu;subst hy;subst hu
  refine .iface _ _ _ _ (.ro _ _ ⟨N,0,none⟩ (fun j=>cs.getD j undef) rfl (fun y hy=>?_) (fun j y hy=>?_) (fun j y hy=>?_))
  ·obtain ⟨z,hz,rfl⟩:=Dm.1 hy
   exact hone z hz
  all_goals
   rw [Cp,Ez] at hy
   obtain ⟨z,hz,rfl⟩:=hy
   have hlt:j<cs.length:=(Ak.1 hz).1
   have e:cs.getD j undef=z:=by rw [Cz,hz];rfl
  ·refine ⟨by simp [G',hlt],?_⟩
   rw [C9,hnew j hlt,hz,e]
  rw [e];exact .v _ _
 | i+2=>simp at hy
theorem TagOK.globIn {G:Gh} {w:World} (h:TagOK G w):Lc w:=fun x hx=>(h.glob x hx).2
/-- A package-level variable of which something is known. -/
theorem R.loadGlob {d:Nat} {ops:Array Oper} {rest:List Oper} {sz:Nat} {fr:Nat→AV} {up own:List AObj} {dfs:List Nat} {rnd:Option Nat} {Q:St→Prop} {s:Nat} {ty:TypeId} {pos:String} {aft:Array Edge} {t:TypeId} {gl:Nat} {v:Value}
  (hagg:∀w,(isAgg t).run P w=.ok false w) (hv:∀w,Lc w→w.cell? ⟨gl,0,none⟩=some v) (hr:ARun P d ops rest ⟨sz,Aa s (.v v) fr,up,own,dfs,rnd⟩ Q) (hs:Nat.blt s sz=true:=by rfl):
  ARun P d ops (⟨some s,.load t (.global gl),ty,pos,aft,none⟩::rest) ⟨sz,fr,up,own,dfs,rnd⟩ Q:=by
 refine ARun.v rfl rfl (by simpa using hs) (Cq (by intro c h;cases h) fun G a w h=>⟨v,?_,.v _ _⟩) hr
 have hc:=hv w h.tags.globIn
 have e:a.eval (.global gl)=.pointer (some ⟨gl,0,none⟩):=rfl
 simp [execOp,e,Instr.loadAt,Instr.sureAddr,loadVar,hagg,hc]
end
end Go.SX
namespace Go.SX
def Lx:=@AFun.lib
end Go.SX
namespace Go.SX.Nb
open Go Go.SX Go.Proofs
set_option maxRecDepth 4000

/-- Where strconv.ErrRange points. -/
class ErrAt where
 b:Addr
 bd:Nat:=0
 bl:List Deferred:=[]
/-- The package-level variables of which something is known: bytealg.MaxLen is a number; strconv.ErrRange is an error of errors.New's make; the table of powers of ten. -/
def bn [E:ErrAt]:List (Nat×(Obj→Prop)):=[(0,fun o=>∃m t f,o=.cells #[.int .i64 m] t f),(1,fun o=>∃t f,o=.cells #[.iface 347 (.pointer (some E.b))] t f),(4,fun o=>∃t f,o=.cells (Lib.pow10Tab.map fun z=>Value.int .u64 z).toArray t f)]
instance globInv [E:ErrAt]:GlobInv:={ blocks:=bn,bd:=E.bd,bl:=E.bl }
variable [ErrAt]

abbrev Str:=List UInt8
structure Col where
 name:Str
 kind:Int
 deriving DecidableEq
structure Val where
 kind:Int
 n:Int
 s:Str
 deriving DecidableEq
abbrev Ac (s:Str):AV:=.v (sv s)
abbrev A5 (n:Int):AV:=.v (.int .i64 n)
abbrev Bw (n:Int):AV:=.v (.int .u64 n)
abbrev At (b:Bool):AV:=.v (.bool b)
abbrev D8 (c:Col):AV:=.agg [.v (sv c.name),.v (.int .i64 c.kind)]
abbrev B0 (c:List Col):AV:=.slice false 2 (c.map D8)
abbrev Ca (v:Val):AV:=.agg [.v (.int .i64 v.kind),.v (.int .i64 v.n),.v (sv v.s)]
abbrev P1 (l:List Val):AV:=.slice false 3 (l.map Ca)
abbrev En (l:List Str):AV:=.slice false 1 (l.map Ac)
theorem B3 {α β:Type} {f:α→β} {l:List α} {i:Nat} (h:i<l.length):(l.map f)[i]? = some (f l[i]):=by simp [h]
theorem Am:Tryz.prog.follows .mixedOrders=true:=by kernel_rfl
theorem Ud:Tryz.prog.eqGuardType Tryz.prog.depth 23=false:=by kernel_rfl
theorem Ho (k n k' n':Int) (s s':List UInt8) (w:World):(Op.equal 23 (.agg #[.int .i64 k,.int .i64 n,.string ⟨s.toArray⟩]) (.agg #[.int .i64 k',.int .i64 n',.string ⟨s'.toArray⟩])).run Tryz.prog w=.ok (k==k'&&n==n'&&s==s') w:=by
 have h1:Tryz.prog.stoodInHeld 23=false:=by kernel_rfl
 show (Op.equalIn (9999+1) _ _ _).run _ _=_
 rw [Op.equalIn]
 generalize hd:(9999:Nat)=d
 obtain ⟨d,rfl⟩:∃e,d=e+1:=⟨9998,hd.symm⟩
 clear hd
 simp [run_underlying Tryz.underlying23,h1,part,AAr _ _ _ _ _ _ Tryz.underlying3,AAr _ _ _ _ _ _ Tryz.underlying2,AJd _ _ _ _ _ Tryz.underlying9,Tryz.isAgg3,Tryz.isAgg2,Tryz.isAgg9]
 by_cases e1:k=k'<;>by_cases e2:n=n'<;>by_cases e3:s=s'<;>simp [e1,e2,e3]
end Go.SX.Nb
namespace Go.Proofs
open Go Go.Shelf
theorem ly {p:Prop} (h:p:=by repeat' first|kernel_rfl|(intro w;kernel_rfl)|constructor):p:=h
def Tryz.ren144:Ren where
 f:=fun x=>match x with|144=>131|143=>168|219=>215|217=>263|225=>264|224=>265|267=>266|266=>298|314=>299|n=>n
 t:=fun x=>match x with|9=>9|4=>4|3=>3|5=>5|46=>34|146=>302|51=>301|n=>n
 g:=fun x=>match x with|1=>0|n=>n
theorem Tryz.lays144:Lays.n144 Tryz.prog Tryz.ren144:=ly
def Tryz.ren145:Ren where
 f:=fun x=>match x with|145=>163|220=>211|219=>215|217=>263|225=>264|224=>265|267=>266|266=>298|314=>299|n=>n
 t:=fun x=>match x with|9=>9|4=>4|59=>208|3=>3|5=>5|46=>34|146=>302|51=>301|n=>n
 g:=fun x=>match x with|1=>0|n=>n
theorem Tryz.lays145:Lays.n145 Tryz.prog Tryz.ren145:=ly
def Tryz.ren146:Ren where
 f:=fun x=>match x with|146=>122|221=>162|268=>209|138=>210|143=>168|195=>259|197=>213|218=>260|219=>215|260=>261|217=>263|225=>264|224=>265|267=>266|266=>298|314=>299|n=>n
 t:=fun x=>match x with|9=>9|31=>45|3=>3|4=>4|0=>0|105=>247|21=>21|5=>5|46=>34|119=>296|139=>299|138=>298|146=>302|51=>301|n=>n
 g:=fun x=>match x with|1=>0|3=>2|4=>3|n=>n
theorem Tryz.lays146:Lays.n146 Tryz.prog Tryz.ren146:=ly
def Tryz.ren161:Ren where
 f:=fun x=>match x with|161=>130|231=>164|227=>165|233=>166|235=>167|228=>212|197=>213|151=>214|260=>261|152=>262|137=>253|119=>297|224=>265|225=>264|217=>263|266=>298|n=>n
 t:=fun x=>match x with|9=>9|4=>4|3=>3|5=>5|117=>213|116=>212|0=>0|124=>216|105=>247|21=>21|119=>296|46=>34|139=>299|138=>298|n=>n
 g:=fun x=>match x with|3=>2|4=>3|n=>n
theorem Tryz.lays161:Lays.n161 Tryz.prog Tryz.ren161:=ly
def Tryz.ren99:Ren where
 f:=fun x=>match x with|99=>288|206=>315|n=>n
 t:=fun x=>match x with|9=>9|4=>4|3=>3|n=>n
 g:=fun x=>x
theorem Tryz.lays99:Lays.n99 Tryz.prog Tryz.ren99:=ly
def Tryz.ren100:Ren where
 f:=fun x=>match x with|100=>289|207=>316|n=>n
 t:=fun x=>match x with|9=>9|4=>4|3=>3|n=>n
 g:=fun x=>x
theorem Tryz.lays100:Lays.n100 Tryz.prog Tryz.ren100:=ly
def Tryz.ren101:Ren where
 f:=fun x=>match x with|101=>277|208=>306|206=>315|n=>n
 t:=fun x=>match x with|9=>9|4=>4|3=>3|n=>n
 g:=fun x=>x
theorem Tryz.lays101:Lays.n101 Tryz.prog Tryz.ren101:=ly
def Tryz.ren160:Ren where
 f:=fun x=>match x with|160=>278|232=>307|231=>164|227=>165|234=>308|233=>166|236=>309|235=>167|228=>212|271=>328|151=>214|197=>213|120=>340|152=>262|260=>261|137=>253|119=>297|224=>265|225=>264|217=>263|266=>298|n=>n
 t:=fun x=>match x with|9=>9|4=>4|3=>3|5=>5|117=>213|116=>212|0=>0|124=>216|21=>21|105=>247|46=>34|119=>296|139=>299|138=>298|n=>n
 g:=fun x=>match x with|3=>2|4=>3|n=>n
theorem Tryz.lays160:Lays.n160 Tryz.prog Tryz.ren160:=ly
def Tryz.ren155:Ren where
 f:=fun x=>match x with|155=>161|154=>208|138=>210|165=>258|143=>168|166=>119|197=>213|169=>75|195=>259|218=>260|240=>159|241=>296|219=>215|260=>261|276=>206|277=>323|217=>263|225=>264|224=>265|267=>266|266=>298|314=>299|n=>n
 t:=fun x=>match x with|9=>9|3=>3|4=>4|72=>118|0=>0|76=>176|105=>247|21=>21|5=>5|70=>115|20=>20|37=>116|75=>175|127=>180|164=>242|46=>34|119=>296|139=>299|138=>298|146=>302|51=>301|80=>123|n=>n
 g:=fun x=>match x with|1=>0|3=>2|4=>3|n=>n
theorem Tryz.lays155:Lays.n155 Tryz.prog Tryz.ren155:=ly
def Tryz.ren174:Ren where
 f:=fun x=>match x with|174=>279|247=>310|245=>311|287=>329|279=>330|280=>331|281=>332|282=>333|321=>341|322=>342|316=>343|171=>345|205=>344|243=>347|246=>257|283=>292|284=>293|285=>294|286=>295|129=>319|317=>318|318=>320|319=>321|320=>322|337=>335|338=>336|n=>n
 t:=fun x=>match x with|9=>9|3=>3|2=>2|75=>175|85=>284|4=>4|167=>321|5=>5|53=>233|175=>322|46=>34|168=>324|37=>116|0=>0|210=>343|21=>21|127=>180|145=>349|143=>347|171=>291|173=>294|212=>315|51=>301|20=>20|213=>316|232=>345|233=>346|80=>123|n=>n
 g:=fun x=>match x with|15=>5|16=>1|17=>4|18=>6|19=>7|n=>n
theorem Tryz.lays174:LaysC.n174 Tryz.prog Tryz.ren174:=ly
def Tryz.ren173:Ren where
 f:=fun x=>match x with|173=>207|246=>257|283=>292|284=>293|285=>294|286=>295|129=>319|317=>318|318=>320|319=>321|320=>322|337=>335|338=>336|n=>n
 t:=fun x=>match x with|2=>2|3=>3|9=>9|4=>4|171=>291|0=>0|53=>233|37=>116|5=>5|173=>294|212=>315|51=>301|20=>20|213=>316|46=>34|232=>345|233=>346|n=>n
 g:=fun x=>match x with|17=>4|18=>6|19=>7|n=>n
theorem Tryz.lays173:LaysM.n173 Tryz.prog Tryz.ren173:=ly
def Tryz.ren137:Ren where
 f:=fun x=>match x with|137=>253|217=>263|266=>298|n=>n
 t:=fun x=>match x with|9=>9|5=>5|3=>3|n=>n
 g:=fun x=>x
theorem Tryz.lays137:Lays.n137 Tryz.prog Tryz.ren137:=ly
def Tryz.ren170:Ren where
 f:=fun x=>match x with|170=>74|n=>n
 t:=fun x=>match x with|70=>115|3=>3|0=>0|72=>118|37=>116|5=>5|n=>n
 g:=fun x=>x
theorem Tryz.lays170:Lays.n170 Tryz.prog Tryz.ren170:=ly
def Tryz.ren264:Ren where
 f:=fun x=>match x with|264=>304|n=>n
 t:=fun x=>match x with|53=>233|46=>34|n=>n
 g:=fun x=>x
theorem Tryz.lays264:Lays.n264 Tryz.prog Tryz.ren264:=ly
def Tryz.ren106:Ren where
 f:=fun x=>match x with|106=>272|213=>303|265=>327|n=>n
 t:=fun x=>match x with|9=>9|3=>3|n=>n
 g:=fun x=>x
theorem Tryz.lays106:Lays.n106 Tryz.prog Tryz.ren106:=ly

theorem Tryz.lays166:Lays.n166 Tryz.prog Tryz.ren155:={ Tryz.lays155 with }
end Go.Proofs
namespace Go.SX.Nb
open Go Go.SX Go.Proofs Go.RowKit
variable [ErrAt]
set_option maxRecDepth 4000
theorem Q3 {w:World} (h:Lc w):∃m,w.cell? ⟨0,0,none⟩=some (.int .i64 m):=by
 obtain ⟨_,a,m,t,f,rfl⟩:=h (0,fun o=>∃m t f,o=.cells #[.int .i64 m] t f) (by simp [GlobInv.blocks,bn])
 exact ⟨m,by simp [World.cell?,a]⟩
theorem Vj {w:World} (h:Lc w):w.cell? ⟨1,0,none⟩=some (.iface 347 (.pointer (some ErrAt.b))):=by
 obtain ⟨_,a,t,f,rfl⟩:=h (1,fun o=>∃t f,o=.cells #[.iface 347 (.pointer (some ErrAt.b))] t f) (by simp [GlobInv.blocks,bn])
 simp [World.cell?,a]
theorem ABu {w:World} (h:Lc w):Lib.TabIs Tryz.prog w "internal/strconv.uint64pow10" .u64 Lib.pow10Tab:=by
 obtain ⟨_,a,t,f,rfl⟩:=h (4,fun o=>∃t f,o=.cells (Lib.pow10Tab.map fun z=>Value.int .u64 z).toArray t f) (by simp [GlobInv.blocks,bn])
 have hg:Tryz.prog.globalNamed "internal/strconv.uint64pow10" = some 4:=by kernel_rfl
 simp only at a
 simp [Lib.TabIs,World.var?,hg,a]
theorem jn (w:World) (n:Nat):Below w.heap.size w (w.drewN n):=⟨rfl,rfl,rfl,Ao _,fun _ _=>rfl⟩
theorem wt (s t:Str) (hs:s.length<4294967281) (Hp:List AObj):AFun Tryz.prog 131 [Ac s,Ac t] Hp (At (Lib.contains s t)):=by
 refine Lx (xs:=[sv s,sv t]) (v:=.bool (Lib.contains s t)) (fun G w=>.v _ _) (fun w hg=>?_)
 obtain ⟨m,hm⟩:=Q3 hg
 refine (Any.strings_Contains Tryz.lays144 ⟨s.toArray⟩ ⟨t.toArray⟩ m w (by simpa [ByteArray.size] using hs) hm).mono ?_
 rintro e w' ⟨rfl,rfl⟩
 exact wj
theorem APw (s t:Str) (hs:s.length<4294967281) (Hp:List AObj):AFun Tryz.prog 163 [Ac s,Ac t] Hp (.tup [Ac (Lib.cut s t).1,Ac (Lib.cut s t).2.1,At (Lib.cut s t).2.2]):=by
 refine Lx (xs:=[sv s,sv t]) (v:=.tuple #[sv (Lib.cut s t).1,sv (Lib.cut s t).2.1,.bool (Lib.cut s t).2.2]) (fun G w=>N9 rfl (fun i y u hy hu=>?_)) (fun w hg=>?_)
 ·match i with
  | 0=>simp at hy hu;subst hy;subst hu;exact .v _ _
  | 1=>simp at hy hu;subst hy;subst hu;exact .v _ _
  | 2=>simp at hy hu;subst hy;subst hu;exact .v _ _
  | i+3=>simp at hy
 obtain ⟨m,hm⟩:=Q3 hg
 refine (Any.strings_Cut Tryz.lays145 ⟨s.toArray⟩ ⟨t.toArray⟩ m w (by simpa [ByteArray.size] using hs) hm).mono ?_
 rintro e w' ⟨rfl,n,rfl⟩
 exact ⟨rfl,jn _ _⟩
theorem ARx (s t:Str) (ht:t.length<4294967281) (ha:∀c∈t,c.toNat<128) (Hp:List AObj):AFun Tryz.prog 130 [Ac s,Ac t] Hp (Ac (Lib.trimLeftS s t)):=by
 refine Lx (xs:=[sv s,sv t]) (v:=sv (Lib.trimLeftS s t)) (fun G w=>.v _ _) (fun w hg=>?_)
 refine (Any.strings_TrimLeft_laid Tryz.lays161 (by kernel_rfl) ⟨s.toArray⟩ ⟨t.toArray⟩ w (by simpa [ByteArray.size] using ht) (fun j b hj=>ha b (Be hj))).mono ?_
 rintro e w' ⟨rfl,hb⟩
 exact ⟨rfl,hb⟩
/-- The pieces of a split. -/
def Rf (s t:Str):List Str:=(Lib.splitB ⟨t.toArray⟩ 0 (Lib.countB ⟨s.toArray⟩ ⟨t.toArray⟩) ⟨s.toArray⟩).map (·.data.toList)
theorem APx (s t:Str) (hs:s.length<4294967281) (ht:1≤t.length) (Hp:List AObj):AFun Tryz.prog 122 [Ac s,Ac t] Hp (En (Rf s t)):=by
 have:=AFun.libSlice (P:=Tryz.prog) (g:=122) (Hp:=Hp) (xs:=[sv s,sv t]) (ys:=(Rf s t).map sv) (t:=9) (by intro y hy;obtain ⟨z,_,rfl⟩:=Dm.1 hy;rfl) (fun w hg=>by
  obtain ⟨m,hm⟩:=Q3 hg
  refine (Any.strings_Split Tryz.lays146 (by kernel_rfl) ⟨s.toArray⟩ ⟨t.toArray⟩ m w (by simpa [ByteArray.size] using hs) hm (by simpa [ByteArray.size] using ht)).mono ?_
  rintro e w' ⟨rfl,rfl⟩
  have hl:((Rf s t).map sv).length=Lib.countB ⟨s.toArray⟩ ⟨t.toArray⟩+1:=by
   rw [B8]
   unfold Rf
   rw [B8]
   exact Lib.splitB_all _ (by simpa [ByteArray.size] using ht) _ _ _ rfl
  refine ⟨by rw [hl],?_⟩
  unfold Rf
  rw [Lt]
  rfl)
 rw [Lt] at this
 exact this
end Go.SX.Nb
namespace Go.Proofs
open Go Go.RowKit Go.Extern.Stop Go.Stop Go.Extern
theorem Tryz.isTypeOf (v:Value) (w:World):(Extern.ReflectliteType.typeOf #[.iface 347 v]).run Tryz.prog w=.ok (.iface 328 (.agg #[.pointer (some ⟨8,347,none⟩)])) w:=by kernel_rfl
def Tryz.cmpOf:Array Value→Sem Value:=Extern.ReflectliteType.method fun t=>do Extern.Rtype.noPackHeld "Comparable" t;pure (.bool (←typeInfo t).comparable)
theorem Tryz.isComparable (w:World):(Tryz.cmpOf #[.agg #[.pointer (some ⟨8,347,none⟩)]]).run Tryz.prog w=.ok (.bool true) w:=by kernel_rfl
theorem Tryz.isMethodComparable (v:Value) (w:World):(Go.method 480 328 v "Comparable").run Tryz.prog w=.ok (374,v) w:=by kernel_rfl
theorem Tryz.isComp:(Tryz.prog.info? 347).map (·.comparable)=some true:=by kernel_rfl
theorem Tryz.isSize:(Tryz.prog.info? 349).map (·.size)=some 1:=by kernel_rfl
theorem Tryz.noIsW (v:Value) (xT:TypeId) (w:World):(Instr.typeAssert (.iface 324 v) xT 330 true).run Tryz.prog w=.ok (.tuple #[.nilIface,.bool false]) w:=run_typeAssert_lacksB Tryz.underlying330 (by kernel_rfl) (by kernel_rfl) v xT w
theorem Tryz.hasUnwrapW (v:Value) (xT:TypeId) (w:World):(Instr.typeAssert (.iface 324 v) xT 333 true).run Tryz.prog w=.ok (.tuple #[.iface 324 v,.bool true]) w:=run_typeAssert_hasB Tryz.underlying333 (by kernel_rfl) v xT w
theorem Tryz.methodUnwrap (v:Value) (w:World):(Go.method 480 324 v "Unwrap").run Tryz.prog w=.ok (370,v) w:=by kernel_rfl
namespace Tryz
theorem is_nil (b:Addr) (w:World):
  Calls Tryz.prog 280 #[.nilIface,.iface 347 (.pointer (some b))] w fun e w'=>e=.returned (.bool false)∧w'=w:=by
 have hn:=run_eql_iface_nil_left (P:=Tryz.prog) w 347 (.pointer (some b)) Tryz.underlying175
 go_enter Tryz.func280,Tryz.ntmps280
 go_wp2
 go_ret
 exact ⟨rfl,rfl⟩
set_option maxRecDepth 100000 in
theorem is_range (pb po:Nat) (b:Addr) (w:World) (h1:w.cell? ⟨pb,po+2,none⟩=some (.iface 347 (.pointer (some b)))):
  Calls Tryz.prog 280 #[.iface 324 (.pointer (some ⟨pb,po,none⟩)),.iface 347 (.pointer (some b))] w fun e w'=>e=.returned (.bool true)∧w'=w:=by
 obtain ⟨i,hi,hcmp⟩:=Option.map_eq_some_iff.1 Tryz.isComp
 obtain ⟨j,hj,hjs⟩:=Option.map_eq_some_iff.1 Tryz.isSize
 have h8:=@run_callFunc_extern Tryz.prog 312 _ Extern.ReflectliteType.typeOf Tryz.func312 (by kernel_rfl) (by kernel_rfl) (by kernel_rfl) (by kernel_rfl)
 have h32:=@run_callFunc_extern Tryz.prog 374 _ Tryz.cmpOf Tryz.func374 (by kernel_rfl) (by kernel_rfl) (by kernel_rfl) (by kernel_rfl)
 have tT:=Tryz.isTypeOf
 have cT:=Tryz.isComparable
 have mR:=Tryz.isMethodComparable
 have nW:=Tryz.noIsW
 have uW:=Tryz.hasUnwrapW
 have mU:=Tryz.methodUnwrap
 have heq:=run_eql_iface_ptr_same (P:=Tryz.prog) w b Tryz.underlying175 Tryz.underlying347 hi hcmp hj
 have hty:=run_eql_iface_types (P:=Tryz.prog) 324 347 (.pointer (some ⟨pb,po,none⟩)) (.pointer (some b)) Tryz.underlying175 (by decide) w
 go_enter Tryz.func280,Tryz.ntmps280
 go_wp2
 refine wp_loop_rounds 2 ?_
 rw [rounds_succ]
 go_wp2
 rw [rounds_succ]
 go_wp2
 go_ret
 exact ⟨rfl,rfl⟩
end Tryz
end Go.Proofs
namespace Go.SX.Nb
open Go Go.SX Go.Proofs Go.RowKit Go.Sort
variable [ErrAt]
set_option maxRecDepth 4000
theorem ARy (s t:Str) (Hp:List AObj):AFun Tryz.prog 288 [Ac s,Ac t] Hp (At (Lib.hasPrefix s t)):=by
 refine Lx (xs:=[sv s,sv t]) (v:=.bool (Lib.hasPrefix s t)) (fun G w=>.v _ _) (fun w hg=>?_)
 refine (Any.strings_HasPrefix Tryz.lays99 ⟨s.toArray⟩ ⟨t.toArray⟩ w).mono ?_
 rintro e w' ⟨rfl,rfl⟩
 exact wj
theorem ARz (s t:Str) (hs:s.length≤9223372036854775807) (Hp:List AObj):AFun Tryz.prog 289 [Ac s,Ac t] Hp (At (Lib.hasSuffix s t)):=by
 refine Lx (xs:=[sv s,sv t]) (v:=.bool (Lib.hasSuffix s t)) (fun G w=>.v _ _) (fun w hg=>?_)
 refine (Any.strings_HasSuffix Tryz.lays100 ⟨s.toArray⟩ ⟨t.toArray⟩ w (by simpa [ByteArray.size] using hs)).mono ?_
 rintro e w' ⟨rfl,rfl⟩
 exact wj
theorem AS0 (s:Str) (c:UInt8) (Hp:List AObj):AFun Tryz.prog 253 [Ac s,.v (.int .u8 (c.toNat:Int))] Hp (A5 (Lib.indexByte s c)):=by
 refine Lx (xs:=[sv s,.int .u8 (c.toNat:Int)]) (v:=.int .i64 (Lib.indexByte s c)) (fun G w=>.v _ _) (fun w hg=>?_)
 refine (Any.strings_IndexByte Tryz.lays137 ⟨s.toArray⟩ (c.toNat:Int) w).mono ?_
 rintro e w' ⟨rfl,rfl⟩
 exact ⟨by simp,Below.refl _ _⟩
theorem AS1:Builder.Extra Tryz.prog Tryz.ren155:={ sizeBuilder:=by kernel_rfl,liesBuilder:=by kernel_rfl,t5:=Tryz.underlying5,a5:=Tryz.isAgg5,z5:=Tryz.sizeOf5,v5:=Tryz.zeroValue5,infoByte:=by kernel_rfl,cellsByte:=by kernel_rfl,sizeByte:=by kernel_rfl,neB5:=by decide }
theorem APy (s o n:Str) (hs:s.length<4294967281) (ho:1≤o.length) (hl:s.length+Lib.countB ⟨s.toArray⟩ ⟨o.toArray⟩*n.length≤140737488355328) (Hp:List AObj):AFun Tryz.prog 161 [Ac s,Ac o,Ac n] Hp (Ac (Lib.replaceAll s o n)):=by
 refine Lx (xs:=[sv s,sv o,sv n]) (v:=sv (Lib.replaceAll s o n)) (fun G w=>.v _ _) (fun w hg=>?_)
 obtain ⟨m,hm⟩:=Q3 hg
 refine (Any.strings_ReplaceAll Tryz.lays155 AS1 ⟨s.toArray⟩ ⟨o.toArray⟩ ⟨n.toArray⟩ m w (by simpa [ByteArray.size] using hs) hm (by simpa [ByteArray.size] using ho) (by simpa [ByteArray.size] using hl)).mono ?_
 rintro e w' ⟨rfl,hb⟩
 exact ⟨rfl,hb⟩
theorem o9 (w:World) (k:Nat) (os:Array Obj):Below w.heap.size w (grow (w.drewN k) os):=by
 refine ⟨rfl,rfl,rfl,by simp [grow],fun b hb=>?_⟩
 show ((w.drewN k).heap++os)[b]? = w.heap[b]?
 rw [Mm (by exact hb)]
 rfl
theorem AS2 (n:Int) (h0 : -9223372036854775808≤n) (h1:n≤9223372036854775807) (Hp:List AObj):AFun Tryz.prog 207 [.v (.int .i64 n),A5 10] Hp (Ac (Lib.itoa n)):=by
 refine Lx (xs:=[.int .i64 n,.int .i64 10]) (v:=sv (Lib.itoa n)) (fun G w=>.v _ _) (fun w hg=>?_)
 refine (Any.strconv_FormatInt_10 Tryz.lays173 n h0 h1 w (ABu hg)).mono ?_
 rintro e w' ⟨rfl,k,os,rfl⟩
 exact ⟨rfl,o9 _ _ _⟩
end Go.SX.Nb
namespace Go.SX.Nb
open Go Go.SX Go.Proofs Go.RowKit
variable [ErrAt]
set_option maxRecDepth 4000
def digs:Str:=[48,49,50,51,52,53,54,55,56,57]
def Mp (s:Str):Str:=Lib.trimPrefix s [45]
def Hf (s:Str):Bool:=(Mp s==[]) || !(Lib.trimS (Mp s) digs==[]) || (((Mp s).headD 0==48)&&decide (1<s.length))
def Cf (s:Str):Int×Int:=if Hf s then (0,6) else match Lib.parseIntB 64 s with|.ok v=>(v,0)|.range=>(0,4)|_=>(0,0)
def AGd {α:Type}:Lib.NumEnd α→Bool|.ok _=>false|.range=>false|_=>true
theorem ABv {p:UInt8→Bool}:∀{l:Str},l.dropWhile p=[]↔∀b∈l,p b=true
 | []=>by simp
 | b::r=>by
  rw [Tt]
  by_cases h:p b=true
  ·rw [if_pos h,ABv]
   simp [h]
  rw [if_neg h]
  simp [h]
theorem ABw {p:UInt8→Bool}:∀{l:Str} {b:UInt8},b∈l→p b=false→b∈l.dropWhile p
 | x::r,b,h,hb=>by
  rw [Tt]
  by_cases hx:p x=true
  ·rw [if_pos hx]
   rcases C0.1 h with rfl|h
   ·rw [hb] at hx;cases hx
   exact ABw h hb
  rw [if_neg hx];exact h
theorem trimS_nil {l cs:Str}:Lib.trimS l cs=[]↔∀b∈l,cs.contains b=true:=by
 unfold Lib.trimS Lib.trimLeftS Lib.trimRightS
 rw [ABv]
 constructor
 ·intro h b hb
  cases hc:cs.contains b with
  | true=>rfl
  | false =>
   have:=h b (Wn.2 (ABw (p:=(cs.contains ·)) (Wn.2 hb) hc))
   rw [hc] at this;exact this
 intro h b hb
 exact h b (Wn.1 ((mw (cs.contains ·)).subset (Wn.1 hb)))
theorem Mg (c:UInt8):digs.contains c=(decide (48≤c.toNat)&&decide (c.toNat≤57)):=by
 have h:((List.range 256).all fun n=>digs.contains (UInt8.ofNat n)==(decide (48≤(UInt8.ofNat n).toNat)&&decide ((UInt8.ofNat n).toNat≤57)))=true:=by kernel_rfl
 have:=Bj.1 h c.toNat (Po.2 c.toNat_lt)
 simpa using this
theorem bo (M:Nat):∀(l:Str) (acc:Nat),(∀b∈l,digs.contains b=true)→AGd (Lib.parseUintM M acc l)=false
 | [],acc,_=>by rw [Lib.parseUintM];rfl
 | c::r,acc,h=>by
  have hc:=h c (by simp)
  rw [Mg] at hc
  simp only [Ah,decide_eq_true_eq] at hc
  rw [Lib.parseUintM,if_pos hc]
  split
  ·rfl
  split
  ·rfl
  exact bo M r _ (fun b hb=>h b (by simp [hb]))
theorem K4 (s:Str):(s.head? ≠ some 45∧Mp s=s)∨∃r,s=45::r∧Mp s=r:=by
 unfold Mp Lib.trimPrefix Lib.hasPrefix
 cases s with
 | nil=>exact .inl ⟨by simp,rfl⟩
 | cons c r =>
  by_cases hc:c=45
  ·subst hc;exact .inr ⟨r,rfl,by simp [List.isPrefixOf]⟩
  refine .inl ⟨by simpa using hc,?_⟩
  rw [if_neg]
  simp [List.isPrefixOf,Ne.symm hc]
theorem P2 {s:Str} (h:Hf s=false):AGd (Lib.parseIntB 64 s)=false:=by
 unfold Hf at h
 simp only [Df,Ka,beq_iff_eq,beq_eq_false_iff_ne] at h
 obtain ⟨⟨h1,h2⟩,_⟩:=h
 rw [trimS_nil] at h2
 have key:∀l:Str,l≠[]→(∀b∈l,digs.contains b=true)→AGd (Lib.parseUintB 64 l)=false:=fun l hl ha=>by
  unfold Lib.parseUintB
  rw [if_neg hl]
  exact bo _ l 0 ha
 rcases K4 s with ⟨h3,h4⟩|⟨r,rfl,h4⟩
 ·rw [h4] at h1 h2
  cases s with
  | nil=>exact absurd rfl h1
  | cons c r =>
   have hcd:=h2 c (by simp)
   rw [Mg] at hcd
   simp only [Ah,decide_eq_true_eq] at hcd
   have e1:¬(c.toNat=43∨c.toNat=45):=by omega
   have:=key (c::r) (by simp) h2
   simp only [Lib.parseIntB,if_neg e1]
   revert this
   cases Lib.parseUintB 64 (c::r) with
   | range=>intro _;rfl
   | ok u=>intro _;simp only;split<;>(try split)<;>rfl
   | _=>intro h;cases h
 rw [h4] at h1 h2
 have:=key r h1 h2
 have e1:((45:UInt8).toNat=43∨(45:UInt8).toNat=45):=.inr rfl
 simp only [Lib.parseIntB,if_pos e1]
 revert this
 cases Lib.parseUintB 64 r with
 | range=>intro _;rfl
 | ok u=>intro _;simp only;split<;>(try split)<;>rfl
 | _=>intro h;cases h
end Go.SX.Nb
namespace Go.SX.Nb
open Go Go.SX Go.Proofs
variable [ErrAt]
set_option maxRecDepth 4000
def I9 (c:UInt8):Bool:=decide ((97:Int)≤c.toNat)&&decide ((c.toNat:Int)≤122)
def Ue (c:UInt8):Bool:=decide ((48:Int)≤c.toNat)&&decide ((c.toNat:Int)≤57)
theorem c97 (c:UInt8) (Hp:List AObj):AFun Tryz.prog 97 [.v (.int .u8 (c.toNat:Int))] Hp (.v (.bool (I9 c))):=by
 refine Aj [.tmp 2] [0] Tryz.func97 Tryz.ntmps97 (fun d=>?_)
 refine Z56 ?_;refine Xv ?_;exact j4

theorem c99 (c:UInt8) (Hp:List AObj):AFun Tryz.prog 99 [.v (.int .u8 (c.toNat:Int))] Hp (.v (.bool (Ue c))):=by
 refine Aj [.tmp 2] [0] Tryz.func99 Tryz.ntmps99 (fun d=>?_)
 refine Z56 ?_;refine Xv ?_;exact j4

def words:List Str:=[[97,100,100],[100,114,111,112],[114,101,110,97,109,101],[115,112,108,105,116],[109,101,114,103,101],[114,101,116,121,112,101],[105,110,116,111],[116,111],[98,97,99,107],[97,110,100],[111,114],[110,111,116],[116,114,117,101],[102,97,108,115,101],[110,117,108,108],[105,110,116],[116,101,120,116],[98,111,111,108],[115,101,108,101,99,116],[119,104,101,114,101],[102,114,111,109],[108,105,109,105,116]]
def Ji (s:Str):Bool:=words.any (·==s)
theorem bq:words.length=22:=rfl
theorem AKz {α:Type} {p:α→Bool} {l:List α} {i:Nat} (h:i<l.length) (hp:p l[i]=true):l.any p=true:=by
 rw [M5];exact ⟨l[i],Bb h,hp⟩
theorem ABx {α:Type} {p:α→Bool} {l:List α} (h:∀(j:Nat) (y:α),l[j]? = some y→p y=false):l.any p=false:=by
 rw [R2]
 intro x hx
 obtain ⟨j,hj⟩:=Cr hx
 simp [h j x hj]
theorem D3 {α:Type} {l:List α} {x:Nat} {p:α→Prop} (hlt:x<l.length) (h:∀(j:Nat) (y:α),j<x→l[j]? = some y→p y) (hx:p l[x]):∀(j:Nat) (y:α),j<x+1→l[j]? = some y→p y:=by
 intro j y hj hy
 rcases Bn j x with h'|h'
 ·exact h j y h' hy
 have:j=x:=by omega
 subst this
 rw [Ae hlt] at hy
 injection hy with hy
 subst hy
 exact hx
theorem Ld {α:Type} {l:List α} {x:Nat} {p:α→Prop} (hge:l.length≤x) (h:∀(j:Nat) (y:α),j<x→l[j]? = some y→p y):∀(j:Nat) (y:α),l[j]? = some y→p y:=
 fun j y hy=>h j y (by have:=(Ak.1 hy).1;omega) hy
theorem c98 (s:Str) (Hp:List AObj):AFun Tryz.prog 98 [Ac s] Hp (At (Ji s)):=by
 refine Aj [.tmp 2] [0] Tryz.func98 Tryz.ntmps98 (fun d=>?_)
 refine Z56 ?_;refine E9 ?_;refine j3 ?_;refine Lr ?_;refine Z25 ?_;refine fl ?_
 refine B9 (α:=Nat) (fun x=>⟨18,Aa 0 (Ac s) (Aa 3 (.slice true 1 (words.map Ac)) (Aa 4 (A5 (x:Nat)) (fun _=>.any))),Hp,[],[],none⟩) (fun x=>x≤words.length∧∀(j:Nat) (y:Str),j<x→words[j]? = some y→(y==s)=false) (fun x=>words.length-x) (0) (by simp) (F1 _) rfl (fun x hx=>?_)
 refine Z46 ?_;refine A2 [0,3,4,9] ?_
 refine A3 (fun ht9=>?_) (fun ht9=>?_)
 ·have hlt:x<words.length:=by simpa using ht9
  have hwl:=bq
  refine Xt ?_
  refine A4 (h:=Ad (x) (Ac words[x]) (fun _=>B3 hlt)) (hr:=?_)
  refine Z11 ?_;refine A2 [0,3,4,17] ?_
  refine A3 (fun ht17=>?_) (fun ht17=>?_)
  ·refine w9 ?_;exact A8 (Ai A7) ⟨by rw [show Ji s=true from AKz hlt ht17],rfl⟩
  refine Z87 ?_;refine fl ?_;exact B2 (x+1) ⟨hlt,D3 hlt hx.2 ht17⟩ (by have:=bq;omega) (Bz rfl)
 refine Z52 ?_;refine Z26 ?_;exact A8 (Ai A7) ⟨by rw [show Ji s=false from ABx (Ld (by simp at ht9;omega) hx.2)],rfl⟩

def Mq (c:UInt8):Bool:=I9 c || Ue c || c==95
def Hg (s:Str):Bool:=match s with
 | []=>false
 | c::_=>decide (s.length≤16)&&I9 c && !Ji s&&s.all Mq
theorem ABy {α:Type} {p:α→Bool} {l:List α} {i:Nat} (h:i<l.length) (hp:p l[i]=false):l.all p=false:=by
 rw [Od];exact ⟨l[i],Bb h,by simp [hp]⟩
theorem AL0 {α:Type} {p:α→Bool} {l:List α} (h:∀(j:Nat) (y:α),l[j]? = some y→p y=true):l.all p=true:=by
 rw [Bj]
 intro x hx
 obtain ⟨j,hj⟩:=Cr hx
 exact h j x hj
theorem nn {s:Str} {b:Bool} (h:((((s.length:Int)==0) || b)==false)=true):s≠[]:=by rintro rfl;simp at h
theorem Kv {s:Str} (h:s≠[]):s[0]? = some (s.headD 0):=by cases s with
 | nil=>exact absurd rfl h
 | cons c r=>rfl
theorem Xz (s:Str):Hg s=(!((s.length:Int)==0 || decide ((16:Int)<s.length) || !I9 (s.headD 0) || Ji s)&&s.all Mq):=by
 cases s with
 | nil=>rfl
 | cons c r =>
  have h1:(((c::r).length:Int)==0)=false:=by simp;omega
  have h2:decide ((c::r).length≤16) = !decide ((16:Int)<(c::r).length):=by
   by_cases h:(c::r).length≤16
   ·have:¬((16:Int)<(c::r).length):=by omega
    simp only [h,this,decide_true,decide_false,Da]
   have:((16:Int)<(c::r).length):=by omega
   simp only [h,this,decide_true,decide_false,Ck]
  simp only [Hg,h1,h2,List.headD_cons,Bool.not_or,Bool.not_not,Cj]
theorem AGe {c:UInt8} (h:((!I9 c && !Ue c)&&((c.toNat:Int) != 95))=false):Mq c=true:=by
 unfold Mq
 have e:((c.toNat:Int) != 95) = !(c==95):=by
  by_cases hc:c=95
  ·subst hc;rfl
  have:c.toNat≠95:=fun h=>hc (Kp.1 h)
  have:(c.toNat:Int)≠95:=by omega
  rw [bne_iff_ne.2 this,beq_eq_false_iff_ne.2 hc];rfl
 rw [e] at h
 revert h
 cases I9 c<;>cases Ue c<;>cases (c==95)<;>simp
theorem AGf {c:UInt8} (h:((!I9 c && !Ue c)&&((c.toNat:Int) != 95))=true):Mq c=false:=by
 unfold Mq
 have e:((c.toNat:Int) != 95) = !(c==95):=by
  by_cases hc:c=95
  ·subst hc;rfl
  have:c.toNat≠95:=fun h=>hc (Kp.1 h)
  have:(c.toNat:Int)≠95:=by omega
  rw [bne_iff_ne.2 this,beq_eq_false_iff_ne.2 hc];rfl
 rw [e] at h
 revert h
 cases I9 c<;>cases Ue c<;>cases (c==95)<;>simp
theorem c52 (s:Str) (hs:s.length≤1048576) (Hp:List AObj):AFun Tryz.prog 52 [Ac s] Hp (At (Hg s)):=by
 refine Aj [.tmp 2] [0] Tryz.func52 Tryz.ntmps52 (fun d=>?_)
 refine Z56 ?_;refine Z46 ?_;refine Z67 ?_;refine Bl ?_
 refine Bl (h:=Fj 0 (s.headD 0) (fun hB=>Kv (nn hB))) (hr:=?_)
 refine Bk Tryz.call97 (fun hB=>c97 (s.headD 0) _) ?_;refine wc ?_;refine Bk Tryz.call98 (fun hB=>c98 s _) ?_;refine A4 ?_;refine A2 [0,21] ?_
 refine A3 (fun ht21=>?_) (fun ht21=>?_)
 ·refine Z26 ?_;refine Fm ?_;exact A8 (Ai A7) ⟨by rw [Xz,ht21];rfl,rfl⟩
 refine Nk ?_;refine Lr ?_
 refine B9 (α:=Nat) (fun x=>⟨46,Aa 0 (Ac s) (Aa 3 (A5 (x:Nat)) (fun _=>.any)),Hp,[],[],none⟩) (fun x=>x≤s.length∧∀(j:Nat) (y:UInt8),j<x→s[j]? = some y→Mq y=true) (fun x=>s.length-x) (0) (by simp) (F1 _) rfl (fun x hx=>?_)
 refine Z46 ?_;refine A2 [0,3,25] ?_
 refine A3 (fun ht25=>?_) (fun ht25=>?_)
 ·have hlt:x<s.length:=by simpa using ht25
  refine Xt ?_
  refine A4 (h:=Fj x s[x] (fun _=>Ae hlt)) (hr:=?_)
  refine A9 Tryz.call97 (c97 s[x] _) ?_;refine Z42 ?_
  refine Bl (h:=Fj x s[x] (fun _=>Ae hlt)) (hr:=?_)
  refine Bk Tryz.call99 (fun hB=>c99 s[x] _) ?_;refine wd ?_
  refine Bl (h:=Fj x s[x] (fun _=>Ae hlt)) (hr:=?_)
  refine Z92 ?_;refine A2 [0,3,45] ?_
  refine A3 (fun ht45=>?_) (fun ht45=>?_)
  ·refine w9 ?_;exact A8 (Ai A7) ⟨by rw [Xz,ht21,ABy hlt (AGf ht45)];rfl,rfl⟩
  refine Z87 ?_;refine Lr ?_;exact B2 (x+1) ⟨hlt,D3 hlt hx.2 (AGe ht45)⟩ (by omega) (Bz rfl)
 refine Z52 ?_;refine Z26 ?_;exact A8 (Ai A7) ⟨by rw [Xz,ht21,AL0 (Ld (by simp at ht25;omega) hx.2)];rfl,rfl⟩

def C6 (nm:Str) (c:List Col):Int:=match c.findIdx? (fun y=>y.name==nm) with|some i=>i|none => -1
theorem jo {nm:List UInt8} {c:List Col} {x:Nat} (h:x<c.length) (h1:c[x].name=nm) (h2:∀(j:Nat) (y:Col),j<x→c[j]? = some y→¬(y.name=nm)):C6 nm c=x:=by
 have:c.findIdx? (fun y=>y.name==nm)=some x:=by
  rw [N5]
  exact ⟨h,by simpa using h1,fun j hj=>by simpa using h2 j c[j] hj (Ae _)⟩
 simp [C6,this]
theorem oa {nm:List UInt8} {c:List Col} (h:∀(j:Nat) (y:Col),c[j]? = some y→¬(y.name=nm)):C6 nm c = -1:=by
 have:c.findIdx? (fun y=>y.name==nm)=none:=by
  rw [Tw]
  intro y hy
  obtain ⟨j,hj⟩:=Cr hy
  simpa using h j y hj
 simp [C6,this]
structure OkCols (c:List Col):Prop where
 len:c.length≤1048576
 names:∀y∈c,y.name.length≤1048576
theorem c25 (c:List Col) (hc:OkCols c) (nm:Str) (Hp:List AObj):AFun Tryz.prog 25 [B0 c,Ac nm] Hp (A5 (C6 nm c)):=by
 refine Aj [.tmp 4] [0,1] Tryz.func25 Tryz.ntmps25 (fun d=>?_)
 refine Z60 ?_;refine Z25 ?_;refine Xx ?_
 refine B9 (α:=Nat) (fun x=>⟨20,Aa 0 (B0 c) (Aa 1 (Ac nm) (Aa 5 (A5 (x:Nat)) (fun _=>.any))),Hp,[],[],none⟩) (fun x=>x≤c.length∧∀(j:Nat) (y:Col),j<x→c[j]? = some y→¬(y.name=nm)) (fun x=>c.length-x) (0) (by simp) (F1 _) rfl (fun x hx=>?_)
 refine Z46 ?_;refine A2 [0,1,5,9] ?_
 refine A3 (fun ht9=>?_) (fun ht9=>?_)
 ·have hlt:x<c.length:=by simpa using ht9
  have hcl:=hc.len
  refine Xt ?_
  refine A4 (h:=Ad (x) (D8 c[x]) (fun _=>B3 hlt)) (hr:=?_)
  refine Z72 ?_;refine A2 [0,1,5,18] ?_
  refine A3 (fun ht18=>?_) (fun ht18=>?_)
  ·refine Z1 ?_;refine nv ?_;exact A8 (Ai A7) ⟨by rw [jo hlt (by simpa using ht18) hx.2],rfl⟩
  refine Z87 ?_;refine Xx ?_;exact B2 (x+1) ⟨hlt,D3 hlt hx.2 (by simpa using ht18)⟩ (by omega) (Bz rfl)
 refine Xw ?_;exact ANf

def Vk (c:List Col) (x:Nat) (y:Col):Bool := !(((!Hg y.name || decide (y.kind<1)) || decide ((3:Int)<y.kind)) || (C6 y.name c != (x:Int)))
def J8 (c:List Col):Bool:=c.zipIdx.all fun x=>Vk c x.2 x.1
theorem colsM_true {c:List Col}:J8 c=true↔∀(j:Nat) (y:Col),c[j]? = some y→Vk c j y=true:=by
 unfold J8
 rw [Bj]
 constructor
 ·intro h j y hj
  exact AP1
 rintro h ⟨y,j⟩ hx
 rw [N6] at hx
 exact h j y hx
theorem Ig {α:Type} {l:List α} {x:Nat} {p:Nat→α→Prop} (hlt:x<l.length) (h:∀(j:Nat) (y:α),j<x→l[j]? = some y→p j y) (hx:p x l[x]):∀(j:Nat) (y:α),j<x+1→l[j]? = some y→p j y:=by
 intro j y hj hy
 rcases Bn j x with h'|h'
 ·exact h j y h' hy
 have:j=x:=by omega
 subst this
 rw [Ae hlt] at hy
 injection hy with hy
 subst hy
 exact hx
theorem Kw {α:Type} {l:List α} {x:Nat} {p:Nat→α→Prop} (hge:l.length≤x) (h:∀(j:Nat) (y:α),j<x→l[j]? = some y→p j y):∀(j:Nat) (y:α),l[j]? = some y→p j y:=
 fun j y hy=>h j y (by have:=(Ak.1 hy).1;omega) hy
theorem c60 (c:List Col) (hc:OkCols c) (Hp:List AObj):AFun Tryz.prog 60 [B0 c] Hp (At (J8 c)):=by
 refine Aj [.tmp 2] [0] Tryz.func60 Tryz.ntmps60 (fun d=>?_)
 refine Z56 ?_;refine Z25 ?_;refine Lr ?_
 refine B9 (α:=Nat) (fun x=>⟨44,Aa 0 (B0 c) (Aa 3 (A5 (x:Nat)) (fun _=>.any)),Hp,[],[],none⟩) (fun x=>x≤c.length∧∀(j:Nat) (y:Col),j<x→c[j]? = some y→Vk c j y=true) (fun x=>c.length-x) (0) (by simp) (F1 _) rfl (fun x hx=>?_)
 refine Z46 ?_;refine A2 [0,3,7] ?_
 refine A3 (fun ht7=>?_) (fun ht7=>?_)
 ·have hlt:x<c.length:=by simpa using ht7
  have hcl:=hc.len
  refine Xt ?_
  refine A4 (h:=Ad (x) (D8 c[x]) (fun _=>B3 hlt)) (hr:=?_)
  refine Z0 ?_;refine A9 Tryz.call52 (c52 c[x].name (hc.names _ (Bb hlt)) _) ?_;refine Z42 ?_
  refine Bl (h:=Ad (x) (D8 c[x]) (fun _=>B3 hlt)) (hr:=?_)
  refine Z27 ?_;refine Z42 ?_
  refine Bl (h:=Ad (x) (D8 c[x]) (fun _=>B3 hlt)) (hr:=?_)
  refine Z67 ?_;refine Z27 ?_
  refine Bl (h:=Ad (x) (D8 c[x]) (fun _=>B3 hlt)) (hr:=?_)
  refine Z5 ?_;refine Bk Tryz.call25 (fun hB=>c25 c hc c[x].name _) ?_;refine Nj ?_;refine A2 [0,3,43] ?_
  refine A3 (fun ht43=>?_) (fun ht43=>?_)
  ·refine w9 ?_
   exact A8 (Ai A7) ⟨by rw [show J8 c=false from D6.2 fun h=>by have:=colsM_true.1 h x c[x] (Ae hlt);unfold Vk at this;rw [ht43] at this;cases this],rfl⟩
  refine Z87 ?_;refine Lr ?_;exact B2 (x+1) ⟨hlt,Ig hlt hx.2 (by unfold Vk;rw [ht43];rfl)⟩ (by omega) (Bz rfl)
 refine Z52 ?_;refine Z26 ?_;exact A8 (Ai A7) ⟨by rw [colsM_true.2 (Kw (by simp at ht7;omega) hx.2)],rfl⟩

def Ew (c:List Col):Bool:=decide ((c.length:Int)≤12)&&J8 c
theorem c24 (c:List Col) (hc:OkCols c) (Hp:List AObj):AFun Tryz.prog 24 [B0 c] Hp (At (Ew c)):=by
 refine Aj [.tmp 2] [0] Tryz.func24 Tryz.ntmps24 (fun d=>?_)
 refine Z56 ?_;refine fg ?_;refine Bk Tryz.call60 (fun hB=>c60 c hc _) ?_;refine Z55 ?_;exact A8 (Ai A7) ⟨by unfold Ew;simp,rfl⟩

def C2 (v:Val):Bool:=if v.kind==0 then v.n==0&&v.s==[] else if v.kind==1 then v.s==[] else if v.kind==2 then v.n==0&&decide ((v.s.length:Int)≤200) else v.kind==3&&v.s==[]&&decide (0≤v.n)&&decide (v.n≤1)
theorem AS3 (v:Val) (Hp:List AObj):AFun Tryz.prog 146 [Ca v] Hp (At (C2 v)):=by
 refine Aj [.tmp 2] [0] Tryz.func146 Tryz.ntmps146 (fun d=>?_)
 refine vr ?_;refine A4 ?_;refine A2 [1] ?_;refine Z31 ?_;refine A2 [1,5] ?_
 refine A3 (fun ht5=>?_) (fun ht5=>?_)
 ·refine Z21 ?_;refine Z27 ?_;refine Z55 ?_;refine Fm ?_;exact AP2
 refine Nm ?_;refine A2 [1,16] ?_
 refine A3 (fun ht16=>?_) (fun ht16=>?_)
 ·refine Z21 ?_;refine Z4 ?_;refine Fm ?_;exact A8 (Ai A7) ⟨by simp [C2,ht5,ht16],rfl⟩
 refine Nm ?_;refine A2 [1,22] ?_
 refine A3 (fun ht22=>?_) (fun ht22=>?_)
 ·refine Z21 ?_;refine Z70 ?_;refine Z55 ?_;refine Fm ?_;exact AP3
 refine Z3 ?_;refine O7 ?_;refine Z67 ?_;refine Z27 ?_;refine Z55 ?_;exact AP3

theorem AL1 (e:Bool) (n:Int):(e&&(n==0 || n==1))=(e&&decide (0≤n)&&decide (n≤1)):=by
 cases e
 ·rfl
 rw [K9]
 simp
 omega
theorem c37 (v:Val) (Hp:List AObj):AFun Tryz.prog 37 [Ca v] Hp (At (C2 v)):=by
 refine Aj [.tmp 2] [0] Tryz.func37 Tryz.ntmps37 (fun d=>?_)
 refine vr ?_;refine A4 ?_;refine A2 [1] ?_;refine Z8 ?_;refine A2 [1,4] ?_;refine Z97 ?_;refine A2 [1,4,5] ?_
 refine A3 (fun ht5=>?_) (fun ht5=>?_)
 ·refine AKa ?_
  refine A4 (h:=M8 Ud (Ho v.kind v.n 0 0 v.s [])) (hr:=?_)
  refine A4 ?_;refine Z4 ?_;refine Z7 ?_;exact AP2
 refine Z1 ?_;refine A2 [1,4,10] ?_
 refine A3 (fun ht10=>?_) (fun ht10=>?_)
 ·refine Z21 ?_;refine Z4 ?_;refine Z7 ?_;exact A8 (Ai A7) ⟨by simp [C2,ht5,ht10],rfl⟩
 refine Z1 ?_;refine A2 [1,4,15] ?_
 refine A3 (fun ht15=>?_) (fun ht15=>?_)
 ·refine Z21 ?_;refine Z70 ?_;refine o4 ?_;exact A8 (Ai A7) ⟨by simp [C2,ht5,ht10,ht15],rfl⟩
 refine Z1 ?_;refine A2 [1,26] ?_
 refine A3 (fun ht26=>?_) (fun ht26=>?_)
 ·refine Z21 ?_;refine ap ?_;refine o4 ?_;exact A8 (Ai A7) ⟨by simp [C2,ht5,ht10,ht15,ht26];rw [AL1],rfl⟩
 refine jc ?_;exact A8 (Ai A7) ⟨by simp [C2,ht5,ht10,ht15,ht26],rfl⟩

def O4 (c:List Col):Bool:=decide ((50:Int)<c.length) || c.any fun y=>decide ((100:Int)<y.name.length)
theorem Rg {α:Type} {c:List α} {p:Nat→α→Bool}:(c.zipIdx.all fun x=>p x.2 x.1)=true↔∀(j:Nat) (y:α),c[j]? = some y→p j y=true:=by
 rw [Bj]
 constructor
 ·intro h j y hj
  exact AP1
 rintro h ⟨y,j⟩ hx
 rw [N6] at hx
 exact h j y hx
theorem AS4 (y:Col) (nm:Str) (Hp:List AObj):AFun Tryz.prog 105 [D8 y,.ro [Ac nm]] Hp (At (y.name==nm)):=by
 refine Aj [.tmp 3] [0,1] Tryz.func105 Tryz.ntmps105 (fun d=>?_)
 refine Z1 ?_;refine A2 [1,2] ?_;refine fh ?_;refine A2 [3] ?_;refine Fg ?_;exact wl

theorem AS5 (c:List Col) (hc:OkCols c) (nm:Str) (Hp:List AObj):AFun Tryz.prog 104 [B0 c,.fn (.func 105) [] [.ro [Ac nm]]] Hp (A5 (C6 nm c)):=by
 refine Aj [.tmp 4] [0,1] Tryz.func104 Tryz.ntmps104 (fun d=>?_)
 refine wh ?_
 refine B9 (α:=Nat) (fun x=>⟨19,Aa 0 (B0 c) (Aa 1 (.fn (.func 105) [] [.ro [Ac nm]]) (Aa 7 (A5 c.length) (Aa 8 (A5 (x:Nat)) (fun _=>.any)))),Hp,[],[],none⟩) (fun x=>x≤c.length∧∀(j:Nat) (y:Col),j<x→c[j]? = some y→¬(y.name=nm)) (fun x=>c.length-x) (0) (by simp) (Az (by simp)) rfl (fun x hx=>?_)
 refine vh ?_
 refine Ev (fun ht9=>?_) (fun ht9=>?_)
 ·have hlt:x<c.length:=by simpa using ht9
  have hcl:=hc.len
  refine wg ?_
  refine A4 (h:=Ad (x) (D8 c[x]) (fun _=>B3 hlt)) (hr:=?_)
  refine A4 ?_;refine U3 Tryz.call105 (AS4 c[x] nm _) ?_;refine wm ?_
  refine A3 (fun ht16=>?_) (fun ht16=>?_)
  ·refine Z1 ?_;refine nv ?_;exact A8 (Ai A7) ⟨by rw [jo hlt (by simpa using ht16) hx.2],rfl⟩
  refine Ni ?_;refine A2 [0,1,7,8] ?_;exact B2 (x+1) ⟨hlt,D3 hlt hx.2 (by simpa using ht16)⟩ (by omega) (Bz rfl)
 refine So ?_;exact ANf

theorem c58 (c:List Col) (hc:OkCols c) (nm:Str) (Hp:List AObj):AFun Tryz.prog 58 [B0 c,Ac nm] Hp (A5 (C6 nm c)):=by
 refine Aj [.tmp 4] [0,1] Tryz.func58 Tryz.ntmps58 (fun d=>?_)
 refine nx ?_;refine Z2 ?_;refine Ma ?_;refine A9 Tryz.call104 (AS5 c hc nm _) ?_;refine A4 ?_;exact nt

def Sr (s of:Str):Int:=(s.length:Int)-(Lib.trimLeftS s of).length
theorem Wy (s of:Str):(Lib.trimLeftS s of).length≤s.length:=by
 unfold Lib.trimLeftS
 exact (mw _).length_le
def Nn:Str:=[32,97,100,100,32,100,114,111,112,32,114,101,110,97,109,101,32,115,112,108,105,116,32,109,101,114,103,101,32,114,101,116,121,112,101,32,105,110,116,111,32,116,111,32,98,97,99,107,32,97,110,100,32,111,114,32,110,111,116,32,116,114,117,101,32,102,97,108,115,101,32,110,117,108,108,32,105,110,116,32,116,101,120,116,32,98,111,111,108,32,115,101,108,101,99,116,32,119,104,101,114,101,32,102,114,111,109,32,108,105,109,105,116,32]
def letters:Str:=[97,98,99,100,101,102,103,104,105,106,107,108,109,110,111,112,113,114,115,116,117,118,119,120,121,122]
def tails:Str:=[97,98,99,100,101,102,103,104,105,106,107,108,109,110,111,112,113,114,115,116,117,118,119,120,121,122,48,49,50,51,52,53,54,55,56,57,95]
theorem c81 (s of:Str) (hs:s.length≤1048576) (ho:of.length≤1048576) (ha:∀c∈of,c.toNat<128) (Hp:List AObj):AFun Tryz.prog 81 [Ac s,Ac of] Hp (A5 (Sr s of)):=by
 refine Aj [.tmp 4] [0,1] Tryz.func81 Tryz.ntmps81 (fun d=>?_)
 refine Z60 ?_;refine Z21 ?_;refine A9 Tryz.call130 (ARx s of (by omega) ha _) ?_;refine A4 ?_
 have htl:=Wy s of
 refine Z0 ?_;exact nt

def Hq (s:Str):Bool:=(!(s==[]) && !Lib.contains s [32])&&Lib.contains Nn ([32]++s++[32])
theorem c82 (s:Str) (hs:s.length≤1048576) (Hp:List AObj):AFun Tryz.prog 82 [Ac s] Hp (At (Hq s)):=by
 refine Aj [.tmp 2] [0] Tryz.func82 Tryz.ntmps82 (fun d=>?_)
 refine Z56 ?_;refine Z14 ?_;refine Bl ?_;refine Bk Tryz.call131 (fun hB=>wt s [32] (by omega) _) ?_;refine U7 ?_;refine Z27 ?_;refine Bk Tryz.call131 (fun hB=>wt Nn ([32]++s++[32]) (by decide) _) ?_;exact j4

theorem AL2 {s:Str} {b c:Bool} (h:(((!(s==[])&&b)&&c)==true)=true):1≤s.length:=by
 cases s with
 | nil=>simp at h
 | cons x r=>simp
def Cg (s:Str):Bool:=((((!(s==[])&&decide ((s.length:Int)≤16))&&(Sr s tails==(s.length:Int)))&&(Sr (s.take 1) letters==1)) && !Hq s)
theorem c40 (s:Str) (hs:s.length≤1048576) (Hp:List AObj):AFun Tryz.prog 40 [Ac s] Hp (At (Cg s)):=by
 refine Aj [.tmp 2] [0] Tryz.func40 Tryz.ntmps40 (fun d=>?_)
 refine Z56 ?_;refine Z14 ?_;refine Z67 ?_;refine Bl ?_;refine Bk Tryz.call81 (fun hB=>c81 s tails hs (by decide) (by decide) _) ?_;refine Z67 ?_;refine Bl ?_
 refine Bl (h:=Kf 1 (fun _=>Av _) (fun hB=>AL2 hB)) (hr:=?_)
 refine Bk Tryz.call81 (fun hB=>c81 (s.take 1) letters (by simp;omega) (by decide) (by decide) _) ?_
 refine wc ?_;refine Bk Tryz.call82 (fun hB=>c82 s hs _) ?_;refine Bl ?_;exact j4

end Go.SX.Nb
namespace Go.SX.Nb
open Go Go.SX Go.Proofs Go.RowKit
variable [ErrAt]
set_option maxRecDepth 4000
theorem AS6 (s t:Str) (Hp:List AObj):AFun Tryz.prog 277 [Ac s,Ac t] Hp (Ac (Lib.trimPrefix s t)):=by
 refine Lx (xs:=[sv s,sv t]) (v:=sv (Lib.trimPrefix s t)) (fun G w=>.v _ _) (fun w hg=>?_)
 refine (Any.strings_TrimPrefix Tryz.lays101 ⟨s.toArray⟩ ⟨t.toArray⟩ w).mono ?_
 rintro e w' ⟨rfl,rfl⟩
 exact wj
theorem AS7 (s t:Str) (hs:s.length≤9223372036854775807) (ht:t.length<4294967281) (ha:∀c∈t,c.toNat<128) (Hp:List AObj):AFun Tryz.prog 278 [Ac s,Ac t] Hp (Ac (Lib.trimS s t)):=by
 refine Lx (xs:=[sv s,sv t]) (v:=sv (Lib.trimS s t)) (fun G w=>.v _ _) (fun w hg=>?_)
 refine (Any.strings_Trim_laid Tryz.lays160 (by kernel_rfl) ⟨s.toArray⟩ ⟨t.toArray⟩ w (by simpa [ByteArray.size] using hs) (by simpa [ByteArray.size] using ht) (fun j b hj=>ha b (Be hj))).mono ?_
 rintro e w' ⟨rfl,hb⟩
 exact ⟨rfl,hb⟩
theorem AGg (s:Str) (hs:s.length≤1048576) (v:Int) (h:Lib.parseIntB 64 s=.ok v) (Hp:List AObj):AFun Tryz.prog 279 [Ac s,A5 10,A5 64] Hp (.tup [A5 v,.v .nilIface]):=by
 refine Lx (xs:=[sv s,.int .i64 10,.int .i64 64]) (v:=.tuple #[.int .i64 v,.nilIface]) (fun G w=>N9 rfl (fun i y u hy hu=>?_)) (fun w hg=>?_)
 ·match i with
  | 0=>simp at hy hu;subst hy;subst hu;exact .v _ _
  | 1=>simp at hy hu;subst hy;subst hu;exact .v _ _
  | i+2=>simp at hy
 refine (Any.strconv_ParseInt_10_at64_ok Tryz.lays174 ⟨s.toArray⟩ (by simp [ByteArray.size];omega) v h w).mono ?_
 rintro e w' ⟨rfl,rfl|⟨t,rfl⟩⟩
 ·exact wj
 exact ⟨rfl,Lib.bytesWorld_below _ _ _⟩
def Uf (s:Str):AV:=.iface 324 (.ro [.v (sv [80,97,114,115,101,73,110,116]),.v (sv s),.v (.iface 347 (.pointer (some ErrAt.b)))])
theorem ob (s:Str) (hs:s.length≤1048576) (h:Lib.parseIntB 64 s=.range) (Hp:List AObj):AFun Tryz.prog 279 [Ac s,A5 10,A5 64] Hp (.tup [A5 (Lib.intSat 64 s),Uf s]):=by
 refine AFun.libErr (xs:=[sv s,.int .i64 10,.int .i64 64]) (n:=.int .i64 (Lib.intSat 64 s)) (cs:=[sv [80,97,114,115,101,73,110,116],sv s,.iface 347 (.pointer (some ErrAt.b))]) (te:=343) (fun y hy=>?_) (fun w hg=>?_)
 ·simp only [C0,Fb,or_false] at hy
  rcases hy with rfl|rfl|rfl<;>rfl
 refine (Any.strconv_ParseInt_10_at64_range Tryz.lays174 ⟨s.toArray⟩ (by simp [ByteArray.size];omega) h (.iface 347 (.pointer (some ErrAt.b))) w (Vj hg) (.inr ⟨_,_,rfl⟩)).mono ?_
 rintro e w' ⟨N,rfl,h1,h2,h3⟩
 exact ⟨N,rfl,h1,h2,h3⟩
theorem ABz (Hp:List AObj):AFun Tryz.prog 280 [.v .nilIface,.v (.iface 347 (.pointer (some ErrAt.b)))] Hp (At false):=by
 refine Lx (xs:=[.nilIface,.iface 347 (.pointer (some ErrAt.b))]) (v:=.bool false) (fun G w=>.v _ _) (fun w hg=>?_)
 refine (Tryz.is_nil _ w).mono ?_
 rintro e w' ⟨rfl,rfl⟩
 exact wj
theorem od (s:Str) (Hp:List AObj):AFun Tryz.prog 280 [Uf s,.v (.iface 347 (.pointer (some ErrAt.b)))] Hp (At true):=by
 intro d G w vs hn hv hH hT _
 have hsz:vs.size=2:=hn
 have h0:=hv 0 (Uf s) vs[0] rfl (F7 (by omega))
 have h1:=O0 (hv 1 (.v (.iface 347 (.pointer (some ErrAt.b)))) vs[1] rfl (F7 (by omega)))
 have hvs:vs=#[vs[0],vs[1]]:=by
  apply AA6
  ·exact hsz
  intro i hi1 hi2
  match i with
  | 0=>rfl
  | 1=>rfl
  | i+2=>omega
 unfold Uf at h0
 generalize vs[0]=u0 at h0 hvs
 cases h0 with
 | iface _ _ _ u h =>
  cases h with
  | ro _ _ ad f hs h1' hf hr =>
   obtain ⟨ab,ao,asp⟩:=ad
   simp only at hs
   subst hs
   have hc:=(hf 2 _ rfl).2
   have he:=O0 (hr 2 _ rfl)
   rw [he] at hc
   rw [hvs,h1]
   refine (callsIn_wide.2 (Tryz.is_range ab ao ErrAt.b w hc)).mono ?_
   rintro e w' ⟨rfl,rfl⟩
   exact ⟨_,G,_,Hp,rfl,.v _ _,hH,hT,H7 _ _ _,rfl,rfl,rfl⟩
end Go.SX.Nb
namespace Go.SX.Nb
open Go Go.SX Go.Proofs
variable [ErrAt]
set_option maxRecDepth 4000
def jp:Str:=[32,105,110,116,32,116,101,120,116,32,98,111,111,108]
def kindNames:List Str:=[[],[105,110,116],[116,101,120,116],[98,111,111,108]]
theorem wu:Rf jp [32]=kindNames:=by kernel_rfl
def Er (k:Int):Str:=if k<1∨3<k then [] else kindNames.getD k.toNat []
theorem c76 (k:Int) (Hp:List AObj):AFun Tryz.prog 76 [A5 k] Hp (Ac (Er k)):=by
 refine Aj [.tmp 2] [0] Tryz.func76 Tryz.ntmps76 (fun d=>?_)
 refine Z56 ?_;refine Z31 ?_;refine Nj ?_;refine A2 [0,8] ?_
 refine A3 (fun ht8=>?_) (fun ht8=>?_)
 ·refine Z26 ?_;refine Fm ?_;exact A8 (Ai A7) ⟨by rw [show Er k=[] from if_pos (by simpa using ht8)],rfl⟩
 refine Xr ?_
 have hk:1≤k∧k≤3:=by simp at ht8;omega
 have hget:(kindNames.map Ac)[k.toNat]? = some (Ac (kindNames.getD k.toNat [])):=by
  have hlt:k.toNat<kindNames.length:=by show k.toNat<4;omega
  rw [Cp,Ae hlt,Cz,Ae hlt]
  rfl
 refine A9 Tryz.call122 (wu ▸ APx jp [32] (by decide) (by decide) _) ?_;refine A4 ?_
 refine A4 (h:=Ad (k.toNat) (Ac (kindNames.getD k.toNat [])) (fun _=>hget)) (hr:=?_)
 refine Z55 ?_;exact A8 (Ai A7) ⟨by rw [show Er k=kindNames.getD k.toNat [] from if_neg (by omega)],rfl⟩

def Q4 (s of:Str):Bool:=(!(s==[]) && !Lib.contains s [32])&&Lib.contains of ([32]++s++[32])
theorem APz (s of:Str) (hs:s.length≤1048576) (ho:of.length≤1048576) (Hp:List AObj):AFun Tryz.prog 125 [Ac s,Ac of] Hp (At (Q4 s of)):=by
 refine Aj [.tmp 4] [0,1] Tryz.func125 Tryz.ntmps125 (fun d=>?_)
 refine Z60 ?_;refine Z14 ?_;refine Bl ?_;refine Bk Tryz.call131 (fun hB=>wt s [32] (by omega) _) ?_;refine Bl ?_;refine am ?_;refine Bk Tryz.call131 (fun hB=>wt of ([32]++s++[32]) (by omega) _) ?_;refine Z0 ?_;exact nt

def br:Str:=[108,101,110,58,49,32,115,116,114,58,49,32,110,117,109,58,49,32,105,115,110,117,108,108,58,49,32,110,118,108,58,50,32,108,101,102,116,58,50,32,114,105,103,104,116,58,50,32,105,102,58,51]
def arityList:List (Str×UInt8):=[([108,101,110],49),([115,116,114],49),([110,117,109],49),([105,115,110,117,108,108],49),([110,118,108],50),([108,101,102,116],50),([114,105,103,104,116],50),([105,102],51)]
def Jx (p:Str×UInt8):Str:=p.1++[58,p.2]
theorem oe:Rf br [32]=arityList.map Jx:=by kernel_rfl
theorem AC0 {p:Str×UInt8} (hp:p∈arityList):Lib.cut (Jx p) [58]=(p.1,[p.2],true):=by
 have h:(arityList.all fun p=>decide (Lib.cut (Jx p) [58]=(p.1,[p.2],true)))=true:=by kernel_rfl
 exact of_decide_eq_true (Bj.1 h p hp)
def AL3 (p:Str×UInt8):Int:=IntKind.i64.wrap (IntKind.u8.wrap ((p.2.toNat:Int)-48))
def Cc (nm:Str):Int:=match arityList.find? (fun p=>p.1==nm) with|some p=>AL3 p|none => -1
theorem fu {α:Type} {p:α→Bool} {l:List α} {x:Nat} (h:x<l.length) (hp:p l[x]=true) (h2:∀(j:Nat) (y:α),j<x→l[j]? = some y→p y=false):l.find? p=some l[x]:=by
 rw [AAd]
 exact ⟨hp,x,h,rfl,fun j hj=>by simpa using h2 j l[j] hj (Ae _)⟩
theorem Uh {α:Type} {p:α→Bool} {l:List α} (h:∀(j:Nat) (y:α),l[j]? = some y→p y=false):l.find? p=none:=by
 rw [R4]
 intro y hy
 obtain ⟨j,hj⟩:=Cr hy
 simpa using h j y hj
theorem Ui:arityList.length=8:=rfl
theorem wv {p:Str×UInt8} (hp:p∈arityList):(Jx p).length<4294967281:=by
 have h:(arityList.all fun p=>decide ((Jx p).length<4294967281))=true:=by kernel_rfl
 exact of_decide_eq_true (Bj.1 h p hp)
theorem AL4 (nm:Str) (Hp:List AObj):AFun Tryz.prog 126 [Ac nm] Hp (A5 (Cc nm)):=by
 refine Aj [.tmp 2] [0] Tryz.func126 Tryz.ntmps126 (fun d=>?_)
 refine Z56 ?_;refine Z89 ?_;refine A9 Tryz.call122 (oe ▸ APx br [32] (by decide) (by decide) _) ?_;refine Z0 ?_;refine A2 [0,8,9,10] ?_
 refine B9 (α:=Nat) (fun x=>⟨28,Aa 0 (Ac nm) (Aa 8 (En (arityList.map Jx)) (Aa 9 (A5 8) (Aa 10 (A5 (x:Nat)) (fun _=>.any)))),Hp,[],[],none⟩) (fun x=>x≤8∧∀(j:Nat) (y:Str×UInt8),j<x→arityList[j]? = some y→(y.1==nm)=false) (fun x=>8-x) (0) (by simp) (F1 _) rfl (fun x hx=>?_)
 refine Z2 ?_;refine A2 [0,8,9,10,11] ?_
 refine Ev (fun ht11=>?_) (fun ht11=>?_)
 ·have hlt:x<arityList.length:=by rw [Ui];simp at ht11;omega
  have hal:=Ui
  have hget:((arityList.map Jx).map Ac)[x]? = some (Ac (Jx arityList[x])):=by rw [Lt];exact B3 hlt
  refine Wc ?_
  refine A4 (h:=Ad (x) (Ac (Jx arityList[x])) (fun _=>hget)) (hr:=?_)
  refine Z0 ?_;refine A2 [0,4,8,9,10] ?_;refine Z2 ?_;refine A9 Tryz.call163 ((AC0 (Bb hlt)) ▸ APw (Jx arityList[x]) [58] (wv (Bb hlt)) _) ?_;refine Z72 ?_;refine Z11 ?_;refine A2 [0,5,6,8,9,10] ?_;refine Z14 ?_;refine A2 [0,6,8,9,10,22] ?_
  refine A3 (fun ht22=>?_) (fun ht22=>?_)
  ·refine Z2 ?_
   refine A4 (h:=Fj 0 arityList[x].2 (fun _=>rfl)) (hr:=?_)
   refine A4 (h:=Kg) (hr:=?_)
   refine Z55 ?_;refine Z71 ?_;exact A8 (Ai A7) ⟨by rw [Cc,fu hlt ht22 hx.2];rfl,rfl⟩
  refine Ni ?_;refine A2 [0,8,9,10] ?_;exact B2 (x+1) ⟨by omega,D3 hlt hx.2 ht22⟩ (by omega) (Bz rfl)
 have hal:=Ui
 refine Z30 ?_;refine Z26 ?_;exact A8 (Ai A7) ⟨by rw [Cc,Uh (Ld (by simp at ht11;omega) hx.2)],rfl⟩

def og (s:Str):Int:=match Lib.parseIntB 64 s with|.ok v=>v|_=>Lib.intSat 64 s
def aw (s:Str):Bool:=match Lib.parseIntB 64 s with|.ok _=>false|_=>true
def ax (s:Str):AV:=bif aw s then Uf s else .v .nilIface
theorem oh (s:Str):(ax s).strip=ax s:=by unfold ax;cases aw s<;>rfl
attribute [go_sem] oh
theorem AS8 (s:Str) (hs:s.length≤1048576) (h:AGd (Lib.parseIntB 64 s)=false) (Hp:List AObj):AFun Tryz.prog 279 [Ac s,A5 10,A5 64] Hp (.tup [A5 (og s),ax s]):=by
 cases hp:Lib.parseIntB 64 s with
 | ok v =>
  have:=AGg s hs v hp Hp
  rwa [show v=og s by unfold og;rw [hp],show AV.v .nilIface=ax s by unfold ax aw;rw [hp];rfl] at this
 | range =>
  have:=ob s hs hp Hp
  rwa [show Lib.intSat 64 s=og s by unfold og;rw [hp],show Uf s=ax s by unfold ax aw;rw [hp];rfl] at this
 | _=>rw [hp] at h;cases h
theorem AS9 (s:Str) (Hp:List AObj):AFun Tryz.prog 280 [ax s,.v (.iface 347 (.pointer (some ErrAt.b)))] Hp (At (aw s)):=by
 unfold ax
 cases aw s
 ·exact ABz Hp
 exact od s Hp
theorem AC1 (s t:Str):(Lib.trimPrefix s t).length≤s.length:=by
 unfold Lib.trimPrefix;split<;>simp
theorem ww {d:Str} {b:Bool} (h:(((d==[]) || b)==false)=true):d≠[]:=by rintro rfl;simp at h
theorem Rh:∀c∈digs,c.toNat<128:=by decide
theorem Y0 (s:Str):((((Lib.trimPrefix s [45]==[]) || (Lib.trimS (Lib.trimPrefix s [45]) digs != [])) || ((((Lib.trimPrefix s [45]).headD 0).toNat:Int)==48&&decide ((1:Int)<s.length))))=Hf s:=by
 unfold Hf Mp
 have e1:((((Lib.trimPrefix s [45]).headD 0).toNat:Int)==48)=((Lib.trimPrefix s [45]).headD 0==48):=by
  rw [Bool.eq_iff_iff]
  simp only [beq_iff_eq]
  constructor
  ·intro h
   exact UInt8.toNat_inj.1 (by have:(48:UInt8).toNat=48:=rfl;omega)
  intro h;rw [h];rfl
 have e2:decide ((1:Int)<s.length)=decide (1<s.length):=by rw [decide_eq_decide];omega
 rw [e1,e2]
 rfl
theorem wx {s:Str} (hb:Hf s=false) (h:aw s=true):Cf s=(0,4):=by
 unfold Cf
 rw [hb]
 have:=P2 hb
 unfold aw at h
 revert h this
 cases Lib.parseIntB 64 s with
 | ok v=>intro h;cases h
 | range=>intro _ _;rfl
 | _=>intro _ h;cases h
theorem AL5 {s:Str} (hb:Hf s=false) (h:aw s=false):Cf s=(og s,0):=by
 unfold Cf og
 rw [hb]
 unfold aw at h
 revert h
 cases Lib.parseIntB 64 s with
 | ok v=>intro h;rfl
 | _=>intro h;cases h
theorem AC2 (s:Str):s.take (min s.length 200)=s.take 200:=by
 rcases Nat.le_total s.length 200 with h|h
 ·rw [Nat.min_eq_left h,List.take_of_length_le (Nat.le_refl _),List.take_of_length_le h]
 rw [Nat.min_eq_right h]
theorem AQ0 (s:Str) (hs:s.length≤1048576) (Hp:List AObj):AFun Tryz.prog 224 [Ac s] Hp (.tup [A5 (Cf s).1,A5 (Cf s).2]):=by
 refine ACall.body [.tmp 2,.tmp 3] [0] Tryz.func224 Tryz.ntmps224 (fun d=>?_)
 refine Z1 ?_;refine R.fin [0] ?_;refine Z2 ?_;refine R.call Tryz.call277 (AS6 s [45] _) ?_;refine R.go ?_;refine R.fin [0,4] ?_;refine Z31 ?_;refine G.go ?_
 refine G.call Tryz.call278 (fun hB=>AS7 (Lib.trimPrefix s [45]) digs (by have:=AC1 s [45];omega) (by decide) Rh _) ?_
 refine wc ?_
 refine G.go (h:=Q.sindex 0 ((Lib.trimPrefix s [45]).headD 0) (fun hB=>Kv (ww hB))) (hr:=?_)
 refine Z70 ?_;refine Nj ?_;refine R.fin [0,25] ?_
 refine W.cond (fun ht25=>?_) (fun ht25=>?_)
 ·have hb:Hf s=true:=by rw [←Y0];exact ht25
  refine Z1 ?_;refine Z88 ?_;exact K.fin (V.two V.tmp V.tmp) ⟨by rw [Cf,hb];rfl,rfl⟩
 have hb:Hf s=false:=by rw [←Y0];exact ht25
 refine Z58 ?_;refine R.call Tryz.call279 (AS8 s hs (P2 hb) _) ?_;refine L9 ?_;refine R.fin [5,6] ?_;refine Z25 ?_;refine R.loadGlob Tryz.isAgg175 (fun w hg=>Vj hg) ?_;refine R.call Tryz.call280 (AS9 s _) ?_;refine R.fin [5,33] ?_
 refine W.cond (fun ht33=>?_) (fun ht33=>?_)
 ·refine Z1 ?_;refine Z88 ?_;exact K.fin (V.two V.tmp V.tmp) ⟨by rw [wx hb ht33],rfl⟩
 refine Nl ?_;refine nu ?_;exact K.fin (V.two V.tmp V.tmp) ⟨by rw [AL5 hb ht33],rfl⟩

theorem AQ1 (n:Int) (h0 : -9223372036854775808≤n) (h1:n≤9223372036854775807) (Hp:List AObj):AFun Tryz.prog 160 [A5 n] Hp (Ac (Lib.itoa n)):=by
 refine ACall.body [.tmp 2] [0] Tryz.func160 Tryz.ntmps160 (fun d=>?_)
 refine Z56 ?_;refine Z2 ?_;refine R.call Tryz.call207 (AS2 n h0 h1 _) ?_;refine R.go ?_;exact AFq

theorem c86 (Hp:List AObj):AFun Tryz.prog 86 [] Hp (Ca ⟨0,0,[]⟩):=by
 refine ACall.body [.cell 0 23] [] Tryz.func86 Tryz.ntmps86 (fun d=>?_)
 refine Z34 ?_;refine R.fin [0] ?_;refine Z28 ?_;refine G4 ?_;refine R.fin [0] ?_;refine AW.ret ?_;exact K.fin (V.one (V.cellN jA jS))

theorem AL6 (n:Int) (Hp:List AObj):AFun Tryz.prog 221 [A5 n] Hp (Ca ⟨1,n,[]⟩):=by
 refine ACall.body [.cell 2 23] [0] Tryz.func221 Tryz.ntmps221 (fun d=>?_)
 refine Z77 ?_;refine AKa ?_;exact AFp

theorem c88 (b:Bool) (Hp:List AObj):AFun Tryz.prog 88 [At b] Hp (Ca ⟨3,if b then 1 else 0,[]⟩):=by
 refine ACall.body [.cell 2 23] [0] Tryz.func88 Tryz.ntmps88 (fun d=>?_)
 refine Z77 ?_;refine Z28 ?_;refine AG5 ?_;refine Z25 ?_;refine R.fin [2,3,5] ?_
 refine W.cond (fun ht5=>?_) (fun ht5=>?_)
 ·refine Z48 ?_;refine G4 ?_;refine Ua ?_;refine K.thN ?_;refine Z2 ?_;exact AO5
 refine Z58 ?_;exact AO5

theorem wy (s:Str) (Hp:List AObj):AFun Tryz.prog 223 [Ac s] Hp (Ca ⟨2,0,s.take 200⟩):=by
 refine ACall.body [.cell 2 23] [0] Tryz.func223 Tryz.ntmps223 (fun d=>?_)
 refine Z77 ?_;refine Z14 ?_;refine R.minI ?_
 refine R.go (h:=Q.scutH (min s.length 200) (fun _=>Nat.zero_le _) (fun _=>Nat.min_le_left _ _) (hb:=fun _=>by split<;>omega)) (hr:=?_)
 refine Wg ?_;refine Z24 ?_;exact K.fin (V.one (V.cellN jA jS)) ⟨by rw [AC2],rfl⟩

theorem oi {p s:Str} (h:p.isPrefixOf s=true):p.length≤s.length:=(List.isPrefixOf_iff_prefix.1 h).length_le
theorem ol (s o:Str) (h:0≤Lib.index s o):(Lib.index s o).toNat+o.length≤s.length:=by
 induction s with
 | nil =>
  unfold Lib.index at h ⊢
  split at h
  ·rename_i he
   rw [if_pos he]
   cases o with
   | nil=>simp
   | cons a b=>simp at he
  omega
 | cons b l ih =>
  unfold Lib.index at h ⊢
  split at h
  ·rename_i hp
   rw [if_pos hp]
   have:=oi hp
   simpa using this
  rename_i hp
  rw [if_neg hp]
  split at h
  ·omega
  rename_i hi
  rw [if_neg hi]
  have hg:=Lib.index_ge l o
  have hi':Lib.index l o ≠ -1:=by simpa using hi
  have:=ih (by omega)
  simp only [B6]
  omega
def rn:Val:=⟨0,0,[]⟩
def Bs (b:Bool):Val:=⟨3,if b then 1 else 0,[]⟩
def wz (n:Int):Prop := -9223372036854775808≤n∧n≤9223372036854775807
def Ih (v:Val):Str:=
 if !C2 v then [] else if v.kind==1 then Lib.itoa v.n else if v.kind==2 then [39]++Lib.replaceAll v.s [39] [39,39]++[39]
 else if v.kind==0 then [110,117,108,108] else if v.n==1 then [116,114,117,101] else [102,97,108,115,101]
theorem x5 {v:Val} (h:C2 v=true) (h2:(v.kind==2)=true):v.s.length≤200:=by
 have e:v.kind=2:=by simpa using h2
 unfold C2 at h
 rw [e] at h
 simp at h
 omega
theorem jq (s o:Str) (ho:1≤o.length):Lib.countB ⟨s.toArray⟩ ⟨o.toArray⟩≤s.length:=Lib.countB_le ⟨o.toArray⟩ (by simpa [ByteArray.size] using ho) s.length ⟨s.toArray⟩ (by simp [ByteArray.size])
theorem Vl (o n:Str) (B:Nat) (hn:n.length≤B*o.length) (hB:1≤B):∀(k:Nat) (s:Str),(Lib.replaceK o n k s).length≤B*s.length
 | 0,s=>by rw [Lib.replaceK];exact Sa _ hB
 | k+1,s=>by
  rw [Lib.replaceK]
  split
  ·exact Sa _ hB
  rename_i h
  have ih:=Vl o n B hn hB k (s.drop ((Lib.index s o).toNat+o.length))
  have hx:(Lib.index s o).toNat+o.length≤s.length:=by
   have hg:=Lib.index_ge s o
   have hi:Lib.index s o ≠ -1:=by simpa using h
   exact ol s o (by omega)
  simp only [Aw,Gl,E7] at ih ⊢
  have h1:min (Lib.index s o).toNat s.length≤B*(Lib.index s o).toNat:=I7 (Nat.min_le_left _ _) (Sa _ hB)
  have h2:B*s.length=B*(Lib.index s o).toNat+B*o.length+B*(s.length-((Lib.index s o).toNat+o.length)):=by
   rw [←Kn,←Kn];congr 1;omega
  omega
theorem ay (s o n:Str) (B:Nat) (hn:n.length≤B*o.length) (hB:1≤B):(Lib.replaceAll s o n).length≤B*s.length:=by
 unfold Lib.replaceAll Lib.replace
 split
 ·exact Sa _ hB
 exact Vl o n B hn hB _ s
theorem AQ2 (v:Val) (hn:wz v.n) (Hp:List AObj):AFun Tryz.prog 120 [Ca v] Hp (Ac (Ih v)):=by
 refine Aj [.tmp 2] [0] Tryz.func120 Tryz.ntmps120 (fun d=>?_)
 refine Z81 ?_;refine U8 ?_;refine A9 Tryz.call37 (c37 v _) ?_;refine Z0 ?_;refine A2 [1,3] ?_
 refine A3 (fun ht3=>?_) (fun ht3=>?_)
 ·refine Z26 ?_;refine Z7 ?_;exact A8 (Ai A7) ⟨by simp only [Ih,ht3,if_true],rfl⟩
 have hp:C2 v=true:=by simpa using ht3
 refine Z21 ?_;refine A2 [1,7] ?_
 refine A3 (fun ht7=>?_) (fun ht7=>?_)
 ·refine Z1 ?_;refine A9 Tryz.call160 (AQ1 v.n hn.1 hn.2 _) ?_;refine A4 ?_;refine Z4 ?_;refine Z7 ?_;exact A8 (Ai A7) ⟨by simp only [Ih,hp,ht7,Ck,An,if_false,if_true];try rfl,rfl⟩
 refine Z21 ?_;refine A2 [1,14] ?_
 refine A3 (fun ht14=>?_) (fun ht14=>?_)
 ·refine Z1 ?_
  have hl:=x5 hp ht14
  have hrl:=ay v.s [39] [39,39] 2 (by decide) (by decide)
  refine A9 Tryz.call161 (APy v.s [39] [39,39] (by omega) (by decide) (by have:=jq v.s [39] (by decide);simp;omega) _) ?_
  refine Z11 ?_;refine Z4 ?_;refine Z7 ?_;exact A8 (Ai A7) ⟨by simp only [Ih,hp,ht7,ht14,Ck,An,if_false,if_true];try rfl,rfl⟩
 refine Z21 ?_;refine A2 [1,23] ?_
 refine A3 (fun ht23=>?_) (fun ht23=>?_)
 ·refine Z26 ?_;refine Z7 ?_;exact A8 (Ai A7) ⟨by simp only [Ih,hp,ht7,ht14,ht23,Ck,An,if_false,if_true];try rfl,rfl⟩
 refine Z21 ?_;refine A2 [27] ?_
 refine A3 (fun ht27=>?_) (fun ht27=>?_)
 ·refine Z26 ?_;refine Z7 ?_;exact AP4
 refine jc ?_;exact AP4

def AC3 (s:Str):Str:=Lib.replaceAll ((s.take (s.length-1)).drop 1) [39,39] [39]
def Y1 (s:Str):Val:=⟨2,0,(AC3 s).take 200⟩
def jr (s:Str):Val×Int:=if !(Ih (Y1 s)==s) then (rn,7) else (Y1 s,0)
theorem ASa (s:Str) (h2:2≤s.length) (hs:s.length≤1048576) (Hp:List AObj):AFun Tryz.prog 290 [Ac s] Hp (.tup [Ca (jr s).1,A5 (jr s).2]):=by
 refine Aj [.cell 2 23,.tmp 3] [0] Tryz.func290 Tryz.ntmps290 (fun d=>?_)
 refine ji ?_;refine A2 [0,2] ?_;refine Z21 ?_
 refine A4 (h:=Q.scutLH 1 (s.length-1) (fun _=>show 1≤s.length-1 by omega) (fun _=>show s.length-1≤s.length by omega)) (hr:=?_)
 refine A9 Tryz.call161 (APy ((s.take (s.length-1)).drop 1) [39,39] [39] (by simp;omega) (by decide) (by have:=jq ((s.take (s.length-1)).drop 1) [39,39] (by decide);simp at this ⊢;omega) _) ?_
 refine A4 ?_;refine A2 [0,2,4] ?_;refine Z2 ?_;refine A9 Tryz.call223 (wy (AC3 s) _) ?_;refine Z17 ?_;refine A2 [0,2,5] ?_;refine Z25 ?_
 refine A9 Tryz.call120 (AQ2 (Y1 s) ⟨by show (-9223372036854775808:Int)≤0;decide,by show (0:Int)≤9223372036854775807;decide⟩ _) ?_
 refine Z0 ?_;refine A2 [2,5,17] ?_
 refine A3 (fun ht17=>?_) (fun ht17=>?_)
 ·refine Z28 ?_;refine Z47 ?_;refine Z10 ?_;exact AP5
 refine Z58 ?_;refine jd ?_;exact AP5

def bt (s:Str):Bool:=(decide ((1:Int)<s.length)&&Lib.hasPrefix s [39])&&Lib.hasSuffix s [39]
def Iy (s:Str):Val×Int:=
 if s==[110,117,108,108] then (rn,0) else if (s==[116,114,117,101]) || (s==[102,97,108,115,101]) then (Bs (s==[116,114,117,101]),0)
 else if bt s then jr s else if (Cf s).2==0 then (⟨1,(Cf s).1,[]⟩,0) else if (Cf s).2==4 then (rn,4) else (rn,7)
theorem AC4 {s:Str} (h:bt s=true):2≤s.length:=by
 unfold bt at h
 simp only [Ah,decide_eq_true_eq] at h
 omega
theorem AL7 (s:Str) (hs:s.length≤1048576) (Hp:List AObj):AFun Tryz.prog 252 [Ac s] Hp (.tup [Ca (Iy s).1,A5 (Iy s).2]):=by
 refine Aj [.cell 2 23,.tmp 3] [0] Tryz.func252 Tryz.ntmps252 (fun d=>?_)
 refine ji ?_;refine A2 [0,2] ?_;refine jk ?_;refine A2 [0,2,6] ?_
 refine A3 (fun ht6=>?_) (fun ht6=>?_)
 ·refine AKr ?_;refine j5 ?_;exact A8 (As (Ap jA jS) A7) ⟨by simp only [Iy,ht6,if_true,if_false,An];try rfl,rfl⟩
 refine Xv ?_;refine Z0 ?_;refine A2 [0,2,10] ?_
 refine A3 (fun ht10=>?_) (fun ht10=>?_)
 ·refine Z1 ?_;refine A9 Tryz.call88 (c88 (s==[116,114,117,101]) _) ?_;refine j5 ?_;exact A8 (As (Ap jA jS) A7) ⟨by simp only [Iy,ht6,ht10,if_true,if_false,An];try rfl,rfl⟩
 refine fg ?_;refine Bk Tryz.call288 (fun hB=>ARy s [39] _) ?_;refine Wf ?_;refine Bk Tryz.call289 (fun hB=>ARz s [39] (by omega) _) ?_;refine Z0 ?_;refine A2 [0,2,20] ?_
 refine A3 (fun ht20=>?_) (fun ht20=>?_)
 ·have hq:bt s=true:=ht20
  refine Z2 ?_;refine A9 Tryz.call290 (ASa s (AC4 hq) hs _) ?_;refine Z0 ?_;refine j5 ?_;exact A8 (As (Ap jA jS) A7) ⟨by simp only [Iy,ht6,ht10,hq,if_true,if_false,An];try rfl,rfl⟩
 have hq:bt s=false:=ht20
 refine Z18 ?_;refine Z2 ?_;refine A9 Tryz.call224 (AQ0 s hs _) ?_;refine L9 ?_;refine A2 [2,4,5] ?_;refine Z25 ?_;refine A2 [2,4,5,41] ?_;refine Z97 ?_;refine A2 [2,4,5,41,42] ?_
 refine A3 (fun ht42=>?_) (fun ht42=>?_)
 ·refine Z2 ?_;refine A9 Tryz.call221 (AL6 (Cf s).1 _) ?_;refine j5 ?_;exact A8 (As (Ap jA jS) A7) ⟨by simp only [Iy,ht6,ht10,hq,ht42,if_true,if_false,An];try rfl,rfl⟩
 refine Z1 ?_;refine A2 [2,5,46] ?_
 refine A3 (fun ht46=>?_) (fun ht46=>?_)
 ·refine Z28 ?_;refine w6 ?_;exact A8 (As (Ap jA jS) A7) ⟨by simp only [Iy,ht6,ht10,hq,ht42,ht46,if_true,if_false,An];rw [show (Cf s).2=4 by simpa using ht46];rfl,rfl⟩
 refine Z18 ?_;refine Z28 ?_;refine jd ?_;exact A8 (As (Ap jA jS) A7) ⟨by simp only [Iy,ht6,ht10,hq,ht42,ht46,if_true,if_false,An];try rfl,rfl⟩

def blanks:Str:=[32,9,10]
/-- What stands behind blanks and notes. -/
def Hs:Str→Bool→Str
 | [],_=>[]
 | c::r,false=>if blanks.contains c then Hs r false else if c==35 then Hs r true else c::r
 | c::r,true=>if c==10 then Hs r false else Hs r true
def runN (s of:Str):Nat:=s.length-(Lib.trimLeftS s of).length
theorem fx (s of:Str):Sr s of=(runN s of:Int):=by
 have:=Wy s of
 unfold Sr runN
 omega
theorem g0 (s of:Str):runN s of≤s.length:=Nat.sub_le _ _
theorem AC5 (s of:Str):s.drop (runN s of)=Lib.trimLeftS s of:=by
 unfold runN Lib.trimLeftS
 have h:∀l:Str,l.drop (l.length-(l.dropWhile (of.contains ·)).length)=l.dropWhile (of.contains ·):=by
  intro l
  have e:=r9 (p:=(of.contains ·)) (l:=l)
  have hl:l.length-(l.dropWhile (of.contains ·)).length=(l.takeWhile (of.contains ·)).length:=by
   have:=congrArg List.length e
   simp only [Aw] at this
   omega
  rw [hl]
  conv=>lhs;rw [←e]
  rw [List.drop_left']
  rw [e]
 exact h s
theorem AC6 (s of:Str):s.take (runN s of)=s.takeWhile (of.contains ·):=by
 have e:=r9 (p:=(of.contains ·)) (l:=s)
 have hl:runN s of=(s.takeWhile (of.contains ·)).length:=by
  unfold runN Lib.trimLeftS
  have:=congrArg List.length e
  simp only [Aw] at this
  omega
 rw [hl]
 conv=>lhs;rw [←e]
 rw [List.take_left']
 rw [e]
theorem Uj:∀s:Str,Hs (Lib.trimLeftS s blanks) false=Hs s false
 | []=>rfl
 | c::r=>by
  unfold Lib.trimLeftS
  rw [Tt]
  by_cases h:blanks.contains c=true
  ·rw [if_pos h,Hs,if_pos h]
   exact Uj r
  rw [if_neg h]
theorem bu (of:Str):∀(s:Str) (c:UInt8) (t:Str),Lib.trimLeftS s of=c::t→of.contains c=false
 | [],c,t,h=>by cases h
 | b::r,c,t,h=>by
  unfold Lib.trimLeftS at h
  rw [Tt] at h
  split at h
  ·exact bu of r c t h
  rename_i hb
  injection h with h1 h2
  subst h1
  simpa using hb
def Jy:Str→Str
 | []=>[]
 | c::r=>if c==10 then r else Jy r
theorem AL8 (s:Str):(Lib.cut s [10]).2.1=Jy s:=by
 unfold Lib.cut
 induction s with
 | nil=>rfl
 | cons c r ih =>
  have hg:=Lib.index_ge r [10]
  rw [Jy]
  unfold Lib.index
  by_cases hc:c=10
  ·subst hc
   simp [List.isPrefixOf]
  have h1:([10]:Str).isPrefixOf (c::r)=false:=by simp [List.isPrefixOf,Ne.symm hc]
  have h2:(c==10)=false:=by simpa using hc
  rw [h1,h2]
  simp only [An,if_false]
  by_cases hi:Lib.index r [10] = -1
  ·rw [hi] at ih ⊢
   simpa using ih
  have h3:(Lib.index r [10] == -1)=false:=by simpa using hi
  rw [h3]
  simp only [An,if_false]
  rw [if_pos (by omega)] at ih ⊢
  have e:(Lib.index r [10]+1).toNat=(Lib.index r [10]).toNat+1:=by omega
  rw [e]
  rw [←ih]
  show (c::r).drop _=_
  rw [show (Lib.index r [10]).toNat+1+([10]:Str).length=((Lib.index r [10]).toNat+([10]:Str).length)+1 by omega,my]
theorem bv:∀t:Str,Hs t true=Hs (Jy t) false
 | []=>rfl
 | c::r=>by
  rw [Hs,Jy]
  split
  ·rfl
  exact bv r
theorem Y2:∀t:Str,(Jy t).length≤t.length
 | []=>Ao _
 | c::r=>by
  rw [Jy]
  split
  ·simp
  have:=Y2 r;simp only [B6];omega
def gapM (s:Str):Nat:=s.length-(Hs s false).length
theorem x6 {d:Str} (h:((d==[])==false)=true):d≠[]:=by rintro rfl;simp at h
theorem g7:∀c∈blanks,c.toNat<128:=by decide
/-- The gap is at its end. -/
theorem AGh {x s:Str} (hx:Hs x false=Hs s false) (h:((Lib.trimLeftS x blanks==[]) || ((((Lib.trimLeftS x blanks).headD 0).toNat:Int) != 35))=true):Hs s false=Lib.trimLeftS x blanks:=by
 rw [←hx,←Uj]
 cases ht:Lib.trimLeftS x blanks with
 | nil=>rfl
 | cons c t =>
  rw [ht] at h
  have hb:=bu blanks x c t ht
  have hc:(c==35)=false:=by
   simp at h
   rw [beq_eq_false_iff_ne]
   rintro rfl
   exact h rfl
  rw [Hs,hb,hc]
  rfl
theorem AL9 {x s:Str} (hx:Hs x false=Hs s false) (h:((Lib.trimLeftS x blanks==[]) || ((((Lib.trimLeftS x blanks).headD 0).toNat:Int) != 35))=false):
  Hs (Lib.cut (Lib.trimLeftS x blanks) [10]).2.1 false=Hs s false∧(Lib.cut (Lib.trimLeftS x blanks) [10]).2.1.length<x.length:=by
 have hl:=Wy x blanks
 rw [AL8,←hx,←Uj x]
 cases ht:Lib.trimLeftS x blanks with
 | nil=>rw [ht] at h;simp at h
 | cons c t =>
  rw [ht] at h hl
  have hc:c=35:=by
   simp at h
   exact Kp.1 (by have:(35:UInt8).toNat=35:=rfl;omega)
  subst hc
  have ha:=Y2 t
  refine ⟨?_,?_⟩
  ·rw [Jy,Hs]
   have e1:blanks.contains 35=false:=by decide
   rw [e1]
   exact (bv t).symm
  rw [Jy]
  simp only [B6] at hl
  show (Jy t).length<_
  omega
theorem AQ3 (s:Str) (hs:s.length≤1048576) (Hp:List AObj):AFun Tryz.prog 154 [Ac s] Hp (A5 (gapM s)):=by
 refine Aj [.tmp 2] [0] Tryz.func154 Tryz.ntmps154 (fun d=>?_)
 refine Z56 ?_;refine nx ?_
 refine B9 (α:=Str) (fun x=>⟨27,Aa 0 (Ac s) (Aa 3 (Ac x) (fun _=>.any)),Hp,[],[],none⟩) (fun x=>Hs x false=Hs s false∧x.length≤s.length) (fun x=>x.length) (s) (by simp) (F1 _) rfl (fun x hx=>?_)
 refine J6 ?_;refine E9 ?_
 have hx2:=hx.2
 have htl:=Wy x blanks
 refine Z0 ?_;refine A9 Tryz.call81 (c81 x blanks (by omega) (by decide) g7 _) ?_
 refine A4 (h:=R9 (runN x blanks) (fun _=>g0 _ _) (fun _=>Ao _) (ha:=fun _=>fx x blanks)) (hr:=?_)
 rw [AC5]
 refine A4 ?_;refine Lr ?_;refine Z31 ?_;refine Bl ?_
 refine Bl (h:=Fj 0 ((Lib.trimLeftS x blanks).headD 0) (fun hB=>Kv (x6 hB))) (hr:=?_)
 refine Z92 ?_;refine A2 [0,3,15] ?_
 refine A3 (fun ht15=>?_) (fun ht15=>?_)
 ·have he:=AGh hx.1 ht15
  refine Z21 ?_;refine Z55 ?_;refine Fm ?_;refine K.blR ?_;refine Kh ?_;exact A8 (Ai A7) ⟨by rw [show ((s.length:Int)-(Lib.trimLeftS x blanks).length)=(gapM s:Int) by unfold gapM;rw [he];omega],rfl⟩
 have he:=AL9 hx.1 ht15
 refine Z3 ?_;refine Z48 ?_;refine A9 Tryz.call163 (APw (Lib.trimLeftS x blanks) [10] (by omega) _) ?_;refine L9 ?_;refine Lr ?_;refine Ix ?_;exact B2 _ ⟨he.1,by omega⟩ he.2 (Bz rfl)

def Eg (s of:Str):Str:=s.take (runN s of)
theorem Jj (s of:Str):(Eg s of).length≤s.length:=by unfold Eg;simp;omega
def Ri (s:Str):Int×Str×Int×Int:=
 if Hq (Eg s tails) then (2,Eg s tails,(Eg s tails).length,0) else if !Cg (Eg s tails) then (0,[],0,3) else (1,Eg s tails,(Eg s tails).length,0)
abbrev AC7 (r:Int×Str×Int×Int):AV:=.tup [A5 r.1,Ac r.2.1,A5 r.2.2.1,A5 r.2.2.2]
theorem js:∀c∈tails,c.toNat<128:=by decide
theorem az:∀c∈letters,c.toNat<128:=by decide
theorem ASb (s:Str) (hs:s.length≤1048576) (Hp:List AObj):AFun Tryz.prog 199 [Ac s] Hp (AC7 (Ri s)):=by
 refine Aj [.tmp 2,.tmp 3,.tmp 4,.tmp 5] [0] Tryz.func199 Tryz.ntmps199 (fun d=>?_)
 refine ABn ?_;refine Z1 ?_;refine A9 Tryz.call81 (c81 s tails hs (by decide) js _) ?_
 refine A4 (h:=Kf (runN s tails) (fun _=>Av _) (fun _=>g0 _ _) (hb:=fun _=>fx s tails)) (hr:=?_)
 refine A4 ?_;refine A2 [6] ?_;refine U8 ?_
 refine A9 Tryz.call82 (c82 (Eg s tails) (by have:=Jj s tails;omega) _) ?_
 refine A4 ?_;refine A2 [6,11] ?_
 refine A3 (fun ht11=>?_) (fun ht11=>?_)
 ·refine E9 ?_
  have hwl:=Jj s tails
  refine Z72 ?_;refine Z11 ?_;refine ABa ?_;exact A8 (L6 A7 A7 A7 A7) ⟨by simp only [Ri,ht11,if_true,if_false,An];try rfl,rfl⟩
 refine Z2 ?_
 refine A9 Tryz.call40 (c40 (Eg s tails) (by have:=Jj s tails;omega) _) ?_
 refine Z0 ?_;refine A2 [6,17] ?_
 refine A3 (fun ht17=>?_) (fun ht17=>?_)
 ·refine Z21 ?_;refine ABa ?_;exact AP6
 refine Z18 ?_;refine E9 ?_
 have hwl:=Jj s tails
 refine Z72 ?_;refine Z11 ?_;refine AB9 ?_;exact AP6

def g8 (s:Str):Int×Str×Int×Int:=(3,Eg s digs,(Eg s digs).length,(Iy (Eg s digs)).2)
theorem ASc (s:Str) (hs:s.length≤1048576) (Hp:List AObj):AFun Tryz.prog 200 [Ac s] Hp (AC7 (g8 s)):=by
 refine Aj [.tmp 2,.tmp 3,.tmp 4,.tmp 5] [0] Tryz.func200 Tryz.ntmps200 (fun d=>?_)
 refine ABn ?_;refine Z1 ?_;refine A9 Tryz.call81 (c81 s digs hs (by decide) Rh _) ?_
 refine A4 (h:=Kf (runN s digs) (fun _=>Av _) (fun _=>g0 _ _) (hb:=fun _=>fx s digs)) (hr:=?_)
 refine A4 ?_;refine A2 [6] ?_;refine Z2 ?_
 refine A9 Tryz.call252 (AL7 (Eg s digs) (by have:=Jj s digs;omega) _) ?_
 refine Z94 ?_;refine A2 [6,8] ?_;refine Z21 ?_;refine Z72 ?_;refine AB9 ?_;exact A8 (L6 A7 A7 A7 A7) ⟨rfl,rfl⟩

/-- Behind a mark: how many bytes up to the one that closes, it too. -/
def E0:Str→Option Nat
 | []=>none
 | [c]=>if c==39 then some 1 else none
 | c::d::t=>if c==39 then (if d==39 then (E0 t).map (·+2) else some 1) else (E0 (d::t)).map (·+1)
theorem Vm {c:UInt8} (h:¬(c==39)=true) (r:Str):E0 (c::r)=(E0 r).map (·+1):=by
 cases r with
 | nil=>simp [E0,h]
 | cons d t=>rw [E0,if_neg h]
theorem Y3 (r:Str):E0 (39::r)=match r with
   | []=>some 1
   | d::t=>if d==39 then (E0 t).map (·+2) else some 1:=by
 cases r with
 | nil=>rfl
 | cons d t=>rw [E0];simp
def Ly (s:Str):Int×Str×Int×Int:=
 match E0 (s.drop 1) with
 | none=>(0,[],0,7)
 | some n=>if (Iy (s.take (n+1))).2 != 0 then (0,[],0,3) else (4,(Iy (s.take (n+1))).1.s,((n+1:Nat):Int),0)
theorem Y4:∀l:Str,Lib.indexByte l 39 = -1→E0 l=none
 | [],_=>by rw [E0]
 | c::r,h=>by
  rw [Lib.indexByte] at h
  split at h
  ·omega
  rename_i hc
  rw [Vm hc]
  split at h
  ·rename_i hi
   rw [Y4 r (by simpa using hi)]
   rfl
  have:=Lib.indexByte_ge r 39;omega
theorem jt:∀(l:Str) (k:Nat),Lib.indexByte l 39=(k:Int)→k<l.length∧E0 l=(E0 (l.drop k)).map (·+k)∧l[k]? = some 39
 | [],k,h=>by rw [Lib.indexByte] at h;omega
 | c::r,k,h=>by
  rw [Lib.indexByte] at h
  split at h
  ·rename_i hc
   have:k=0:=by omega
   subst this
   refine ⟨by simp,?_,by simpa using hc⟩
   rw [dv]
   cases E0 (c::r)<;>simp
  rename_i hc
  split at h
  ·omega
  have hg:=Lib.indexByte_ge r 39
  rename_i hi
  have hi':Lib.indexByte r 39 ≠ -1:=by simpa using hi
  obtain ⟨m,rfl⟩:∃m,k=m+1:=⟨k-1,by omega⟩
  obtain ⟨h1,h2,h3⟩:=jt r m (by omega)
  refine ⟨by simpa using h1,?_,by simpa using h3⟩
  rw [Vm hc,my,h2]
  cases E0 (r.drop m)<;>simp [Lu]
theorem No {s:Str} {n:Nat} {c:UInt8} (h:s[n]? = some c):s.drop n=c::s.drop (n+1):=by
 obtain ⟨hlt,he⟩:=Ak.1 h
 rw [H6 hlt,he]
theorem Ss {s:Str} {n:Nat} (h:n<s.length):s[n]? = some (s.getD n 0):=by
 rw [Cz,Ae h];rfl
theorem AC8 {s:Str} {x k:Nat} (h:(decide (((x:Int)+((k:Int)+1))<s.length)==true)=true):x+(k+1)<s.length:=by
 have:=of_decide_eq_true (by simpa using h:decide (((x:Int)+((k:Int)+1))<s.length)=true)
 omega
/-- What a round of the search for the mark that closes comes to. -/
theorem oo {s:Str} {x k:Nat} (h1:1≤x) (hx:E0 (s.drop 1)=(E0 (s.drop x)).map (·+(x-1))) (hk:Lib.indexByte (s.drop x) 39=(k:Int)):
  x+(k+1)≤s.length ∧
   ((decide (((x:Int)+((k:Int)+1))<s.length)&&(((s.getD (x+(k+1)) 0).toNat:Int)==39))=true→x+(k+1)+1≤s.length∧E0 (s.drop 1)=(E0 (s.drop (x+(k+1)+1))).map (·+(x+(k+1)+1-1))) ∧
   ((decide (((x:Int)+((k:Int)+1))<s.length)&&(((s.getD (x+(k+1)) 0).toNat:Int)==39))=false→E0 (s.drop 1)=some (x+k)):=by
 obtain ⟨g1,g2,g3⟩:=jt _ k hk
 rw [Gl] at g1
 rw [G9] at g3
 have e0:(s.drop x).drop k=39::s.drop (x+(k+1)):=by rw [du,No g3,Lu]
 rw [e0] at g2
 refine ⟨by omega,fun h=>?_,fun h=>?_⟩
 ·simp only [Ah,decide_eq_true_eq,beq_iff_eq] at h
  have hlt:x+(k+1)<s.length:=by omega
  have hc:s.getD (x+(k+1)) 0=39:=Kp.1 (by have:(39:UInt8).toNat=39:=rfl;omega)
  have hd:=No (Ss hlt)
  rw [hc] at hd
  refine ⟨by omega,?_⟩
  rw [hx,g2,hd,Y3]
  simp only [beq_self_eq_true,if_true]
  cases E0 (s.drop (x+(k+1)+1)) with
  | none=>rfl
  | some m=>simp;omega
 rw [hx,g2,Y3]
 cases hd:s.drop (x+(k+1)) with
 | nil=>simp;omega
 | cons d t =>
  have hlt:x+(k+1)<s.length:=by
   have:=congrArg List.length hd
   simp at this;omega
  have hg:=No (Ss hlt)
  rw [hd] at hg
  injection hg with hg1 hg2
  have hne:(d==39)=false:=by
   rw [hg1,beq_eq_false_iff_ne]
   intro e
   rw [e] at h
   simp at h
   omega
  simp [hne];omega
theorem ASd (s:Str) (h0:1≤s.length) (hs:s.length≤1048576) (Hp:List AObj):AFun Tryz.prog 201 [Ac s] Hp (AC7 (Ly s)):=by
 refine Aj [.tmp 2,.tmp 3,.tmp 4,.tmp 5] [0] Tryz.func201 Tryz.ntmps201 (fun d=>?_)
 refine ABn ?_;refine Z2 ?_;refine A2 [0,6] ?_
 refine B9 (α:=Nat) (fun x=>⟨44,Aa 0 (Ac s) (Aa 6 (A5 (x:Nat)) (fun _=>.any)),Hp,[],[],none⟩) (fun x=>1≤x∧x≤s.length∧E0 (s.drop 1)=(E0 (s.drop x)).map (·+(x-1))) (fun x=>s.length-x) (1) ⟨Ao _,h0,by cases E0 (s.drop 1)<;>rfl⟩ (F1 _) rfl (fun x hx=>?_)
 refine Z97 ?_
 refine A4 (h:=R9 x (fun _=>hx.2.1) (fun _=>Ao _)) (hr:=?_)
 refine A9 Tryz.call253 (AS0 (s.drop x) 39 _) ?_;refine A4 ?_;refine A2 [0,6,7] ?_;refine Z8 ?_;refine A2 [0,6,7,15] ?_
 refine A3 (fun ht15=>?_) (fun ht15=>?_)
 ·have hk:Lib.indexByte (s.drop x) 39 = -1:=by have:=Lib.indexByte_ge (s.drop x) 39;simp at ht15;omega
  have hcq:E0 (s.drop 1)=none:=by rw [hx.2.2,Y4 _ hk];rfl
  refine Z21 ?_;refine Sp ?_;refine nz ?_;refine Kh ?_;exact A8 (L6 A7 A7 A7 A7) ⟨by simp only [Ly,hcq],rfl⟩
 obtain ⟨k0,hk⟩:=mr (show 0≤Lib.indexByte (s.drop x) 39 by simp at ht15;omega)
 rw [hk]
 refine Xr ?_
 have hst:=oo hx.1 hx.2.2 hk
 refine L9 ?_;refine A2 [0,6] ?_;refine O8 ?_;refine Z5 ?_
 refine Bl (h:=Fj (x+(k0+1)) (s.getD (x+(k0+1)) 0) (fun hB=>Ss (AC8 hB))) (hr:=?_)
 refine Z92 ?_;refine A2 [0,6,29] ?_
 refine A3 (fun ht29=>?_) (fun ht29=>?_)
 ·have hon:=hst.2.1 ht29
  refine Z14 ?_;refine A2 [0,6] ?_;refine Z35 ?_;refine K.blE ?_;exact B2 ((x+(k0+1))+1) ⟨by omega,hon.1,hon.2⟩ (by omega) (Bz rfl)
 have hcq:=hst.2.2 ht29
 refine Z98 ?_
 refine A4 (h:=Kf (x+(k0+1)) (fun _=>Av _) (fun _=>hst.1)) (hr:=?_)
 refine A9 Tryz.call252 (AL7 (s.take (x+(k0+1))) (by simp;omega) _) ?_
 refine Z94 ?_;refine A2 [6,8,9] ?_;refine Z8 ?_;refine A2 [6,8,40] ?_
 refine A3 (fun ht40=>?_) (fun ht40=>?_)
 ·refine Z21 ?_;refine Sp ?_;refine nz ?_;refine Kh ?_;exact A8 (L6 A7 A7 A7 A7) ⟨by simp only [Ly,hcq,show x+k0+1=x+(k0+1) by omega];rw [if_pos ht40],rfl⟩
 refine Z3 ?_;refine C3 [0,1,0,0,11,31,63] 5 Am (by kernel_rfl) ?_;refine Xu ?_;refine Dq ?_;refine Z0 ?_;refine AB9 ?_;refine K.blR ?_;refine Kh ?_;exact A8 (L6 A7 A7 A7 A7) ⟨by simp only [Ly,hcq,show x+k0+1=x+(k0+1) by omega];rw [if_neg (by rw [ht40];simp)];rfl,rfl⟩

def rp:Str:=[60,61,32,62,61,32,33,61]
def rq:Str:=[40,41,44,59,61,60,62,43,45,42,47,37,38,58]
def Y5 (s:Str):Int×Str×Int×Int:=
 if (decide ((1:Int)<s.length)&&Lib.contains rp (s.take 2))&&(((s.getD 1 0).toNat:Int)==61) then (5,s.take 2,2,0)
 else if Lib.contains rq (s.take 1) then (5,s.take 1,1,0) else (0,[],0,7)
theorem x7 {s:Str} {b c:Bool} (h:(((decide ((1:Int)<s.length)&&b)&&c)==true)=true):1<s.length:=by
 revert h
 cases hd:decide ((1:Int)<s.length) with
 | true=>intro _;have:=of_decide_eq_true hd;omega
 | false=>intro h;simp at h
theorem Y6 {s:Str} {b:Bool} (h:((decide ((1:Int)<s.length)&&b)==true)=true):1<s.length:=x7 (c:=true) (by rw [R0];exact h)
theorem ot {s:Str} (h:(decide ((1:Int)<s.length)==true)=true):2≤s.length:=Y6 (b:=true) (by rw [R0];exact h)
theorem ASe (s:Str) (h0:1≤s.length) (Hp:List AObj):AFun Tryz.prog 202 [Ac s] Hp (AC7 (Y5 s)):=by
 refine Aj [.tmp 2,.tmp 3,.tmp 4,.tmp 5] [0] Tryz.func202 Tryz.ntmps202 (fun d=>?_)
 refine ABn ?_;refine Z46 ?_;refine Bl ?_
 refine Bl (h:=Kf 2 (fun _=>Av _) (fun hB=>ot hB)) (hr:=?_)
 refine Bk Tryz.call131 (fun hB=>wt rp (s.take 2) (by decide) _) ?_;refine Wf ?_
 refine Bl (h:=Fj 1 (s.getD 1 0) (fun hB=>Ss (Y6 hB))) (hr:=?_)
 refine Z92 ?_;refine A2 [0,18] ?_
 refine A3 (fun ht18=>?_) (fun ht18=>?_)
 ·have h2:2≤s.length:=by revert ht18;cases hd:decide ((1:Int)<s.length) with
   | true=>intro _;have:=of_decide_eq_true hd;omega
   | false=>intro h;simp at h
  refine C3 [0,1,0,7,15,31] 3 Am (by kernel_rfl) ?_;refine Aq ?_
  refine Aq (h:=Kf 2 (fun _=>Av _) (fun _=>h2)) (hr:=?_)
  refine Z86 ?_;refine Z11 ?_;refine Sp ?_;refine Z10 ?_;exact A8 (L6 A7 A7 A7 A7) ⟨by simp only [Y5,ht18,if_true,if_false,An];try rfl,rfl⟩
 refine Nk ?_
 refine A4 (h:=Kf 1 (fun _=>Av _) (fun _=>h0)) (hr:=?_)
 refine A9 Tryz.call131 (wt rq (s.take 1) (by decide) _) ?_;refine A2 [0,23] ?_
 refine A3 (fun ht23=>?_) (fun ht23=>?_)
 ·refine C3 [0,1,0,7,15,31] 3 Am (by kernel_rfl) ?_;refine Aq ?_
  refine Aq (h:=Kf 1 (fun _=>Av _) (fun _=>h0)) (hr:=?_)
  refine Z86 ?_;refine Z11 ?_;refine Sp ?_;refine Z10 ?_;exact AP7
 refine U9 ?_;refine AB9 ?_;exact AP7

def D0 (s:Str):Int×Str×Int×Int:=
 if decide (0<Sr (s.take 1) letters) then Ri s else if decide (0<Sr (s.take 1) digs) then g8 s else if ((s.getD 0 0).toNat:Int)==39 then Ly s else Y5 s
theorem ASf (s:Str) (h0:1≤s.length) (hs:s.length≤1048576) (Hp:List AObj):AFun Tryz.prog 155 [Ac s] Hp (AC7 (D0 s)):=by
 refine Aj [.tmp 2,.tmp 3,.tmp 4,.tmp 5] [0] Tryz.func155 Tryz.ntmps155 (fun d=>?_)
 refine ABn ?_;refine U8 ?_
 refine A4 (h:=Kf 1 (fun _=>Av _) (fun _=>h0)) (hr:=?_)
 refine A9 Tryz.call81 (c81 (s.take 1) letters (by simp;omega) (by decide) az _) ?_
 refine Z0 ?_;refine A2 [0,6] ?_
 refine A3 (fun ht6=>?_) (fun ht6=>?_)
 ·refine Z2 ?_;refine A9 Tryz.call199 (ASb s hs _) ?_;refine Z72 ?_;refine Z72 ?_;refine ABa ?_;exact A8 (L6 A7 A7 A7 A7) ⟨by simp only [D0,ht6,if_true,if_false,An],rfl⟩
 refine Z2 ?_
 refine A4 (h:=Kf 1 (fun _=>Av _) (fun _=>h0)) (hr:=?_)
 refine A9 Tryz.call81 (c81 (s.take 1) digs (by simp;omega) (by decide) Rh _) ?_
 refine Z0 ?_;refine A2 [0,17] ?_
 refine A3 (fun ht17=>?_) (fun ht17=>?_)
 ·refine Z2 ?_;refine A9 Tryz.call200 (ASc s hs _) ?_;refine Z72 ?_;refine Z72 ?_;refine ABa ?_;exact A8 (L6 A7 A7 A7 A7) ⟨by simp only [D0,ht6,ht17,if_true,if_false,An],rfl⟩
 refine Z2 ?_
 refine A4 (h:=Fj 0 (s.getD 0 0) (fun _=>Ss h0)) (hr:=?_)
 refine Z0 ?_;refine A2 [0,28] ?_
 refine A3 (fun ht28=>?_) (fun ht28=>?_)
 ·refine Z2 ?_;refine A9 Tryz.call201 (ASd s h0 hs _) ?_;refine Z72 ?_;refine Z72 ?_;refine ABa ?_;exact AP8
 refine Z18 ?_;refine Z2 ?_;refine A9 Tryz.call202 (ASe s h0 _) ?_;refine Z72 ?_;refine Z72 ?_;refine AB9 ?_;exact AP8

structure Tok where
 kind:Int
 text:Str
 at_:Nat
 deriving DecidableEq
abbrev Ls (t:Tok):AV:=.agg [.v (.int .i64 t.kind),.v (sv t.text),.v (.int .i64 (t.at_:Int))]
abbrev rr (l:List Tok):AV:=.slice false 3 (l.map Ls)
theorem rt {c:UInt8} {of:Str} (h:decide (0<Sr ([c]:Str) of)=true):of.contains c=true:=by
 have:=of_decide_eq_true h
 unfold Sr Lib.trimLeftS at this
 rw [Tt] at this
 cases hc:of.contains c with
 | true=>rfl
 | false=>rw [hc] at this;simp at this
theorem Y7 {c:UInt8} {r of:Str} (h:of.contains c=true):1≤(Eg (c::r) of).length:=by
 unfold Eg
 rw [AC6,List.takeWhile_cons,h]
 simp
theorem b6:∀c:UInt8,letters.contains c=true→tails.contains c=true:=by
 have h:((List.range 256).all fun n => !letters.contains (UInt8.ofNat n) || tails.contains (UInt8.ofNat n))=true:=by kernel_rfl
 intro c hc
 have:=Bj.1 h c.toNat (Po.2 c.toNat_lt)
 rw [show UInt8.ofNat c.toNat=c by simp,hc] at this
 simpa using this
theorem Y8:∀(l:Str) (n:Nat),E0 l=some n→1≤n∧n≤l.length
 | [],n,h=>by cases h
 | [c],n,h=>by
  rw [E0] at h
  split at h
  ·injection h with h;subst h;simp
  cases h
 | c::d::t,n,h=>by
  rw [E0] at h
  split at h
  ·split at h
   ·rw [Ez] at h
    obtain ⟨m,hm,rfl⟩:=h
    have:=Y8 t m hm
    simp only [B6];omega
   injection h with h;subst h;simp
  rw [Ez] at h
  obtain ⟨m,hm,rfl⟩:=h
  have:=Y8 (d::t) m hm
  simp only [B6] at this ⊢;omega
theorem ru {s:Str} (h0:1≤s.length) (h:(D0 s).2.2.2=0):∃n:Nat,(D0 s).2.2.1=(n:Int)∧1≤n∧n≤s.length:=by
 cases s with
 | nil=>simp at h0
 | cons c r =>
  unfold D0 at h ⊢
  split at h
  ·rename_i h1
   rw [if_pos h1]
   have hc:=b6 c (rt h1)
   have hw:=Y7 (r:=r) hc
   have hl:=Jj (c::r) tails
   unfold Ri at h ⊢
   split at h
   ·rename_i h2;rw [if_pos h2];exact ⟨_,rfl,hw,hl⟩
   rename_i h2
   rw [if_neg h2]
   split at h
   ·exact ABp
   rename_i h3;rw [if_neg h3];exact ⟨_,rfl,hw,hl⟩
  rename_i h1
  rw [if_neg h1]
  split at h
  ·rename_i h2
   rw [if_pos h2]
   exact ⟨_,rfl,Y7 (r:=r) (rt h2),Jj _ _⟩
  rename_i h2
  rw [if_neg h2]
  split at h
  ·rename_i h3
   rw [if_pos h3]
   unfold Ly at h ⊢
   split at h
   ·exact ABp
   rename_i n hn
   split at h
   ·exact ABp
   rename_i h4
   simp only [if_neg h4]
   have:=Y8 _ n hn
   simp at this
   exact ⟨n+1,rfl,by omega,by simp only [B6];omega⟩
  rename_i h3
  rw [if_neg h3]
  unfold Y5 at h ⊢
  split at h
  ·rename_i h4
   rw [if_pos h4]
   refine ⟨2,rfl,by omega,?_⟩
   simp only [Ah,decide_eq_true_eq] at h4
   have:=h4.1.1
   omega
  rename_i h4
  rw [if_neg h4]
  split at h
  ·rename_i h5;rw [if_pos h5];exact ⟨1,rfl,by omega,h0⟩
  exact ABp
/-- The words from a place on, up to one that is wrong. -/
def Jk:Nat→Nat→Str→List (Tok×Int)
 | 0,_,_=>[]
 | f+1,k,s=>if s==[] then [] else
  (⟨(D0 s).1,(D0 s).2.1,k⟩,(D0 s).2.2.2)::(if (D0 s).2.2.2==0 then Jk f (k+(D0 s).2.2.1.toNat+gapM (s.drop (D0 s).2.2.1.toNat)) ((s.drop (D0 s).2.2.1.toNat).drop (gapM (s.drop (D0 s).2.2.1.toNat))) else [])
def Cv (s:Str):List (Tok×Int):=Jk (s.length+1) (gapM s) (s.drop (gapM s))
theorem ou (s:Str):gapM s≤s.length:=Nat.sub_le _ _
end Go.SX.Nb
namespace Go.SX
variable [GI:GlobInv]
open Classical
@[simp] theorem ASg {n o k m c:Nat}:Low n (.sl o k m c)↔o<n:=⟨fun h=>by cases h;assumption,fun h=>.sl o k m c h⟩
/-- The cells of elements, one behind the other. -/
abbrev Mr (xs:List AV):List AV:=xs.flatMap AV.cells
theorem Rj (x:AV) (r:List AV):Mr (x::r)=x.cells++Mr r:=by simp [Mr]
theorem Uk {k:Nat}:∀{xs:List AV},(∀x∈xs,x.cells.length=k)→(Mr xs).length=xs.length*k
 | [],_=>by simp
 | x::r,h=>by
  rw [Rj,Aw,h x Js,Uk (fun y hy=>h y (It _ hy)),B6,Ee]
  omega
theorem Ul {k:Nat}:∀{xs:List AV},(∀x∈xs,x.cells.length=k)→∀{i j:Nat} {x y:AV},xs[i]? = some x→x.cells[j]? = some y→(Mr xs)[i*k+j]? = some y
 | [],_,i,j,x,y,h,_=>by simp at h
 | a::r,hk,0,j,x,y,h,h2=>by
  simp at h
  subst h
  rw [Rj,Sf,C9,E5 (Ak.1 h2).1]
  exact h2
 | a::r,hk,i+1,j,x,y,h,h2=>by
  rw [Oe] at h
  have ha:=hk a Js
  have hh:=Ul (fun y hy=>hk y (It _ hy)) h h2
  rw [Rj,E6 (by rw [ha,Ee];omega),ha]
  rw [show (i+1)*k+j-k=i*k+j by rw [Ee];omega]
  exact hh
section
variable {P:Program} {d:Nat} {st:St} {dst:Option Tmp} {ty:TypeId} {pos:String} {aft:Array Edge} {gd:Option (Nat×Bool)}
/-- The address of an element. -/
theorem OpV.indexAddrSl {t e:TypeId} {x i:Operand} {o k n c m:Nat} {q:IntKind} (hu:P.underlying t=some (.slice e)) (hsz:∀w,(sizeOf e).run P w=.ok k w) (hm:m<n)
  (hx:st.ev x=.sl o k n c) (hi:st.ev i=.v (.int q (m:Int))):OpV P d ⟨dst,.indexAddr t x i,ty,pos,aft,gd⟩ st (.ptr o (m*k)):=
 Cq (by intro c h;cases h) fun G a w h=>by
  have hr:=hx ▸ h.eval x
  have hi':=D5 h hi
  generalize hv:a.eval x=u at hr
  cases hr with
  | sl l o k n c ho =>
   have hlt':(m:Int)<n:=by omega
   refine ⟨.pointer (some ((⟨G.blk o,0,none⟩:Addr).add (m*k))),by simp [execOp,Instr.indexAt,asIntOf,hi',hv,run_underlying hu,hm,hlt',hsz],?_⟩
   rw [Cn rfl,C9]
   exact .ptr _ o _ ho
/-- An empty slice, over an object of its own. -/
theorem AOp.buildObj0 {t e:TypeId} {k s n:Nat} (hu:P.underlying t=some (.slice e)) (hsz:∀w,(sizeOf e).run P w=.ok k w) (hn:st.own.length=n) (hs:s<st.sz):
  AOp P d ⟨some s,.buildSlice t 0 #[],ty,pos,aft,gd⟩ st (·=({ st with own:=st.own++[.cells e []] }:St).set s (.sl (st.up.length+n) k 0 0)):=by
 intro G a w h Q'
 obtain ⟨G',h1,T,hb,hlt⟩:=Px h e [] #[] rfl (fun j y u h1 _=>by simp at h1)
 have hlen:(st.up++st.own).length=st.up.length+n:=by rw [Aw,hn]
 rw [hlen] at hb hlt
 have hrun:(execOp a.eval (⟨some s,.buildSlice t 0 #[],ty,pos,aft,gd⟩:Oper)).run P w=.ok (.value (.slice (some ⟨w.heap.size,0,none⟩) 0 0)) (w.alloc (.cells #[] e)):=by
  have hfl:∀f:Nat→Option (Nat×Nat),Instr.fill f ((Array.range 0).map fun _=>(default:Value)) []=some #[]:=fun f=>by simp [Instr.fill]
  simp [execOp,Instr.buildSlice,run_underlying hu,hsz,newRow,hfl]
 refine Dj (by intro c h;cases h) hrun ⟨G',_,h1.put (s:=s) (y:=.sl (st.up.length+n) k 0 0) hs ?_,T.keep d,rfl,rfl,rfl,rfl⟩
 rw [←hb]
 exact .sl _ _ _ _ _ hlt
/-- What is appended to an empty slice lies in a new object of ours; of its spare cells nothing is known. -/
theorem AOp.appendObj {t e:TypeId} {i:TypeInfo} {z:Value} {k by' s o n:Nat} {xr x:Operand} {o2:Bool} {ys:List AV}
  (hu:P.underlying t=some (.slice e)) (hi:P.info? e=some i) (hz:i.zero=some z) (hsz:i.size=k) (hby:i.bytes=by') (hzk:z.cells.size=k) (hk:0<k)
  (hb:st.ev xr=.sl o k 0 0) (hx:M7 (st.ev x) o2 k ys) (hne:ys≠[]) (hn:st.own.length=n) (hs:s<st.sz) (hl:ys.length*by'≤140737488355328) (hl2:ys.length≤4611686018427387904):
  AOp P d ⟨some s,.call ⟨.builtin .append,#[xr,x],#[t,t]⟩,ty,pos,aft,gd⟩ st (fun st'=>∃c,ys.length≤c∧st'=({ st with own:=st.own++[.cells e (Mr ys++List.replicate ((c-ys.length)*k) .any)] }:St).set s (.sl (st.up.length+n) k ys.length c)):=by
 subst hsz
 subst hby
 intro G a w h Q'
 have hrb:=hb ▸ h.eval xr
 have hrx:=h.eval x
 have hm:ys.length≠0:=fun e=>hne (N4 e)
 generalize hvb:a.eval xr=vb at hrb
 cases hrb with
 | sl l o k n' c ho =>
  rcases If hx hrx with ⟨_,e0⟩|⟨ad2,c2,f2,hvx,hc2,F2,_⟩
  ·exact absurd e0 hne
  have hge:=Iw w (0+ys.length) 0 e
  have hv:=run_append_grow (P:=P) w t ty e i z hu hi hz ⟨G.blk o,0,none⟩ 0 0 [] (by simp) (by simp) ad2 ys.length c2 (Cu i.size ys.length f2) (Bi _ _ _) (F2.vals hk) (by omega) (by omega) (growslice_fits (by omega) (by rw [C9];exact hl))
  rw [C9] at hv hge
  let c':=grownCap w ys.length 0 e
  have hfl:(Mr ys).length=ys.length*i.size:=Uk F2.k
  have hd':StRel d G st a w.drew:=h.drew (w.drawn+1)
  obtain ⟨G',h1,T,hbk,hlt⟩:=Px hd' e (Mr ys++List.replicate ((c'-ys.length)*i.size) .any) (([]:List Value).toArray++(Cu i.size ys.length f2).toArray++Builtin.zeroCells z.cells (c'-ys.length)) (by
    simp only [N3,Iu,Bi,n6 _ hzk,Aw,List.length_replicate,hfl,Bc]
    omega) (fun j y u hy hu'=>by
    by_cases hj:j<ys.length*i.size
    ·rw [E5 (by rw [hfl];exact hj)] at hy
     have hq:j / i.size<ys.length:=by rw [rd hk];exact hj
     have hjm:j % i.size<i.size:=I8 _ hk
     have hx0:ys[j / i.size]? = some (ys[j / i.size]):=Ae hq
     have hcl:=F2.k _ (Bb hq)
     have hy0:(ys[j / i.size]).cells[j % i.size]? = some ((ys[j / i.size]).cells[j % i.size]'(by omega)):=Ae _
     have e1:j / i.size*i.size+j % i.size=j:=by have:=Nat.div_add_mod j i.size;rw [Ko] at this;exact this
     have hfg:=Ul F2.k hx0 hy0
     rw [e1,hy] at hfg
     injection hfg with hfg
     have hval:(Cu i.size ys.length f2)[j]? = some (f2 (j / i.size) (j % i.size)):=Iv hj
     rw [Mm (by simp only [N3,Iu,Bi,Bc];omega)] at hu'
     have e2:u=f2 (j / i.size) (j % i.size):=by
      have:(([]:List Value).toArray++(Cu i.size ys.length f2).toArray)[j]? = (Cu i.size ys.length f2)[j]? := by simp
      rw [this,hval] at hu'
      injection hu' with hu'
      exact hu'.symm
     rw [e2,hfg]
     exact (Pz G w (w.drawn+1)).rep (F2.rep _ _ _ _ hx0 hy0)
    rw [E6 (by rw [hfl];omega)] at hy
    rw [AAf] at hy
    split at hy
    ·injection hy with hy;subst hy;exact .any _ _
    cases hy)
  have hlen:(st.up++st.own).length=st.up.length+n:=by rw [Aw,hn]
  rw [hlen] at hbk hlt
  have hrun:(execOp a.eval (⟨some s,.call ⟨.builtin .append,#[xr,x],#[t,t]⟩,ty,pos,aft,gd⟩:Oper)).run P w=.ok (.value (.slice (some ⟨w.heap.size,0,none⟩) ys.length c')) (w.drew.alloc (.cells (([]:List Value).toArray++(Cu i.size ys.length f2).toArray++Builtin.zeroCells z.cells (c'-ys.length)) e)):=by
   simp only [execOp,resolve,invoke,builtin,Sem.run_bind,Sem.run_pure,Result.andThen_ok,S4,Ci,Fs,hvb,hvx,hv]
   rfl
  have K0:=(Pz G w (w.drawn+1)).keep d
  refine Dj (by intro c h;cases h) hrun ⟨G',_,h1.put (s:=s) (y:=.sl (st.up.length+n) i.size ys.length c') hs ?_,K0.trans (T.keep d),rfl,rfl,rfl,c',hge,rfl⟩
  have hsz':w.drew.heap.size=w.heap.size:=rfl
  rw [←hsz',←hbk]
  exact .sl _ _ _ _ _ hlt

/-- The elements are written no more: the object goes, and the slice is one of known elements. -/
theorem StRel.freeze {G:Gh} {a:Act} {w:World} (h:StRel d G st a w) {r i k c:Nat} {t:TypeId} {cs xs:List AV} (hr:st.fr r=.sl (st.up.length+i) k xs.length c) (ho:st.own[i]? = some (.cells t cs)) (hnc:xs.length≤c)
  (hcs:cs.take (xs.length*k)=Mr xs) (hk:∀x∈xs,x.cells.length=k) (h1:∀x∈xs,∀y∈x.cells,y.one=true) (hst:∀x∈xs,∀y∈x.cells,y.strip=y):
  ∃G',StRel d G' { st with fr:=Aa r (.slice false k xs) st.fr,own:=st.own.set i .gone } a w∧Keep d G w G' w:=by
 let G':Gh:={ G with tag:=fun b q=>if G.tag b q=.obj (st.up.length+i) then .fix else G.tag b q }
 have hto:(st.up++st.own)[st.up.length+i]? = some (.cells t cs):=by rw [Em];exact ho
 have hol:st.up.length+i<(st.up++st.own).length:=(Ak.1 hto).1
 have htag:∀b q,G.tag b q≠.obj (st.up.length+i)→G'.tag b q=G.tag b q:=fun b q hb=>by simp only [G'];rw [if_neg hb]
 have htagO:∀b q,G.tag b q=.obj (st.up.length+i)→G'.tag b q=.fix:=fun b q hb=>by simp only [G'];rw [if_pos hb]
 have hfix:∀b q,G.tag b q=.fix→G'.tag b q=.fix:=fun b q hb=>by rw [htag b q (by rw [hb];simp)];exact hb
 have htail:∀b q L,G.tag b q=.tail L→G'.tag b q=.tail L:=fun b q L hb=>by rw [htag b q (by rw [hb];simp)];exact hb
 have hrep:∀{l:Option Loc} {y:AV} {u:Value},Rep G w l y u→Rep G' w l y u:=fun hy =>
  hy.mono (G':=G') (fun b q e=>⟨hfix b q e,rfl⟩) (Ao _) (fun _ _=>rfl) (fun L _ b q e=>htail b q L e)
 have hst':Still G w G' w:=fun b hb=>⟨rfl,hb.1,fun q=>by
  rcases hb.2.1 q with e|e
  ·exact .inl (hfix b q e)
  exact .inr (by rw [htag b q (by rw [e];simp)];exact e),hb.2.2⟩
 obtain ⟨vs,q1,q2,q3,q4⟩:=h.heap.obj _ _ hto
 refine ⟨G',⟨h.size,fun s=>?_,⟨fun j x hx=>?_,?_,h.heap.inj⟩,h.defs,fun q hq=>?_,h.defsNodup,h.defsGe,⟨fun b q hb=>h.tags.ex b q (fun e=>?_),fun b q j hb=>?_,fun b q L hb=>?_,h.tags.globKeep hst'⟩,h.rnd,h.low,h.top⟩,
  ⟨fun b q e=>⟨hfix b q e,rfl⟩,fun b q e s _ ht=>htail b q _ ht,Ao _,fun _ _=>rfl,rfl,rfl,rfl,Ao _,hst'⟩⟩
 ·show Rep G' w _ (Aa r (.slice false k xs) st.fr s) _
  unfold Aa
  by_cases hs:s=r
  ·subst hs
   rw [if_pos rfl]
   have hsl:=h.slots s
   rw [hr] at hsl
   generalize a.tmps.getD s undef=v at hsl
   cases hsl with
   | sl l o k n c ho' =>
    refine .slice _ false k xs ⟨G.blk (st.up.length+i),0,none⟩ _ c (fun q j=>vs.getD (q*k+j) undef) rfl rfl hnc hk h1 (fun q x j y hx hy=>?_) (fun q x j y hx hy=>?_) (fun e=>by cases e)
    all_goals
     have hfg:=Ul hk hx hy
     have hlt:q*k+j<xs.length*k:=by
      have:=(Ak.1 hfg).1
      rw [Uk hk] at this;exact this
     rw [←hcs,List.getElem?_take_of_lt hlt] at hfg
     have hcl:=(Ak.1 hfg).1
    ·refine ⟨htagO _ _ (by simpa using q4 _ hcl),?_⟩
     simp only [C9]
     simp [World.cell?,q1,show q*k+j<vs.size by omega]
    have hu:=q3 _ y (vs[q*k+j]'(by omega)) hfg (F7 (by omega))
    have e1:vs.getD (q*k+j) undef=vs[q*k+j]'(by omega):=by simp [show q*k+j<vs.size by omega]
    rw [e1]
    have:=hrep (hu.strip (l':=none))
    rw [hst x (Be hx) y (Be hy)] at this
    exact this
  rw [if_neg hs]
  exact hrep (h.slots s)
 ·have hx':(st.up++st.own.set i .gone)[j]? = some x:=hx
  rw [←C8,M6] at hx'
  by_cases hj:st.up.length+i=j
  ·rw [if_pos hj,if_pos hol] at hx'
   injection hx' with hx'
   subst hx'
   subst hj
   exact ⟨vs,t,(0,0),q1,fun q hq=>htagO _ _ (q4 q (by omega))⟩
  rw [if_neg hj] at hx'
  exact (h.heap.obj j x hx').free (fun e=>hj e.symm) htag rfl rfl
 ·show G.n=(st.up++st.own.set i .gone).length
  have:=h.heap.n
  simpa using this
 ·show (st.up++st.own.set i .gone)[q]? = _
  have h2:=h.defsAt q hq
  rw [←C8,M6]
  by_cases hj:st.up.length+i=q
  ·subst hj;rw [hto] at h2;cases h2
  rw [if_neg hj];exact h2
 ·simp only [G'] at hb
  split at hb
  ·rename_i e';rw [e] at e';cases e'
  exact hb e
 ·simp only [G'] at hb
  split at hb
  ·cases hb
  exact h.tags.obj b q j hb
 simp only [G'] at hb
 split at hb
 ·cases hb
 exact h.tags.tail b q L hb
end
section
variable {P:Program} {d:Nat} {ops:Array Oper}
theorem ARun.turnSt {l:List Oper} {st st':St} {Q:St→Prop} (h:∀(G:Gh) (a:Act) (w:World),StRel d G st a w→∃G',StRel d G' st' a w∧Keep d G w G' w) (e1:st'.up.length=st.up.length) (e2:st'.rnd=st.rnd) (e3:st'.sz=st.sz) (hr:ARun P d ops l st' Q):ARun P d ops l st Q:=by
 intro G a w hrel idx hidx
 obtain ⟨G',h1,k⟩:=h G a w hrel
 have:=hr G' a w h1 idx hidx
 rw [Hm hrel k e2] at this
 exact Et (fun e a' w' hp=>⟨hp.1,hp.2.next k e1 e2 e3⟩) _ _ _ this
variable {sz:Nat} {fr:Nat→AV} {up own own':List AObj} {dfs:List Nat} {rnd:Option Nat} {Q:St→Prop} {rest:List Oper} {s:Nat} {ty:TypeId} {pos:String} {aft:Array Edge}
theorem R.indexAddrSl {t e:TypeId} {x i:Operand} {o k n c:Nat} {q:IntKind} {z:Int} (m:Nat) (ht:P.underlying t=some (.slice e)) (hsz:∀w,(Go.sizeOf e).run P w=.ok k w) (hm:m<n) (hr:ARun P d ops rest ⟨sz,Aa s (.ptr o (m*k)) fr,up,own,dfs,rnd⟩ Q)
  (hx:Bm fr x=.sl o k n c:=by exact sL0) (hi:Bm fr i=.v (.int q z):=by exact sL0) (hz:z=(m:Int):=by first|rfl|omega) (hs:Nat.blt s sz=true:=by rfl):
  ARun P d ops (⟨some s,.indexAddr t x i,ty,pos,aft,none⟩::rest) ⟨sz,fr,up,own,dfs,rnd⟩ Q:=
 Sk rfl rfl hs (OpV.indexAddrSl ht hsz hm hx (by subst hz;exact hi)) hr
theorem R.buildObj0 {t e:TypeId} {k n:Nat} (ht:P.underlying t=some (.slice e)) (hsz:∀w,(Go.sizeOf e).run P w=.ok k w) (hr:ARun P d ops rest ⟨sz,Aa s (.sl (oid up.length n) k 0 0) fr,up,own',dfs,rnd⟩ Q)
  (hn:own.length=n:=by rfl) (ho:own++[.cells e []]=own':=by rfl) (hs:Nat.blt s sz=true:=by rfl):
  ARun P d ops (⟨some s,.buildSlice t 0 #[],ty,pos,aft,none⟩::rest) ⟨sz,fr,up,own,dfs,rnd⟩ Q:=by
 subst ho
 exact AMv rfl (AOp.buildObj0 (st:=⟨sz,fr,up,own,dfs,rnd⟩) ht hsz hn (by simpa using hs)) hr
theorem R.appendObj {t e:TypeId} {i:TypeInfo} {z:Value} {k o n:Nat} {xr x:Operand} {o2:Bool} {y:AV} {ys:List AV} (hu:P.underlying t=some (.slice e)) (hi:P.info? e=some i) (hne:ys≠[]) (hl:ys.length*i.bytes≤140737488355328) (hl2:ys.length≤4611686018427387904)
  (hr:∀c,ys.length≤c→ARun P d ops rest ⟨sz,Aa s (.sl (oid up.length n) k ys.length c) fr,up,own++[.cells e (Mr ys++List.replicate ((c-ys.length)*k) .any)],dfs,rnd⟩ Q)
  (hz:i.zero=some z:=by rfl) (hsz:i.size=k:=by rfl) (hzk:z.cells.size=k:=by rfl) (hk:0<k:=by decide) (hb:Bm fr xr=.sl o k 0 0:=by exact sL0)
  (hx:Bm fr x=y:=by exact sL0) (hx':M7 y o2 k ys:=by first|exact .inl rfl|exact .inr ⟨rfl,rfl⟩) (hn:own.length=n:=by rfl) (hs:Nat.blt s sz=true:=by rfl):
  ARun P d ops (⟨some s,.call ⟨.builtin .append,#[xr,x],#[t,t]⟩,ty,pos,aft,none⟩::rest) ⟨sz,fr,up,own,dfs,rnd⟩ Q:=by
 subst hx
 refine bh rfl (AOp.appendObj (st:=⟨sz,fr,up,own,dfs,rnd⟩) hu hi hz hsz rfl hzk hk hb hx' hne hn (by simpa using hs) hl hl2) (fun s' hs'=>?_)
 obtain ⟨c,hc,rfl⟩:=hs'
 exact hr c hc
/-- The elements of the slice in slot r, over object i of ours, are written no more. -/
theorem R.freeze {l:List Oper} (r i:Nat) {k n c:Nat} {t:TypeId} {cs:List AV} (xs:List AV) (hnc:n≤c) (hn:n=xs.length) (hcs:cs.take (n*k)=Mr xs) (hk:∀x∈xs,x.cells.length=k) (h1:∀x∈xs,∀y∈x.cells,y.one=true) (hst:∀x∈xs,∀y∈x.cells,y.strip=y)
  (hr:ARun P d ops l ⟨sz,Aa r (.slice false k xs) fr,up,own',dfs,rnd⟩ Q) (hf:fr r=.sl (oid up.length i) k n c:=by exact sL0) (ho:own[i]? = some (.cells t cs):=by rfl) (hset:own.set i .gone=own':=by rfl):
  ARun P d ops l ⟨sz,fr,up,own,dfs,rnd⟩ Q:=by
 subst hset
 subst hn
 exact ARun.turnSt (fun G a w h=>h.freeze (st:=⟨sz,fr,up,own,dfs,rnd⟩) hf ho hnc hcs hk h1 hst) rfl rfl rfl hr
end
end Go.SX
namespace Go.SX
variable [GI:GlobInv]
open Classical
variable {P:Program} {d:Nat} {l0:List Oper} {kd:Nat} {ops:Array Oper} {rest:List Oper} {sz:Nat} {fr:Nat→AV} {up own:List AObj} {dfs:List Nat} {rnd:Option Nat} {Q:St→Prop} {s:Nat} {ty:TypeId} {pos:String} {aft:Array Edge} {E:List Oper→(Nat→AV)→Prop}
theorem R.nilTmp {l:List Oper} (s k:Nat) (o:Bool) (hr:ARun P d ops l ⟨sz,Aa s (.slice o k []) fr,up,own,dfs,rnd⟩ Q) (h:fr s=.nil:=by exact sL0):
  ARun P d ops l ⟨sz,fr,up,own,dfs,rnd⟩ Q:=
 AAp (st':=⟨sz,Aa s (.slice o k []) fr,up,own,dfs,rnd⟩) (Xb (s:=⟨sz,fr,up,own,dfs,rnd⟩) fun i=>by
  show Le (fr i) (Aa s (.slice o k []) fr i)
  unfold Aa
  by_cases hi:i=s
  ·subst hi;rw [if_pos rfl,h];exact .nil _ _
  rw [if_neg hi];exact .refl _) hr
/-! A slice without room behind its end: whoever appends to it gets a new one. -/
theorem ov (k:Nat) (xs:List AV):(AV.full k xs).strip=.full k xs:=rfl
theorem ow (k:Nat) (xs:List AV):(AV.full k xs).cells=[.full k xs]:=rfl
theorem AC9 (k:Nat) (xs:List AV):(AV.full k xs).one=true:=rfl
attribute [go_sem] ov ow AC9
section
variable {KP:List PanicEntry→St→Prop} {up own:(Nat→Bool)→List AObj} {S:List SegY} {l:List Oper} {T F:List Nat}
/-- The p-th of those that turn the heap: a store into an object of whoever waits. -/
theorem Y.storeUp {t t':TypeId} {p x:Operand} {o off k pn:Nat} {y:AV} {ys cs cs':List AV} (hsz:∀w,(Go.sizeOf t).run P w=.ok k w)
  (hU:∀B:Nat→Bool,B pn=false→(up B)[o]? = some (.cells t' cs)∧up (upd B pn)=(up B).set o (.cells t' cs')∧own (upd B pn)=own B∧∀y∈ys,Low (up B).length y)
  (h:ChainY P d l0 sz up own dfs rnd KP E S l fr)
  (hp:Bm fr p=.ptr o off:=by exact sL0) (hx:Bm fr x=y:=by exact sL0) (hc:y.cells=ys:=by exact sL0) (hk:ys.length=k:=by rfl)
  (h1:ys.all AV.one=true:=by exact sL2) (hfit:off+k≤cs.length:=by exact sL1) (hput:Ce cs off ys=cs':=by exact sL0):
  ChainY P d l0 sz up own dfs rnd KP E (.s [] (some pn) T F::S) (⟨none,.store t p x,ty,pos,aft,none⟩::l) fr:=by
 subst hput
 subst hc
 refine ⟨_,l,[],rfl,⟨rfl,rfl,fun B f _ _ hB hf=>.of ?_⟩,h⟩
 obtain ⟨a1,a2,a3,a4⟩:=hU B (hB pn rfl)
 have e:Bm f p=.ptr o off:=by rw [agr hf (by simp [Op.operands])];exact hp
 have ex:Bm f x=y:=by rw [agr hf (by simp [Op.operands])];exact hx
 refine AOp.eqTo (AOp.storeUp (st:=⟨sz,f,up B,own B,dfs,rnd⟩) hsz e a1 ex hk h1 hfit a4) ?_
 show _=St.mk sz f (up (upd B pn)) (own (upd B pn)) dfs rnd
 rw [a2,a3]
end
end Go.SX
