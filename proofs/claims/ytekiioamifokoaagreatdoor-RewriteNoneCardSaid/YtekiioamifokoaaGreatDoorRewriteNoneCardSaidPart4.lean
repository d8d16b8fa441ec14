/- On the way (part 4). -/
import Derived.Below
import Derived.Test.YtekiioamifokoaaGreatDoorProg
import Derived.KernelRfl
import Derived.Shelf.Strconv.Itoa4
import Derived.Shelf.Strings.SplitShaped
import Derived.Shelf.Strings.SlTrimAscii
import Derived.Shelf.Strings.OnBuilder
import Derived.Shelf.Strings.Replace
import Derived.Shelf.Small.Strs
import Derived.Shelf.Strings.Prefix
import Derived.Shelf.Strconv.ErrVarParseInt
import Derived.Shelf.Strconv.AtoiAll
import Derived.Shelf.Strings.Builder1
import Derived.Shelf.Bits.Mul64
import Derived.Shelf.Strings.Cut
import Derived.Lib.SplitLaws
import Derived.LaidEql
import Derived.Stop.Asserts
import Derived.RowKitTokens
import Derived.WalkKit
import Derived.Lib.AtoiErrMem
import Derived.Lib.Strings
import Derived.BigCall
import Derived.Lib.ParseIntB
import Derived.Test.YtekiioamifokoaaGreatDoorRewriteNoneCardSaidPart3
set_option linter.all false
namespace Go.SX
variable [GI:GlobInv]
open Classical Go.RowKit
section
variable {P:Program} {g:FuncId} {Hp:List AObj}

/-- What is known of package-level variables, of a world alone. -/
def J0 (w:World):Prop:=∀x∈GI.blocks,∃o,w.heap[x.1]? = some o∧x.2 o

theorem Vr {G:Gh} {w:World} {xs:List Value} {vs:Array Value} (hn:vs.size=(xs.map AV.v).length) (h:∀(i:Nat) (y:AV) (u:Value),(xs.map AV.v)[i]? = some y→vs[i]? = some u→∃l,Rep G w l y u):vs=xs.toArray:=by
 apply gh
 ·simpa using hn
 intro i h1 h2
 have hi:i<xs.length:=by simpa using h2
 obtain ⟨l,hr⟩:=h i (.v xs[i]) vs[i] (by simp [hi]) (E9 h1)
 have:=Rp hr
 simpa using this

theorem Gx {G:Gh} {w w':World} (hT:TagOK G w) (hb:Below w.heap.size w w') {b o:Nat} (h:G.tag b o≠.free):w'.cell? ⟨b,o,none⟩=w.cell? ⟨b,o,none⟩∧w'.frozen? ⟨b,o,none⟩=w.frozen? ⟨b,o,none⟩:=by
 obtain ⟨u,hu⟩:=hT.ex b o h
 have hlt:b<w.heap.size:=World.block_lt_of_cell? _ _ hu
 have:=hb.block b hlt
 exact ⟨Ji this,Jb this⟩

theorem R1 {G:Gh} {w w':World} (hT:TagOK G w) (hb:Below w.heap.size w w'):Turn G w G w':=
 ⟨fun b o h=>⟨h,(Gx hT hb (by rw [h];simp)).1⟩,fun _ _ _ h=>h,fun _ _ _ h=>h,Am _,fun _ _=>rfl,hb.os,hb.tape,hb.output,hb.size,Mv (fun b hv=>hb.block b hv.1) hb.size (fun _ _ _=>.inl rfl) (fun _ hi=>.inl ⟨hi,rfl⟩)⟩

theorem Wp {G:Gh} {H:List AObj} {w w':World} (hH:HeapRel G H w) (hT:TagOK G w) (hb:Below w.heap.size w w'):HeapRel G H w'∧TagOK G w':=by
 have T:=R1 hT hb
 refine ⟨⟨fun i x hx=>?_,hH.n,hH.inj⟩,⟨fun b o h=>?_,fun b o i h=>?_,fun b o L h=>?_,hT.globKeep T.old⟩⟩
 ·have hi:i<G.n:=by rw [hH.n];exact (Ad.1 hx).1
  exact T.objRel hi (hb.block _ (O9 hH i hi)) (hH.obj i x hx) (fun b h=>hb.block b h.lt)
 ·rw [(Gx hT hb h).1];exact hT.ex b o h
 ·rw [(Gx hT hb (by rw [h];simp)).2];exact hT.obj b o i h
 rw [(Gx hT hb (by rw [h];simp)).2];exact hT.tail b o L h

/-- A function of plain values that hands back a plain value. -/
theorem AFun.lib {xs:List Value} {r:AV} {v:Value} (hr:∀G w,Rep G w none r v) (h:∀w,J0 w→Calls P g xs.toArray w (fun e w'=>e=.returned v∧Below w.heap.size w w')):AFun P g (xs.map .v) Hp r:=by
 intro d G w vs hn hv hH hT hTop
 have hvs:=Vr hn (fun i y u a b=>⟨_,hv i y u a b⟩)
 subst hvs
 refine (callsIn_wide.2 (h w (fun x hx=>let ⟨_,u,a,b⟩:=hT.glob x hx;⟨u,a,b⟩))).mono ?_
 rintro e w' ⟨rfl,hb⟩
 obtain ⟨h1,h2⟩:=Wp hH hT hb
 exact ⟨v,G,r,Hp,rfl,(hr G w').lift,h1,h2,(R1 hT hb).keep _,rfl,rfl,rfl⟩


/-- A function of plain values that hands back a new slice of plain values. -/
theorem AFun.libSlice {xs ys:List Value} {t:TypeId} (hone:∀y∈ys,y.oneCell'=true) (h:∀w,J0 w→Calls P g xs.toArray w (fun e w'=>e=.returned (.slice (some ⟨w.heap.size,0,none⟩) ys.length ys.length)∧w'=w.alloc (.cells ys.toArray t))):
  AFun P g (xs.map .v) Hp (.slice false 1 (ys.map .v)):=by
 intro d G w vs hn hv hH hT hTop
 have hvs:=Vr hn (fun i y u a b=>⟨_,hv i y u a b⟩)
 subst hvs
 refine (callsIn_wide.2 (h w (fun x hx=>let ⟨_,u,a,b⟩:=hT.glob x hx;⟨u,a,b⟩))).mono ?_
 rintro e w' ⟨rfl,rfl⟩
 have hst:StRel (d+1) G ⟨0,fun _=>.any,Hp,[],[],none⟩ { tmps:=#[],defers:=[] } w:=
  ⟨rfl,fun s=>.any _ _,by simpa using hH,(by rw [G5 hTop];rfl),(fun o ho=>by simp at ho),Lp,(fun o ho=>by simp at ho),hT,(fun l hl=>by cases hl),Wd hH,Mt hTop⟩
 obtain ⟨G',g1,T,g2⟩:=Tc hst t ys.toArray
 refine ⟨_,G',_,Hp,rfl,?_,by simpa using g1.heap,g1.tags,T.keep _,rfl,rfl,rfl⟩
 refine .slice _ false 1 _ _ _ _ (fun i j=>ys.toArray.getD i undef) rfl (by simp) (Am _) (fun x hx=>?_) (fun x hx y hy=>?_) (fun i x j y hx hy=>?_) (fun i x j y hx hy=>?_) (fun h=>by cases h)
 ·obtain ⟨z,_,rfl⟩:=C2.1 hx
  rfl
 ·obtain ⟨z,hz,rfl⟩:=C2.1 hx
  have:y=.v z:=by simpa [AV.cells] using hy
  subst this
  exact hone z hz
 all_goals
  rw [Bz,E3] at hx
  obtain ⟨z,hz,rfl⟩:=hx
  have hlt:i<ys.length:=(Ad.1 hz).1
  have hj:j=0:=by
   match j,hy with
   | 0,_=>rfl
   | j+1,hy=>simp [AV.cells] at hy
  subst hj
 ·refine ⟨by simpa using g2 i (by simpa using hlt),?_⟩
  rw [World.cell?_alloc_new]
  simp [hlt]
 have:y=.v z:=by simpa [AV.cells] using hy.symm
 subst this
 have e:ys.toArray.getD i undef=z:=by
  have:=Ab hlt
  rw [this] at hz
  injection hz with hz
  simp [hlt,hz]
 rw [e]
 exact .v _ _
/-- A function that hands back a plain value and, behind an interface value, a new record of plain values. -/
theorem AFun.libErr {xs cs:List Value} {n:Value} {T te:TypeId} (hone:∀y∈cs,y.oneCell'=true) (h:∀w,J0 w→Calls P g xs.toArray w (fun e w'=>∃N,e=.returned (.tuple #[n,.iface T (.pointer (some ⟨N,0,none⟩))])∧w.heap.size≤N∧w'.heap[N]? = some (.cells cs.toArray te (0,0))∧Below w.heap.size w w')):
  AFun P g (xs.map .v) Hp (.tup [.v n,.iface T (.ro (cs.map .v))]):=by
 intro d G w vs hn hv hH hT hTop
 have hvs:=Vr hn (fun i y u a b=>⟨_,hv i y u a b⟩)
 subst hvs
 refine (callsIn_wide.2 (h w (fun x hx=>let ⟨_,u,a,b⟩:=hT.glob x hx;⟨u,a,b⟩))).mono ?_
 rintro e w' ⟨N,rfl,hN,hcell,hb⟩
 have hfree:∀o,G.tag N o=.free:=fun o=>I9 hT _ o hN
 let G':Gh:={ G with tag:=fun b o=>if b=N∧o<cs.length then .fix else G.tag b o }
 have hne:∀b o,G.tag b o≠.free→¬(b=N∧o<cs.length):=fun b o hb hc=>by rw [hc.1] at hb;exact hb (hfree o)
 have hnew:∀o,o<cs.length→w'.cell? ⟨N,o,none⟩=cs[o]? := fun o ho=>by simp [World.cell?,hcell,ho]
 have T1:Turn G w G' w':=by
  refine ⟨fun b o h=>⟨?_,(Gx hT hb (by rw [h];simp)).1⟩,fun b o L h=>?_,fun b o i h=>?_,Am _,fun _ _=>rfl,hb.os,hb.tape,hb.output,hb.size,
   Mv (fun b hv=>hb.block b hv.1) hb.size (fun b o hlt=>.inl ?_) (fun _ hi=>.inl ⟨hi,rfl⟩)⟩
  ·simp only [G'];rw [if_neg (hne b o (by rw [h];simp))];exact h
  ·simp only [G'];rw [if_neg (hne b o (by rw [h];simp))];exact h
  ·simp only [G'];rw [if_neg (hne b o (by rw [h];simp))];exact h
  simp only [G'];rw [if_neg (by omega)]
 have hH':HeapRel G' Hp w':=⟨fun i x hx=>by
  have hi:i<G.n:=by rw [hH.n];exact (Ad.1 hx).1
  exact T1.objRel hi (hb.block _ (O9 hH i hi)) (hH.obj i x hx) (fun b h=>hb.block b h.lt),hH.n,hH.inj⟩
 have hT':TagOK G' w':=by
  refine ⟨fun b o h=>?_,fun b o i h=>?_,fun b o L h=>?_,hT.globKeep T1.old⟩
  ·simp only [G'] at h
   split at h
   ·rename_i hc;obtain ⟨rfl,ho⟩:=hc;exact ⟨_,(hnew o ho).trans (Ab ho)⟩
   rw [(Gx hT hb h).1];exact hT.ex b o h
  ·simp only [G'] at h
   split at h
   ·cases h
   rw [(Gx hT hb (by rw [h];simp)).2];exact hT.obj b o i h
  simp only [G'] at h
  split at h
  ·cases h
  rw [(Gx hT hb (by rw [h];simp)).2];exact hT.tail b o L h
 refine ⟨_,G',_,Hp,rfl,?_,hH',hT',T1.keep _,rfl,rfl,rfl⟩
 refine .tup _ _ _ rfl (fun i y u hy hu=>?_)
 match i with
 | 0=>simp at hy hu;subst hy;subst hu;exact .v _ _
 | 1 =>
  simp at hy hu;subst hy;subst hu
  refine .iface _ _ _ _ (.ro _ _ ⟨N,0,none⟩ (fun j=>cs.getD j undef) rfl (fun y hy=>?_) (fun j y hy=>?_) (fun j y hy=>?_))
  ·obtain ⟨z,hz,rfl⟩:=C2.1 hy
   exact hone z hz
  all_goals
   rw [Bz,E3] at hy
   obtain ⟨z,hz,rfl⟩:=hy
   have hlt:j<cs.length:=(Ad.1 hz).1
   have e:cs.getD j undef=z:=by rw [Bw,hz];rfl
  ·refine ⟨by simp [G',hlt],?_⟩
   rw [Bl,hnew j hlt,hz,e]
  rw [e];exact .v _ _
 | i+2=>simp at hy
theorem TagOK.globIn {G:Gh} {w:World} (h:TagOK G w):J0 w:=fun x hx=>(h.glob x hx).2
/-- A package-level variable of which something is known. -/
theorem R.loadGlob {d:Nat} {ops:Array Oper} {rest:List Oper} {sz:Nat} {fr:Nat→AV} {up own:List AObj} {dfs:List Nat} {rnd:Option Nat} {Q:St→Prop} {s:Nat} {ty:TypeId} {pos:String} {aft:Array Edge} {t:TypeId} {gl:Nat} {v:Value}
  (hagg:∀w,(isAgg t).run P w=.ok false w) (hv:∀w,J0 w→w.cell? ⟨gl,0,none⟩=some v) (hr:ARun P d ops rest ⟨sz,A6 s (.v v) fr,up,own,dfs,rnd⟩ Q) (hs:Nat.blt s sz=true:=by rfl):
  ARun P d ops (⟨some s,.load t (.global gl),ty,pos,aft,none⟩::rest) ⟨sz,fr,up,own,dfs,rnd⟩ Q:=by
 refine ARun.v rfl rfl (by simpa using hs) (Cg (by intro c h;cases h) fun G a w h=>⟨v,?_,.v _ _⟩) hr
 have hc:=hv w h.tags.globIn
 have e:a.eval (.global gl)=.pointer (some ⟨gl,0,none⟩):=rfl
 simp [execOp,e,Instr.loadAt,Instr.sureAddr,loadVar,hagg,hc]
end
end Go.SX
namespace Go.SX
def Lt:=@AFun.lib
end Go.SX
namespace Go.SX.Nb
open Go Go.SX Go.Proofs
set_option maxRecDepth 4000

/-- Where strconv.ErrRange and strconv.ErrSyntax point. -/
class ErrAt where
 b:Addr
 bs:Addr
 bd:Nat:=0
 bl:List Deferred:=[]
/-- The package-level variables of which something is known: bytealg.MaxLen is a number; strconv.ErrRange is an error of errors.New's make; the table of powers of ten. -/
def Wq [E:ErrAt]:List (Nat×(Obj→Prop)):=[(2,fun o=>∃m t f,o=.cells #[.int .i64 m] t f),(1,fun o=>∃t f,o=.cells #[.iface 267 (.pointer (some E.b))] t f),(0,fun o=>∃t f,o=.cells #[.iface 267 (.pointer (some E.bs))] t f),(5,fun o=>∃t f,o=.cells (Lib.pow10Tab.map fun z=>Value.int .u64 z).toArray t f)]
instance globInv [E:ErrAt]:GlobInv:={ blocks:=Wq,bd:=E.bd,bl:=E.bl }
variable [ErrAt]

abbrev Str:=List UInt8
structure Col where
 name:Str
 kind:Int
 deriving DecidableEq
structure Val where
 kind:Int
 n:Int
 s:Str
 deriving DecidableEq
structure Row where
 key:Int
 l:List Val
 deriving DecidableEq
abbrev Ac (s:Str):AV:=.v (sv s)
abbrev A3 (n:Int):AV:=.v (.int .i64 n)
abbrev AA4 (n:Int):AV:=.v (.int .u64 n)
abbrev Az (b:Bool):AV:=.v (.bool b)
abbrev C0 (c:Col):AV:=.agg [.v (sv c.name),.v (.int .i64 c.kind)]
abbrev An (c:List Col):AV:=.slice false 2 (c.map C0)
abbrev Bm (v:Val):AV:=.agg [.v (.int .i64 v.kind),.v (.int .i64 v.n),.v (sv v.s)]
abbrev Hf (l:List Val):AV:=.slice false 3 (l.map Bm)
abbrev Eh (r:Row):AV:=.agg [.v (.int .i64 r.key),.slice false 3 (r.l.map Bm)]
abbrev Gy (l:List Row):AV:=.slice false 2 (l.map Eh)
abbrev Fg (l:List Str):AV:=.slice false 1 (l.map Ac)
theorem B6 {α β:Type} {f:α→β} {l:List α} {i:Nat} (h:i<l.length):(l.map f)[i]? = some (f l[i]):=by simp [h]
theorem Aj:Tryz.prog.follows .mixedOrders=true:=by kernel_rfl
theorem Zk:Tryz.prog.eqGuardType Tryz.prog.depth 24=false:=by kernel_rfl
theorem Jc (k n k' n':Int) (s s':List UInt8) (w:World):(Op.equal 24 (.agg #[.int .i64 k,.int .i64 n,.string ⟨s.toArray⟩]) (.agg #[.int .i64 k',.int .i64 n',.string ⟨s'.toArray⟩])).run Tryz.prog w=.ok (k==k'&&n==n'&&s==s') w:=by
 have h1:Tryz.prog.stoodInHeld 24=false:=by kernel_rfl
 show (Op.equalIn (9999+1) _ _ _).run _ _=_
 rw [Op.equalIn]
 generalize hd:(9999:Nat)=d
 obtain ⟨d,rfl⟩:∃e,d=e+1:=⟨9998,hd.symm⟩
 clear hd
 simp [run_underlying Tryz.underlying24,h1,part,AH4 _ _ _ _ _ _ Tryz.underlying3,AH4 _ _ _ _ _ _ Tryz.underlying2,AJz _ _ _ _ _ Tryz.underlying9,Tryz.isAgg3,Tryz.isAgg2,Tryz.isAgg9]
 by_cases e1:k=k'<;>by_cases e2:n=n'<;>by_cases e3:s=s'<;>simp [e1,e2,e3]
end Go.SX.Nb
namespace Go.Proofs
open Go Go.Shelf
theorem ly {p:Prop} (h:p:=by repeat' first|kernel_rfl|(intro w;kernel_rfl)|constructor):p:=h
def Tryz.ren144:Ren where
 f:=fun x=>match x with|144=>180|143=>221|219=>245|217=>253|225=>268|224=>269|267=>270|266=>281|314=>290|n=>n
 t:=fun x=>match x with|9=>9|4=>4|3=>3|5=>5|46=>252|146=>295|51=>294|n=>n
 g:=fun x=>match x with|1=>2|n=>n
theorem Tryz.lays144:Lays.n144 Tryz.prog Tryz.ren144:=ly
def Tryz.ren145:Ren where
 f:=fun x=>match x with|145=>184|220=>226|219=>245|217=>253|225=>268|224=>269|267=>270|266=>281|314=>290|n=>n
 t:=fun x=>match x with|9=>9|4=>4|59=>218|3=>3|5=>5|46=>252|146=>295|51=>294|n=>n
 g:=fun x=>match x with|1=>2|n=>n
theorem Tryz.lays145:Lays.n145 Tryz.prog Tryz.ren145:=ly
def Tryz.ren146:Ren where
 f:=fun x=>match x with|146=>141|221=>177|268=>219|138=>220|143=>221|195=>242|197=>243|218=>244|219=>245|260=>267|217=>253|225=>268|224=>269|267=>270|266=>281|314=>290|n=>n
 t:=fun x=>match x with|9=>9|31=>22|3=>3|4=>4|0=>0|105=>258|21=>21|5=>5|46=>252|119=>290|139=>293|138=>292|146=>295|51=>294|n=>n
 g:=fun x=>match x with|1=>2|3=>3|4=>4|n=>n
theorem Tryz.lays146:Lays.n146 Tryz.prog Tryz.ren146:=ly
def Tryz.ren161:Ren where
 f:=fun x=>match x with|161=>179|231=>222|227=>223|233=>224|235=>225|228=>246|197=>243|151=>247|260=>267|152=>271|137=>228|119=>291|224=>269|225=>268|217=>253|266=>281|n=>n
 t:=fun x=>match x with|9=>9|4=>4|3=>3|5=>5|117=>242|116=>241|0=>0|124=>245|105=>258|21=>21|119=>290|46=>252|139=>293|138=>292|n=>n
 g:=fun x=>match x with|3=>3|4=>4|n=>n
theorem Tryz.lays161:Lays.n161 Tryz.prog Tryz.ren161:=ly
def Tryz.ren99:Ren where
 f:=fun x=>match x with|99=>248|206=>272|n=>n
 t:=fun x=>match x with|9=>9|4=>4|3=>3|n=>n
 g:=fun x=>x
theorem Tryz.lays99:Lays.n99 Tryz.prog Tryz.ren99:=ly
def Tryz.ren100:Ren where
 f:=fun x=>match x with|100=>249|207=>273|n=>n
 t:=fun x=>match x with|9=>9|4=>4|3=>3|n=>n
 g:=fun x=>x
theorem Tryz.lays100:Lays.n100 Tryz.prog Tryz.ren100:=ly
def Tryz.ren101:Ren where
 f:=fun x=>match x with|101=>277|208=>293|206=>272|n=>n
 t:=fun x=>match x with|9=>9|4=>4|3=>3|n=>n
 g:=fun x=>x
theorem Tryz.lays101:Lays.n101 Tryz.prog Tryz.ren101:=ly
def Tryz.ren160:Ren where
 f:=fun x=>match x with|160=>278|232=>294|231=>222|227=>223|234=>295|233=>224|236=>296|235=>225|228=>246|271=>316|151=>247|197=>243|120=>330|152=>271|260=>267|137=>228|119=>291|224=>269|225=>268|217=>253|266=>281|n=>n
 t:=fun x=>match x with|9=>9|4=>4|3=>3|5=>5|117=>242|116=>241|0=>0|124=>245|21=>21|105=>258|46=>252|119=>290|139=>293|138=>292|n=>n
 g:=fun x=>match x with|3=>3|4=>4|n=>n
theorem Tryz.lays160:Lays.n160 Tryz.prog Tryz.ren160:=ly
def Tryz.ren155:Ren where
 f:=fun x=>match x with|155=>274|154=>292|138=>220|165=>313|143=>221|166=>314|197=>243|169=>315|195=>242|218=>244|240=>328|241=>329|219=>245|260=>267|276=>335|277=>336|217=>253|225=>268|224=>269|267=>270|266=>281|314=>290|n=>n
 t:=fun x=>match x with|9=>9|3=>3|4=>4|72=>313|0=>0|76=>165|105=>258|21=>21|5=>5|70=>311|20=>20|37=>174|75=>164|127=>266|164=>336|46=>252|119=>290|139=>293|138=>292|146=>295|51=>294|80=>220|n=>n
 g:=fun x=>match x with|1=>2|3=>3|4=>4|n=>n
theorem Tryz.lays155:Lays.n155 Tryz.prog Tryz.ren155:=ly
def Tryz.ren174:Ren where
 f:=fun x=>match x with|174=>279|247=>200|245=>159|287=>235|279=>201|280=>202|281=>203|282=>204|321=>258|322=>259|316=>236|171=>238|205=>237|243=>260|246=>283|283=>300|284=>301|285=>302|286=>303|129=>319|317=>318|318=>320|319=>321|320=>322|337=>332|338=>333|n=>n
 t:=fun x=>match x with|9=>9|3=>3|2=>2|75=>164|85=>224|4=>4|167=>223|5=>5|53=>249|175=>250|46=>252|168=>226|37=>174|0=>0|210=>255|21=>21|127=>266|145=>269|143=>267|171=>303|173=>306|212=>327|51=>294|20=>20|213=>328|232=>341|233=>342|80=>220|n=>n
 g:=fun x=>match x with|15=>0|16=>1|17=>5|18=>6|19=>7|n=>n
theorem Tryz.lays174:LaysC.n174 Tryz.prog Tryz.ren174:=ly
def Tryz.ren173:Ren where
 f:=fun x=>match x with|173=>312|246=>283|283=>300|284=>301|285=>302|286=>303|129=>319|317=>318|318=>320|319=>321|320=>322|337=>332|338=>333|n=>n
 t:=fun x=>match x with|2=>2|3=>3|9=>9|4=>4|171=>303|0=>0|53=>249|37=>174|5=>5|173=>306|212=>327|51=>294|20=>20|213=>328|46=>252|232=>341|233=>342|n=>n
 g:=fun x=>match x with|17=>5|18=>6|19=>7|n=>n
theorem Tryz.lays173:LaysM.n173 Tryz.prog Tryz.ren173:=ly
def Tryz.ren137:Ren where
 f:=fun x=>match x with|137=>228|217=>253|266=>281|n=>n
 t:=fun x=>match x with|9=>9|5=>5|3=>3|n=>n
 g:=fun x=>x
theorem Tryz.lays137:Lays.n137 Tryz.prog Tryz.ren137:=ly
def Tryz.ren172:Ren where
 f:=fun x=>match x with|172=>121|244=>158|245=>159|247=>200|279=>201|280=>202|281=>203|282=>204|287=>235|316=>236|171=>238|205=>237|321=>258|322=>259|243=>260|246=>283|283=>300|284=>301|285=>302|286=>303|129=>319|317=>318|318=>320|319=>321|320=>322|337=>332|338=>333|n=>n
 t:=fun x=>match x with|9=>9|3=>3|75=>164|76=>165|4=>4|5=>5|167=>223|37=>174|0=>0|85=>224|2=>2|168=>226|53=>249|175=>250|46=>252|210=>255|127=>266|145=>269|143=>267|21=>21|171=>303|173=>306|212=>327|51=>294|20=>20|213=>328|232=>341|233=>342|80=>220|n=>n
 g:=fun x=>match x with|15=>0|16=>1|17=>5|18=>6|19=>7|n=>n
theorem Tryz.lays172:LaysC.n172 Tryz.prog Tryz.ren172:=ly
def Tryz.ren264:Ren where
 f:=fun x=>match x with|264=>326|n=>n
 t:=fun x=>match x with|53=>249|46=>252|n=>n
 g:=fun x=>x
theorem Tryz.lays264:Lays.n264 Tryz.prog Tryz.ren264:=ly
def Tryz.ren106:Ren where
 f:=fun x=>match x with|106=>307|213=>325|265=>334|n=>n
 t:=fun x=>match x with|9=>9|3=>3|n=>n
 g:=fun x=>x
theorem Tryz.lays106:Lays.n106 Tryz.prog Tryz.ren106:=ly
end Go.Proofs
namespace Go.SX.Nb
open Go Go.SX Go.Proofs Go.RowKit
variable [ErrAt]
set_option maxRecDepth 4000
theorem Pk {w:World} (h:J0 w):∃m,w.cell? ⟨2,0,none⟩=some (.int .i64 m):=by
 obtain ⟨_,a,m,t,f,rfl⟩:=h (2,fun o=>∃m t f,o=.cells #[.int .i64 m] t f) (by simp [GlobInv.blocks,Wq])
 exact ⟨m,by simp [World.cell?,a]⟩
theorem Oj {w:World} (h:J0 w):w.cell? ⟨1,0,none⟩=some (.iface 267 (.pointer (some ErrAt.b))):=by
 obtain ⟨_,a,t,f,rfl⟩:=h (1,fun o=>∃t f,o=.cells #[.iface 267 (.pointer (some ErrAt.b))] t f) (by simp [GlobInv.blocks,Wq])
 simp [World.cell?,a]
theorem ep {w:World} (h:J0 w):w.cell? ⟨0,0,none⟩=some (.iface 267 (.pointer (some ErrAt.bs))):=by
 obtain ⟨_,a,t,f,rfl⟩:=h (0,fun o=>∃t f,o=.cells #[.iface 267 (.pointer (some ErrAt.bs))] t f) (by simp [GlobInv.blocks,Wq])
 simp [World.cell?,a]
theorem AA5 {w:World} (h:J0 w):Lib.TabIs Tryz.prog w "internal/strconv.uint64pow10" .u64 Lib.pow10Tab:=by
 obtain ⟨_,a,t,f,rfl⟩:=h (5,fun o=>∃t f,o=.cells (Lib.pow10Tab.map fun z=>Value.int .u64 z).toArray t f) (by simp [GlobInv.blocks,Wq])
 have hg:Tryz.prog.globalNamed "internal/strconv.uint64pow10" = some 5:=by kernel_rfl
 simp only at a
 simp [Lib.TabIs,World.var?,hg,a]
theorem iu (w:World) (n:Nat):Below w.heap.size w (w.drewN n):=⟨rfl,rfl,rfl,Am _,fun _ _=>rfl⟩
theorem ux (s t:Str) (hs:s.length<4294967281) (Hp:List AObj):AFun Tryz.prog 180 [Ac s,Ac t] Hp (Az (Lib.contains s t)):=by
 refine Lt (xs:=[sv s,sv t]) (v:=.bool (Lib.contains s t)) (fun G w=>.v _ _) (fun w hg=>?_)
 obtain ⟨m,hm⟩:=Pk hg
 refine (Any.strings_Contains Tryz.lays144 ⟨s.toArray⟩ ⟨t.toArray⟩ m w (by simpa [ByteArray.size] using hs) hm).mono ?_
 rintro e w' ⟨rfl,rfl⟩
 exact uo
theorem AMb (s t:Str) (hs:s.length<4294967281) (Hp:List AObj):AFun Tryz.prog 184 [Ac s,Ac t] Hp (.tup [Ac (Lib.cut s t).1,Ac (Lib.cut s t).2.1,Az (Lib.cut s t).2.2]):=by
 refine Lt (xs:=[sv s,sv t]) (v:=.tuple #[sv (Lib.cut s t).1,sv (Lib.cut s t).2.1,.bool (Lib.cut s t).2.2]) (fun G w=>My rfl (fun i y u hy hu=>?_)) (fun w hg=>?_)
 ·match i with
  | 0=>simp at hy hu;subst hy;subst hu;exact .v _ _
  | 1=>simp at hy hu;subst hy;subst hu;exact .v _ _
  | 2=>simp at hy hu;subst hy;subst hu;exact .v _ _
  | i+3=>simp at hy
 obtain ⟨m,hm⟩:=Pk hg
 refine (Any.strings_Cut Tryz.lays145 ⟨s.toArray⟩ ⟨t.toArray⟩ m w (by simpa [ByteArray.size] using hs) hm).mono ?_
 rintro e w' ⟨rfl,n,rfl⟩
 exact ⟨rfl,iu _ _⟩
theorem AO3 (s t:Str) (ht:t.length<4294967281) (ha:∀c∈t,c.toNat<128) (Hp:List AObj):AFun Tryz.prog 179 [Ac s,Ac t] Hp (Ac (Lib.trimLeftS s t)):=by
 refine Lt (xs:=[sv s,sv t]) (v:=sv (Lib.trimLeftS s t)) (fun G w=>.v _ _) (fun w hg=>?_)
 refine (Any.strings_TrimLeft_laid Tryz.lays161 (by kernel_rfl) ⟨s.toArray⟩ ⟨t.toArray⟩ w (by simpa [ByteArray.size] using ht) (fun j b hj=>ha b (B2 hj))).mono ?_
 rintro e w' ⟨rfl,hb⟩
 exact ⟨rfl,hb⟩
/-- The pieces of a split. -/
def Ok (s t:Str):List Str:=(Lib.splitB ⟨t.toArray⟩ 0 (Lib.countB ⟨s.toArray⟩ ⟨t.toArray⟩) ⟨s.toArray⟩).map (·.data.toList)
theorem AI9 (s t:Str) (hs:s.length<4294967281) (ht:1≤t.length) (Hp:List AObj):AFun Tryz.prog 141 [Ac s,Ac t] Hp (Fg (Ok s t)):=by
 have:=AFun.libSlice (P:=Tryz.prog) (g:=141) (Hp:=Hp) (xs:=[sv s,sv t]) (ys:=(Ok s t).map sv) (t:=9) (by intro y hy;obtain ⟨z,_,rfl⟩:=C2.1 hy;rfl) (fun w hg=>by
  obtain ⟨m,hm⟩:=Pk hg
  refine (Any.strings_Split Tryz.lays146 (by kernel_rfl) ⟨s.toArray⟩ ⟨t.toArray⟩ m w (by simpa [ByteArray.size] using hs) hm (by simpa [ByteArray.size] using ht)).mono ?_
  rintro e w' ⟨rfl,rfl⟩
  have hl:((Ok s t).map sv).length=Lib.countB ⟨s.toArray⟩ ⟨t.toArray⟩+1:=by
   rw [Ao]
   unfold Ok
   rw [Ao]
   exact Lib.splitB_all _ (by simpa [ByteArray.size] using ht) _ _ _ rfl
  refine ⟨by rw [hl],?_⟩
  unfold Ok
  rw [Pb]
  rfl)
 rw [Pb] at this
 exact this
end Go.SX.Nb
namespace Go.Proofs
open Go Go.RowKit Go.Extern.Stop Go.Stop Go.Extern
theorem Tryz.isTypeOf (v:Value) (w:World):(Extern.ReflectliteType.typeOf #[.iface 267 v]).run Tryz.prog w=.ok (.iface 316 (.agg #[.pointer (some ⟨8,267,none⟩)])) w:=by kernel_rfl
def Tryz.cmpOf:Array Value→Sem Value:=Extern.ReflectliteType.method fun t=>do Extern.Rtype.noPackHeld "Comparable" t;pure (.bool (←typeInfo t).comparable)
theorem Tryz.isComparable (w:World):(Tryz.cmpOf #[.agg #[.pointer (some ⟨8,267,none⟩)]]).run Tryz.prog w=.ok (.bool true) w:=by kernel_rfl
theorem Tryz.isMethodComparable (v:Value) (w:World):(Go.method 473 316 v "Comparable").run Tryz.prog w=.ok (364,v) w:=by kernel_rfl
theorem Tryz.isComp:(Tryz.prog.info? 267).map (·.comparable)=some true:=by kernel_rfl
theorem Tryz.isSize:(Tryz.prog.info? 269).map (·.size)=some 1:=by kernel_rfl
theorem Tryz.noIsW (v:Value) (xT:TypeId) (w:World):(Instr.typeAssert (.iface 226 v) xT 318 true).run Tryz.prog w=.ok (.tuple #[.nilIface,.bool false]) w:=run_typeAssert_lacksB Tryz.underlying318 (by kernel_rfl) (by kernel_rfl) v xT w
theorem Tryz.hasUnwrapW (v:Value) (xT:TypeId) (w:World):(Instr.typeAssert (.iface 226 v) xT 321 true).run Tryz.prog w=.ok (.tuple #[.iface 226 v,.bool true]) w:=run_typeAssert_hasB Tryz.underlying321 (by kernel_rfl) v xT w
theorem Tryz.methodUnwrap (v:Value) (w:World):(Go.method 473 226 v "Unwrap").run Tryz.prog w=.ok (358,v) w:=by kernel_rfl
namespace Tryz
theorem is_nil (b:Addr) (w:World):
  Calls Tryz.prog 280 #[.nilIface,.iface 267 (.pointer (some b))] w fun e w'=>e=.returned (.bool false)∧w'=w:=by
 have hn:=run_eql_iface_nil_left (P:=Tryz.prog) w 267 (.pointer (some b)) Tryz.underlying164
 go_enter Tryz.func280,Tryz.ntmps280
 go_wp2
 go_ret
 exact ⟨rfl,rfl⟩
set_option maxRecDepth 100000 in
theorem is_range (pb po:Nat) (b:Addr) (w:World) (h1:w.cell? ⟨pb,po+2,none⟩=some (.iface 267 (.pointer (some b)))):
  Calls Tryz.prog 280 #[.iface 226 (.pointer (some ⟨pb,po,none⟩)),.iface 267 (.pointer (some b))] w fun e w'=>e=.returned (.bool true)∧w'=w:=by
 obtain ⟨i,hi,hcmp⟩:=Option.map_eq_some_iff.1 Tryz.isComp
 obtain ⟨j,hj,hjs⟩:=Option.map_eq_some_iff.1 Tryz.isSize
 have h8:=@run_callFunc_extern Tryz.prog 297 _ Extern.ReflectliteType.typeOf Tryz.func297 (by kernel_rfl) (by kernel_rfl) (by kernel_rfl) (by kernel_rfl)
 have h32:=@run_callFunc_extern Tryz.prog 364 _ Tryz.cmpOf Tryz.func364 (by kernel_rfl) (by kernel_rfl) (by kernel_rfl) (by kernel_rfl)
 have tT:=Tryz.isTypeOf
 have cT:=Tryz.isComparable
 have mR:=Tryz.isMethodComparable
 have nW:=Tryz.noIsW
 have uW:=Tryz.hasUnwrapW
 have mU:=Tryz.methodUnwrap
 have heq:=run_eql_iface_ptr_same (P:=Tryz.prog) w b Tryz.underlying164 Tryz.underlying267 hi hcmp hj
 have hty:=run_eql_iface_types (P:=Tryz.prog) 226 267 (.pointer (some ⟨pb,po,none⟩)) (.pointer (some b)) Tryz.underlying164 (by decide) w
 go_enter Tryz.func280,Tryz.ntmps280
 go_wp2
 refine wp_loop_rounds 2 ?_
 rw [rounds_succ]
 go_wp2
 rw [rounds_succ]
 go_wp2
 go_ret
 exact ⟨rfl,rfl⟩
end Tryz
end Go.Proofs
namespace Go.SX.Nb
open Go Go.SX Go.Proofs Go.RowKit Go.Sort
variable [ErrAt]
set_option maxRecDepth 4000
theorem AO4 (s t:Str) (Hp:List AObj):AFun Tryz.prog 248 [Ac s,Ac t] Hp (Az (Lib.hasPrefix s t)):=by
 refine Lt (xs:=[sv s,sv t]) (v:=.bool (Lib.hasPrefix s t)) (fun G w=>.v _ _) (fun w hg=>?_)
 refine (Any.strings_HasPrefix Tryz.lays99 ⟨s.toArray⟩ ⟨t.toArray⟩ w).mono ?_
 rintro e w' ⟨rfl,rfl⟩
 exact uo
theorem AO5 (s t:Str) (hs:s.length≤9223372036854775807) (Hp:List AObj):AFun Tryz.prog 249 [Ac s,Ac t] Hp (Az (Lib.hasSuffix s t)):=by
 refine Lt (xs:=[sv s,sv t]) (v:=.bool (Lib.hasSuffix s t)) (fun G w=>.v _ _) (fun w hg=>?_)
 refine (Any.strings_HasSuffix Tryz.lays100 ⟨s.toArray⟩ ⟨t.toArray⟩ w (by simpa [ByteArray.size] using hs)).mono ?_
 rintro e w' ⟨rfl,rfl⟩
 exact uo
theorem AO6 (s:Str) (c:UInt8) (Hp:List AObj):AFun Tryz.prog 228 [Ac s,.v (.int .u8 (c.toNat:Int))] Hp (A3 (Lib.indexByte s c)):=by
 refine Lt (xs:=[sv s,.int .u8 (c.toNat:Int)]) (v:=.int .i64 (Lib.indexByte s c)) (fun G w=>.v _ _) (fun w hg=>?_)
 refine (Any.strings_IndexByte Tryz.lays137 ⟨s.toArray⟩ (c.toNat:Int) w).mono ?_
 rintro e w' ⟨rfl,rfl⟩
 exact ⟨by simp,Below.refl _ _⟩
theorem AO7:Builder.Extra Tryz.prog Tryz.ren155:={ sizeBuilder:=by kernel_rfl,liesBuilder:=by kernel_rfl,t5:=Tryz.underlying5,a5:=Tryz.isAgg5,z5:=Tryz.sizeOf5,v5:=Tryz.zeroValue5,infoByte:=by kernel_rfl,cellsByte:=by kernel_rfl,sizeByte:=by kernel_rfl,neB5:=by decide }
theorem AMc (s o n:Str) (hs:s.length<4294967281) (ho:1≤o.length) (hl:s.length+Lib.countB ⟨s.toArray⟩ ⟨o.toArray⟩*n.length≤140737488355328) (Hp:List AObj):AFun Tryz.prog 274 [Ac s,Ac o,Ac n] Hp (Ac (Lib.replaceAll s o n)):=by
 refine Lt (xs:=[sv s,sv o,sv n]) (v:=sv (Lib.replaceAll s o n)) (fun G w=>.v _ _) (fun w hg=>?_)
 obtain ⟨m,hm⟩:=Pk hg
 refine (Any.strings_ReplaceAll Tryz.lays155 AO7 ⟨s.toArray⟩ ⟨o.toArray⟩ ⟨n.toArray⟩ m w (by simpa [ByteArray.size] using hs) hm (by simpa [ByteArray.size] using ho) (by simpa [ByteArray.size] using hl)).mono ?_
 rintro e w' ⟨rfl,hb⟩
 exact ⟨rfl,hb⟩
theorem n8 (w:World) (k:Nat) (os:Array Obj):Below w.heap.size w (grow (w.drewN k) os):=by
 refine ⟨rfl,rfl,rfl,by simp [grow],fun b hb=>?_⟩
 show ((w.drewN k).heap++os)[b]? = w.heap[b]?
 rw [Kn (by exact hb)]
 rfl
theorem AO8 (n:Int) (h0 : -9223372036854775808≤n) (h1:n≤9223372036854775807) (Hp:List AObj):AFun Tryz.prog 312 [.v (.int .i64 n),A3 10] Hp (Ac (Lib.itoa n)):=by
 refine Lt (xs:=[.int .i64 n,.int .i64 10]) (v:=sv (Lib.itoa n)) (fun G w=>.v _ _) (fun w hg=>?_)
 refine (Any.strconv_FormatInt_10 Tryz.lays173 n h0 h1 w (AA5 hg)).mono ?_
 rintro e w' ⟨rfl,k,os,rfl⟩
 exact ⟨rfl,n8 _ _ _⟩
end Go.SX.Nb
namespace Go.SX.Nb
open Go Go.SX Go.Proofs Go.RowKit
variable [ErrAt]
set_option maxRecDepth 4000
def digs:Str:=[48,49,50,51,52,53,54,55,56,57]
def Uq (s:Str):Str:=Lib.trimPrefix s [45]
def L1 (s:Str):Bool:=(Uq s==[]) || !(Lib.trimS (Uq s) digs==[]) || (((Uq s).headD 0==48)&&decide (1<s.length))
def Du (s:Str):Int×Int:=if L1 s then (0,6) else match Lib.parseIntB 64 s with|.ok v=>(v,0)|.range=>(0,4)|_=>(0,0)
def AEd {α:Type}:Lib.NumEnd α→Bool|.ok _=>false|.range=>false|_=>true
theorem AA6 {p:UInt8→Bool}:∀{l:Str},l.dropWhile p=[]↔∀b∈l,p b=true
 | []=>by simp
 | b::r=>by
  rw [T8]
  by_cases h:p b=true
  ·rw [if_pos h,AA6]
   simp [h]
  rw [if_neg h]
  simp [h]
theorem AA7 {p:UInt8→Bool}:∀{l:Str} {b:UInt8},b∈l→p b=false→b∈l.dropWhile p
 | x::r,b,h,hb=>by
  rw [T8]
  by_cases hx:p x=true
  ·rw [if_pos hx]
   rcases B4.1 h with rfl|h
   ·rw [hb] at hx;cases hx
   exact AA7 h hb
  rw [if_neg hx];exact h
theorem aj {l cs:Str}:Lib.trimS l cs=[]↔∀b∈l,cs.contains b=true:=by
 unfold Lib.trimS Lib.trimLeftS Lib.trimRightS
 rw [AA6]
 constructor
 ·intro h b hb
  cases hc:cs.contains b with
  | true=>rfl
  | false =>
   have:=h b (Vi.2 (AA7 (p:=(cs.contains ·)) (Vi.2 hb) hc))
   rw [hc] at this;exact this
 intro h b hb
 exact h b (Vi.1 ((lx (cs.contains ·)).subset (Vi.1 hb)))
theorem Q5 (c:UInt8):digs.contains c=(decide (48≤c.toNat)&&decide (c.toNat≤57)):=by
 have h:((List.range 256).all fun n=>digs.contains (UInt8.ofNat n)==(decide (48≤(UInt8.ofNat n).toNat)&&decide ((UInt8.ofNat n).toNat≤57)))=true:=by kernel_rfl
 have:=B0.1 h c.toNat (Pc.2 c.toNat_lt)
 simpa using this
theorem ak (M:Nat):∀(l:Str) (acc:Nat),(∀b∈l,digs.contains b=true)→AEd (Lib.parseUintM M acc l)=false
 | [],acc,_=>by rw [Lib.parseUintM];rfl
 | c::r,acc,h=>by
  have hc:=h c (by simp)
  rw [Q5] at hc
  simp only [At,decide_eq_true_eq] at hc
  rw [Lib.parseUintM,if_pos hc]
  split
  ·rfl
  split
  ·rfl
  exact ak M r _ (fun b hb=>h b (by simp [hb]))
theorem Ur (s:Str):(s.head? ≠ some 45∧Uq s=s)∨∃r,s=45::r∧Uq s=r:=by
 unfold Uq Lib.trimPrefix Lib.hasPrefix
 cases s with
 | nil=>exact .inl ⟨by simp,rfl⟩
 | cons c r =>
  by_cases hc:c=45
  ·subst hc;exact .inr ⟨r,rfl,by simp [List.isPrefixOf]⟩
  refine .inl ⟨by simpa using hc,?_⟩
  rw [if_neg]
  simp [List.isPrefixOf,Ne.symm hc]
theorem Ol {s:Str} (h:L1 s=false):AEd (Lib.parseIntB 64 s)=false:=by
 unfold L1 at h
 simp only [E1,Mo,beq_iff_eq,beq_eq_false_iff_ne] at h
 obtain ⟨⟨h1,h2⟩,_⟩:=h
 rw [aj] at h2
 have key:∀l:Str,l≠[]→(∀b∈l,digs.contains b=true)→AEd (Lib.parseUintB 64 l)=false:=fun l hl ha=>by
  unfold Lib.parseUintB
  rw [if_neg hl]
  exact ak _ l 0 ha
 rcases Ur s with ⟨h3,h4⟩|⟨r,rfl,h4⟩
 ·rw [h4] at h1 h2
  cases s with
  | nil=>exact absurd rfl h1
  | cons c r =>
   have hcd:=h2 c (by simp)
   rw [Q5] at hcd
   simp only [At,decide_eq_true_eq] at hcd
   have e1:¬(c.toNat=43∨c.toNat=45):=by omega
   have:=key (c::r) (by simp) h2
   simp only [Lib.parseIntB,if_neg e1]
   revert this
   cases Lib.parseUintB 64 (c::r) with
   | range=>intro _;rfl
   | ok u=>intro _;simp only;split<;>(try split)<;>rfl
   | _=>intro h;cases h
 rw [h4] at h1 h2
 have:=key r h1 h2
 have e1:((45:UInt8).toNat=43∨(45:UInt8).toNat=45):=.inr rfl
 simp only [Lib.parseIntB,if_pos e1]
 revert this
 cases Lib.parseUintB 64 r with
 | range=>intro _;rfl
 | ok u=>intro _;simp only;split<;>(try split)<;>rfl
 | _=>intro h;cases h
end Go.SX.Nb
namespace Go.SX.Nb
open Go Go.SX Go.Proofs
variable [ErrAt]
set_option maxRecDepth 4000
def Pl (c:UInt8):Bool:=decide ((97:Int)≤c.toNat)&&decide ((c.toNat:Int)≤122)
def AIa (c:UInt8):Bool:=decide ((48:Int)≤c.toNat)&&decide ((c.toNat:Int)≤57)
def words:List Str:=[[97,100,100],[100,114,111,112],[114,101,110,97,109,101],[115,112,108,105,116],[109,101,114,103,101],[114,101,116,121,112,101],[105,110,116,111],[116,111],[98,97,99,107],[97,110,100],[111,114],[110,111,116],[116,114,117,101],[102,97,108,115,101],[110,117,108,108],[105,110,116],[116,101,120,116],[98,111,111,108],[115,101,108,101,99,116],[119,104,101,114,101],[102,114,111,109],[108,105,109,105,116]]
def Tk (s:Str):Bool:=words.any (·==s)
theorem El {α:Type} {l:List α} {x:Nat} {p:α→Prop} (hlt:x<l.length) (h:∀(j:Nat) (y:α),j<x→l[j]? = some y→p y) (hx:p l[x]):∀(j:Nat) (y:α),j<x+1→l[j]? = some y→p y:=by
 intro j y hj hy
 rcases Bk j x with h'|h'
 ·exact h j y h' hy
 have:j=x:=by omega
 subst this
 rw [Ab hlt] at hy
 injection hy with hy
 subst hy
 exact hx
theorem Om {α:Type} {l:List α} {x:Nat} {p:α→Prop} (hge:l.length≤x) (h:∀(j:Nat) (y:α),j<x→l[j]? = some y→p y):∀(j:Nat) (y:α),l[j]? = some y→p y:=
 fun j y hy=>h j y (by have:=(Ad.1 hy).1;omega) hy
def Wr (c:UInt8):Bool:=Pl c || AIa c || c==95
def Q6 (s:Str):Bool:=match s with
 | []=>false
 | c::_=>decide (s.length≤16)&&Pl c && !Tk s&&s.all Wr
theorem al {s:Str} (h:s≠[]):s[0]? = some (s.headD 0):=by cases s with
 | nil=>exact absurd rfl h
 | cons c r=>rfl
def Aw (nm:Str) (c:List Col):Int:=match c.findIdx? (fun y=>y.name==nm) with|some i=>i|none => -1
theorem iv {nm:List UInt8} {c:List Col} {x:Nat} (h:x<c.length) (h1:c[x].name=nm) (h2:∀(j:Nat) (y:Col),j<x→c[j]? = some y→¬(y.name=nm)):Aw nm c=x:=by
 have:c.findIdx? (fun y=>y.name==nm)=some x:=by
  rw [Qi]
  exact ⟨h,by simpa using h1,fun j hj=>by simpa using h2 j c[j] hj (Ab _)⟩
 simp [Aw,this]
theorem n9 {nm:List UInt8} {c:List Col} (h:∀(j:Nat) (y:Col),c[j]? = some y→¬(y.name=nm)):Aw nm c = -1:=by
 have:c.findIdx? (fun y=>y.name==nm)=none:=by
  rw [Tb]
  intro y hy
  obtain ⟨j,hj⟩:=C8 hy
  simpa using h j y hj
 simp [Aw,this]
structure OkCols (c:List Col):Prop where
 len:c.length≤1048576
 names:∀y∈c,y.name.length≤1048576
def qj (c:List Col) (x:Nat) (y:Col):Bool := !(((!Q6 y.name || decide (y.kind<1)) || decide ((3:Int)<y.kind)) || (Aw y.name c != (x:Int)))
def L2 (c:List Col):Bool:=c.zipIdx.all fun x=>qj c x.2 x.1
theorem na {c:List Col}:L2 c=true↔∀(j:Nat) (y:Col),c[j]? = some y→qj c j y=true:=by
 unfold L2
 rw [B0]
 constructor
 ·intro h j y hj
  exact ALh
 rintro h ⟨y,j⟩ hx
 rw [Lo] at hx
 exact h j y hx
theorem L3 {α:Type} {l:List α} {x:Nat} {p:Nat→α→Prop} (hlt:x<l.length) (h:∀(j:Nat) (y:α),j<x→l[j]? = some y→p j y) (hx:p x l[x]):∀(j:Nat) (y:α),j<x+1→l[j]? = some y→p j y:=by
 intro j y hj hy
 rcases Bk j x with h'|h'
 ·exact h j y h' hy
 have:j=x:=by omega
 subst this
 rw [Ab hlt] at hy
 injection hy with hy
 subst hy
 exact hx
theorem Tl {α:Type} {l:List α} {x:Nat} {p:Nat→α→Prop} (hge:l.length≤x) (h:∀(j:Nat) (y:α),j<x→l[j]? = some y→p j y):∀(j:Nat) (y:α),l[j]? = some y→p j y:=
 fun j y hy=>h j y (by have:=(Ad.1 hy).1;omega) hy
def Ci (c:List Col):Bool:=decide ((c.length:Int)≤12)&&L2 c
def Ee (v:Val):Bool:=if v.kind==0 then v.n==0&&v.s==[] else if v.kind==1 then v.s==[] else if v.kind==2 then v.n==0&&decide ((v.s.length:Int)≤200) else v.kind==3&&v.s==[]&&decide (0≤v.n)&&decide (v.n≤1)
theorem AIb (e:Bool) (n:Int):(e&&(n==0 || n==1))=(e&&decide (0≤n)&&decide (n≤1)):=by
 cases e
 ·rfl
 rw [T6]
 simp
 omega
theorem c93 (v:Val) (Hp:List AObj):AFun Tryz.prog 93 [Bm v] Hp (Az (Ee v)):=by
 refine Ae [.tmp 2] [0] Tryz.func93 Tryz.ntmps93 (fun d=>?_)
 refine zr ?_;refine A5 ?_;refine A2 [1] ?_;refine Z7 ?_;refine A2 [1,4] ?_;refine Vf ?_;refine A2 [1,4,5] ?_
 refine A4 (fun ht5=>?_) (fun ht5=>?_)
 ·refine ALc ?_
  refine A5 (h:=Qq Zk (Jc v.kind v.n 0 0 v.s [])) (hr:=?_)
  refine A5 ?_;refine Z4 ?_;refine Z5 ?_;exact A8 (Ak A9) ⟨by simp [Ee,ht5],rfl⟩
 refine Z1 ?_;refine A2 [1,4,10] ?_
 refine A4 (fun ht10=>?_) (fun ht10=>?_)
 ·refine Z23 ?_;refine Z4 ?_;refine Z5 ?_;exact A8 (Ak A9) ⟨by simp [Ee,ht5,ht10],rfl⟩
 refine Z1 ?_;refine A2 [1,4,15] ?_
 refine A4 (fun ht15=>?_) (fun ht15=>?_)
 ·refine Z23 ?_;refine Pw ?_;refine my ?_;exact A8 (Ak A9) ⟨by simp [Ee,ht5,ht10,ht15],rfl⟩
 refine Z1 ?_;refine A2 [1,26] ?_
 refine A4 (fun ht26=>?_) (fun ht26=>?_)
 ·refine Z23 ?_;refine Pw ?_;refine Pw ?_;refine my ?_;exact A8 (Ak A9) ⟨by simp [Ee,ht5,ht10,ht15,ht26];rw [AIb],rfl⟩
 refine Z19 ?_;refine Z58 ?_;exact A8 (Ak A9) ⟨by simp [Ee,ht5,ht10,ht15,ht26],rfl⟩

def Lu (c:List Col):Bool:=decide ((50:Int)<c.length) || c.any fun y=>decide ((100:Int)<y.name.length)
theorem ql {a b:Val}:(a.kind==b.kind&&a.n==b.n&&a.s==b.s)=decide (a=b):=by
 rw [T6]
 cases a;cases b
 simp [and_assoc]
theorem qm {a b:Row}:((a.key != b.key) || !decide (a.l=b.l)) = !decide (a=b):=by
 rw [T6]
 cases a;cases b
 simp [Classical.or_iff_not_imp_left]
theorem R2 {α:Type} {c:List α} {p:Nat→α→Bool}:(c.zipIdx.all fun x=>p x.2 x.1)=true↔∀(j:Nat) (y:α),c[j]? = some y→p j y=true:=by
 rw [B0]
 constructor
 ·intro h j y hj
  exact ALh
 rintro h ⟨y,j⟩ hx
 rw [Lo] at hx
 exact h j y hx
theorem AO9 (y:Col) (nm:Str) (Hp:List AObj):AFun Tryz.prog 108 [C0 y,.ro [Ac nm]] Hp (Az (y.name==nm)):=by
 refine Ae [.tmp 3] [0,1] Tryz.func108 Tryz.ntmps108 (fun d=>?_)
 refine Z1 ?_;refine A2 [1,2] ?_;refine Z1 ?_;refine Z13 ?_;refine A2 [3] ?_;refine Fs ?_;exact uq

theorem AOa (c:List Col) (hc:OkCols c) (nm:Str) (Hp:List AObj):AFun Tryz.prog 107 [An c,.fn (.func 108) [] [.ro [Ac nm]]] Hp (A3 (Aw nm c)):=by
 refine Ae [.tmp 4] [0,1] Tryz.func107 Tryz.ntmps107 (fun d=>?_)
 refine eg ?_
 refine Bf (α:=Nat) (fun x=>⟨19,A6 0 (An c) (A6 1 (.fn (.func 108) [] [.ro [Ac nm]]) (A6 7 (A3 c.length) (A6 8 (A3 (x:Nat)) (fun _=>.any)))),Hp,[],[],none⟩) (fun x=>x≤c.length∧∀(j:Nat) (y:Col),j<x→c[j]? = some y→¬(y.name=nm)) (fun x=>c.length-x) (0) (by simp) (Bj (by simp)) rfl (fun x hx=>?_)
 refine ea ?_
 refine Cr (fun ht9=>?_) (fun ht9=>?_)
 ·have hlt:x<c.length:=by simpa using ht9
  have hcl:=hc.len
  refine ee ?_
  refine A5 (h:=Ai (x) (C0 c[x]) (fun _=>B6 hlt)) (hr:=?_)
  refine A5 ?_;refine Mz Tryz.call108 (AO9 c[x] nm _) ?_;refine en ?_
  refine A4 (fun ht16=>?_) (fun ht16=>?_)
  ·refine ii ?_;refine Z62 ?_;exact A8 (Ak A9) ⟨by rw [iv hlt (by simpa using ht16) hx.2],rfl⟩
  refine Z73 ?_;refine A2 [0,1,7,8] ?_;exact Bg (x+1) ⟨hlt,El hlt hx.2 (by simpa using ht16)⟩ (by omega) (Dn rfl)
 refine Z28 ?_;refine Z41 ?_;exact A8 (Ak A9) ⟨by rw [n9 (Om (by simp at ht9;omega) hx.2)],rfl⟩

theorem c60 (c:List Col) (hc:OkCols c) (nm:Str) (Hp:List AObj):AFun Tryz.prog 60 [An c,Ac nm] Hp (A3 (Aw nm c)):=by
 refine Ae [.tmp 4] [0,1] Tryz.func60 Tryz.ntmps60 (fun d=>?_)
 refine zo ?_;refine Z2 ?_;refine Ia ?_;refine Aa Tryz.call107 (AOa c hc nm _) ?_;refine A5 ?_;exact AHk

def S1 (s of:Str):Int:=(s.length:Int)-(Lib.trimLeftS s of).length
theorem Vs (s of:Str):(Lib.trimLeftS s of).length≤s.length:=by
 unfold Lib.trimLeftS
 exact (lx _).length_le
def N4:Str:=[32,97,100,100,32,100,114,111,112,32,114,101,110,97,109,101,32,115,112,108,105,116,32,109,101,114,103,101,32,114,101,116,121,112,101,32,105,110,116,111,32,116,111,32,98,97,99,107,32,97,110,100,32,111,114,32,110,111,116,32,116,114,117,101,32,102,97,108,115,101,32,110,117,108,108,32,105,110,116,32,116,101,120,116,32,98,111,111,108,32,115,101,108,101,99,116,32,119,104,101,114,101,32,102,114,111,109,32,108,105,109,105,116,32]
def letters:Str:=[97,98,99,100,101,102,103,104,105,106,107,108,109,110,111,112,113,114,115,116,117,118,119,120,121,122]
def tails:Str:=[97,98,99,100,101,102,103,104,105,106,107,108,109,110,111,112,113,114,115,116,117,118,119,120,121,122,48,49,50,51,52,53,54,55,56,57,95]
theorem nb (s of:Str) (hs:s.length≤1048576) (ho:of.length≤1048576) (ha:∀c∈of,c.toNat<128) (Hp:List AObj):AFun Tryz.prog 143 [Ac s,Ac of] Hp (A3 (S1 s of)):=by
 refine Ae [.tmp 4] [0,1] Tryz.func143 Tryz.ntmps143 (fun d=>?_)
 refine Z36 ?_;refine Z23 ?_;refine Aa Tryz.call179 (AO3 s of (by omega) ha _) ?_;refine A5 ?_
 have htl:=Vs s of
 exact AEa

def H4 (s:Str):Bool:=(!(s==[]) && !Lib.contains s [32])&&Lib.contains N4 ([32]++s++[32])
theorem AMd (s:Str) (hs:s.length≤1048576) (Hp:List AObj):AFun Tryz.prog 144 [Ac s] Hp (Az (H4 s)):=by
 refine Ae [.tmp 2] [0] Tryz.func144 Tryz.ntmps144 (fun d=>?_)
 refine Z43 ?_;refine Z15 ?_;refine Cd ?_;refine C3 Tryz.call180 (fun hB=>ux s [32] (by omega) _) ?_;refine Cd ?_;refine Zg ?_;refine C3 Tryz.call180 (fun hB=>ux N4 ([32]++s++[32]) (by decide) _) ?_;exact Z99

theorem AIc {s:Str} {b c:Bool} (h:(((!(s==[])&&b)&&c)==true)=true):1≤s.length:=by
 cases s with
 | nil=>simp at h
 | cons x r=>simp
def Dw (s:Str):Bool:=((((!(s==[])&&decide ((s.length:Int)≤16))&&(S1 s tails==(s.length:Int)))&&(S1 (s.take 1) letters==1)) && !H4 s)
theorem AA8 (s:Str) (hs:s.length≤1048576) (Hp:List AObj):AFun Tryz.prog 105 [Ac s] Hp (Az (Dw s)):=by
 refine Ae [.tmp 2] [0] Tryz.func105 Tryz.ntmps105 (fun d=>?_)
 refine Z43 ?_;refine Z15 ?_;refine Z69 ?_;refine Qx ?_;refine C3 Tryz.call143 (fun hB=>nb s tails hs (by decide) (by decide) _) ?_;refine Z69 ?_;refine Qx ?_
 refine Cd (h:=Kx 1 (fun _=>Ar _) (fun hB=>AIc hB)) (hr:=?_)
 refine C3 Tryz.call143 (fun hB=>nb (s.take 1) letters (by simp;omega) (by decide) (by decide) _) ?_
 refine Cd ?_;refine Qx ?_;refine C3 Tryz.call144 (fun hB=>AMd s hs _) ?_;refine Cd ?_;exact Z99

end Go.SX.Nb
namespace Go.SX.Nb
open Go Go.SX Go.Proofs Go.RowKit
variable [ErrAt]
set_option maxRecDepth 4000
theorem AOb (s t:Str) (Hp:List AObj):AFun Tryz.prog 277 [Ac s,Ac t] Hp (Ac (Lib.trimPrefix s t)):=by
 refine Lt (xs:=[sv s,sv t]) (v:=sv (Lib.trimPrefix s t)) (fun G w=>.v _ _) (fun w hg=>?_)
 refine (Any.strings_TrimPrefix Tryz.lays101 ⟨s.toArray⟩ ⟨t.toArray⟩ w).mono ?_
 rintro e w' ⟨rfl,rfl⟩
 exact uo
theorem AOc (s t:Str) (hs:s.length≤9223372036854775807) (ht:t.length<4294967281) (ha:∀c∈t,c.toNat<128) (Hp:List AObj):AFun Tryz.prog 278 [Ac s,Ac t] Hp (Ac (Lib.trimS s t)):=by
 refine Lt (xs:=[sv s,sv t]) (v:=sv (Lib.trimS s t)) (fun G w=>.v _ _) (fun w hg=>?_)
 refine (Any.strings_Trim_laid Tryz.lays160 (by kernel_rfl) ⟨s.toArray⟩ ⟨t.toArray⟩ w (by simpa [ByteArray.size] using hs) (by simpa [ByteArray.size] using ht) (fun j b hj=>ha b (B2 hj))).mono ?_
 rintro e w' ⟨rfl,hb⟩
 exact ⟨rfl,hb⟩
theorem AEe (s:Str) (hs:s.length≤1048576) (v:Int) (h:Lib.parseIntB 64 s=.ok v) (Hp:List AObj):AFun Tryz.prog 279 [Ac s,A3 10,A3 64] Hp (.tup [A3 v,.v .nilIface]):=by
 refine Lt (xs:=[sv s,.int .i64 10,.int .i64 64]) (v:=.tuple #[.int .i64 v,.nilIface]) (fun G w=>My rfl (fun i y u hy hu=>?_)) (fun w hg=>?_)
 ·match i with
  | 0=>simp at hy hu;subst hy;subst hu;exact .v _ _
  | 1=>simp at hy hu;subst hy;subst hu;exact .v _ _
  | i+2=>simp at hy
 refine (Any.strconv_ParseInt_10_at64_ok Tryz.lays174 ⟨s.toArray⟩ (by simp [ByteArray.size];omega) v h w).mono ?_
 rintro e w' ⟨rfl,rfl|⟨t,rfl⟩⟩
 ·exact uo
 exact ⟨rfl,Lib.bytesWorld_below _ _ _⟩
def Tm (s:Str):AV:=.iface 226 (.ro [.v (sv [80,97,114,115,101,73,110,116]),.v (sv s),.v (.iface 267 (.pointer (some ErrAt.b)))])
theorem nd (s:Str) (hs:s.length≤1048576) (h:Lib.parseIntB 64 s=.range) (Hp:List AObj):AFun Tryz.prog 279 [Ac s,A3 10,A3 64] Hp (.tup [A3 (Lib.intSat 64 s),Tm s]):=by
 refine AFun.libErr (xs:=[sv s,.int .i64 10,.int .i64 64]) (n:=.int .i64 (Lib.intSat 64 s)) (cs:=[sv [80,97,114,115,101,73,110,116],sv s,.iface 267 (.pointer (some ErrAt.b))]) (te:=255) (fun y hy=>?_) (fun w hg=>?_)
 ·simp only [B4,E2,or_false] at hy
  rcases hy with rfl|rfl|rfl<;>rfl
 refine (Any.strconv_ParseInt_10_at64_range Tryz.lays174 ⟨s.toArray⟩ (by simp [ByteArray.size];omega) h (.iface 267 (.pointer (some ErrAt.b))) w (Oj hg) (.inr ⟨_,_,rfl⟩)).mono ?_
 rintro e w' ⟨N,rfl,h1,h2,h3⟩
 exact ⟨N,rfl,h1,h2,h3⟩
theorem AA9 (Hp:List AObj):AFun Tryz.prog 280 [.v .nilIface,.v (.iface 267 (.pointer (some ErrAt.b)))] Hp (Az false):=by
 refine Lt (xs:=[.nilIface,.iface 267 (.pointer (some ErrAt.b))]) (v:=.bool false) (fun G w=>.v _ _) (fun w hg=>?_)
 refine (Tryz.is_nil _ w).mono ?_
 rintro e w' ⟨rfl,rfl⟩
 exact uo
theorem nf (s:Str) (Hp:List AObj):AFun Tryz.prog 280 [Tm s,.v (.iface 267 (.pointer (some ErrAt.b)))] Hp (Az true):=by
 intro d G w vs hn hv hH hT _
 have hsz:vs.size=2:=hn
 have h0:=hv 0 (Tm s) vs[0] rfl (E9 (by omega))
 have h1:=Rp (hv 1 (.v (.iface 267 (.pointer (some ErrAt.b)))) vs[1] rfl (E9 (by omega)))
 have hvs:vs=#[vs[0],vs[1]]:=by
  apply gh
  ·exact hsz
  intro i hi1 hi2
  match i with
  | 0=>rfl
  | 1=>rfl
  | i+2=>omega
 unfold Tm at h0
 generalize vs[0]=u0 at h0 hvs
 cases h0 with
 | iface _ _ _ u h =>
  cases h with
  | ro _ _ ad f hs h1' hf hr =>
   obtain ⟨ab,ao,asp⟩:=ad
   simp only at hs
   subst hs
   have hc:=(hf 2 _ rfl).2
   have he:=Rp (hr 2 _ rfl)
   rw [he] at hc
   rw [hvs,h1]
   refine (callsIn_wide.2 (Tryz.is_range ab ao ErrAt.b w hc)).mono ?_
   rintro e w' ⟨rfl,rfl⟩
   exact ⟨_,G,_,Hp,rfl,.v _ _,hH,hT,Fq _ _ _,rfl,rfl,rfl⟩
end Go.SX.Nb
namespace Go.SX.Nb
open Go Go.SX Go.Proofs
variable [ErrAt]
set_option maxRecDepth 4000
def iw:Str:=[32,105,110,116,32,116,101,120,116,32,98,111,111,108]
def kindNames:List Str:=[[],[105,110,116],[116,101,120,116],[98,111,111,108]]
theorem uz:Ok iw [32]=kindNames:=by kernel_rfl
def Cw (k:Int):Str:=if k<1∨3<k then [] else kindNames.getD k.toNat []
theorem c97 (k:Int) (Hp:List AObj):AFun Tryz.prog 97 [A3 k] Hp (Ac (Cw k)):=by
 refine Ae [.tmp 2] [0] Tryz.func97 Tryz.ntmps97 (fun d=>?_)
 refine mz ?_;refine io ?_;refine A2 [0,8] ?_
 refine A4 (fun ht8=>?_) (fun ht8=>?_)
 ·refine Z58 ?_;refine C9 ?_;exact A8 (Ak A9) ⟨by rw [show Cw k=[] from if_pos (by simpa using ht8)],rfl⟩
 refine il ?_
 have hk:1≤k∧k≤3:=by simp at ht8;omega
 have hget:(kindNames.map Ac)[k.toNat]? = some (Ac (kindNames.getD k.toNat [])):=by
  have hlt:k.toNat<kindNames.length:=by show k.toNat<4;omega
  rw [Bz,Ab hlt,Bw,Ab hlt]
  rfl
 refine Aa Tryz.call141 (uz ▸ AI9 iw [32] (by decide) (by decide) _) ?_;refine A5 ?_
 refine A5 (h:=Ai (k.toNat) (Ac (kindNames.getD k.toNat [])) (fun _=>hget)) (hr:=?_)
 refine Z65 ?_;exact A8 (Ak A9) ⟨by rw [show Cw k=kindNames.getD k.toNat [] from if_neg (by omega)],rfl⟩

def Pm (s of:Str):Bool:=(!(s==[]) && !Lib.contains s [32])&&Lib.contains of ([32]++s++[32])
theorem AMe (s of:Str) (hs:s.length≤1048576) (ho:of.length≤1048576) (Hp:List AObj):AFun Tryz.prog 175 [Ac s,Ac of] Hp (Az (Pm s of)):=by
 refine Ae [.tmp 4] [0,1] Tryz.func175 Tryz.ntmps175 (fun d=>?_)
 refine Z36 ?_;refine Z15 ?_;refine Cd ?_;refine C3 Tryz.call180 (fun hB=>ux s [32] (by omega) _) ?_;refine Cd ?_;refine Z77 ?_;refine C3 Tryz.call180 (fun hB=>ux of ([32]++s++[32]) (by omega) _) ?_;exact AEa

def am:Str:=[108,101,110,58,49,32,115,116,114,58,49,32,110,117,109,58,49,32,105,115,110,117,108,108,58,49,32,110,118,108,58,50,32,108,101,102,116,58,50,32,114,105,103,104,116,58,50,32,105,102,58,51]
def arityList:List (Str×UInt8):=[([108,101,110],49),([115,116,114],49),([110,117,109],49),([105,115,110,117,108,108],49),([110,118,108],50),([108,101,102,116],50),([114,105,103,104,116],50),([105,102],51)]
def Jd (p:Str×UInt8):Str:=p.1++[58,p.2]
theorem ng:Ok am [32]=arityList.map Jd:=by kernel_rfl
theorem AAa {p:Str×UInt8} (hp:p∈arityList):Lib.cut (Jd p) [58]=(p.1,[p.2],true):=by
 have h:(arityList.all fun p=>decide (Lib.cut (Jd p) [58]=(p.1,[p.2],true)))=true:=by kernel_rfl
 exact of_decide_eq_true (B0.1 h p hp)
def AId (p:Str×UInt8):Int:=IntKind.i64.wrap (IntKind.u8.wrap ((p.2.toNat:Int)-48))
def Cf (nm:Str):Int:=match arityList.find? (fun p=>p.1==nm) with|some p=>AId p|none => -1
theorem er {α:Type} {p:α→Bool} {l:List α} {x:Nat} (h:x<l.length) (hp:p l[x]=true) (h2:∀(j:Nat) (y:α),j<x→l[j]? = some y→p y=false):l.find? p=some l[x]:=by
 rw [yh]
 exact ⟨hp,x,h,rfl,fun j hj=>by simpa using h2 j l[j] hj (Ab _)⟩
theorem Tn {α:Type} {p:α→Bool} {l:List α} (h:∀(j:Nat) (y:α),l[j]? = some y→p y=false):l.find? p=none:=by
 rw [O1]
 intro y hy
 obtain ⟨j,hj⟩:=C8 hy
 simpa using h j y hj
theorem To:arityList.length=8:=rfl
theorem v0 {p:Str×UInt8} (hp:p∈arityList):(Jd p).length<4294967281:=by
 have h:(arityList.all fun p=>decide ((Jd p).length<4294967281))=true:=by kernel_rfl
 exact of_decide_eq_true (B0.1 h p hp)
theorem AIe (nm:Str) (Hp:List AObj):AFun Tryz.prog 176 [Ac nm] Hp (A3 (Cf nm)):=by
 refine Ae [.tmp 2] [0] Tryz.func176 Tryz.ntmps176 (fun d=>?_)
 refine Z43 ?_;refine Z54 ?_;refine Aa Tryz.call141 (ng ▸ AI9 am [32] (by decide) (by decide) _) ?_;refine Z0 ?_;refine A2 [0,8,9,10] ?_
 refine Bf (α:=Nat) (fun x=>⟨28,A6 0 (Ac nm) (A6 8 (Fg (arityList.map Jd)) (A6 9 (A3 8) (A6 10 (A3 (x:Nat)) (fun _=>.any)))),Hp,[],[],none⟩) (fun x=>x≤8∧∀(j:Nat) (y:Str×UInt8),j<x→arityList[j]? = some y→(y.1==nm)=false) (fun x=>8-x) (0) (by simp) (Kt _) rfl (fun x hx=>?_)
 refine Z2 ?_;refine A2 [0,8,9,10,11] ?_
 refine Cr (fun ht11=>?_) (fun ht11=>?_)
 ·have hlt:x<arityList.length:=by rw [To];simp at ht11;omega
  have hal:=To
  have hget:((arityList.map Jd).map Ac)[x]? = some (Ac (Jd arityList[x])):=by rw [Pb];exact B6 hlt
  refine Z76 ?_
  refine A5 (h:=Ai (x) (Ac (Jd arityList[x])) (fun _=>hget)) (hr:=?_)
  refine Z0 ?_;refine A2 [0,4,8,9,10] ?_;refine Z2 ?_;refine Aa Tryz.call184 ((AAa (Be hlt)) ▸ AMb (Jd arityList[x]) [58] (v0 (Be hlt)) _) ?_;refine Z57 ?_;refine Z13 ?_;refine A2 [0,5,6,8,9,10] ?_;refine Z15 ?_;refine A2 [0,6,8,9,10,22] ?_
  refine A4 (fun ht22=>?_) (fun ht22=>?_)
  ·refine Z2 ?_
   refine A5 (h:=Wh 0 arityList[x].2 (fun _=>rfl)) (hr:=?_)
   refine A5 (h:=Q.sub) (hr:=?_)
   refine Z65 ?_;refine Z62 ?_;exact A8 (Ak A9) ⟨by rw [Cf,er hlt ht22 hx.2];rfl,rfl⟩
  refine Z73 ?_;refine A2 [0,8,9,10] ?_;exact Bg (x+1) ⟨by omega,El hlt hx.2 ht22⟩ (by omega) (Dn rfl)
 have hal:=To
 refine Z28 ?_;refine Z58 ?_;exact A8 (Ak A9) ⟨by rw [Cf,Tn (Om (by simp at ht11;omega) hx.2)],rfl⟩

def nh (s:Str):Int:=match Lib.parseIntB 64 s with|.ok v=>v|_=>Lib.intSat 64 s
def Zl (s:Str):Bool:=match Lib.parseIntB 64 s with|.ok _=>false|_=>true
def Zm (s:Str):AV:=bif Zl s then Tm s else .v .nilIface
theorem ni (s:Str):(Zm s).strip=Zm s:=by unfold Zm;cases Zl s<;>rfl
attribute [go_sem] ni
theorem AOd (s:Str) (hs:s.length≤1048576) (h:AEd (Lib.parseIntB 64 s)=false) (Hp:List AObj):AFun Tryz.prog 279 [Ac s,A3 10,A3 64] Hp (.tup [A3 (nh s),Zm s]):=by
 cases hp:Lib.parseIntB 64 s with
 | ok v =>
  have:=AEe s hs v hp Hp
  rwa [show v=nh s by unfold nh;rw [hp],show AV.v .nilIface=Zm s by unfold Zm Zl;rw [hp];rfl] at this
 | range =>
  have:=nd s hs hp Hp
  rwa [show Lib.intSat 64 s=nh s by unfold nh;rw [hp],show Tm s=Zm s by unfold Zm Zl;rw [hp];rfl] at this
 | _=>rw [hp] at h;cases h
theorem AOe (s:Str) (Hp:List AObj):AFun Tryz.prog 280 [Zm s,.v (.iface 267 (.pointer (some ErrAt.b)))] Hp (Az (Zl s)):=by
 unfold Zm
 cases Zl s
 ·exact AA9 Hp
 exact nf s Hp
theorem AAb (s t:Str):(Lib.trimPrefix s t).length≤s.length:=by
 unfold Lib.trimPrefix;split<;>simp
theorem v6 {d:Str} {b:Bool} (h:(((d==[]) || b)==false)=true):d≠[]:=by rintro rfl;simp at h
theorem R3:∀c∈digs,c.toNat<128:=by decide
theorem Ws (s:Str):((((Lib.trimPrefix s [45]==[]) || (Lib.trimS (Lib.trimPrefix s [45]) digs != [])) || ((((Lib.trimPrefix s [45]).headD 0).toNat:Int)==48&&decide ((1:Int)<s.length))))=L1 s:=by
 unfold L1 Uq
 have e1:((((Lib.trimPrefix s [45]).headD 0).toNat:Int)==48)=((Lib.trimPrefix s [45]).headD 0==48):=by
  rw [Bool.eq_iff_iff]
  simp only [beq_iff_eq]
  constructor
  ·intro h
   exact UInt8.toNat_inj.1 (by have:(48:UInt8).toNat=48:=rfl;omega)
  intro h;rw [h];rfl
 have e2:decide ((1:Int)<s.length)=decide (1<s.length):=by rw [decide_eq_decide];omega
 rw [e1,e2]
 rfl
theorem v7 {s:Str} (hb:L1 s=false) (h:Zl s=true):Du s=(0,4):=by
 unfold Du
 rw [hb]
 have:=Ol hb
 unfold Zl at h
 revert h this
 cases Lib.parseIntB 64 s with
 | ok v=>intro h;cases h
 | range=>intro _ _;rfl
 | _=>intro _ h;cases h
theorem AIf {s:Str} (hb:L1 s=false) (h:Zl s=false):Du s=(nh s,0):=by
 unfold Du nh
 rw [hb]
 unfold Zl at h
 revert h
 cases Lib.parseIntB 64 s with
 | ok v=>intro h;rfl
 | _=>intro h;cases h
theorem AAc (s:Str):s.take (min s.length 200)=s.take 200:=by
 rcases Nat.le_total s.length 200 with h|h
 ·rw [Nat.min_eq_left h,List.take_of_length_le (Nat.le_refl _),List.take_of_length_le h]
 rw [Nat.min_eq_right h]
theorem AMf (s:Str) (hs:s.length≤1048576) (Hp:List AObj):AFun Tryz.prog 251 [Ac s] Hp (.tup [A3 (Du s).1,A3 (Du s).2]):=by
 refine ACall.body [.tmp 2,.tmp 3] [0] Tryz.func251 Tryz.ntmps251 (fun d=>?_)
 refine Z1 ?_;refine R.fin [0] ?_;refine Z2 ?_;refine R.call Tryz.call277 (AOb s [45] _) ?_;refine R.go ?_;refine R.fin [0,4] ?_;refine Z31 ?_;refine G.go ?_
 refine G.call Tryz.call278 (fun hB=>AOc (Lib.trimPrefix s [45]) digs (by have:=AAb s [45];omega) (by decide) R3 _) ?_
 refine G.go ?_;refine Qx ?_
 refine G.go (h:=Q.sindex 0 ((Lib.trimPrefix s [45]).headD 0) (fun hB=>al (v6 hB))) (hr:=?_)
 refine Pw ?_;refine io ?_;refine R.fin [0,25] ?_
 refine W.cond (fun ht25=>?_) (fun ht25=>?_)
 ·have hb:L1 s=true:=by rw [←Ws];exact ht25
  refine Z1 ?_;refine Kc ?_;refine Z34 ?_;exact K.fin (V.two V.tmp V.tmp) ⟨by rw [Du,hb];rfl,rfl⟩
 have hb:L1 s=false:=by rw [←Ws];exact ht25
 refine Qz ?_;refine R.call Tryz.call279 (AOd s hs (Ol hb) _) ?_;refine Z81 ?_;refine R.fin [5,6] ?_;refine Z30 ?_;refine R.loadGlob Tryz.isAgg164 (fun w hg=>Oj hg) ?_;refine R.call Tryz.call280 (AOe s _) ?_;refine R.fin [5,33] ?_
 refine W.cond (fun ht33=>?_) (fun ht33=>?_)
 ·refine Z1 ?_;refine Kc ?_;refine Z34 ?_;exact K.fin (V.two V.tmp V.tmp) ⟨by rw [v7 hb ht33],rfl⟩
 refine Qy ?_;refine Z60 ?_;exact K.fin (V.two V.tmp V.tmp) ⟨by rw [AIf hb ht33],rfl⟩

theorem AMg (n:Int) (h0 : -9223372036854775808≤n) (h1:n≤9223372036854775807) (Hp:List AObj):AFun Tryz.prog 289 [A3 n] Hp (Ac (Lib.itoa n)):=by
 refine ACall.body [.tmp 2] [0] Tryz.func289 Tryz.ntmps289 (fun d=>?_)
 refine Z43 ?_;refine Z2 ?_;refine R.call Tryz.call312 (AO8 n h0 h1 _) ?_;refine R.go ?_;exact ADw

theorem AOf (Hp:List AObj):AFun Tryz.prog 215 [] Hp (Bm ⟨0,0,[]⟩):=by
 refine ACall.body [.cell 0 24] [] Tryz.func215 Tryz.ntmps215 (fun d=>?_)
 refine Z24 ?_;refine R.fin [0] ?_;refine Z82 ?_;refine Fw ?_;refine R.fin [0] ?_;refine AW.ret ?_;exact K.fin (V.one (V.cellN jA jS))

theorem AIg (n:Int) (Hp:List AObj):AFun Tryz.prog 252 [A3 n] Hp (Bm ⟨1,n,[]⟩):=by
 refine ACall.body [.cell 2 24] [0] Tryz.func252 Tryz.ntmps252 (fun d=>?_)
 refine Z63 ?_;refine ALc ?_;exact ADu

theorem et (b:Bool) (Hp:List AObj):AFun Tryz.prog 178 [Az b] Hp (Bm ⟨3,if b then 1 else 0,[]⟩):=by
 refine ACall.body [.cell 2 24] [0] Tryz.func178 Tryz.ntmps178 (fun d=>?_)
 refine Z63 ?_;refine Z82 ?_;refine ic ?_;refine Z30 ?_;refine R.fin [2,3,5] ?_
 refine W.cond (fun ht5=>?_) (fun ht5=>?_)
 ·refine Z44 ?_;refine ze ?_;refine K.thN ?_;refine Z2 ?_;exact AKr
 refine Qz ?_;exact AKr

theorem v8 (s:Str) (Hp:List AObj):AFun Tryz.prog 275 [Ac s] Hp (Bm ⟨2,0,s.take 200⟩):=by
 refine ACall.body [.cell 2 24] [0] Tryz.func275 Tryz.ntmps275 (fun d=>?_)
 refine Z63 ?_;refine Z15 ?_;refine R.minI ?_
 refine R.go (h:=Q.scutH (min s.length 200) (fun _=>Nat.zero_le _) (fun _=>Nat.min_le_left _ _) (hb:=fun _=>by split<;>omega)) (hr:=?_)
 refine ur ?_;refine Z39 ?_;exact K.fin (V.one (V.cellN jA jS)) ⟨by rw [AAc],rfl⟩

theorem nj {p s:Str} (h:p.isPrefixOf s=true):p.length≤s.length:=(List.isPrefixOf_iff_prefix.1 h).length_le
theorem nk (s o:Str) (h:0≤Lib.index s o):(Lib.index s o).toNat+o.length≤s.length:=by
 induction s with
 | nil =>
  unfold Lib.index at h ⊢
  split at h
  ·rename_i he
   rw [if_pos he]
   cases o with
   | nil=>simp
   | cons a b=>simp at he
  omega
 | cons b l ih =>
  unfold Lib.index at h ⊢
  split at h
  ·rename_i hp
   rw [if_pos hp]
   have:=nj hp
   simpa using this
  rename_i hp
  rw [if_neg hp]
  split at h
  ·omega
  rename_i hi
  rw [if_neg hi]
  have hg:=Lib.index_ge l o
  have hi':Lib.index l o ≠ -1:=by simpa using hi
  have:=ih (by omega)
  simp only [Bi]
  omega
def qn:Val:=⟨0,0,[]⟩
def Io (b:Bool):Val:=⟨3,if b then 1 else 0,[]⟩
def AOg (n:Int):Prop := -9223372036854775808≤n∧n≤9223372036854775807
def M5 (v:Val):Str:=
 if !Ee v then [] else if v.kind==1 then Lib.itoa v.n else if v.kind==2 then [39]++Lib.replaceAll v.s [39] [39,39]++[39]
 else if v.kind==0 then [110,117,108,108] else if v.n==1 then [116,114,117,101] else [102,97,108,115,101]
theorem v9 {v:Val} (h:Ee v=true) (h2:(v.kind==2)=true):v.s.length≤200:=by
 have e:v.kind=2:=by simpa using h2
 unfold Ee at h
 rw [e] at h
 simp at h
 omega
theorem ix (s o:Str) (ho:1≤o.length):Lib.countB ⟨s.toArray⟩ ⟨o.toArray⟩≤s.length:=Lib.countB_le ⟨o.toArray⟩ (by simpa [ByteArray.size] using ho) s.length ⟨s.toArray⟩ (by simp [ByteArray.size])
theorem Us (o n:Str) (B:Nat) (hn:n.length≤B*o.length) (hB:1≤B):∀(k:Nat) (s:Str),(Lib.replaceK o n k s).length≤B*s.length
 | 0,s=>by rw [Lib.replaceK];exact Vk _ hB
 | k+1,s=>by
  rw [Lib.replaceK]
  split
  ·exact Vk _ hB
  rename_i h
  have ih:=Us o n B hn hB k (s.drop ((Lib.index s o).toNat+o.length))
  have hx:(Lib.index s o).toNat+o.length≤s.length:=by
   have hg:=Lib.index_ge s o
   have hi:Lib.index s o ≠ -1:=by simpa using h
   exact nk s o (by omega)
  simp only [Av,Gj,Cy] at ih ⊢
  have h1:min (Lib.index s o).toNat s.length≤B*(Lib.index s o).toNat:=I7 (Nat.min_le_left _ _) (Vk _ hB)
  have h2:B*s.length=B*(Lib.index s o).toNat+B*o.length+B*(s.length-((Lib.index s o).toNat+o.length)):=by
   rw [←Nat.mul_add,←Nat.mul_add];congr 1;omega
  omega
theorem Zn (s o n:Str) (B:Nat) (hn:n.length≤B*o.length) (hB:1≤B):(Lib.replaceAll s o n).length≤B*s.length:=by
 unfold Lib.replaceAll Lib.replace
 split
 ·exact Vk _ hB
 exact Us o n B hn hB _ s
theorem AOh (v:Val) (hn:AOg v.n) (Hp:List AObj):AFun Tryz.prog 276 [Bm v] Hp (Ac (M5 v)):=by
 refine Ae [.tmp 2] [0] Tryz.func276 Tryz.ntmps276 (fun d=>?_)
 refine Z93 ?_;refine Rz ?_;refine Aa Tryz.call93 (c93 v _) ?_;refine Z0 ?_;refine A2 [1,3] ?_
 refine A4 (fun ht3=>?_) (fun ht3=>?_)
 ·refine Z58 ?_;refine Z5 ?_;exact A8 (Ak A9) ⟨by simp only [M5,ht3,if_true],rfl⟩
 have hp:Ee v=true:=by simpa using ht3
 refine Z23 ?_;refine A2 [1,7] ?_
 refine A4 (fun ht7=>?_) (fun ht7=>?_)
 ·refine Z1 ?_;refine Aa Tryz.call289 (AMg v.n hn.1 hn.2 _) ?_;refine A5 ?_;refine Z4 ?_;refine Z5 ?_;exact A8 (Ak A9) ⟨by simp only [M5,hp,ht7,Kp,Bt,if_false,if_true];try rfl,rfl⟩
 refine Z23 ?_;refine A2 [1,14] ?_
 refine A4 (fun ht14=>?_) (fun ht14=>?_)
 ·refine Z1 ?_
  have hl:=v9 hp ht14
  have hrl:=Zn v.s [39] [39,39] 2 (by decide) (by decide)
  refine Aa Tryz.call274 (AMc v.s [39] [39,39] (by omega) (by decide) (by have:=ix v.s [39] (by decide);simp;omega) _) ?_
  refine Z13 ?_;refine Z4 ?_;refine Z5 ?_;exact A8 (Ak A9) ⟨by simp only [M5,hp,ht7,ht14,Kp,Bt,if_false,if_true];try rfl,rfl⟩
 refine Z23 ?_;refine A2 [1,23] ?_
 refine A4 (fun ht23=>?_) (fun ht23=>?_)
 ·refine Z58 ?_;refine Z5 ?_;exact A8 (Ak A9) ⟨by simp only [M5,hp,ht7,ht14,ht23,Kp,Bt,if_false,if_true];try rfl,rfl⟩
 refine Z23 ?_;refine A2 [27] ?_
 refine A4 (fun ht27=>?_) (fun ht27=>?_)
 ·refine Z58 ?_;refine Z5 ?_;exact ALi
 refine Z19 ?_;refine Z58 ?_;exact ALi

def AAd (s:Str):Str:=Lib.replaceAll ((s.take (s.length-1)).drop 1) [39,39] [39]
def Wt (s:Str):Val:=⟨2,0,(AAd s).take 200⟩
def iy (s:Str):Val×Int:=if !(M5 (Wt s)==s) then (qn,7) else (Wt s,0)
theorem AOi (s:Str) (h2:2≤s.length) (hs:s.length≤1048576) (Hp:List AObj):AFun Tryz.prog 250 [Ac s] Hp (.tup [Bm (iy s).1,A3 (iy s).2]):=by
 refine Ae [.cell 2 24,.tmp 3] [0] Tryz.func250 Tryz.ntmps250 (fun d=>?_)
 refine im ?_;refine A2 [0,2] ?_;refine Z23 ?_
 refine A5 (h:=Q.scutLH 1 (s.length-1) (fun _=>show 1≤s.length-1 by omega) (fun _=>show s.length-1≤s.length by omega)) (hr:=?_)
 refine Aa Tryz.call274 (AMc ((s.take (s.length-1)).drop 1) [39,39] [39] (by simp;omega) (by decide) (by have:=ix ((s.take (s.length-1)).drop 1) [39,39] (by decide);simp at this ⊢;omega) _) ?_
 refine A5 ?_;refine A2 [0,2,4] ?_;refine Z2 ?_;refine Aa Tryz.call275 (v8 (AAd s) _) ?_;refine Z14 ?_;refine A2 [0,2,5] ?_;refine Z30 ?_
 refine Aa Tryz.call276 (AOh (Wt s) ⟨by show (-9223372036854775808:Int)≤0;decide,by show (0:Int)≤9223372036854775807;decide⟩ _) ?_
 refine Z0 ?_;refine A2 [2,5,17] ?_
 refine A4 (fun ht17=>?_) (fun ht17=>?_)
 ·refine Z82 ?_;refine Z9 ?_;refine Kc ?_;refine Z34 ?_;exact ALj
 refine Qz ?_;refine Wn ?_;exact ALj

def an (s:Str):Bool:=(decide ((1:Int)<s.length)&&Lib.hasPrefix s [39])&&Lib.hasSuffix s [39]
def Ib (s:Str):Val×Int:=
 if s==[110,117,108,108] then (qn,0) else if (s==[116,114,117,101]) || (s==[102,97,108,115,101]) then (Io (s==[116,114,117,101]),0)
 else if an s then iy s else if (Du s).2==0 then (⟨1,(Du s).1,[]⟩,0) else if (Du s).2==4 then (qn,4) else (qn,7)
theorem AAe {s:Str} (h:an s=true):2≤s.length:=by
 unfold an at h
 simp only [At,decide_eq_true_eq] at h
 omega
theorem AIh (s:Str) (hs:s.length≤1048576) (Hp:List AObj):AFun Tryz.prog 227 [Ac s] Hp (.tup [Bm (Ib s).1,A3 (Ib s).2]):=by
 refine Ae [.cell 2 24,.tmp 3] [0] Tryz.func227 Tryz.ntmps227 (fun d=>?_)
 refine im ?_;refine A2 [0,2] ?_;refine ip ?_;refine A2 [0,2,6] ?_
 refine A4 (fun ht6=>?_) (fun ht6=>?_)
 ·refine AI0 ?_;refine Wn ?_;refine Z5 ?_;exact A8 (B1 (B3 jA jS) A9) ⟨by simp only [Ib,ht6,if_true,if_false,Bt];try rfl,rfl⟩
 refine eh ?_;refine Z0 ?_;refine A2 [0,2,10] ?_
 refine A4 (fun ht10=>?_) (fun ht10=>?_)
 ·refine Z1 ?_;refine Aa Tryz.call178 (et (s==[116,114,117,101]) _) ?_;refine Wn ?_;refine Z5 ?_;exact A8 (B1 (B3 jA jS) A9) ⟨by simp only [Ib,ht6,ht10,if_true,if_false,Bt];try rfl,rfl⟩
 refine un ?_;refine C3 Tryz.call248 (fun hB=>AO4 s [39] _) ?_;refine Qx ?_;refine C3 Tryz.call249 (fun hB=>AO5 s [39] (by omega) _) ?_;refine Z0 ?_;refine A2 [0,2,20] ?_
 refine A4 (fun ht20=>?_) (fun ht20=>?_)
 ·have hq:an s=true:=ht20
  refine Z2 ?_;refine Aa Tryz.call250 (AOi s (AAe hq) hs _) ?_;refine Z0 ?_;refine Wn ?_;refine Z5 ?_;exact A8 (B1 (B3 jA jS) A9) ⟨by simp only [Ib,ht6,ht10,hq,if_true,if_false,Bt];try rfl,rfl⟩
 have hq:an s=false:=ht20
 refine Z19 ?_;refine Z2 ?_;refine Aa Tryz.call251 (AMf s hs _) ?_;refine Z81 ?_;refine A2 [2,4,5] ?_;refine Z30 ?_;refine A2 [2,4,5,41] ?_;refine Vf ?_;refine A2 [2,4,5,41,42] ?_
 refine A4 (fun ht42=>?_) (fun ht42=>?_)
 ·refine Z2 ?_;refine Aa Tryz.call252 (AIg (Du s).1 _) ?_;refine Wn ?_;refine Z5 ?_;exact A8 (B1 (B3 jA jS) A9) ⟨by simp only [Ib,ht6,ht10,hq,ht42,if_true,if_false,Bt];try rfl,rfl⟩
 refine Z1 ?_;refine A2 [2,5,46] ?_
 refine A4 (fun ht46=>?_) (fun ht46=>?_)
 ·refine Z82 ?_;refine A5 ?_;refine Wn ?_;refine Z5 ?_;exact A8 (B1 (B3 jA jS) A9) ⟨by simp only [Ib,ht6,ht10,hq,ht42,ht46,if_true,if_false,Bt];rw [show (Du s).2=4 by simpa using ht46];rfl,rfl⟩
 refine Z19 ?_;refine Z82 ?_;refine Wn ?_;exact A8 (B1 (B3 jA jS) A9) ⟨by simp only [Ib,ht6,ht10,hq,ht42,ht46,if_true,if_false,Bt];try rfl,rfl⟩

def blanks:Str:=[32,9,10]
/-- What stands behind blanks and notes. -/
def H6:Str→Bool→Str
 | [],_=>[]
 | c::r,false=>if blanks.contains c then H6 r false else if c==35 then H6 r true else c::r
 | c::r,true=>if c==10 then H6 r false else H6 r true
def runN (s of:Str):Nat:=s.length-(Lib.trimLeftS s of).length
theorem eu (s of:Str):S1 s of=(runN s of:Int):=by
 have:=Vs s of
 unfold S1 runN
 omega
theorem ew (s of:Str):runN s of≤s.length:=Nat.sub_le _ _
theorem AAf (s of:Str):s.drop (runN s of)=Lib.trimLeftS s of:=by
 unfold runN Lib.trimLeftS
 have h:∀l:Str,l.drop (l.length-(l.dropWhile (of.contains ·)).length)=l.dropWhile (of.contains ·):=by
  intro l
  have e:=qb (p:=(of.contains ·)) (l:=l)
  have hl:l.length-(l.dropWhile (of.contains ·)).length=(l.takeWhile (of.contains ·)).length:=by
   have:=congrArg List.length e
   simp only [Av] at this
   omega
  rw [hl]
  conv=>lhs;rw [←e]
  rw [List.drop_left']
  rw [e]
 exact h s
theorem AAg (s of:Str):s.take (runN s of)=s.takeWhile (of.contains ·):=by
 have e:=qb (p:=(of.contains ·)) (l:=s)
 have hl:runN s of=(s.takeWhile (of.contains ·)).length:=by
  unfold runN Lib.trimLeftS
  have:=congrArg List.length e
  simp only [Av] at this
  omega
 rw [hl]
 conv=>lhs;rw [←e]
 rw [List.take_left']
 rw [e]
theorem Tp:∀s:Str,H6 (Lib.trimLeftS s blanks) false=H6 s false
 | []=>rfl
 | c::r=>by
  unfold Lib.trimLeftS
  rw [T8]
  by_cases h:blanks.contains c=true
  ·rw [if_pos h,H6,if_pos h]
   exact Tp r
  rw [if_neg h]
theorem ap (of:Str):∀(s:Str) (c:UInt8) (t:Str),Lib.trimLeftS s of=c::t→of.contains c=false
 | [],c,t,h=>by cases h
 | b::r,c,t,h=>by
  unfold Lib.trimLeftS at h
  rw [T8] at h
  split at h
  ·exact ap of r c t h
  rename_i hb
  injection h with h1 h2
  subst h1
  simpa using hb
def Je:Str→Str
 | []=>[]
 | c::r=>if c==10 then r else Je r
theorem AIi (s:Str):(Lib.cut s [10]).2.1=Je s:=by
 unfold Lib.cut
 induction s with
 | nil=>rfl
 | cons c r ih =>
  have hg:=Lib.index_ge r [10]
  rw [Je]
  unfold Lib.index
  by_cases hc:c=10
  ·subst hc
   simp [List.isPrefixOf]
  have h1:([10]:Str).isPrefixOf (c::r)=false:=by simp [List.isPrefixOf,Ne.symm hc]
  have h2:(c==10)=false:=by simpa using hc
  rw [h1,h2]
  simp only [Bt,if_false]
  by_cases hi:Lib.index r [10] = -1
  ·rw [hi] at ih ⊢
   simpa using ih
  have h3:(Lib.index r [10] == -1)=false:=by simpa using hi
  rw [h3]
  simp only [Bt,if_false]
  rw [if_pos (by omega)] at ih ⊢
  have e:(Lib.index r [10]+1).toNat=(Lib.index r [10]).toNat+1:=by omega
  rw [e]
  rw [←ih]
  show (c::r).drop _=_
  rw [show (Lib.index r [10]).toNat+1+([10]:Str).length=((Lib.index r [10]).toNat+([10]:Str).length)+1 by omega,m8]
theorem aq:∀t:Str,H6 t true=H6 (Je t) false
 | []=>rfl
 | c::r=>by
  rw [H6,Je]
  split
  ·rfl
  exact aq r
theorem Wu:∀t:Str,(Je t).length≤t.length
 | []=>Am _
 | c::r=>by
  rw [Je]
  split
  ·simp
  have:=Wu r;simp only [Bi];omega
def gapM (s:Str):Nat:=s.length-(H6 s false).length
theorem vd {d:Str} (h:((d==[])==false)=true):d≠[]:=by rintro rfl;simp at h
theorem ey:∀c∈blanks,c.toNat<128:=by decide
/-- The gap is at its end. -/
theorem AEf {x s:Str} (hx:H6 x false=H6 s false) (h:((Lib.trimLeftS x blanks==[]) || ((((Lib.trimLeftS x blanks).headD 0).toNat:Int) != 35))=true):H6 s false=Lib.trimLeftS x blanks:=by
 rw [←hx,←Tp]
 cases ht:Lib.trimLeftS x blanks with
 | nil=>rfl
 | cons c t =>
  rw [ht] at h
  have hb:=ap blanks x c t ht
  have hc:(c==35)=false:=by
   simp at h
   rw [beq_eq_false_iff_ne]
   rintro rfl
   exact h rfl
  rw [H6,hb,hc]
  rfl
theorem AIj {x s:Str} (hx:H6 x false=H6 s false) (h:((Lib.trimLeftS x blanks==[]) || ((((Lib.trimLeftS x blanks).headD 0).toNat:Int) != 35))=false):
  H6 (Lib.cut (Lib.trimLeftS x blanks) [10]).2.1 false=H6 s false∧(Lib.cut (Lib.trimLeftS x blanks) [10]).2.1.length<x.length:=by
 have hl:=Vs x blanks
 rw [AIi,←hx,←Tp x]
 cases ht:Lib.trimLeftS x blanks with
 | nil=>rw [ht] at h;simp at h
 | cons c t =>
  rw [ht] at h hl
  have hc:c=35:=by
   simp at h
   exact de.1 (by have:(35:UInt8).toNat=35:=rfl;omega)
  subst hc
  have ha:=Wu t
  refine ⟨?_,?_⟩
  ·rw [Je,H6]
   have e1:blanks.contains 35=false:=by decide
   rw [e1]
   exact (aq t).symm
  rw [Je]
  simp only [Bi] at hl
  show (Je t).length<_
  omega
theorem AMh (s:Str) (hs:s.length≤1048576) (Hp:List AObj):AFun Tryz.prog 149 [Ac s] Hp (A3 (gapM s)):=by
 refine Ae [.tmp 2] [0] Tryz.func149 Tryz.ntmps149 (fun d=>?_)
 refine Z43 ?_;refine zo ?_
 refine Bf (α:=Str) (fun x=>⟨27,A6 0 (Ac s) (A6 3 (Ac x) (fun _=>.any)),Hp,[],[],none⟩) (fun x=>H6 x false=H6 s false∧x.length≤s.length) (fun x=>x.length) (s) (by simp) (Kt _) rfl (fun x hx=>?_)
 refine Jy ?_;refine Ez ?_
 have hx2:=hx.2
 have htl:=Vs x blanks
 refine Z0 ?_;refine Aa Tryz.call143 (nb x blanks (by omega) (by decide) ey _) ?_
 refine A5 (h:=Q.scutL (runN x blanks) (fun _=>ew _ _) (fun _=>Am _) (ha:=fun _=>eu x blanks)) (hr:=?_)
 rw [AAf]
 refine A5 ?_;refine Nv ?_;refine Z31 ?_;refine Cd ?_
 refine Cd (h:=Wh 0 ((Lib.trimLeftS x blanks).headD 0) (fun hB=>al (vd hB))) (hr:=?_)
 refine Z48 ?_;refine A2 [0,3,15] ?_
 refine A4 (fun ht15=>?_) (fun ht15=>?_)
 ·have he:=AEf hx.1 ht15
  refine Z23 ?_;refine Z65 ?_;refine C9 ?_;refine ui ?_;exact A8 (Ak A9) ⟨by rw [show ((s.length:Int)-(Lib.trimLeftS x blanks).length)=(gapM s:Int) by unfold gapM;rw [he];omega],rfl⟩
 have he:=AIj hx.1 ht15
 refine Z3 ?_;refine Z44 ?_;refine Aa Tryz.call184 (AMb (Lib.trimLeftS x blanks) [10] (by omega) _) ?_;refine Z81 ?_;refine Nv ?_;refine M4 ?_;exact Bg _ ⟨he.1,by omega⟩ he.2 (Dn rfl)

def E7 (s of:Str):Str:=s.take (runN s of)
theorem J1 (s of:Str):(E7 s of).length≤s.length:=by unfold E7;simp;omega
def R4 (s:Str):Int×Str×Int×Int:=
 if H4 (E7 s tails) then (2,E7 s tails,(E7 s tails).length,0) else if !Dw (E7 s tails) then (0,[],0,3) else (1,E7 s tails,(E7 s tails).length,0)
abbrev AAh (r:Int×Str×Int×Int):AV:=.tup [A3 r.1,Ac r.2.1,A3 r.2.2.1,A3 r.2.2.2]
theorem iz:∀c∈tails,c.toNat<128:=by decide
theorem Zo:∀c∈letters,c.toNat<128:=by decide
theorem AOj (s:Str) (hs:s.length≤1048576) (Hp:List AObj):AFun Tryz.prog 185 [Ac s] Hp (AAh (R4 s)):=by
 refine Ae [.tmp 2,.tmp 3,.tmp 4,.tmp 5] [0] Tryz.func185 Tryz.ntmps185 (fun d=>?_)
 refine zt ?_;refine Z1 ?_;refine Aa Tryz.call143 (nb s tails hs (by decide) iz _) ?_
 refine A5 (h:=Kx (runN s tails) (fun _=>Ar _) (fun _=>ew _ _) (hb:=fun _=>eu s tails)) (hr:=?_)
 refine A5 ?_;refine A2 [6] ?_;refine Rz ?_
 refine Aa Tryz.call144 (AMd (E7 s tails) (by have:=J1 s tails;omega) _) ?_
 refine A5 ?_;refine A2 [6,11] ?_
 refine A4 (fun ht11=>?_) (fun ht11=>?_)
 ·refine Ez ?_
  have hwl:=J1 s tails
  refine Z57 ?_;refine Z13 ?_;refine Z90 ?_;refine Z5 ?_;exact A8 (Ky A9 A9 A9 A9) ⟨by simp only [R4,ht11,if_true,if_false,Bt];try rfl,rfl⟩
 refine Z2 ?_
 refine Aa Tryz.call105 (AA8 (E7 s tails) (by have:=J1 s tails;omega) _) ?_
 refine Z0 ?_;refine A2 [6,17] ?_
 refine A4 (fun ht17=>?_) (fun ht17=>?_)
 ·refine Z23 ?_;refine Z90 ?_;refine Z5 ?_;exact ALk
 refine Z19 ?_;refine Ez ?_
 have hwl:=J1 s tails
 refine Z57 ?_;refine Z13 ?_;refine Z90 ?_;exact ALk

def f6 (s:Str):Int×Str×Int×Int:=(3,E7 s digs,(E7 s digs).length,(Ib (E7 s digs)).2)
theorem AOk (s:Str) (hs:s.length≤1048576) (Hp:List AObj):AFun Tryz.prog 186 [Ac s] Hp (AAh (f6 s)):=by
 refine Ae [.tmp 2,.tmp 3,.tmp 4,.tmp 5] [0] Tryz.func186 Tryz.ntmps186 (fun d=>?_)
 refine zt ?_;refine Z1 ?_;refine Aa Tryz.call143 (nb s digs hs (by decide) R3 _) ?_
 refine A5 (h:=Kx (runN s digs) (fun _=>Ar _) (fun _=>ew _ _) (hb:=fun _=>eu s digs)) (hr:=?_)
 refine A5 ?_;refine A2 [6] ?_;refine Z2 ?_
 refine Aa Tryz.call227 (AIh (E7 s digs) (by have:=J1 s digs;omega) _) ?_
 refine Pv ?_;refine A2 [6,8] ?_;refine Z23 ?_;refine Z57 ?_;refine Z90 ?_;exact A8 (Ky A9 A9 A9 A9) ⟨rfl,rfl⟩

/-- Behind a mark: how many bytes up to the one that AHh, it too. -/
def Do:Str→Option Nat
 | []=>none
 | [c]=>if c==39 then some 1 else none
 | c::d::t=>if c==39 then (if d==39 then (Do t).map (·+2) else some 1) else (Do (d::t)).map (·+1)
theorem Ut {c:UInt8} (h:¬(c==39)=true) (r:Str):Do (c::r)=(Do r).map (·+1):=by
 cases r with
 | nil=>simp [Do,h]
 | cons d t=>rw [Do,if_neg h]
theorem Wv (r:Str):Do (39::r)=match r with
   | []=>some 1
   | d::t=>if d==39 then (Do t).map (·+2) else some 1:=by
 cases r with
 | nil=>rfl
 | cons d t=>rw [Do];simp
def Lv (s:Str):Int×Str×Int×Int:=
 match Do (s.drop 1) with
 | none=>(0,[],0,7)
 | some n=>if (Ib (s.take (n+1))).2 != 0 then (0,[],0,3) else (4,(Ib (s.take (n+1))).1.s,((n+1:Nat):Int),0)
theorem Ww:∀l:Str,Lib.indexByte l 39 = -1→Do l=none
 | [],_=>by rw [Do]
 | c::r,h=>by
  rw [Lib.indexByte] at h
  split at h
  ·omega
  rename_i hc
  rw [Ut hc]
  split at h
  ·rename_i hi
   rw [Ww r (by simpa using hi)]
   rfl
  have:=Lib.indexByte_ge r 39;omega
theorem j4:∀(l:Str) (k:Nat),Lib.indexByte l 39=(k:Int)→k<l.length∧Do l=(Do (l.drop k)).map (·+k)∧l[k]? = some 39
 | [],k,h=>by rw [Lib.indexByte] at h;omega
 | c::r,k,h=>by
  rw [Lib.indexByte] at h
  split at h
  ·rename_i hc
   have:k=0:=by omega
   subst this
   refine ⟨by simp,?_,by simpa using hc⟩
   rw [cv]
   cases Do (c::r)<;>simp
  rename_i hc
  split at h
  ·omega
  have hg:=Lib.indexByte_ge r 39
  rename_i hi
  have hi':Lib.indexByte r 39 ≠ -1:=by simpa using hi
  obtain ⟨m,rfl⟩:∃m,k=m+1:=⟨k-1,by omega⟩
  obtain ⟨h1,h2,h3⟩:=j4 r m (by omega)
  refine ⟨by simpa using h1,?_,by simpa using h3⟩
  rw [Ut hc,m8,h2]
  cases Do (r.drop m)<;>simp [Ka]
theorem N5 {s:Str} {n:Nat} {c:UInt8} (h:s[n]? = some c):s.drop n=c::s.drop (n+1):=by
 obtain ⟨hlt,he⟩:=Ad.1 h
 rw [I4 hlt,he]
theorem S3 {s:Str} {n:Nat} (h:n<s.length):s[n]? = some (s.getD n 0):=by
 rw [Bw,Ab h];rfl
theorem AAi {s:Str} {x k:Nat} (h:(decide (((x:Int)+((k:Int)+1))<s.length)==true)=true):x+(k+1)<s.length:=by
 have:=of_decide_eq_true (by simpa using h:decide (((x:Int)+((k:Int)+1))<s.length)=true)
 omega
/-- What a round of the search for the mark that AHh comes to. -/
theorem nl {s:Str} {x k:Nat} (h1:1≤x) (hx:Do (s.drop 1)=(Do (s.drop x)).map (·+(x-1))) (hk:Lib.indexByte (s.drop x) 39=(k:Int)):
  x+(k+1)≤s.length ∧
   ((decide (((x:Int)+((k:Int)+1))<s.length)&&(((s.getD (x+(k+1)) 0).toNat:Int)==39))=true→x+(k+1)+1≤s.length∧Do (s.drop 1)=(Do (s.drop (x+(k+1)+1))).map (·+(x+(k+1)+1-1))) ∧
   ((decide (((x:Int)+((k:Int)+1))<s.length)&&(((s.getD (x+(k+1)) 0).toNat:Int)==39))=false→Do (s.drop 1)=some (x+k)):=by
 obtain ⟨g1,g2,g3⟩:=j4 _ k hk
 rw [Gj] at g1
 rw [Gd] at g3
 have e0:(s.drop x).drop k=39::s.drop (x+(k+1)):=by rw [cu,N5 g3,Ka]
 rw [e0] at g2
 refine ⟨by omega,fun h=>?_,fun h=>?_⟩
 ·simp only [At,decide_eq_true_eq,beq_iff_eq] at h
  have hlt:x+(k+1)<s.length:=by omega
  have hc:s.getD (x+(k+1)) 0=39:=de.1 (by have:(39:UInt8).toNat=39:=rfl;omega)
  have hd:=N5 (S3 hlt)
  rw [hc] at hd
  refine ⟨by omega,?_⟩
  rw [hx,g2,hd,Wv]
  simp only [beq_self_eq_true,if_true]
  cases Do (s.drop (x+(k+1)+1)) with
  | none=>rfl
  | some m=>simp;omega
 rw [hx,g2,Wv]
 cases hd:s.drop (x+(k+1)) with
 | nil=>simp;omega
 | cons d t =>
  have hlt:x+(k+1)<s.length:=by
   have:=congrArg List.length hd
   simp at this;omega
  have hg:=N5 (S3 hlt)
  rw [hd] at hg
  injection hg with hg1 hg2
  have hne:(d==39)=false:=by
   rw [hg1,beq_eq_false_iff_ne]
   intro e
   rw [e] at h
   simp at h
   omega
  simp [hne];omega
theorem AOl (s:Str) (h0:1≤s.length) (hs:s.length≤1048576) (Hp:List AObj):AFun Tryz.prog 187 [Ac s] Hp (AAh (Lv s)):=by
 refine Ae [.tmp 2,.tmp 3,.tmp 4,.tmp 5] [0] Tryz.func187 Tryz.ntmps187 (fun d=>?_)
 refine zt ?_;refine Z2 ?_;refine A2 [0,6] ?_
 refine Bf (α:=Nat) (fun x=>⟨44,A6 0 (Ac s) (A6 6 (A3 (x:Nat)) (fun _=>.any)),Hp,[],[],none⟩) (fun x=>1≤x∧x≤s.length∧Do (s.drop 1)=(Do (s.drop x)).map (·+(x-1))) (fun x=>s.length-x) (1) ⟨Am _,h0,by cases Do (s.drop 1)<;>rfl⟩ (Kt _) rfl (fun x hx=>?_)
 refine Vf ?_
 refine A5 (h:=Q.scutL x (fun _=>hx.2.1) (fun _=>Am _)) (hr:=?_)
 refine Aa Tryz.call228 (AO6 (s.drop x) 39 _) ?_;refine A5 ?_;refine A2 [0,6,7] ?_;refine Z7 ?_;refine A2 [0,6,7,15] ?_
 refine A4 (fun ht15=>?_) (fun ht15=>?_)
 ·have hk:Lib.indexByte (s.drop x) 39 = -1:=by have:=Lib.indexByte_ge (s.drop x) 39;simp at ht15;omega
  have hcq:Do (s.drop 1)=none:=by rw [hx.2.2,Ww _ hk];rfl
  refine Z23 ?_;refine ADy ?_;refine ui ?_;exact A8 (Ky A9 A9 A9 A9) ⟨by simp only [Lv,hcq],rfl⟩
 obtain ⟨k0,hk⟩:=lw (show 0≤Lib.indexByte (s.drop x) 39 by simp at ht15;omega)
 rw [hk]
 refine il ?_
 have hst:=nl hx.1 hx.2.2 hk
 refine Z81 ?_;refine A2 [0,6] ?_;refine ek ?_;refine Z6 ?_
 refine Cd (h:=Wh (x+(k0+1)) (s.getD (x+(k0+1)) 0) (fun hB=>S3 (AAi hB))) (hr:=?_)
 refine Z48 ?_;refine A2 [0,6,29] ?_
 refine A4 (fun ht29=>?_) (fun ht29=>?_)
 ·have hon:=hst.2.1 ht29
  refine Z15 ?_;refine A2 [0,6] ?_;refine Z59 ?_;refine K.blE ?_;exact Bg ((x+(k0+1))+1) ⟨by omega,hon.1,hon.2⟩ (by omega) (Dn rfl)
 have hcq:=hst.2.2 ht29
 refine Z98 ?_
 refine A5 (h:=Kx (x+(k0+1)) (fun _=>Ar _) (fun _=>hst.1)) (hr:=?_)
 refine Aa Tryz.call227 (AIh (s.take (x+(k0+1))) (by simp;omega) _) ?_
 refine Pv ?_;refine A2 [6,8,9] ?_;refine Z7 ?_;refine A2 [6,8,40] ?_
 refine A4 (fun ht40=>?_) (fun ht40=>?_)
 ·refine Z23 ?_;refine ADy ?_;refine ui ?_;exact A8 (Ky A9 A9 A9 A9) ⟨by simp only [Lv,hcq,show x+k0+1=x+(k0+1) by omega];rw [if_pos ht40],rfl⟩
 refine Z3 ?_;refine Dt [0,1,0,0,11,31,63] 5 Aj (by kernel_rfl) ?_;refine Z8 ?_;refine Z33 ?_;refine Ht ?_;refine Z0 ?_;refine Z90 ?_;refine ui ?_;exact A8 (Ky A9 A9 A9 A9) ⟨by simp only [Lv,hcq,show x+k0+1=x+(k0+1) by omega];rw [if_neg (by rw [ht40];simp)];rfl,rfl⟩

def qq:Str:=[60,61,32,62,61,32,33,61]
def qr:Str:=[40,41,44,59,61,60,62,43,45,42,47,37,38,58]
def Wx (s:Str):Int×Str×Int×Int:=
 if (decide ((1:Int)<s.length)&&Lib.contains qq (s.take 2))&&(((s.getD 1 0).toNat:Int)==61) then (5,s.take 2,2,0)
 else if Lib.contains qr (s.take 1) then (5,s.take 1,1,0) else (0,[],0,7)
theorem ve {s:Str} {b c:Bool} (h:(((decide ((1:Int)<s.length)&&b)&&c)==true)=true):1<s.length:=by
 revert h
 cases hd:decide ((1:Int)<s.length) with
 | true=>intro _;have:=of_decide_eq_true hd;omega
 | false=>intro h;simp at h
theorem Wy {s:Str} {b:Bool} (h:((decide ((1:Int)<s.length)&&b)==true)=true):1<s.length:=ve (c:=true) (by rw [W3];exact h)
theorem nn {s:Str} (h:(decide ((1:Int)<s.length)==true)=true):2≤s.length:=Wy (b:=true) (by rw [W3];exact h)
theorem AOm (s:Str) (h0:1≤s.length) (Hp:List AObj):AFun Tryz.prog 188 [Ac s] Hp (AAh (Wx s)):=by
 refine Ae [.tmp 2,.tmp 3,.tmp 4,.tmp 5] [0] Tryz.func188 Tryz.ntmps188 (fun d=>?_)
 refine zt ?_;refine Z83 ?_;refine Cd ?_
 refine Cd (h:=Kx 2 (fun _=>Ar _) (fun hB=>nn hB)) (hr:=?_)
 refine C3 Tryz.call180 (fun hB=>ux qq (s.take 2) (by decide) _) ?_;refine Qx ?_
 refine Cd (h:=Wh 1 (s.getD 1 0) (fun hB=>S3 (Wy hB))) (hr:=?_)
 refine Z48 ?_;refine A2 [0,18] ?_
 refine A4 (fun ht18=>?_) (fun ht18=>?_)
 ·have h2:2≤s.length:=by revert ht18;cases hd:decide ((1:Int)<s.length) with
   | true=>intro _;have:=of_decide_eq_true hd;omega
   | false=>intro h;simp at h
  refine Dt [0,1,0,7,15,31] 3 Aj (by kernel_rfl) ?_;refine Aq ?_
  refine Aq (h:=Kx 2 (fun _=>Ar _) (fun _=>h2)) (hr:=?_)
  refine uk ?_;refine Z13 ?_;refine ADy ?_;exact A8 (Ky A9 A9 A9 A9) ⟨by simp only [Wx,ht18,if_true,if_false,Bt];try rfl,rfl⟩
 refine Oi ?_
 refine A5 (h:=Kx 1 (fun _=>Ar _) (fun _=>h0)) (hr:=?_)
 refine Aa Tryz.call180 (ux qr (s.take 1) (by decide) _) ?_;refine A2 [0,23] ?_
 refine A4 (fun ht23=>?_) (fun ht23=>?_)
 ·refine Dt [0,1,0,7,15,31] 3 Aj (by kernel_rfl) ?_;refine Aq ?_
  refine Aq (h:=Kx 1 (fun _=>Ar _) (fun _=>h0)) (hr:=?_)
  refine uk ?_;refine Z13 ?_;refine ADy ?_;exact ALl
 refine Zh ?_;refine Z90 ?_;exact ALl

def Cl (s:Str):Int×Str×Int×Int:=
 if decide (0<S1 (s.take 1) letters) then R4 s else if decide (0<S1 (s.take 1) digs) then f6 s else if ((s.getD 0 0).toNat:Int)==39 then Lv s else Wx s
theorem AOn (s:Str) (h0:1≤s.length) (hs:s.length≤1048576) (Hp:List AObj):AFun Tryz.prog 150 [Ac s] Hp (AAh (Cl s)):=by
 refine Ae [.tmp 2,.tmp 3,.tmp 4,.tmp 5] [0] Tryz.func150 Tryz.ntmps150 (fun d=>?_)
 refine zt ?_;refine Rz ?_
 refine A5 (h:=Kx 1 (fun _=>Ar _) (fun _=>h0)) (hr:=?_)
 refine Aa Tryz.call143 (nb (s.take 1) letters (by simp;omega) (by decide) Zo _) ?_
 refine Z0 ?_;refine A2 [0,6] ?_
 refine A4 (fun ht6=>?_) (fun ht6=>?_)
 ·refine Z2 ?_;refine Aa Tryz.call185 (AOj s hs _) ?_;refine Z57 ?_;refine Z57 ?_;refine Z90 ?_;refine Z5 ?_;exact A8 (Ky A9 A9 A9 A9) ⟨by simp only [Cl,ht6,if_true,if_false,Bt],rfl⟩
 refine Z2 ?_
 refine A5 (h:=Kx 1 (fun _=>Ar _) (fun _=>h0)) (hr:=?_)
 refine Aa Tryz.call143 (nb (s.take 1) digs (by simp;omega) (by decide) R3 _) ?_
 refine Z0 ?_;refine A2 [0,17] ?_
 refine A4 (fun ht17=>?_) (fun ht17=>?_)
 ·refine Z2 ?_;refine Aa Tryz.call186 (AOk s hs _) ?_;refine Z57 ?_;refine Z57 ?_;refine Z90 ?_;refine Z5 ?_;exact A8 (Ky A9 A9 A9 A9) ⟨by simp only [Cl,ht6,ht17,if_true,if_false,Bt],rfl⟩
 refine Z2 ?_
 refine A5 (h:=Wh 0 (s.getD 0 0) (fun _=>S3 h0)) (hr:=?_)
 refine Z0 ?_;refine A2 [0,28] ?_
 refine A4 (fun ht28=>?_) (fun ht28=>?_)
 ·refine Z2 ?_;refine Aa Tryz.call187 (AOl s h0 hs _) ?_;refine Z57 ?_;refine Z57 ?_;refine Z90 ?_;refine Z5 ?_;exact ALm
 refine Z19 ?_;refine Z2 ?_;refine Aa Tryz.call188 (AOm s h0 _) ?_;refine Z57 ?_;refine Z57 ?_;refine Z90 ?_;exact ALm

structure Tok where
 kind:Int
 text:Str
 at_:Nat
 deriving DecidableEq
abbrev I1 (t:Tok):AV:=.agg [.v (.int .i64 t.kind),.v (sv t.text),.v (.int .i64 (t.at_:Int))]
abbrev qt (l:List Tok):AV:=.slice false 3 (l.map I1)
theorem qu {c:UInt8} {of:Str} (h:decide (0<S1 ([c]:Str) of)=true):of.contains c=true:=by
 have:=of_decide_eq_true h
 unfold S1 Lib.trimLeftS at this
 rw [T8] at this
 cases hc:of.contains c with
 | true=>rfl
 | false=>rw [hc] at this;simp at this
theorem Wz {c:UInt8} {r of:Str} (h:of.contains c=true):1≤(E7 (c::r) of).length:=by
 unfold E7
 rw [AAg,List.takeWhile_cons,h]
 simp
theorem Zp:∀c:UInt8,letters.contains c=true→tails.contains c=true:=by
 have h:((List.range 256).all fun n => !letters.contains (UInt8.ofNat n) || tails.contains (UInt8.ofNat n))=true:=by kernel_rfl
 intro c hc
 have:=B0.1 h c.toNat (Pc.2 c.toNat_lt)
 rw [show UInt8.ofNat c.toNat=c by simp,hc] at this
 simpa using this
theorem X0:∀(l:Str) (n:Nat),Do l=some n→1≤n∧n≤l.length
 | [],n,h=>by cases h
 | [c],n,h=>by
  rw [Do] at h
  split at h
  ·injection h with h;subst h;simp
  cases h
 | c::d::t,n,h=>by
  rw [Do] at h
  split at h
  ·split at h
   ·rw [E3] at h
    obtain ⟨m,hm,rfl⟩:=h
    have:=X0 t m hm
    simp only [Bi];omega
   injection h with h;subst h;simp
  rw [E3] at h
  obtain ⟨m,hm,rfl⟩:=h
  have:=X0 (d::t) m hm
  simp only [Bi] at this ⊢;omega
theorem qv {s:Str} (h0:1≤s.length) (h:(Cl s).2.2.2=0):∃n:Nat,(Cl s).2.2.1=(n:Int)∧1≤n∧n≤s.length:=by
 cases s with
 | nil=>simp at h0
 | cons c r =>
  unfold Cl at h ⊢
  split at h
  ·rename_i h1
   rw [if_pos h1]
   have hc:=Zp c (qu h1)
   have hw:=Wz (r:=r) hc
   have hl:=J1 (c::r) tails
   unfold R4 at h ⊢
   split at h
   ·rename_i h2;rw [if_pos h2];exact ⟨_,rfl,hw,hl⟩
   rename_i h2
   rw [if_neg h2]
   split at h
   ·exact eo
   rename_i h3;rw [if_neg h3];exact ⟨_,rfl,hw,hl⟩
  rename_i h1
  rw [if_neg h1]
  split at h
  ·rename_i h2
   rw [if_pos h2]
   exact ⟨_,rfl,Wz (r:=r) (qu h2),J1 _ _⟩
  rename_i h2
  rw [if_neg h2]
  split at h
  ·rename_i h3
   rw [if_pos h3]
   unfold Lv at h ⊢
   split at h
   ·exact eo
   rename_i n hn
   split at h
   ·exact eo
   rename_i h4
   simp only [if_neg h4]
   have:=X0 _ n hn
   simp at this
   exact ⟨n+1,rfl,by omega,by simp only [Bi];omega⟩
  rename_i h3
  rw [if_neg h3]
  unfold Wx at h ⊢
  split at h
  ·rename_i h4
   rw [if_pos h4]
   refine ⟨2,rfl,by omega,?_⟩
   simp only [At,decide_eq_true_eq] at h4
   have:=h4.1.1
   omega
  rename_i h4
  rw [if_neg h4]
  split at h
  ·rename_i h5;rw [if_pos h5];exact ⟨1,rfl,by omega,h0⟩
  exact eo
/-- The words from a place on, up to one that is wrong. -/
def J2:Nat→Nat→Str→List (Tok×Int)
 | 0,_,_=>[]
 | f+1,k,s=>if s==[] then [] else
  (⟨(Cl s).1,(Cl s).2.1,k⟩,(Cl s).2.2.2)::(if (Cl s).2.2.2==0 then J2 f (k+(Cl s).2.2.1.toNat+gapM (s.drop (Cl s).2.2.1.toNat)) ((s.drop (Cl s).2.2.1.toNat).drop (gapM (s.drop (Cl s).2.2.1.toNat))) else [])
def Cj (s:Str):List (Tok×Int):=J2 (s.length+1) (gapM s) (s.drop (gapM s))
theorem np (s:Str):gapM s≤s.length:=Nat.sub_le _ _
end Go.SX.Nb
namespace Go.SX
variable [GI:GlobInv]
open Classical
@[simp] theorem AOo {n o k m c:Nat}:Low n (.sl o k m c)↔o<n:=⟨fun h=>by cases h;assumption,fun h=>.sl o k m c h⟩
/-- The cells of elements, one behind the other. -/
abbrev Nr (xs:List AV):List AV:=xs.flatMap AV.cells
theorem R5 (x:AV) (r:List AV):Nr (x::r)=x.cells++Nr r:=by simp [Nr]
theorem Tq {k:Nat}:∀{xs:List AV},(∀x∈xs,x.cells.length=k)→(Nr xs).length=xs.length*k
 | [],_=>by simp
 | x::r,h=>by
  rw [R5,Av,h x Gk,Tq (fun y hy=>h y (Hm _ hy)),Bi,Hn]
  omega
theorem Tr {k:Nat}:∀{xs:List AV},(∀x∈xs,x.cells.length=k)→∀{i j:Nat} {x y:AV},xs[i]? = some x→x.cells[j]? = some y→(Nr xs)[i*k+j]? = some y
 | [],_,i,j,x,y,h,_=>by simp at h
 | a::r,hk,0,j,x,y,h,h2=>by
  simp at h
  subst h
  rw [R5,Nat.zero_mul,Bl,Dr (Ad.1 h2).1]
  exact h2
 | a::r,hk,i+1,j,x,y,h,h2=>by
  rw [Qj] at h
  have ha:=hk a Gk
  have hh:=Tr (fun y hy=>hk y (Hm _ hy)) h h2
  rw [R5,Ds (by rw [ha,Hn];omega),ha]
  rw [show (i+1)*k+j-k=i*k+j by rw [Hn];omega]
  exact hh
section
variable {P:Program} {d:Nat} {st:St} {dst:Option Tmp} {ty:TypeId} {pos:String} {aft:Array Edge} {gd:Option (Nat×Bool)}
/-- The address of an element. -/
theorem OpV.indexAddrSl {t e:TypeId} {x i:Operand} {o k n c m:Nat} {q:IntKind} (hu:P.underlying t=some (.slice e)) (hsz:∀w,(sizeOf e).run P w=.ok k w) (hm:m<n)
  (hx:st.ev x=.sl o k n c) (hi:st.ev i=.v (.int q (m:Int))):OpV P d ⟨dst,.indexAddr t x i,ty,pos,aft,gd⟩ st (.ptr o (m*k)):=
 Cg (by intro c h;cases h) fun G a w h=>by
  have hr:=hx ▸ h.eval x
  have hi':=D8 h hi
  generalize hv:a.eval x=u at hr
  cases hr with
  | sl l o k n c ho =>
   have hlt':(m:Int)<n:=by omega
   refine ⟨.pointer (some ((⟨G.blk o,0,none⟩:Addr).add (m*k))),by simp [execOp,Instr.indexAt,asIntOf,hi',hv,run_underlying hu,hm,hlt',hsz],?_⟩
   rw [Cz rfl,Bl]
   exact .ptr _ o _ ho
/-- An empty slice, over an object of its own. -/
theorem AOp.buildObj0 {t e:TypeId} {k s n:Nat} (hu:P.underlying t=some (.slice e)) (hsz:∀w,(sizeOf e).run P w=.ok k w) (hn:st.own.length=n) (hs:s<st.sz):
  AOp P d ⟨some s,.buildSlice t 0 #[],ty,pos,aft,gd⟩ st (·=({ st with own:=st.own++[.cells e []] }:St).set s (.sl (st.up.length+n) k 0 0)):=by
 intro G a w h Q'
 obtain ⟨G',h1,T,hb,hlt⟩:=Pf h e [] #[] rfl (fun j y u h1 _=>by simp at h1)
 have hlen:(st.up++st.own).length=st.up.length+n:=by rw [Av,hn]
 rw [hlen] at hb hlt
 have hrun:(execOp a.eval (⟨some s,.buildSlice t 0 #[],ty,pos,aft,gd⟩:Oper)).run P w=.ok (.value (.slice (some ⟨w.heap.size,0,none⟩) 0 0)) (w.alloc (.cells #[] e)):=by
  have hfl:∀f:Nat→Option (Nat×Nat),Instr.fill f ((Array.range 0).map fun _=>(default:Value)) []=some #[]:=fun f=>by simp [Instr.fill]
  simp [execOp,Instr.buildSlice,run_underlying hu,hsz,newRow,hfl]
 refine D7 (by intro c h;cases h) hrun ⟨G',_,h1.put (s:=s) (y:=.sl (st.up.length+n) k 0 0) hs ?_,T.keep d,rfl,rfl,rfl,rfl⟩
 rw [←hb]
 exact .sl _ _ _ _ _ hlt
/-- What is appended to an empty slice lies in a new object of ours; of its spare cells nothing is known. -/
theorem AOp.appendObj {t e:TypeId} {i:TypeInfo} {z:Value} {k by' s o n:Nat} {xr x:Operand} {o2:Bool} {ys:List AV}
  (hu:P.underlying t=some (.slice e)) (hi:P.info? e=some i) (hz:i.zero=some z) (hsz:i.size=k) (hby:i.bytes=by') (hzk:z.cells.size=k) (hk:0<k)
  (hb:st.ev xr=.sl o k 0 0) (hx:I0 (st.ev x) o2 k ys) (hne:ys≠[]) (hn:st.own.length=n) (hs:s<st.sz) (hl:ys.length*by'≤140737488355328) (hl2:ys.length≤4611686018427387904):
  AOp P d ⟨some s,.call ⟨.builtin .append,#[xr,x],#[t,t]⟩,ty,pos,aft,gd⟩ st (fun st'=>∃c,ys.length≤c∧st'=({ st with own:=st.own++[.cells e (Nr ys++List.replicate ((c-ys.length)*k) .any)] }:St).set s (.sl (st.up.length+n) k ys.length c)):=by
 subst hsz
 subst hby
 intro G a w h Q'
 have hrb:=hb ▸ h.eval xr
 have hrx:=h.eval x
 have hm:ys.length≠0:=fun e=>hne (cw e)
 generalize hvb:a.eval xr=vb at hrb
 cases hrb with
 | sl l o k n' c ho =>
  rcases Hs hx hrx with ⟨_,e0⟩|⟨ad2,c2,f2,hvx,hc2,F2,_⟩
  ·exact absurd e0 hne
  have hge:=Mx w (0+ys.length) 0 e
  have hv:=run_append_grow (P:=P) w t ty e i z hu hi hz ⟨G.blk o,0,none⟩ 0 0 [] (by simp) (by simp) ad2 ys.length c2 (Db i.size ys.length f2) (C5 _ _ _) (F2.vals hk) (by omega) (by omega) (growslice_fits (by omega) (by rw [Bl];exact hl))
  rw [Bl] at hv hge
  let c':=grownCap w ys.length 0 e
  have hfl:(Nr ys).length=ys.length*i.size:=Tq F2.k
  have hd':StRel d G st a w.drew:=h.drew (w.drawn+1)
  obtain ⟨G',h1,T,hbk,hlt⟩:=Pf hd' e (Nr ys++List.replicate ((c'-ys.length)*i.size) .any) (([]:List Value).toArray++(Db i.size ys.length f2).toArray++Builtin.zeroCells z.cells (c'-ys.length)) (by
    simp only [M0,I5,C5,Value.oneSize _ hzk,Av,List.length_replicate,hfl,Cb]
    omega) (fun j y u hy hu'=>by
    by_cases hj:j<ys.length*i.size
    ·rw [Dr (by rw [hfl];exact hj)] at hy
     have hq:j / i.size<ys.length:=by rw [Nat.div_lt_iff_lt_mul hk];exact hj
     have hjm:j % i.size<i.size:=Nat.mod_lt _ hk
     have hx0:ys[j / i.size]? = some (ys[j / i.size]):=Ab hq
     have hcl:=F2.k _ (Be hq)
     have hy0:(ys[j / i.size]).cells[j % i.size]? = some ((ys[j / i.size]).cells[j % i.size]'(by omega)):=Ab _
     have e1:j / i.size*i.size+j % i.size=j:=by have:=Nat.div_add_mod j i.size;rw [Ro] at this;exact this
     have hfg:=Tr F2.k hx0 hy0
     rw [e1,hy] at hfg
     injection hfg with hfg
     have hval:(Db i.size ys.length f2)[j]? = some (f2 (j / i.size) (j % i.size)):=Kb hj
     rw [Kn (by simp only [M0,I5,C5,Cb];omega)] at hu'
     have e2:u=f2 (j / i.size) (j % i.size):=by
      have:(([]:List Value).toArray++(Db i.size ys.length f2).toArray)[j]? = (Db i.size ys.length f2)[j]? := by simp
      rw [this,hval] at hu'
      injection hu' with hu'
      exact hu'.symm
     rw [e2,hfg]
     exact (Kl G w (w.drawn+1)).rep (F2.rep _ _ _ _ hx0 hy0)
    rw [Ds (by rw [hfl];omega)] at hy
    rw [yk] at hy
    split at hy
    ·injection hy with hy;subst hy;exact .any _ _
    cases hy)
  have hlen:(st.up++st.own).length=st.up.length+n:=by rw [Av,hn]
  rw [hlen] at hbk hlt
  have hrun:(execOp a.eval (⟨some s,.call ⟨.builtin .append,#[xr,x],#[t,t]⟩,ty,pos,aft,gd⟩:Oper)).run P w=.ok (.value (.slice (some ⟨w.heap.size,0,none⟩) ys.length c')) (w.drew.alloc (.cells (([]:List Value).toArray++(Db i.size ys.length f2).toArray++Builtin.zeroCells z.cells (c'-ys.length)) e)):=by
   simp only [execOp,resolve,invoke,builtin,Sem.run_bind,Sem.run_pure,Result.andThen_ok,Rm,Br,Ec,hvb,hvx,hv]
   rfl
  have K0:=(Kl G w (w.drawn+1)).keep d
  refine D7 (by intro c h;cases h) hrun ⟨G',_,h1.put (s:=s) (y:=.sl (st.up.length+n) i.size ys.length c') hs ?_,K0.trans (T.keep d),rfl,rfl,rfl,c',hge,rfl⟩
  have hsz':w.drew.heap.size=w.heap.size:=rfl
  rw [←hsz',←hbk]
  exact .sl _ _ _ _ _ hlt

/-- The elements are written no more: the object goes, and the slice is one of known elements. -/
theorem StRel.freeze {G:Gh} {a:Act} {w:World} (h:StRel d G st a w) {r i k c:Nat} {t:TypeId} {cs xs:List AV} (hr:st.fr r=.sl (st.up.length+i) k xs.length c) (ho:st.own[i]? = some (.cells t cs)) (hnc:xs.length≤c)
  (hcs:cs.take (xs.length*k)=Nr xs) (hk:∀x∈xs,x.cells.length=k) (h1:∀x∈xs,∀y∈x.cells,y.one=true) (hst:∀x∈xs,∀y∈x.cells,y.strip=y):
  ∃G',StRel d G' { st with fr:=A6 r (.slice false k xs) st.fr,own:=st.own.set i .gone } a w∧Keep d G w G' w:=by
 let G':Gh:={ G with tag:=fun b q=>if G.tag b q=.obj (st.up.length+i) then .fix else G.tag b q }
 have hto:(st.up++st.own)[st.up.length+i]? = some (.cells t cs):=by rw [F5];exact ho
 have hol:st.up.length+i<(st.up++st.own).length:=(Ad.1 hto).1
 have htag:∀b q,G.tag b q≠.obj (st.up.length+i)→G'.tag b q=G.tag b q:=fun b q hb=>by simp only [G'];rw [if_neg hb]
 have htagO:∀b q,G.tag b q=.obj (st.up.length+i)→G'.tag b q=.fix:=fun b q hb=>by simp only [G'];rw [if_pos hb]
 have hfix:∀b q,G.tag b q=.fix→G'.tag b q=.fix:=fun b q hb=>by rw [htag b q (by rw [hb];simp)];exact hb
 have htail:∀b q L,G.tag b q=.tail L→G'.tag b q=.tail L:=fun b q L hb=>by rw [htag b q (by rw [hb];simp)];exact hb
 have hrep:∀{l:Option Loc} {y:AV} {u:Value},Rep G w l y u→Rep G' w l y u:=fun hy =>
  hy.mono (G':=G') (fun b q e=>⟨hfix b q e,rfl⟩) (Am _) (fun _ _=>rfl) (fun L _ b q e=>htail b q L e)
 have hst':Still G w G' w:=fun b hb=>⟨rfl,hb.1,fun q=>by
  rcases hb.2.1 q with e|e
  ·exact .inl (hfix b q e)
  exact .inr (by rw [htag b q (by rw [e];simp)];exact e),hb.2.2⟩
 obtain ⟨vs,q1,q2,q3,q4⟩:=h.heap.obj _ _ hto
 refine ⟨G',⟨h.size,fun s=>?_,⟨fun j x hx=>?_,?_,h.heap.inj⟩,h.defs,fun q hq=>?_,h.defsNodup,h.defsGe,⟨fun b q hb=>h.tags.ex b q (fun e=>?_),fun b q j hb=>?_,fun b q L hb=>?_,h.tags.globKeep hst'⟩,h.rnd,h.low,h.top⟩,
  ⟨fun b q e=>⟨hfix b q e,rfl⟩,fun b q e s _ ht=>htail b q _ ht,Am _,fun _ _=>rfl,rfl,rfl,rfl,Am _,hst'⟩⟩
 ·show Rep G' w _ (A6 r (.slice false k xs) st.fr s) _
  unfold A6
  by_cases hs:s=r
  ·subst hs
   rw [if_pos rfl]
   have hsl:=h.slots s
   rw [hr] at hsl
   generalize a.tmps.getD s undef=v at hsl
   cases hsl with
   | sl l o k n c ho' =>
    refine .slice _ false k xs ⟨G.blk (st.up.length+i),0,none⟩ _ c (fun q j=>vs.getD (q*k+j) undef) rfl rfl hnc hk h1 (fun q x j y hx hy=>?_) (fun q x j y hx hy=>?_) (fun e=>by cases e)
    all_goals
     have hfg:=Tr hk hx hy
     have hlt:q*k+j<xs.length*k:=by
      have:=(Ad.1 hfg).1
      rw [Tq hk] at this;exact this
     rw [←hcs,List.getElem?_take_of_lt hlt] at hfg
     have hcl:=(Ad.1 hfg).1
    ·refine ⟨htagO _ _ (by simpa using q4 _ hcl),?_⟩
     simp only [Bl]
     simp [World.cell?,q1,show q*k+j<vs.size by omega]
    have hu:=q3 _ y (vs[q*k+j]'(by omega)) hfg (E9 (by omega))
    have e1:vs.getD (q*k+j) undef=vs[q*k+j]'(by omega):=by simp [show q*k+j<vs.size by omega]
    rw [e1]
    have:=hrep (hu.strip (l':=none))
    rw [hst x (B2 hx) y (B2 hy)] at this
    exact this
  rw [if_neg hs]
  exact hrep (h.slots s)
 ·have hx':(st.up++st.own.set i .gone)[j]? = some x:=hx
  rw [←C6,M1] at hx'
  by_cases hj:st.up.length+i=j
  ·rw [if_pos hj,if_pos hol] at hx'
   injection hx' with hx'
   subst hx'
   subst hj
   exact ⟨vs,t,(0,0),q1,fun q hq=>htagO _ _ (q4 q (by omega))⟩
  rw [if_neg hj] at hx'
  exact (h.heap.obj j x hx').free (fun e=>hj e.symm) htag rfl rfl
 ·show G.n=(st.up++st.own.set i .gone).length
  have:=h.heap.n
  simpa using this
 ·show (st.up++st.own.set i .gone)[q]? = _
  have h2:=h.defsAt q hq
  rw [←C6,M1]
  by_cases hj:st.up.length+i=q
  ·subst hj;rw [hto] at h2;cases h2
  rw [if_neg hj];exact h2
 ·simp only [G'] at hb
  split at hb
  ·rename_i e';rw [e] at e';cases e'
  exact hb e
 ·simp only [G'] at hb
  split at hb
  ·cases hb
  exact h.tags.obj b q j hb
 simp only [G'] at hb
 split at hb
 ·cases hb
 exact h.tags.tail b q L hb
end
section
variable {P:Program} {d:Nat} {ops:Array Oper}
theorem ARun.turnSt {l:List Oper} {st st':St} {Q:St→Prop} (h:∀(G:Gh) (a:Act) (w:World),StRel d G st a w→∃G',StRel d G' st' a w∧Keep d G w G' w) (e1:st'.up.length=st.up.length) (e2:st'.rnd=st.rnd) (e3:st'.sz=st.sz) (hr:ARun P d ops l st' Q):ARun P d ops l st Q:=by
 intro G a w hrel idx hidx
 obtain ⟨G',h1,k⟩:=h G a w hrel
 have:=hr G' a w h1 idx hidx
 rw [F4 hrel k e2] at this
 exact D6 (fun e a' w' hp=>⟨hp.1,hp.2.next k e1 e2 e3⟩) _ _ _ this
variable {sz:Nat} {fr:Nat→AV} {up own own':List AObj} {dfs:List Nat} {rnd:Option Nat} {Q:St→Prop} {rest:List Oper} {s:Nat} {ty:TypeId} {pos:String} {aft:Array Edge}
theorem R.indexAddrSl {t e:TypeId} {x i:Operand} {o k n c:Nat} {q:IntKind} {z:Int} (m:Nat) (ht:P.underlying t=some (.slice e)) (hsz:∀w,(Go.sizeOf e).run P w=.ok k w) (hm:m<n) (hr:ARun P d ops rest ⟨sz,A6 s (.ptr o (m*k)) fr,up,own,dfs,rnd⟩ Q)
  (hx:B5 fr x=.sl o k n c:=by exact sL0) (hi:B5 fr i=.v (.int q z):=by exact sL0) (hz:z=(m:Int):=by first|rfl|omega) (hs:Nat.blt s sz=true:=by rfl):
  ARun P d ops (⟨some s,.indexAddr t x i,ty,pos,aft,none⟩::rest) ⟨sz,fr,up,own,dfs,rnd⟩ Q:=
 Uk rfl rfl hs (OpV.indexAddrSl ht hsz hm hx (by subst hz;exact hi)) hr
theorem R.buildObj0 {t e:TypeId} {k n:Nat} (ht:P.underlying t=some (.slice e)) (hsz:∀w,(Go.sizeOf e).run P w=.ok k w) (hr:ARun P d ops rest ⟨sz,A6 s (.sl (oid up.length n) k 0 0) fr,up,own',dfs,rnd⟩ Q)
  (hn:own.length=n:=by rfl) (ho:own++[.cells e []]=own':=by rfl) (hs:Nat.blt s sz=true:=by rfl):
  ARun P d ops (⟨some s,.buildSlice t 0 #[],ty,pos,aft,none⟩::rest) ⟨sz,fr,up,own,dfs,rnd⟩ Q:=by
 subst ho
 exact AJy rfl (AOp.buildObj0 (st:=⟨sz,fr,up,own,dfs,rnd⟩) ht hsz hn (by simpa using hs)) hr
theorem R.appendObj {t e:TypeId} {i:TypeInfo} {z:Value} {k o n:Nat} {xr x:Operand} {o2:Bool} {y:AV} {ys:List AV} (hu:P.underlying t=some (.slice e)) (hi:P.info? e=some i) (hne:ys≠[]) (hl:ys.length*i.bytes≤140737488355328) (hl2:ys.length≤4611686018427387904)
  (hr:∀c,ys.length≤c→ARun P d ops rest ⟨sz,A6 s (.sl (oid up.length n) k ys.length c) fr,up,own++[.cells e (Nr ys++List.replicate ((c-ys.length)*k) .any)],dfs,rnd⟩ Q)
  (hz:i.zero=some z:=by rfl) (hsz:i.size=k:=by rfl) (hzk:z.cells.size=k:=by rfl) (hk:0<k:=by decide) (hb:B5 fr xr=.sl o k 0 0:=by exact sL0)
  (hx:B5 fr x=y:=by exact sL0) (hx':I0 y o2 k ys:=by first|exact .inl rfl|exact .inr ⟨rfl,rfl⟩) (hn:own.length=n:=by rfl) (hs:Nat.blt s sz=true:=by rfl):
  ARun P d ops (⟨some s,.call ⟨.builtin .append,#[xr,x],#[t,t]⟩,ty,pos,aft,none⟩::rest) ⟨sz,fr,up,own,dfs,rnd⟩ Q:=by
 subst hx
 refine W7 rfl (AOp.appendObj (st:=⟨sz,fr,up,own,dfs,rnd⟩) hu hi hz hsz rfl hzk hk hb hx' hne hn (by simpa using hs) hl hl2) (fun s' hs'=>?_)
 obtain ⟨c,hc,rfl⟩:=hs'
 exact hr c hc
/-- The elements of the slice in slot r, over object i of ours, are written no more. -/
theorem R.freeze {l:List Oper} (r i:Nat) {k n c:Nat} {t:TypeId} {cs:List AV} (xs:List AV) (hnc:n≤c) (hn:n=xs.length) (hcs:cs.take (n*k)=Nr xs) (hk:∀x∈xs,x.cells.length=k) (h1:∀x∈xs,∀y∈x.cells,y.one=true) (hst:∀x∈xs,∀y∈x.cells,y.strip=y)
  (hr:ARun P d ops l ⟨sz,A6 r (.slice false k xs) fr,up,own',dfs,rnd⟩ Q) (hf:fr r=.sl (oid up.length i) k n c:=by exact sL0) (ho:own[i]? = some (.cells t cs):=by rfl) (hset:own.set i .gone=own':=by rfl):
  ARun P d ops l ⟨sz,fr,up,own,dfs,rnd⟩ Q:=by
 subst hset
 subst hn
 exact ARun.turnSt (fun G a w h=>h.freeze (st:=⟨sz,fr,up,own,dfs,rnd⟩) hf ho hnc hcs hk h1 hst) rfl rfl rfl hr
end
end Go.SX
namespace Go.SX
variable [GI:GlobInv]
open Classical
variable {P:Program} {d:Nat} {l0:List Oper} {kd:Nat} {ops:Array Oper} {rest:List Oper} {sz:Nat} {fr:Nat→AV} {up own:List AObj} {dfs:List Nat} {rnd:Option Nat} {Q:St→Prop} {s:Nat} {ty:TypeId} {pos:String} {aft:Array Edge} {E:List Oper→(Nat→AV)→Prop}
theorem R.nilTmp {l:List Oper} (s k:Nat) (o:Bool) (hr:ARun P d ops l ⟨sz,A6 s (.slice o k []) fr,up,own,dfs,rnd⟩ Q) (h:fr s=.nil:=by exact sL0):
  ARun P d ops l ⟨sz,fr,up,own,dfs,rnd⟩ Q:=
 ARun.le (st':=⟨sz,A6 s (.slice o k []) fr,up,own,dfs,rnd⟩) (W6 (s:=⟨sz,fr,up,own,dfs,rnd⟩) fun i=>by
  show Le (fr i) (A6 s (.slice o k []) fr i)
  unfold A6
  by_cases hi:i=s
  ·subst hi;rw [if_pos rfl,h];exact .nil _ _
  rw [if_neg hi];exact .refl _) hr
/-! A slice without room behind its end: whoever appends to it gets a new one. -/
theorem nq (k:Nat) (xs:List AV):(AV.full k xs).strip=.full k xs:=rfl
theorem nr (k:Nat) (xs:List AV):(AV.full k xs).cells=[.full k xs]:=rfl
theorem AAj (k:Nat) (xs:List AV):(AV.full k xs).one=true:=rfl
attribute [go_sem] nq nr AAj
section
variable {KP:List PanicEntry→St→Prop} {up own:(Nat→Bool)→List AObj} {S:List SegY} {l:List Oper} {T F:List Nat}
/-- The p-th of those that turn the heap: a store into an object of whoever waits. -/
theorem Y.storeUp {t t':TypeId} {p x:Operand} {o off k pn:Nat} {y:AV} {ys cs cs':List AV} (hsz:∀w,(Go.sizeOf t).run P w=.ok k w)
  (hU:∀B:Nat→Bool,B pn=false→(up B)[o]? = some (.cells t' cs)∧up (upd B pn)=(up B).set o (.cells t' cs')∧own (upd B pn)=own B∧∀y∈ys,Low (up B).length y)
  (h:ChainY P d l0 sz up own dfs rnd KP E S l fr)
  (hp:B5 fr p=.ptr o off:=by exact sL0) (hx:B5 fr x=y:=by exact sL0) (hc:y.cells=ys:=by exact sL0) (hk:ys.length=k:=by rfl)
  (h1:ys.all AV.one=true:=by exact sL2) (hfit:off+k≤cs.length:=by exact sL1) (hput:Cc cs off ys=cs':=by exact sL0):
  ChainY P d l0 sz up own dfs rnd KP E (.s [] (some pn) T F::S) (⟨none,.store t p x,ty,pos,aft,none⟩::l) fr:=by
 subst hput
 subst hc
 refine ⟨_,l,[],rfl,⟨rfl,rfl,fun B f _ _ hB hf=>.of ?_⟩,h⟩
 obtain ⟨a1,a2,a3,a4⟩:=hU B (hB pn rfl)
 have e:B5 f p=.ptr o off:=by rw [agr hf (by simp [Op.operands])];exact hp
 have ex:B5 f x=y:=by rw [agr hf (by simp [Op.operands])];exact hx
 refine AOp.eqTo (AOp.storeUp (st:=⟨sz,f,up B,own B,dfs,rnd⟩) hsz e a1 ex hk h1 hfit a4) ?_
 show _=St.mk sz f (up (upd B pn)) (own (upd B pn)) dfs rnd
 rw [a2,a3]
end
end Go.SX
namespace Go.SX
def Ts:=@R.nilTmp
end Go.SX
