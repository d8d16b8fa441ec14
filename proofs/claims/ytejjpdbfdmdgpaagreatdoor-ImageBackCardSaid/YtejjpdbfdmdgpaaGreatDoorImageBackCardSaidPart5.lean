/- On the way (part 5). -/
import Derived.Below
import Derived.Test.YtejjpdbfdmdgpaaGreatDoorProg
import Derived.KernelRfl
import Derived.Shelf.Strconv.Itoa4
import Derived.Shelf.Strings.SplitShaped
import Derived.Shelf.Strings.SlTrimAscii
import Derived.Shelf.Strings.OnBuilder
import Derived.Shelf.Strings.Replace
import Derived.Shelf.Small.Strs
import Derived.Shelf.Strings.Prefix
import Derived.Shelf.Strconv.ErrVarParseInt
import Derived.Shelf.Bits.Mul64
import Derived.Shelf.Strings.Builder1
import Derived.Shelf.Strings.Cut
import Derived.Lib.SplitLaws
import Derived.LaidEql
import Derived.Stop.Asserts
import Derived.RowKitTokens
import Derived.WalkKit
import Derived.Lib.AtoiErrMem
import Derived.Lib.Strings
import Derived.BigCall
import Derived.Lib.ParseIntB
import Derived.Test.YtejjpdbfdmdgpaaGreatDoorImageBackCardSaidPart4
set_option linter.all false
namespace Go.SX
variable [GI:GlobInv]
open Classical Go.RowKit
section
variable {P:Program} {g:FuncId} {Hp:List AObj}

/-- What is known of package-level variables, of a world alone. -/
def Mk (w:World):Prop:=∀x∈GI.blocks,∃o,w.heap[x.1]? = some o∧x.2 o

theorem j9 {G:Gh} {w:World} {xs:List Value} {vs:Array Value} (hn:vs.size=(xs.map AV.v).length) (h:∀(i:Nat) (y:AV) (u:Value),(xs.map AV.v)[i]? = some y→vs[i]? = some u→∃l,Rep G w l y u):vs=xs.toArray:=by
 apply ACb
 ·simpa using hn
 intro i h1 h2
 have hi:i<xs.length:=by simpa using h2
 obtain ⟨l,hr⟩:=h i (.v xs[i]) vs[i] (by simp [hi]) (Er h1)
 have:=Ri hr
 simpa using this

theorem Hz {G:Gh} {w w':World} (hT:TagOK G w) (hb:Below w.heap.size w w') {b o:Nat} (h:G.tag b o≠.free):w'.cell? ⟨b,o,none⟩=w.cell? ⟨b,o,none⟩∧w'.frozen? ⟨b,o,none⟩=w.frozen? ⟨b,o,none⟩:=by
 obtain ⟨u,hu⟩:=hT.ex b o h
 have hlt:b<w.heap.size:=World.block_lt_of_cell? _ _ hu
 have:=hb.block b hlt
 exact ⟨Kr this,Kk this⟩

theorem Yw {G:Gh} {w w':World} (hT:TagOK G w) (hb:Below w.heap.size w w'):Turn G w G w':=
 ⟨fun b o h=>⟨h,(Hz hT hb (by rw [h];simp)).1⟩,fun _ _ _ h=>h,fun _ _ _ h=>h,Aj _,fun _ _=>rfl,hb.os,hb.tape,hb.output,hb.size,M9 (fun b hv=>hb.block b hv.1) hb.size (fun _ _ _=>.inl rfl) (fun _ hi=>.inl ⟨hi,rfl⟩)⟩

theorem s6 {G:Gh} {H:List AObj} {w w':World} (hH:HeapRel G H w) (hT:TagOK G w) (hb:Below w.heap.size w w'):HeapRel G H w'∧TagOK G w':=by
 have T:=Yw hT hb
 refine ⟨⟨fun i x hx=>?_,hH.n,hH.inj⟩,⟨fun b o h=>?_,fun b o i h=>?_,fun b o L h=>?_,hT.globKeep T.old⟩⟩
 ·have hi:i<G.n:=by rw [hH.n];exact (Ad.1 hx).1
  exact T.objRel hi (hb.block _ (Pn hH i hi)) (hH.obj i x hx) (fun b h=>hb.block b h.lt)
 ·rw [(Hz hT hb h).1];exact hT.ex b o h
 ·rw [(Hz hT hb (by rw [h];simp)).2];exact hT.obj b o i h
 rw [(Hz hT hb (by rw [h];simp)).2];exact hT.tail b o L h

/-- A function of plain values that hands back a plain value. -/
theorem AFun.lib {xs:List Value} {r:AV} {v:Value} (hr:∀G w,Rep G w none r v) (h:∀w,Mk w→Calls P g xs.toArray w (fun e w'=>e=.returned v∧Below w.heap.size w w')):AFun P g (xs.map .v) Hp r:=by
 intro d G w vs hn hv hH hT hTop
 have hvs:=j9 hn (fun i y u a b=>⟨_,hv i y u a b⟩)
 subst hvs
 refine (callsIn_wide.2 (h w (fun x hx=>let ⟨_,u,a,b⟩:=hT.glob x hx;⟨u,a,b⟩))).mono ?_
 rintro e w' ⟨rfl,hb⟩
 obtain ⟨h1,h2⟩:=s6 hH hT hb
 exact ⟨v,G,r,Hp,rfl,(hr G w').lift,h1,h2,(Yw hT hb).keep _,rfl,rfl,rfl⟩


/-- A function of plain values that hands back a new slice of plain values. -/
theorem AFun.libSlice {xs ys:List Value} {t:TypeId} (hone:∀y∈ys,y.oneCell'=true) (h:∀w,Mk w→Calls P g xs.toArray w (fun e w'=>e=.returned (.slice (some ⟨w.heap.size,0,none⟩) ys.length ys.length)∧w'=w.alloc (.cells ys.toArray t))):
  AFun P g (xs.map .v) Hp (.slice false 1 (ys.map .v)):=by
 intro d G w vs hn hv hH hT hTop
 have hvs:=j9 hn (fun i y u a b=>⟨_,hv i y u a b⟩)
 subst hvs
 refine (callsIn_wide.2 (h w (fun x hx=>let ⟨_,u,a,b⟩:=hT.glob x hx;⟨u,a,b⟩))).mono ?_
 rintro e w' ⟨rfl,rfl⟩
 have hst:StRel (d+1) G ⟨0,fun _=>.any,Hp,[],[],none⟩ { tmps:=#[],defers:=[] } w:=
  ⟨rfl,fun s=>.any _ _,by simpa using hH,(by rw [H4 hTop];rfl),(fun o ho=>by simp at ho),N0,(fun o ho=>by simp at ho),hT,(fun l hl=>by cases hl),Ye hH,O7 hTop⟩
 obtain ⟨G',g1,T,g2⟩:=Ux hst t ys.toArray
 refine ⟨_,G',_,Hp,rfl,?_,by simpa using g1.heap,g1.tags,T.keep _,rfl,rfl,rfl⟩
 refine .slice _ false 1 _ _ _ _ (fun i j=>ys.toArray.getD i undef) rfl (by simp) (Aj _) (fun x hx=>?_) (fun x hx y hy=>?_) (fun i x j y hx hy=>?_) (fun i x j y hx hy=>?_) (fun h=>by cases h)
 ·obtain ⟨z,_,rfl⟩:=D6.1 hx
  rfl
 ·obtain ⟨z,hz,rfl⟩:=D6.1 hx
  have:y=.v z:=by simpa [AV.cells] using hy
  subst this
  exact hone z hz
 all_goals
  rw [Ce,Ep] at hx
  obtain ⟨z,hz,rfl⟩:=hx
  have hlt:i<ys.length:=(Ad.1 hz).1
  have hj:j=0:=by
   match j,hy with
   | 0,_=>rfl
   | j+1,hy=>simp [AV.cells] at hy
  subst hj
 ·refine ⟨by simpa using g2 i (by simpa using hlt),?_⟩
  rw [World.cell?_alloc_new]
  simp [hlt]
 have:y=.v z:=by simpa [AV.cells] using hy.symm
 subst this
 have e:ys.toArray.getD i undef=z:=by
  have:=Aa hlt
  rw [this] at hz
  injection hz with hz
  simp [hlt,hz]
 rw [e]
 exact .v _ _
/-- A function that hands back a plain value and, behind an interface value, a new record of plain values. -/
theorem AFun.libErr {xs cs:List Value} {n:Value} {T te:TypeId} (hone:∀y∈cs,y.oneCell'=true) (h:∀w,Mk w→Calls P g xs.toArray w (fun e w'=>∃N,e=.returned (.tuple #[n,.iface T (.pointer (some ⟨N,0,none⟩))])∧w.heap.size≤N∧w'.heap[N]? = some (.cells cs.toArray te (0,0))∧Below w.heap.size w w')):
  AFun P g (xs.map .v) Hp (.tup [.v n,.iface T (.ro (cs.map .v))]):=by
 intro d G w vs hn hv hH hT hTop
 have hvs:=j9 hn (fun i y u a b=>⟨_,hv i y u a b⟩)
 subst hvs
 refine (callsIn_wide.2 (h w (fun x hx=>let ⟨_,u,a,b⟩:=hT.glob x hx;⟨u,a,b⟩))).mono ?_
 rintro e w' ⟨N,rfl,hN,hcell,hb⟩
 have hfree:∀o,G.tag N o=.free:=fun o=>Gv hT _ o hN
 let G':Gh:={ G with tag:=fun b o=>if b=N∧o<cs.length then .fix else G.tag b o }
 have hne:∀b o,G.tag b o≠.free→¬(b=N∧o<cs.length):=fun b o hb hc=>by rw [hc.1] at hb;exact hb (hfree o)
 have hnew:∀o,o<cs.length→w'.cell? ⟨N,o,none⟩=cs[o]? := fun o ho=>by simp [World.cell?,hcell,ho]
 have T1:Turn G w G' w':=by
  refine ⟨fun b o h=>⟨?_,(Hz hT hb (by rw [h];simp)).1⟩,fun b o L h=>?_,fun b o i h=>?_,Aj _,fun _ _=>rfl,hb.os,hb.tape,hb.output,hb.size,
   M9 (fun b hv=>hb.block b hv.1) hb.size (fun b o hlt=>.inl ?_) (fun _ hi=>.inl ⟨hi,rfl⟩)⟩
  ·simp only [G'];rw [if_neg (hne b o (by rw [h];simp))];exact h
  ·simp only [G'];rw [if_neg (hne b o (by rw [h];simp))];exact h
  ·simp only [G'];rw [if_neg (hne b o (by rw [h];simp))];exact h
  simp only [G'];rw [if_neg (by omega)]
 have hH':HeapRel G' Hp w':=⟨fun i x hx=>by
  have hi:i<G.n:=by rw [hH.n];exact (Ad.1 hx).1
  exact T1.objRel hi (hb.block _ (Pn hH i hi)) (hH.obj i x hx) (fun b h=>hb.block b h.lt),hH.n,hH.inj⟩
 have hT':TagOK G' w':=by
  refine ⟨fun b o h=>?_,fun b o i h=>?_,fun b o L h=>?_,hT.globKeep T1.old⟩
  ·simp only [G'] at h
   split at h
   ·rename_i hc;obtain ⟨rfl,ho⟩:=hc;exact ⟨_,(hnew o ho).trans (Aa ho)⟩
   rw [(Hz hT hb h).1];exact hT.ex b o h
  ·simp only [G'] at h
   split at h
   ·cases h
   rw [(Hz hT hb (by rw [h];simp)).2];exact hT.obj b o i h
  simp only [G'] at h
  split at h
  ·cases h
  rw [(Hz hT hb (by rw [h];simp)).2];exact hT.tail b o L h
 refine ⟨_,G',_,Hp,rfl,?_,hH',hT',T1.keep _,rfl,rfl,rfl⟩
 refine .tup _ _ _ rfl (fun i y u hy hu=>?_)
 match i with
 | 0=>simp at hy hu;subst hy;subst hu;exact .v _ _
 | 1 =>
  simp at hy hu;subst hy;subst hu
  refine .iface _ _ _ _ (.ro _ _ ⟨N,0,none⟩ (fun j=>cs.getD j undef) rfl (fun y hy=>?_) (fun j y hy=>?_) (fun j y hy=>?_))
  ·obtain ⟨z,hz,rfl⟩:=D6.1 hy
   exact hone z hz
  all_goals
   rw [Ce,Ep] at hy
   obtain ⟨z,hz,rfl⟩:=hy
   have hlt:j<cs.length:=(Ad.1 hz).1
   have e:cs.getD j undef=z:=by rw [D4,hz];rfl
  ·refine ⟨by simp [G',hlt],?_⟩
   rw [Bl,hnew j hlt,hz,e]
  rw [e];exact .v _ _
 | i+2=>simp at hy
theorem TagOK.globIn {G:Gh} {w:World} (h:TagOK G w):Mk w:=fun x hx=>(h.glob x hx).2
/-- A package-level variable of which something is known. -/
theorem R.loadGlob {d:Nat} {ops:Array Oper} {rest:List Oper} {sz:Nat} {fr:Nat→AV} {up own:List AObj} {dfs:List Nat} {rnd:Option Nat} {Q:St→Prop} {s:Nat} {ty:TypeId} {pos:String} {aft:Array Edge} {t:TypeId} {gl:Nat} {v:Value}
  (hagg:∀w,(isAgg t).run P w=.ok false w) (hv:∀w,Mk w→w.cell? ⟨gl,0,none⟩=some v) (hr:ARun P d ops rest ⟨sz,A6 s (.v v) fr,up,own,dfs,rnd⟩ Q) (hs:Nat.blt s sz=true:=by rfl):
  ARun P d ops (⟨some s,.load t (.global gl),ty,pos,aft,none⟩::rest) ⟨sz,fr,up,own,dfs,rnd⟩ Q:=by
 refine ARun.v rfl rfl (by simpa using hs) (Cj (by intro c h;cases h) fun G a w h=>⟨v,?_,.v _ _⟩) hr
 have hc:=hv w h.tags.globIn
 have e:a.eval (.global gl)=.pointer (some ⟨gl,0,none⟩):=rfl
 simp [execOp,e,Instr.loadAt,Instr.sureAddr,loadVar,hagg,hc]
end
end Go.SX
namespace Go.SX
def N4:=@AFun.lib
end Go.SX
namespace Go.SX.Nb
open Go Go.SX Go.Proofs
set_option maxRecDepth 4000

/-- Where strconv.ErrRange points. -/
class ErrAt where
 b:Addr
 bd:Nat:=0
 bl:List Deferred:=[]
/-- The package-level variables of which something is known: bytealg.MaxLen is a number; strconv.ErrRange is an error of errors.New's make; the table of powers of ten. -/
def dt [E:ErrAt]:List (Nat×(Obj→Prop)):=[(0,fun o=>∃m t f,o=.cells #[.int .i64 m] t f),(1,fun o=>∃t f,o=.cells #[.iface 284 (.pointer (some E.b))] t f),(5,fun o=>∃t f,o=.cells (Lib.pow10Tab.map fun z=>Value.int .u64 z).toArray t f)]
instance globInv [E:ErrAt]:GlobInv:={ blocks:=dt,bd:=E.bd,bl:=E.bl }
variable [ErrAt]

abbrev Str:=List UInt8
structure Col where
 name:Str
 kind:Int
 deriving DecidableEq
structure Val where
 kind:Int
 n:Int
 s:Str
 deriving DecidableEq
structure Row where
 key:Int
 l:List Val
 deriving DecidableEq
abbrev Af (s:Str):AV:=.v (sv s)
abbrev A5 (n:Int):AV:=.v (.int .i64 n)
abbrev Bo (n:Int):AV:=.v (.int .u64 n)
abbrev B4 (b:Bool):AV:=.v (.bool b)
abbrev Bj (c:Col):AV:=.agg [.v (sv c.name),.v (.int .i64 c.kind)]
abbrev An (c:List Col):AV:=.slice false 2 (c.map Bj)
abbrev Bi (v:Val):AV:=.agg [.v (.int .i64 v.kind),.v (.int .i64 v.n),.v (sv v.s)]
abbrev Br (l:List Val):AV:=.slice false 3 (l.map Bi)
abbrev Gg (l:List Str):AV:=.slice false 1 (l.map Af)
theorem Aw {α β:Type} {f:α→β} {l:List α} {i:Nat} (h:i<l.length):(l.map f)[i]? = some (f l[i]):=by simp [h]
theorem Ai:Tryz.prog.follows .mixedOrders=true:=by kernel_rfl
theorem Tt:Tryz.prog.eqGuardType Tryz.prog.depth 42=false:=by kernel_rfl
theorem Hn (k n k' n':Int) (s s':List UInt8) (w:World):(Op.equal 42 (.agg #[.int .i64 k,.int .i64 n,.string ⟨s.toArray⟩]) (.agg #[.int .i64 k',.int .i64 n',.string ⟨s'.toArray⟩])).run Tryz.prog w=.ok (k==k'&&n==n'&&s==s') w:=by
 have h1:Tryz.prog.stoodInHeld 42=false:=by kernel_rfl
 show (Op.equalIn (9999+1) _ _ _).run _ _=_
 rw [Op.equalIn]
 generalize hd:(9999:Nat)=d
 obtain ⟨d,rfl⟩:∃e,d=e+1:=⟨9998,hd.symm⟩
 clear hd
 simp [run_underlying Tryz.underlying42,h1,part,AKv _ _ _ _ _ _ Tryz.underlying3,AKv _ _ _ _ _ _ Tryz.underlying2,AO8 _ _ _ _ _ Tryz.underlying9,Tryz.isAgg3,Tryz.isAgg2,Tryz.isAgg9]
 by_cases e1:k=k'<;>by_cases e2:n=n'<;>by_cases e3:s=s'<;>simp [e1,e2,e3]
end Go.SX.Nb
namespace Go.Proofs
open Go Go.Shelf
theorem ly {p:Prop} (h:p:=by repeat' first|kernel_rfl|(intro w;kernel_rfl)|constructor):p:=h
def Tryz.ren144:Ren where
 f:=fun x=>match x with|144=>153|143=>156|219=>175|217=>185|225=>198|224=>199|267=>200|266=>212|314=>226|n=>n
 t:=fun x=>match x with|9=>9|4=>4|3=>3|5=>5|46=>197|146=>226|51=>225|n=>n
 g:=fun x=>match x with|1=>0|n=>n
theorem Tryz.lays144:Lays.n144 Tryz.prog Tryz.ren144:=ly
def Tryz.ren145:Ren where
 f:=fun x=>match x with|145=>116|220=>158|219=>175|217=>185|225=>198|224=>199|267=>200|266=>212|314=>226|n=>n
 t:=fun x=>match x with|9=>9|4=>4|59=>147|3=>3|5=>5|46=>197|146=>226|51=>225|n=>n
 g:=fun x=>match x with|1=>0|n=>n
theorem Tryz.lays145:Lays.n145 Tryz.prog Tryz.ren145:=ly
def Tryz.ren146:Ren where
 f:=fun x=>match x with|146=>90|221=>114|268=>154|138=>155|143=>156|195=>172|197=>173|218=>174|219=>175|260=>197|217=>185|225=>198|224=>199|267=>200|266=>212|314=>226|n=>n
 t:=fun x=>match x with|9=>9|31=>51|3=>3|4=>4|0=>0|105=>175|21=>21|5=>5|46=>197|119=>221|139=>224|138=>223|146=>226|51=>225|n=>n
 g:=fun x=>match x with|1=>0|3=>2|4=>3|n=>n
theorem Tryz.lays146:Lays.n146 Tryz.prog Tryz.ren146:=ly
def Tryz.ren161:Ren where
 f:=fun x=>match x with|161=>157|231=>176|227=>177|233=>178|235=>179|228=>201|197=>173|151=>202|260=>197|152=>227|137=>160|119=>248|224=>199|225=>198|217=>185|266=>212|n=>n
 t:=fun x=>match x with|9=>9|4=>4|3=>3|5=>5|117=>180|116=>179|0=>0|124=>183|105=>175|21=>21|119=>221|46=>197|139=>224|138=>223|n=>n
 g:=fun x=>match x with|3=>2|4=>3|n=>n
theorem Tryz.lays161:Lays.n161 Tryz.prog Tryz.ren161:=ly
def Tryz.ren99:Ren where
 f:=fun x=>match x with|99=>180|206=>203|n=>n
 t:=fun x=>match x with|9=>9|4=>4|3=>3|n=>n
 g:=fun x=>x
theorem Tryz.lays99:Lays.n99 Tryz.prog Tryz.ren99:=ly
def Tryz.ren100:Ren where
 f:=fun x=>match x with|100=>181|207=>204|n=>n
 t:=fun x=>match x with|9=>9|4=>4|3=>3|n=>n
 g:=fun x=>x
theorem Tryz.lays100:Lays.n100 Tryz.prog Tryz.ren100:=ly
def Tryz.ren101:Ren where
 f:=fun x=>match x with|101=>208|208=>229|206=>203|n=>n
 t:=fun x=>match x with|9=>9|4=>4|3=>3|n=>n
 g:=fun x=>x
theorem Tryz.lays101:Lays.n101 Tryz.prog Tryz.ren101:=ly
def Tryz.ren160:Ren where
 f:=fun x=>match x with|160=>209|232=>230|231=>176|227=>177|234=>231|233=>178|236=>232|235=>179|228=>201|271=>252|151=>202|197=>173|120=>269|152=>227|260=>197|137=>160|119=>248|224=>199|225=>198|217=>185|266=>212|n=>n
 t:=fun x=>match x with|9=>9|4=>4|3=>3|5=>5|117=>180|116=>179|0=>0|124=>183|21=>21|105=>175|46=>197|119=>221|139=>224|138=>223|n=>n
 g:=fun x=>match x with|3=>2|4=>3|n=>n
theorem Tryz.lays160:Lays.n160 Tryz.prog Tryz.ren160:=ly
def Tryz.ren155:Ren where
 f:=fun x=>match x with|155=>205|154=>228|138=>155|165=>249|143=>156|166=>250|197=>173|169=>251|195=>172|218=>174|240=>267|241=>268|219=>175|260=>197|276=>283|277=>284|217=>185|225=>198|224=>199|267=>200|266=>212|314=>226|n=>n
 t:=fun x=>match x with|9=>9|3=>3|4=>4|72=>243|0=>0|76=>245|105=>175|21=>21|5=>5|70=>241|20=>20|37=>123|75=>203|127=>269|164=>281|46=>197|119=>221|139=>224|138=>223|146=>226|51=>225|80=>149|n=>n
 g:=fun x=>match x with|1=>0|3=>2|4=>3|n=>n
theorem Tryz.lays155:Lays.n155 Tryz.prog Tryz.ren155:=ly
def Tryz.ren174:Ren where
 f:=fun x=>match x with|174=>210|247=>233|245=>234|287=>253|279=>254|280=>255|281=>256|282=>257|321=>270|322=>271|316=>272|171=>274|205=>273|243=>285|246=>266|283=>279|284=>280|285=>281|286=>282|129=>288|317=>287|318=>289|319=>290|320=>291|337=>293|338=>294|n=>n
 t:=fun x=>match x with|9=>9|3=>3|2=>2|75=>203|85=>204|4=>4|167=>247|5=>5|53=>88|175=>248|46=>197|168=>250|37=>123|0=>0|210=>273|21=>21|127=>269|145=>286|143=>284|171=>276|173=>279|212=>288|51=>225|20=>20|213=>289|232=>292|233=>293|80=>149|n=>n
 g:=fun x=>match x with|15=>4|16=>1|17=>5|18=>6|19=>7|n=>n
theorem Tryz.lays174:LaysC.n174 Tryz.prog Tryz.ren174:=ly
def Tryz.ren173:Ren where
 f:=fun x=>match x with|173=>247|246=>266|283=>279|284=>280|285=>281|286=>282|129=>288|317=>287|318=>289|319=>290|320=>291|337=>293|338=>294|n=>n
 t:=fun x=>match x with|2=>2|3=>3|9=>9|4=>4|171=>276|0=>0|53=>88|37=>123|5=>5|173=>279|212=>288|51=>225|20=>20|213=>289|46=>197|232=>292|233=>293|n=>n
 g:=fun x=>match x with|17=>5|18=>6|19=>7|n=>n
theorem Tryz.lays173:LaysM.n173 Tryz.prog Tryz.ren173:=ly
def Tryz.ren264:Ren where
 f:=fun x=>match x with|264=>264|n=>n
 t:=fun x=>match x with|53=>88|46=>197|n=>n
 g:=fun x=>x
theorem Tryz.lays264:Lays.n264 Tryz.prog Tryz.ren264:=ly
def Tryz.ren106:Ren where
 f:=fun x=>match x with|106=>242|213=>263|265=>278|n=>n
 t:=fun x=>match x with|9=>9|3=>3|n=>n
 g:=fun x=>x
theorem Tryz.lays106:Lays.n106 Tryz.prog Tryz.ren106:=ly
def Tryz.ren137:Ren where
 f:=fun x=>match x with|137=>160|217=>185|266=>212|n=>n
 t:=fun x=>match x with|9=>9|5=>5|3=>3|n=>n
 g:=fun x=>x
theorem Tryz.lays137:Lays.n137 Tryz.prog Tryz.ren137:=ly

end Go.Proofs
namespace Go.SX.Nb
open Go Go.SX Go.Proofs Go.RowKit
variable [ErrAt]
set_option maxRecDepth 4000
theorem Qx {w:World} (h:Mk w):∃m,w.cell? ⟨0,0,none⟩=some (.int .i64 m):=by
 obtain ⟨_,a,m,t,f,rfl⟩:=h (0,fun o=>∃m t f,o=.cells #[.int .i64 m] t f) (by simp [GlobInv.blocks,dt])
 exact ⟨m,by simp [World.cell?,a]⟩
theorem Wf {w:World} (h:Mk w):w.cell? ⟨1,0,none⟩=some (.iface 284 (.pointer (some ErrAt.b))):=by
 obtain ⟨_,a,t,f,rfl⟩:=h (1,fun o=>∃t f,o=.cells #[.iface 284 (.pointer (some ErrAt.b))] t f) (by simp [GlobInv.blocks,dt])
 simp [World.cell?,a]
theorem AE1 {w:World} (h:Mk w):Lib.TabIs Tryz.prog w "internal/strconv.uint64pow10" .u64 Lib.pow10Tab:=by
 obtain ⟨_,a,t,f,rfl⟩:=h (5,fun o=>∃t f,o=.cells (Lib.pow10Tab.map fun z=>Value.int .u64 z).toArray t f) (by simp [GlobInv.blocks,dt])
 have hg:Tryz.prog.globalNamed "internal/strconv.uint64pow10" = some 5:=by kernel_rfl
 simp only at a
 simp [Lib.TabIs,World.var?,hg,a]
theorem md (w:World) (n:Nat):Below w.heap.size w (w.drewN n):=⟨rfl,rfl,rfl,Aj _,fun _ _=>rfl⟩
theorem zg (s t:Str) (hs:s.length<4294967281) (Hp:List AObj):AFun Tryz.prog 153 [Af s,Af t] Hp (B4 (Lib.contains s t)):=by
 refine N4 (xs:=[sv s,sv t]) (v:=.bool (Lib.contains s t)) (fun G w=>.v _ _) (fun w hg=>?_)
 obtain ⟨m,hm⟩:=Qx hg
 refine (Any.strings_Contains Tryz.lays144 ⟨s.toArray⟩ ⟨t.toArray⟩ m w (by simpa [ByteArray.size] using hs) hm).mono ?_
 rintro e w' ⟨rfl,rfl⟩
 exact zb
theorem AR2 (s t:Str) (hs:s.length<4294967281) (Hp:List AObj):AFun Tryz.prog 116 [Af s,Af t] Hp (.tup [Af (Lib.cut s t).1,Af (Lib.cut s t).2.1,B4 (Lib.cut s t).2.2]):=by
 refine N4 (xs:=[sv s,sv t]) (v:=.tuple #[sv (Lib.cut s t).1,sv (Lib.cut s t).2.1,.bool (Lib.cut s t).2.2]) (fun G w=>Ob rfl (fun i y u hy hu=>?_)) (fun w hg=>?_)
 ·match i with
  | 0=>simp at hy hu;subst hy;subst hu;exact .v _ _
  | 1=>simp at hy hu;subst hy;subst hu;exact .v _ _
  | 2=>simp at hy hu;subst hy;subst hu;exact .v _ _
  | i+3=>simp at hy
 obtain ⟨m,hm⟩:=Qx hg
 refine (Any.strings_Cut Tryz.lays145 ⟨s.toArray⟩ ⟨t.toArray⟩ m w (by simpa [ByteArray.size] using hs) hm).mono ?_
 rintro e w' ⟨rfl,n,rfl⟩
 exact ⟨rfl,md _ _⟩
theorem ASr (s t:Str) (ht:t.length<4294967281) (ha:∀c∈t,c.toNat<128) (Hp:List AObj):AFun Tryz.prog 157 [Af s,Af t] Hp (Af (Lib.trimLeftS s t)):=by
 refine N4 (xs:=[sv s,sv t]) (v:=sv (Lib.trimLeftS s t)) (fun G w=>.v _ _) (fun w hg=>?_)
 refine (Any.strings_TrimLeft_laid Tryz.lays161 (by kernel_rfl) ⟨s.toArray⟩ ⟨t.toArray⟩ w (by simpa [ByteArray.size] using ht) (fun j b hj=>ha b (B3 hj))).mono ?_
 rintro e w' ⟨rfl,hb⟩
 exact ⟨rfl,hb⟩
/-- The pieces of a split. -/
def Px (s t:Str):List Str:=(Lib.splitB ⟨t.toArray⟩ 0 (Lib.countB ⟨s.toArray⟩ ⟨t.toArray⟩) ⟨s.toArray⟩).map (·.data.toList)
theorem c90 (s t:Str) (hs:s.length<4294967281) (ht:1≤t.length) (Hp:List AObj):AFun Tryz.prog 90 [Af s,Af t] Hp (Gg (Px s t)):=by
 have:=AFun.libSlice (P:=Tryz.prog) (g:=90) (Hp:=Hp) (xs:=[sv s,sv t]) (ys:=(Px s t).map sv) (t:=9) (by intro y hy;obtain ⟨z,_,rfl⟩:=D6.1 hy;rfl) (fun w hg=>by
  obtain ⟨m,hm⟩:=Qx hg
  refine (Any.strings_Split Tryz.lays146 (by kernel_rfl) ⟨s.toArray⟩ ⟨t.toArray⟩ m w (by simpa [ByteArray.size] using hs) hm (by simpa [ByteArray.size] using ht)).mono ?_
  rintro e w' ⟨rfl,rfl⟩
  have hl:((Px s t).map sv).length=Lib.countB ⟨s.toArray⟩ ⟨t.toArray⟩+1:=by
   rw [Am]
   unfold Px
   rw [Am]
   exact Lib.splitB_all _ (by simpa [ByteArray.size] using ht) _ _ _ rfl
  refine ⟨by rw [hl],?_⟩
  unfold Px
  rw [Io]
  rfl)
 rw [Io] at this
 exact this
end Go.SX.Nb
namespace Go.Proofs
open Go Go.RowKit Go.Extern.Stop Go.Stop Go.Extern
theorem Tryz.isTypeOf (v:Value) (w:World):(Extern.ReflectliteType.typeOf #[.iface 284 v]).run Tryz.prog w=.ok (.iface 254 (.agg #[.pointer (some ⟨8,284,none⟩)])) w:=by kernel_rfl
def Tryz.cmpOf:Array Value→Sem Value:=Extern.ReflectliteType.method fun t=>do Extern.Rtype.noPackHeld "Comparable" t;pure (.bool (←typeInfo t).comparable)
theorem Tryz.isComparable (w:World):(Tryz.cmpOf #[.agg #[.pointer (some ⟨8,284,none⟩)]]).run Tryz.prog w=.ok (.bool true) w:=by kernel_rfl
theorem Tryz.isMethodComparable (v:Value) (w:World):(Go.method 426 254 v "Comparable").run Tryz.prog w=.ok (323,v) w:=by kernel_rfl
theorem Tryz.isComp:(Tryz.prog.info? 284).map (·.comparable)=some true:=by kernel_rfl
theorem Tryz.isSize:(Tryz.prog.info? 286).map (·.size)=some 1:=by kernel_rfl
theorem Tryz.noIsW (v:Value) (xT:TypeId) (w:World):(Instr.typeAssert (.iface 250 v) xT 256 true).run Tryz.prog w=.ok (.tuple #[.nilIface,.bool false]) w:=run_typeAssert_lacksB Tryz.underlying256 (by kernel_rfl) (by kernel_rfl) v xT w
theorem Tryz.hasUnwrapW (v:Value) (xT:TypeId) (w:World):(Instr.typeAssert (.iface 250 v) xT 259 true).run Tryz.prog w=.ok (.tuple #[.iface 250 v,.bool true]) w:=run_typeAssert_hasB Tryz.underlying259 (by kernel_rfl) v xT w
theorem Tryz.methodUnwrap (v:Value) (w:World):(Go.method 426 250 v "Unwrap").run Tryz.prog w=.ok (319,v) w:=by kernel_rfl
namespace Tryz
theorem is_nil (b:Addr) (w:World):
  Calls Tryz.prog 211 #[.nilIface,.iface 284 (.pointer (some b))] w fun e w'=>e=.returned (.bool false)∧w'=w:=by
 have hn:=run_eql_iface_nil_left (P:=Tryz.prog) w 284 (.pointer (some b)) Tryz.underlying203
 go_enter Tryz.func211,Tryz.ntmps211
 go_wp2
 go_ret
 exact ⟨rfl,rfl⟩
set_option maxRecDepth 100000 in
theorem is_range (pb po:Nat) (b:Addr) (w:World) (h1:w.cell? ⟨pb,po+2,none⟩=some (.iface 284 (.pointer (some b)))):
  Calls Tryz.prog 211 #[.iface 250 (.pointer (some ⟨pb,po,none⟩)),.iface 284 (.pointer (some b))] w fun e w'=>e=.returned (.bool true)∧w'=w:=by
 obtain ⟨i,hi,hcmp⟩:=Option.map_eq_some_iff.1 Tryz.isComp
 obtain ⟨j,hj,hjs⟩:=Option.map_eq_some_iff.1 Tryz.isSize
 have h8:=@run_callFunc_extern Tryz.prog 235 _ Extern.ReflectliteType.typeOf Tryz.func235 (by kernel_rfl) (by kernel_rfl) (by kernel_rfl) (by kernel_rfl)
 have h32:=@run_callFunc_extern Tryz.prog 323 _ Tryz.cmpOf Tryz.func323 (by kernel_rfl) (by kernel_rfl) (by kernel_rfl) (by kernel_rfl)
 have tT:=Tryz.isTypeOf
 have cT:=Tryz.isComparable
 have mR:=Tryz.isMethodComparable
 have nW:=Tryz.noIsW
 have uW:=Tryz.hasUnwrapW
 have mU:=Tryz.methodUnwrap
 have heq:=run_eql_iface_ptr_same (P:=Tryz.prog) w b Tryz.underlying203 Tryz.underlying284 hi hcmp hj
 have hty:=run_eql_iface_types (P:=Tryz.prog) 250 284 (.pointer (some ⟨pb,po,none⟩)) (.pointer (some b)) Tryz.underlying203 (by decide) w
 go_enter Tryz.func211,Tryz.ntmps211
 go_wp2
 refine wp_loop_rounds 2 ?_
 rw [rounds_succ]
 go_wp2
 rw [rounds_succ]
 go_wp2
 go_ret
 exact ⟨rfl,rfl⟩
end Tryz
end Go.Proofs
namespace Go.SX.Nb
open Go Go.SX Go.Proofs Go.RowKit Go.Sort
variable [ErrAt]
set_option maxRecDepth 4000
theorem ASs (s t:Str) (Hp:List AObj):AFun Tryz.prog 180 [Af s,Af t] Hp (B4 (Lib.hasPrefix s t)):=by
 refine N4 (xs:=[sv s,sv t]) (v:=.bool (Lib.hasPrefix s t)) (fun G w=>.v _ _) (fun w hg=>?_)
 refine (Any.strings_HasPrefix Tryz.lays99 ⟨s.toArray⟩ ⟨t.toArray⟩ w).mono ?_
 rintro e w' ⟨rfl,rfl⟩
 exact zb
theorem ASt (s t:Str) (hs:s.length≤9223372036854775807) (Hp:List AObj):AFun Tryz.prog 181 [Af s,Af t] Hp (B4 (Lib.hasSuffix s t)):=by
 refine N4 (xs:=[sv s,sv t]) (v:=.bool (Lib.hasSuffix s t)) (fun G w=>.v _ _) (fun w hg=>?_)
 refine (Any.strings_HasSuffix Tryz.lays100 ⟨s.toArray⟩ ⟨t.toArray⟩ w (by simpa [ByteArray.size] using hs)).mono ?_
 rintro e w' ⟨rfl,rfl⟩
 exact zb
theorem ASu (s:Str) (c:UInt8) (Hp:List AObj):AFun Tryz.prog 160 [Af s,.v (.int .u8 (c.toNat:Int))] Hp (A5 (Lib.indexByte s c)):=by
 refine N4 (xs:=[sv s,.int .u8 (c.toNat:Int)]) (v:=.int .i64 (Lib.indexByte s c)) (fun G w=>.v _ _) (fun w hg=>?_)
 refine (Any.strings_IndexByte Tryz.lays137 ⟨s.toArray⟩ (c.toNat:Int) w).mono ?_
 rintro e w' ⟨rfl,rfl⟩
 exact ⟨by simp,Below.refl _ _⟩
theorem ASv:Builder.Extra Tryz.prog Tryz.ren155:={ sizeBuilder:=by kernel_rfl,liesBuilder:=by kernel_rfl,t5:=Tryz.underlying5,a5:=Tryz.isAgg5,z5:=Tryz.sizeOf5,v5:=Tryz.zeroValue5,infoByte:=by kernel_rfl,cellsByte:=by kernel_rfl,sizeByte:=by kernel_rfl,neB5:=by decide }
theorem AR3 (s o n:Str) (hs:s.length<4294967281) (ho:1≤o.length) (hl:s.length+Lib.countB ⟨s.toArray⟩ ⟨o.toArray⟩*n.length≤140737488355328) (Hp:List AObj):AFun Tryz.prog 205 [Af s,Af o,Af n] Hp (Af (Lib.replaceAll s o n)):=by
 refine N4 (xs:=[sv s,sv o,sv n]) (v:=sv (Lib.replaceAll s o n)) (fun G w=>.v _ _) (fun w hg=>?_)
 obtain ⟨m,hm⟩:=Qx hg
 refine (Any.strings_ReplaceAll Tryz.lays155 ASv ⟨s.toArray⟩ ⟨o.toArray⟩ ⟨n.toArray⟩ m w (by simpa [ByteArray.size] using hs) hm (by simpa [ByteArray.size] using ho) (by simpa [ByteArray.size] using hl)).mono ?_
 rintro e w' ⟨rfl,hb⟩
 exact ⟨rfl,hb⟩
theorem s7 (w:World) (k:Nat) (os:Array Obj):Below w.heap.size w (grow (w.drewN k) os):=by
 refine ⟨rfl,rfl,rfl,by simp [grow],fun b hb=>?_⟩
 show ((w.drewN k).heap++os)[b]? = w.heap[b]?
 rw [M6 (by exact hb)]
 rfl
theorem ASw (n:Int) (h0 : -9223372036854775808≤n) (h1:n≤9223372036854775807) (Hp:List AObj):AFun Tryz.prog 247 [.v (.int .i64 n),A5 10] Hp (Af (Lib.itoa n)):=by
 refine N4 (xs:=[.int .i64 n,.int .i64 10]) (v:=sv (Lib.itoa n)) (fun G w=>.v _ _) (fun w hg=>?_)
 refine (Any.strconv_FormatInt_10 Tryz.lays173 n h0 h1 w (AE1 hg)).mono ?_
 rintro e w' ⟨rfl,k,os,rfl⟩
 exact ⟨rfl,s7 _ _ _⟩
end Go.SX.Nb
namespace Go.SX.Nb
open Go Go.SX Go.Proofs Go.RowKit
variable [ErrAt]
set_option maxRecDepth 4000
def digs:Str:=[48,49,50,51,52,53,54,55,56,57]
def Np (s:Str):Str:=Lib.trimPrefix s [45]
def I0 (s:Str):Bool:=(Np s==[]) || !(Lib.trimS (Np s) digs==[]) || (((Np s).headD 0==48)&&decide (1<s.length))
def Bv (s:Str):Int×Int:=if I0 s then (0,6) else match Lib.parseIntB 64 s with|.ok v=>(v,0)|.range=>(0,4)|_=>(0,0)
def AHv {α:Type}:Lib.NumEnd α→Bool|.ok _=>false|.range=>false|_=>true
theorem AE2 {p:UInt8→Bool}:∀{l:Str},l.dropWhile p=[]↔∀b∈l,p b=true
 | []=>by simp
 | b::r=>by
  rw [Ut]
  by_cases h:p b=true
  ·rw [if_pos h,AE2]
   simp [h]
  rw [if_neg h]
  simp [h]
theorem AE3 {p:UInt8→Bool}:∀{l:Str} {b:UInt8},b∈l→p b=false→b∈l.dropWhile p
 | x::r,b,h,hb=>by
  rw [Ut]
  by_cases hx:p x=true
  ·rw [if_pos hx]
   rcases Bu.1 h with rfl|h
   ·rw [hb] at hx;cases hx
   exact AE3 h hb
  rw [if_neg hx];exact h
theorem trimS_nil {l cs:Str}:Lib.trimS l cs=[]↔∀b∈l,cs.contains b=true:=by
 unfold Lib.trimS Lib.trimLeftS Lib.trimRightS
 rw [AE2]
 constructor
 ·intro h b hb
  cases hc:cs.contains b with
  | true=>rfl
  | false =>
   have:=h b (Xl.2 (AE3 (p:=(cs.contains ·)) (Xl.2 hb) hc))
   rw [hc] at this;exact this
 intro h b hb
 exact h b (Xl.1 ((qd (cs.contains ·)).subset (Xl.1 hb)))
theorem Ng (c:UInt8):digs.contains c=(decide (48≤c.toNat)&&decide (c.toNat≤57)):=by
 have h:((List.range 256).all fun n=>digs.contains (UInt8.ofNat n)==(decide (48≤(UInt8.ofNat n).toNat)&&decide ((UInt8.ofNat n).toNat≤57)))=true:=by kernel_rfl
 have:=B5.1 h c.toNat (Qm.2 c.toNat_lt)
 simpa using this
theorem du (M:Nat):∀(l:Str) (acc:Nat),(∀b∈l,digs.contains b=true)→AHv (Lib.parseUintM M acc l)=false
 | [],acc,_=>by rw [Lib.parseUintM];rfl
 | c::r,acc,h=>by
  have hc:=h c (by simp)
  rw [Ng] at hc
  simp only [As,decide_eq_true_eq] at hc
  rw [Lib.parseUintM,if_pos hc]
  split
  ·rfl
  split
  ·rfl
  exact du M r _ (fun b hb=>h b (by simp [hb]))
theorem Ku (s:Str):(s.head? ≠ some 45∧Np s=s)∨∃r,s=45::r∧Np s=r:=by
 unfold Np Lib.trimPrefix Lib.hasPrefix
 cases s with
 | nil=>exact .inl ⟨by simp,rfl⟩
 | cons c r =>
  by_cases hc:c=45
  ·subst hc;exact .inr ⟨r,rfl,by simp [List.isPrefixOf]⟩
  refine .inl ⟨by simpa using hc,?_⟩
  rw [if_neg]
  simp [List.isPrefixOf,Ne.symm hc]
theorem Py {s:Str} (h:I0 s=false):AHv (Lib.parseIntB 64 s)=false:=by
 unfold I0 at h
 simp only [Cq,Jw,beq_iff_eq,beq_eq_false_iff_ne] at h
 obtain ⟨⟨h1,h2⟩,_⟩:=h
 rw [trimS_nil] at h2
 have key:∀l:Str,l≠[]→(∀b∈l,digs.contains b=true)→AHv (Lib.parseUintB 64 l)=false:=fun l hl ha=>by
  unfold Lib.parseUintB
  rw [if_neg hl]
  exact du _ l 0 ha
 rcases Ku s with ⟨h3,h4⟩|⟨r,rfl,h4⟩
 ·rw [h4] at h1 h2
  cases s with
  | nil=>exact absurd rfl h1
  | cons c r =>
   have hcd:=h2 c (by simp)
   rw [Ng] at hcd
   simp only [As,decide_eq_true_eq] at hcd
   have e1:¬(c.toNat=43∨c.toNat=45):=by omega
   have:=key (c::r) (by simp) h2
   simp only [Lib.parseIntB,if_neg e1]
   revert this
   cases Lib.parseUintB 64 (c::r) with
   | range=>intro _;rfl
   | ok u=>intro _;simp only;split<;>(try split)<;>rfl
   | _=>intro h;cases h
 rw [h4] at h1 h2
 have:=key r h1 h2
 have e1:((45:UInt8).toNat=43∨(45:UInt8).toNat=45):=.inr rfl
 simp only [Lib.parseIntB,if_pos e1]
 revert this
 cases Lib.parseUintB 64 r with
 | range=>intro _;rfl
 | ok u=>intro _;simp only;split<;>(try split)<;>rfl
 | _=>intro h;cases h
end Go.SX.Nb
namespace Go.SX.Nb
open Go Go.SX Go.Proofs
variable [ErrAt]
set_option maxRecDepth 4000
def I5 (c:UInt8):Bool:=decide ((97:Int)≤c.toNat)&&decide ((c.toNat:Int)≤122)
def V6 (c:UInt8):Bool:=decide ((48:Int)≤c.toNat)&&decide ((c.toNat:Int)≤57)
theorem c79 (c:UInt8) (Hp:List AObj):AFun Tryz.prog 79 [.v (.int .u8 (c.toNat:Int))] Hp (.v (.bool (I5 c))):=by
 refine Ah [.tmp 2] [0] Tryz.func79 Tryz.ntmps79 (fun d=>?_)
 refine Z49 ?_;refine lu ?_;exact mb

theorem c81 (c:UInt8) (Hp:List AObj):AFun Tryz.prog 81 [.v (.int .u8 (c.toNat:Int))] Hp (.v (.bool (V6 c))):=by
 refine Ah [.tmp 2] [0] Tryz.func81 Tryz.ntmps81 (fun d=>?_)
 refine Z49 ?_;refine lu ?_;exact mb

def words:List Str:=[[97,100,100],[100,114,111,112],[114,101,110,97,109,101],[115,112,108,105,116],[109,101,114,103,101],[114,101,116,121,112,101],[105,110,116,111],[116,111],[98,97,99,107],[97,110,100],[111,114],[110,111,116],[116,114,117,101],[102,97,108,115,101],[110,117,108,108],[105,110,116],[116,101,120,116],[98,111,111,108],[115,101,108,101,99,116],[119,104,101,114,101],[102,114,111,109],[108,105,109,105,116]]
def K4 (s:Str):Bool:=words.any (·==s)
theorem dv:words.length=22:=rfl
theorem AE4 {α:Type} {p:α→Bool} {l:List α} {i:Nat} (h:i<l.length) (hp:p l[i]=true):l.any p=true:=by
 rw [Jx];exact ⟨l[i],Av h,hp⟩
theorem me {α:Type} {p:α→Bool} {l:List α} (h:∀(j:Nat) (y:α),l[j]? = some y→p y=false):l.any p=false:=by
 rw [M8]
 intro x hx
 obtain ⟨j,hj⟩:=Cf hx
 simp [h j x hj]
theorem C1 {α:Type} {l:List α} {x:Nat} {p:α→Prop} (hlt:x<l.length) (h:∀(j:Nat) (y:α),j<x→l[j]? = some y→p y) (hx:p l[x]):∀(j:Nat) (y:α),j<x+1→l[j]? = some y→p y:=by
 intro j y hj hy
 rcases Be j x with h'|h'
 ·exact h j y h' hy
 have:j=x:=by omega
 subst this
 rw [Aa hlt] at hy
 injection hy with hy
 subst hy
 exact hx
theorem Ml {α:Type} {l:List α} {x:Nat} {p:α→Prop} (hge:l.length≤x) (h:∀(j:Nat) (y:α),j<x→l[j]? = some y→p y):∀(j:Nat) (y:α),l[j]? = some y→p y:=
 fun j y hy=>h j y (by have:=(Ad.1 hy).1;omega) hy
theorem c80 (s:Str) (Hp:List AObj):AFun Tryz.prog 80 [Af s] Hp (B4 (K4 s)):=by
 refine Ah [.tmp 2] [0] Tryz.func80 Tryz.ntmps80 (fun d=>?_)
 refine Z49 ?_;refine lr ?_;refine Oj ?_;refine Z29 ?_;refine A2 [0,3,4] ?_
 refine Az (α:=Nat) (fun x=>⟨18,A6 0 (Af s) (A6 3 (.slice true 1 (words.map Af)) (A6 4 (A5 (x:Nat)) (fun _=>.any))),Hp,[],[],none⟩) (fun x=>x≤words.length∧∀(j:Nat) (y:Str),j<x→words[j]? = some y→(y==s)=false) (fun x=>words.length-x) (0) (by simp) (F6 _) rfl (fun x hx=>?_)
 refine Z50 ?_;refine A2 [0,3,4,9] ?_
 refine A3 (fun ht9=>?_) (fun ht9=>?_)
 ·have hlt:x<words.length:=by simpa using ht9
  have hwl:=dv
  refine Se ?_
  refine A4 (h:=Ac (x) (Af words[x]) (fun _=>Aw hlt)) (hr:=?_)
  refine Z10 ?_;refine A2 [0,3,4,17] ?_
  refine A3 (fun ht17=>?_) (fun ht17=>?_)
  ·refine cm ?_;exact A8 (Ae A7) ⟨by rw [show K4 s=true from AE4 hlt ht17],rfl⟩
  refine Z71 ?_;refine A2 [0,3,4] ?_;exact Ay (x+1) ⟨hlt,C1 hlt hx.2 ht17⟩ (by have:=dv;omega) (Bh rfl)
 refine m9 ?_;exact A8 (Ae A7) ⟨by rw [show K4 s=false from me (Ml (by simp at ht9;omega) hx.2)],rfl⟩

def Nq (c:UInt8):Bool:=I5 c || V6 c || c==95
def Nr (s:Str):Bool:=match s with
 | []=>false
 | c::_=>decide (s.length≤16)&&I5 c && !K4 s&&s.all Nq
theorem AE5 {α:Type} {p:α→Bool} {l:List α} {i:Nat} (h:i<l.length) (hp:p l[i]=false):l.all p=false:=by
 rw [Rv];exact ⟨l[i],Av h,by simp [hp]⟩
theorem AMh {α:Type} {p:α→Bool} {l:List α} (h:∀(j:Nat) (y:α),l[j]? = some y→p y=true):l.all p=true:=by
 rw [B5]
 intro x hx
 obtain ⟨j,hj⟩:=Cf hx
 exact h j x hj
theorem nn {s:Str} {b:Bool} (h:((((s.length:Int)==0) || b)==false)=true):s≠[]:=by rintro rfl;simp at h
theorem M1 {s:Str} (h:s≠[]):s[0]? = some (s.headD 0):=by cases s with
 | nil=>exact absurd rfl h
 | cons c r=>rfl
theorem Yx (s:Str):Nr s=(!((s.length:Int)==0 || decide ((16:Int)<s.length) || !I5 (s.headD 0) || K4 s)&&s.all Nq):=by
 cases s with
 | nil=>rfl
 | cons c r =>
  have h1:(((c::r).length:Int)==0)=false:=by simp;omega
  have h2:decide ((c::r).length≤16) = !decide ((16:Int)<(c::r).length):=by
   by_cases h:(c::r).length≤16
   ·have:¬((16:Int)<(c::r).length):=by omega
    simp only [h,this,decide_true,decide_false,D3]
   have:((16:Int)<(c::r).length):=by omega
   simp only [h,this,decide_true,decide_false,C8]
  simp only [Nr,h1,h2,List.headD_cons,Bool.not_or,Bool.not_not,C7]
theorem AHw {c:UInt8} (h:((!I5 c && !V6 c)&&((c.toNat:Int) != 95))=false):Nq c=true:=by
 unfold Nq
 have e:((c.toNat:Int) != 95) = !(c==95):=by
  by_cases hc:c=95
  ·subst hc;rfl
  have:c.toNat≠95:=fun h=>hc (Lo.1 h)
  have:(c.toNat:Int)≠95:=by omega
  rw [bne_iff_ne.2 this,beq_eq_false_iff_ne.2 hc];rfl
 rw [e] at h
 revert h
 cases I5 c<;>cases V6 c<;>cases (c==95)<;>simp
theorem AHx {c:UInt8} (h:((!I5 c && !V6 c)&&((c.toNat:Int) != 95))=true):Nq c=false:=by
 unfold Nq
 have e:((c.toNat:Int) != 95) = !(c==95):=by
  by_cases hc:c=95
  ·subst hc;rfl
  have:c.toNat≠95:=fun h=>hc (Lo.1 h)
  have:(c.toNat:Int)≠95:=by omega
  rw [bne_iff_ne.2 this,beq_eq_false_iff_ne.2 hc];rfl
 rw [e] at h
 revert h
 cases I5 c<;>cases V6 c<;>cases (c==95)<;>simp
theorem c51 (s:Str) (hs:s.length≤1048576) (Hp:List AObj):AFun Tryz.prog 51 [Af s] Hp (B4 (Nr s)):=by
 refine Ah [.tmp 2] [0] Tryz.func51 Tryz.ntmps51 (fun d=>?_)
 refine Z49 ?_;refine Z50 ?_;refine Z94 ?_;refine Bd ?_
 refine Bd (h:=Fq 0 (s.headD 0) (fun hB=>M1 (nn hB))) (hr:=?_)
 refine Bm Tryz.call79 (fun hB=>c79 (s.headD 0) _) ?_;refine Bd ?_;refine Sf ?_;refine Bm Tryz.call80 (fun hB=>c80 s _) ?_;refine A4 ?_;refine A2 [0,21] ?_
 refine A3 (fun ht21=>?_) (fun ht21=>?_)
 ·refine Z28 ?_;refine F8 ?_;exact A8 (Ae A7) ⟨by rw [Yx,ht21];rfl,rfl⟩
 refine yt ?_
 refine Az (α:=Nat) (fun x=>⟨46,A6 0 (Af s) (A6 3 (A5 (x:Nat)) (fun _=>.any)),Hp,[],[],none⟩) (fun x=>x≤s.length∧∀(j:Nat) (y:UInt8),j<x→s[j]? = some y→Nq y=true) (fun x=>s.length-x) (0) (by simp) (F6 _) rfl (fun x hx=>?_)
 refine Z50 ?_;refine A2 [0,3,25] ?_
 refine A3 (fun ht25=>?_) (fun ht25=>?_)
 ·have hlt:x<s.length:=by simpa using ht25
  refine Se ?_
  refine A4 (h:=Fq x s[x] (fun _=>Aa hlt)) (hr:=?_)
  refine A9 Tryz.call79 (c79 s[x] _) ?_;refine Z44 ?_
  refine Bd (h:=Fq x s[x] (fun _=>Aa hlt)) (hr:=?_)
  refine Bm Tryz.call81 (fun hB=>c81 s[x] _) ?_;refine Bd ?_;refine Z44 ?_
  refine Bd (h:=Fq x s[x] (fun _=>Aa hlt)) (hr:=?_)
  refine Z93 ?_;refine A2 [0,3,45] ?_
  refine A3 (fun ht45=>?_) (fun ht45=>?_)
  ·refine cm ?_;exact A8 (Ae A7) ⟨by rw [Yx,ht21,AE5 hlt (AHx ht45)];rfl,rfl⟩
  refine re ?_;exact Ay (x+1) ⟨hlt,C1 hlt hx.2 (AHw ht45)⟩ (by omega) (Bh rfl)
 refine m9 ?_;exact A8 (Ae A7) ⟨by rw [Yx,ht21,AMh (Ml (by simp at ht25;omega) hx.2)];rfl,rfl⟩

def Bn (nm:Str) (c:List Col):Int:=match c.findIdx? (fun y=>y.name==nm) with|some i=>i|none => -1
theorem Yy {nm:List UInt8} {c:List Col} {x:Nat} (h:x<c.length) (h1:c[x].name=nm) (h2:∀(j:Nat) (y:Col),j<x→c[j]? = some y→¬(y.name=nm)):Bn nm c=x:=by
 have:c.findIdx? (fun y=>y.name==nm)=some x:=by
  rw [Jy]
  exact ⟨h,by simpa using h1,fun j hj=>by simpa using h2 j c[j] hj (Aa _)⟩
 simp [Bn,this]
theorem s8 {nm:List UInt8} {c:List Col} (h:∀(j:Nat) (y:Col),c[j]? = some y→¬(y.name=nm)):Bn nm c = -1:=by
 have:c.findIdx? (fun y=>y.name==nm)=none:=by
  rw [Rw]
  intro y hy
  obtain ⟨j,hj⟩:=Cf hy
  simpa using h j y hj
 simp [Bn,this]
structure OkCols (c:List Col):Prop where
 len:c.length≤1048576
 names:∀y∈c,y.name.length≤1048576
theorem c33 (c:List Col) (hc:OkCols c) (nm:Str) (Hp:List AObj):AFun Tryz.prog 33 [An c,Af nm] Hp (A5 (Bn nm c)):=by
 refine Ah [.tmp 4] [0,1] Tryz.func33 Tryz.ntmps33 (fun d=>?_)
 refine Z61 ?_;refine Z29 ?_;refine Yu ?_
 refine Az (α:=Nat) (fun x=>⟨20,A6 0 (An c) (A6 1 (Af nm) (A6 5 (A5 (x:Nat)) (fun _=>.any))),Hp,[],[],none⟩) (fun x=>x≤c.length∧∀(j:Nat) (y:Col),j<x→c[j]? = some y→¬(y.name=nm)) (fun x=>c.length-x) (0) (by simp) (F6 _) rfl (fun x hx=>?_)
 refine Z50 ?_;refine A2 [0,1,5,9] ?_
 refine A3 (fun ht9=>?_) (fun ht9=>?_)
 ·have hlt:x<c.length:=by simpa using ht9
  have hcl:=hc.len
  refine Se ?_
  refine A4 (h:=Ac (x) (Bj c[x]) (fun _=>Aw hlt)) (hr:=?_)
  refine Z70 ?_;refine A2 [0,1,5,18] ?_
  refine A3 (fun ht18=>?_) (fun ht18=>?_)
  ·refine yz ?_;refine Tp ?_;exact A8 (Ae A7) ⟨by rw [Yy hlt (by simpa using ht18) hx.2],rfl⟩
  refine Z71 ?_;refine Yu ?_;exact Ay (x+1) ⟨hlt,C1 hlt hx.2 (by simpa using ht18)⟩ (by omega) (Bh rfl)
 refine Xc ?_;exact AOk

def Tu (c:List Col) (x:Nat) (y:Col):Bool := !(((!Nr y.name || decide (y.kind<1)) || decide ((3:Int)<y.kind)) || (Bn y.name c != (x:Int)))
def H5 (c:List Col):Bool:=c.zipIdx.all fun x=>Tu c x.2 x.1
theorem colsM_true {c:List Col}:H5 c=true↔∀(j:Nat) (y:Col),c[j]? = some y→Tu c j y=true:=by
 unfold H5
 rw [B5]
 constructor
 ·intro h j y hj
  exact AQ8
 rintro h ⟨y,j⟩ hx
 rw [Mz] at hx
 exact h j y hx
theorem I1 {α:Type} {l:List α} {x:Nat} {p:Nat→α→Prop} (hlt:x<l.length) (h:∀(j:Nat) (y:α),j<x→l[j]? = some y→p j y) (hx:p x l[x]):∀(j:Nat) (y:α),j<x+1→l[j]? = some y→p j y:=by
 intro j y hj hy
 rcases Be j x with h'|h'
 ·exact h j y h' hy
 have:j=x:=by omega
 subst this
 rw [Aa hlt] at hy
 injection hy with hy
 subst hy
 exact hx
theorem J5 {α:Type} {l:List α} {x:Nat} {p:Nat→α→Prop} (hge:l.length≤x) (h:∀(j:Nat) (y:α),j<x→l[j]? = some y→p j y):∀(j:Nat) (y:α),l[j]? = some y→p j y:=
 fun j y hy=>h j y (by have:=(Ad.1 hy).1;omega) hy
theorem c30 (c:List Col) (hc:OkCols c) (Hp:List AObj):AFun Tryz.prog 30 [An c] Hp (B4 (H5 c)):=by
 refine Ah [.tmp 2] [0] Tryz.func30 Tryz.ntmps30 (fun d=>?_)
 refine rr ?_;refine Oj ?_
 refine Az (α:=Nat) (fun x=>⟨44,A6 0 (An c) (A6 3 (A5 (x:Nat)) (fun _=>.any)),Hp,[],[],none⟩) (fun x=>x≤c.length∧∀(j:Nat) (y:Col),j<x→c[j]? = some y→Tu c j y=true) (fun x=>c.length-x) (0) (by simp) (F6 _) rfl (fun x hx=>?_)
 refine Z50 ?_;refine A2 [0,3,7] ?_
 refine A3 (fun ht7=>?_) (fun ht7=>?_)
 ·have hlt:x<c.length:=by simpa using ht7
  have hcl:=hc.len
  refine Se ?_
  refine A4 (h:=Ac (x) (Bj c[x]) (fun _=>Aw hlt)) (hr:=?_)
  refine Z0 ?_;refine A9 Tryz.call51 (c51 c[x].name (hc.names _ (Av hlt)) _) ?_;refine Z44 ?_
  refine Bd (h:=Ac (x) (Bj c[x]) (fun _=>Aw hlt)) (hr:=?_)
  refine Xb ?_
  refine Bd (h:=Ac (x) (Bj c[x]) (fun _=>Aw hlt)) (hr:=?_)
  refine Z94 ?_;refine Z38 ?_
  refine Bd (h:=Ac (x) (Bj c[x]) (fun _=>Aw hlt)) (hr:=?_)
  refine Z7 ?_;refine Bm Tryz.call33 (fun hB=>c33 c hc c[x].name _) ?_;refine Z97 ?_;refine A2 [0,3,43] ?_
  refine A3 (fun ht43=>?_) (fun ht43=>?_)
  ·refine cm ?_
   exact A8 (Ae A7) ⟨by rw [show H5 c=false from Ic.2 fun h=>by have:=colsM_true.1 h x c[x] (Aa hlt);unfold Tu at this;rw [ht43] at this;cases this],rfl⟩
  refine re ?_;exact Ay (x+1) ⟨hlt,I1 hlt hx.2 (by unfold Tu;rw [ht43];rfl)⟩ (by omega) (Bh rfl)
 refine m9 ?_;exact A8 (Ae A7) ⟨by rw [colsM_true.2 (J5 (by simp at ht7;omega) hx.2)],rfl⟩

def D8 (c:List Col):Bool:=decide ((c.length:Int)≤12)&&H5 c
theorem c27 (c:List Col) (hc:OkCols c) (Hp:List AObj):AFun Tryz.prog 27 [An c] Hp (B4 (D8 c)):=by
 refine Ah [.tmp 2] [0] Tryz.func27 Tryz.ntmps27 (fun d=>?_)
 refine Z49 ?_;refine rp ?_;refine Bm Tryz.call30 (fun hB=>c30 c hc _) ?_;refine Z53 ?_;exact A8 (Ae A7) ⟨by unfold D8;simp,rfl⟩

def Cg (v:Val):Bool:=if v.kind==0 then v.n==0&&v.s==[] else if v.kind==1 then v.s==[] else if v.kind==2 then v.n==0&&decide ((v.s.length:Int)≤200) else v.kind==3&&v.s==[]&&decide (0≤v.n)&&decide (v.n≤1)
theorem c31 (v:Val) (Hp:List AObj):AFun Tryz.prog 31 [Bi v] Hp (B4 (Cg v)):=by
 refine Ah [.tmp 2] [0] Tryz.func31 Tryz.ntmps31 (fun d=>?_)
 refine ri ?_;refine A4 ?_;refine A2 [1] ?_;refine Z33 ?_;refine A2 [1,5] ?_
 refine A3 (fun ht5=>?_) (fun ht5=>?_)
 ·refine Z25 ?_;refine Z38 ?_;refine Z53 ?_;refine F8 ?_;exact AQ9
 refine Nn ?_;refine A2 [1,16] ?_
 refine A3 (fun ht16=>?_) (fun ht16=>?_)
 ·refine Z25 ?_;refine Z3 ?_;refine F8 ?_;exact A8 (Ae A7) ⟨by simp [Cg,ht5,ht16],rfl⟩
 refine Nn ?_;refine A2 [1,22] ?_
 refine A3 (fun ht22=>?_) (fun ht22=>?_)
 ·refine Z25 ?_;refine Z7 ?_;refine ll ?_;refine F8 ?_;exact AQa
 refine Yt ?_;refine Z94 ?_;refine Z94 ?_;refine Z38 ?_;refine Z53 ?_;exact AQa

theorem AMi (e:Bool) (n:Int):(e&&(n==0 || n==1))=(e&&decide (0≤n)&&decide (n≤1)):=by
 cases e
 ·rfl
 rw [N9]
 simp
 omega
theorem c35 (v:Val) (Hp:List AObj):AFun Tryz.prog 35 [Bi v] Hp (B4 (Cg v)):=by
 refine Ah [.tmp 2] [0] Tryz.func35 Tryz.ntmps35 (fun d=>?_)
 refine ri ?_;refine A4 ?_;refine A2 [1] ?_;refine Z8 ?_;refine A2 [1,4] ?_;refine P8 ?_;refine A2 [1,4,5] ?_
 refine A3 (fun ht5=>?_) (fun ht5=>?_)
 ·refine ALu ?_
  refine A4 (h:=Oc Tt (Hn v.kind v.n 0 0 v.s [])) (hr:=?_)
  refine A4 ?_;refine Z3 ?_;refine Z6 ?_;exact AQ9
 refine Z1 ?_;refine A2 [1,4,10] ?_
 refine A3 (fun ht10=>?_) (fun ht10=>?_)
 ·refine Z25 ?_;refine Z3 ?_;refine Z6 ?_;exact A8 (Ae A7) ⟨by simp [Cg,ht5,ht10],rfl⟩
 refine Z1 ?_;refine A2 [1,4,15] ?_
 refine A3 (fun ht15=>?_) (fun ht15=>?_)
 ·refine Z25 ?_;refine Z7 ?_;refine ll ?_;refine Z6 ?_;exact A8 (Ae A7) ⟨by simp [Cg,ht5,ht10,ht15],rfl⟩
 refine Z1 ?_;refine A2 [1,26] ?_
 refine A3 (fun ht26=>?_) (fun ht26=>?_)
 ·refine Z25 ?_;refine Pw ?_;refine Z7 ?_;refine ll ?_;refine Z6 ?_;exact A8 (Ae A7) ⟨by simp [Cg,ht5,ht10,ht15,ht26];rw [AMi],rfl⟩
 refine Z17 ?_;refine Z28 ?_;exact A8 (Ae A7) ⟨by simp [Cg,ht5,ht10,ht15,ht26],rfl⟩

def J6 (c:List Col):Bool:=decide ((50:Int)<c.length) || c.any fun y=>decide ((100:Int)<y.name.length)
theorem AR4 {α:Type} [DecidableEq α] {a b:List α} (h:((a.length:Int) != b.length)=true):decide (a=b)=false:=by
 rw [decide_eq_false_iff_not]
 rintro rfl
 simp at h
theorem AR5 {α:Type} [DecidableEq α] {a b:List α} {x:Nat} (h1:x<a.length) (h2:x<b.length) (h:a[x]≠b[x]):decide (a=b)=false:=by
 rw [decide_eq_false_iff_not]
 rintro rfl
 exact h rfl
theorem AR6 {α β:Type} {a:List α} {b:List β} (hl:((a.length:Int) != b.length)=false):a.length=b.length:=by simp at hl;omega
theorem AKw {α:Type} [DecidableEq α] {a b:List α} (hl:((a.length:Int) != b.length)=false) (h:∀(j:Nat) (y:α),a[j]? = some y→b[j]? = some y):decide (a=b)=true:=by
 rw [decide_eq_true_eq]
 have hl':a.length=b.length:=AR6 hl
 apply O6 fun i=>?_
 cases hi:a[i]? with
 | some y=>exact (h i y hi).symm
 | none=>rw [ACi] at hi;exact (G9 (by omega)).symm
theorem AE6 {α β γ δ:Type} {a:List α} {b:List β} {f:α→γ} {g:β→δ} (hl:(((a.map f).length:Int) != (b.map g).length)=false):a.length=b.length:=by simp at hl;omega
theorem Xu {a b:Val}:(a.kind==b.kind&&a.n==b.n&&a.s==b.s)=decide (a=b):=by
 rw [N9]
 cases a;cases b
 simp [and_assoc]
theorem Sg {α:Type} {c:List α} {p:Nat→α→Bool}:(c.zipIdx.all fun x=>p x.2 x.1)=true↔∀(j:Nat) (y:α),c[j]? = some y→p j y=true:=by
 rw [B5]
 constructor
 ·intro h j y hj
  exact AQ8
 rintro h ⟨y,j⟩ hx
 rw [Mz] at hx
 exact h j y hx
theorem c75 (y:Col) (nm:Str) (Hp:List AObj):AFun Tryz.prog 75 [Bj y,.ro [Af nm]] Hp (B4 (y.name==nm)):=by
 refine Ah [.tmp 3] [0,1] Tryz.func75 Tryz.ntmps75 (fun d=>?_)
 refine Z1 ?_;refine A2 [1,2] ?_;refine Z1 ?_;refine Z10 ?_;refine A2 [3] ?_;refine Dd ?_;exact mb

theorem c74 (c:List Col) (hc:OkCols c) (nm:Str) (Hp:List AObj):AFun Tryz.prog 74 [An c,.fn (.func 75) [] [.ro [Af nm]]] Hp (A5 (Bn nm c)):=by
 refine Ah [.tmp 4] [0,1] Tryz.func74 Tryz.ntmps74 (fun d=>?_)
 refine Z61 ?_;refine AD9 ?_
 refine Az (α:=Nat) (fun x=>⟨19,A6 0 (An c) (A6 1 (.fn (.func 75) [] [.ro [Af nm]]) (A6 7 (A5 c.length) (A6 8 (A5 (x:Nat)) (fun _=>.any)))),Hp,[],[],none⟩) (fun x=>x≤c.length∧∀(j:Nat) (y:Col),j<x→c[j]? = some y→¬(y.name=nm)) (fun x=>c.length-x) (0) (by simp) (B2 (by simp)) rfl (fun x hx=>?_)
 refine AD7 ?_
 refine Ej (fun ht9=>?_) (fun ht9=>?_)
 ·have hlt:x<c.length:=by simpa using ht9
  have hcl:=hc.len
  refine Z18 ?_;refine Z1 ?_;refine AD5 ?_
  refine A4 (h:=Ac (x) (Bj c[x]) (fun _=>Aw hlt)) (hr:=?_)
  refine A4 ?_;refine R.callV Tryz.call75 (c75 c[x] nm _) ?_;refine ADm ?_
  refine A3 (fun ht16=>?_) (fun ht16=>?_)
  ·refine yz ?_;refine Tp ?_;exact A8 (Ae A7) ⟨by rw [Yy hlt (by simpa using ht16) hx.2],rfl⟩
  refine Nm ?_;refine A2 [0,1,7,8] ?_;exact Ay (x+1) ⟨hlt,C1 hlt hx.2 (by simpa using ht16)⟩ (by omega) (Bh rfl)
 refine Ts ?_;exact AOk

theorem c46 (c:List Col) (hc:OkCols c) (nm:Str) (Hp:List AObj):AFun Tryz.prog 46 [An c,Af nm] Hp (A5 (Bn nm c)):=by
 refine Ah [.tmp 4] [0,1] Tryz.func46 Tryz.ntmps46 (fun d=>?_)
 refine rg ?_;refine Z2 ?_;refine K1 ?_;refine A9 Tryz.call74 (c74 c hc nm _) ?_;refine A4 ?_;exact AH3

def Tv (s of:Str):Int:=(s.length:Int)-(Lib.trimLeftS s of).length
theorem Xv (s of:Str):(Lib.trimLeftS s of).length≤s.length:=by
 unfold Lib.trimLeftS
 exact (qd _).length_le
def Ok:Str:=[32,97,100,100,32,100,114,111,112,32,114,101,110,97,109,101,32,115,112,108,105,116,32,109,101,114,103,101,32,114,101,116,121,112,101,32,105,110,116,111,32,116,111,32,98,97,99,107,32,97,110,100,32,111,114,32,110,111,116,32,116,114,117,101,32,102,97,108,115,101,32,110,117,108,108,32,105,110,116,32,116,101,120,116,32,98,111,111,108,32,115,101,108,101,99,116,32,119,104,101,114,101,32,102,114,111,109,32,108,105,109,105,116,32]
def letters:Str:=[97,98,99,100,101,102,103,104,105,106,107,108,109,110,111,112,113,114,115,116,117,118,119,120,121,122]
def tails:Str:=[97,98,99,100,101,102,103,104,105,106,107,108,109,110,111,112,113,114,115,116,117,118,119,120,121,122,48,49,50,51,52,53,54,55,56,57,95]
theorem s9 (s of:Str) (hs:s.length≤1048576) (ho:of.length≤1048576) (ha:∀c∈of,c.toNat<128) (Hp:List AObj):AFun Tryz.prog 115 [Af s,Af of] Hp (A5 (Tv s of)):=by
 refine Ah [.tmp 4] [0,1] Tryz.func115 Tryz.ntmps115 (fun d=>?_)
 refine Z61 ?_;refine Z25 ?_;refine A9 Tryz.call157 (ASr s of (by omega) ha _) ?_;refine A4 ?_
 have htl:=Xv s of
 exact AHp

def I6 (s:Str):Bool:=(!(s==[]) && !Lib.contains s [32])&&Lib.contains Ok ([32]++s++[32])
theorem AR7 (s:Str) (hs:s.length≤1048576) (Hp:List AObj):AFun Tryz.prog 152 [Af s] Hp (B4 (I6 s)):=by
 refine Ah [.tmp 2] [0] Tryz.func152 Tryz.ntmps152 (fun d=>?_)
 refine Z49 ?_;refine Z19 ?_;refine Bd ?_;refine Bm Tryz.call153 (fun hB=>zg s [32] (by omega) _) ?_;refine Bd ?_;refine Z0 ?_;refine Z38 ?_;refine Bm Tryz.call153 (fun hB=>zg Ok ([32]++s++[32]) (by decide) _) ?_;exact AD4

theorem AMj {s:Str} {b c:Bool} (h:(((!(s==[])&&b)&&c)==true)=true):1≤s.length:=by
 cases s with
 | nil=>simp at h
 | cons x r=>simp
def Dg (s:Str):Bool:=((((!(s==[])&&decide ((s.length:Int)≤16))&&(Tv s tails==(s.length:Int)))&&(Tv (s.take 1) letters==1)) && !I6 s)
theorem AE7 (s:Str) (hs:s.length≤1048576) (Hp:List AObj):AFun Tryz.prog 111 [Af s] Hp (B4 (Dg s)):=by
 refine Ah [.tmp 2] [0] Tryz.func111 Tryz.ntmps111 (fun d=>?_)
 refine Z49 ?_;refine Z19 ?_;refine Z94 ?_;refine Bd ?_;refine Bm Tryz.call115 (fun hB=>s9 s tails hs (by decide) (by decide) _) ?_;refine Z94 ?_;refine Bd ?_
 refine Bd (h:=L1 1 (fun _=>Ap _) (fun hB=>AMj hB)) (hr:=?_)
 refine Bm Tryz.call115 (fun hB=>s9 (s.take 1) letters (by simp;omega) (by decide) (by decide) _) ?_
 refine Bd ?_;refine Sf ?_;refine Bm Tryz.call152 (fun hB=>AR7 s hs _) ?_;refine Bd ?_;exact AD4

end Go.SX.Nb
namespace Go.SX.Nb
open Go Go.SX Go.Proofs Go.RowKit
variable [ErrAt]
set_option maxRecDepth 4000
theorem ASx (s t:Str) (Hp:List AObj):AFun Tryz.prog 208 [Af s,Af t] Hp (Af (Lib.trimPrefix s t)):=by
 refine N4 (xs:=[sv s,sv t]) (v:=sv (Lib.trimPrefix s t)) (fun G w=>.v _ _) (fun w hg=>?_)
 refine (Any.strings_TrimPrefix Tryz.lays101 ⟨s.toArray⟩ ⟨t.toArray⟩ w).mono ?_
 rintro e w' ⟨rfl,rfl⟩
 exact zb
theorem ASy (s t:Str) (hs:s.length≤9223372036854775807) (ht:t.length<4294967281) (ha:∀c∈t,c.toNat<128) (Hp:List AObj):AFun Tryz.prog 209 [Af s,Af t] Hp (Af (Lib.trimS s t)):=by
 refine N4 (xs:=[sv s,sv t]) (v:=sv (Lib.trimS s t)) (fun G w=>.v _ _) (fun w hg=>?_)
 refine (Any.strings_Trim_laid Tryz.lays160 (by kernel_rfl) ⟨s.toArray⟩ ⟨t.toArray⟩ w (by simpa [ByteArray.size] using hs) (by simpa [ByteArray.size] using ht) (fun j b hj=>ha b (B3 hj))).mono ?_
 rintro e w' ⟨rfl,hb⟩
 exact ⟨rfl,hb⟩
theorem AHy (s:Str) (hs:s.length≤1048576) (v:Int) (h:Lib.parseIntB 64 s=.ok v) (Hp:List AObj):AFun Tryz.prog 210 [Af s,A5 10,A5 64] Hp (.tup [A5 v,.v .nilIface]):=by
 refine N4 (xs:=[sv s,.int .i64 10,.int .i64 64]) (v:=.tuple #[.int .i64 v,.nilIface]) (fun G w=>Ob rfl (fun i y u hy hu=>?_)) (fun w hg=>?_)
 ·match i with
  | 0=>simp at hy hu;subst hy;subst hu;exact .v _ _
  | 1=>simp at hy hu;subst hy;subst hu;exact .v _ _
  | i+2=>simp at hy
 refine (Any.strconv_ParseInt_10_at64_ok Tryz.lays174 ⟨s.toArray⟩ (by simp [ByteArray.size];omega) v h w).mono ?_
 rintro e w' ⟨rfl,rfl|⟨t,rfl⟩⟩
 ·exact zb
 exact ⟨rfl,Lib.bytesWorld_below _ _ _⟩
def V7 (s:Str):AV:=.iface 250 (.ro [.v (sv [80,97,114,115,101,73,110,116]),.v (sv s),.v (.iface 284 (.pointer (some ErrAt.b)))])
theorem sc (s:Str) (hs:s.length≤1048576) (h:Lib.parseIntB 64 s=.range) (Hp:List AObj):AFun Tryz.prog 210 [Af s,A5 10,A5 64] Hp (.tup [A5 (Lib.intSat 64 s),V7 s]):=by
 refine AFun.libErr (xs:=[sv s,.int .i64 10,.int .i64 64]) (n:=.int .i64 (Lib.intSat 64 s)) (cs:=[sv [80,97,114,115,101,73,110,116],sv s,.iface 284 (.pointer (some ErrAt.b))]) (te:=273) (fun y hy=>?_) (fun w hg=>?_)
 ·simp only [Bu,Fi,or_false] at hy
  rcases hy with rfl|rfl|rfl<;>rfl
 refine (Any.strconv_ParseInt_10_at64_range Tryz.lays174 ⟨s.toArray⟩ (by simp [ByteArray.size];omega) h (.iface 284 (.pointer (some ErrAt.b))) w (Wf hg) (.inr ⟨_,_,rfl⟩)).mono ?_
 rintro e w' ⟨N,rfl,h1,h2,h3⟩
 exact ⟨N,rfl,h1,h2,h3⟩
theorem AE8 (Hp:List AObj):AFun Tryz.prog 211 [.v .nilIface,.v (.iface 284 (.pointer (some ErrAt.b)))] Hp (B4 false):=by
 refine N4 (xs:=[.nilIface,.iface 284 (.pointer (some ErrAt.b))]) (v:=.bool false) (fun G w=>.v _ _) (fun w hg=>?_)
 refine (Tryz.is_nil _ w).mono ?_
 rintro e w' ⟨rfl,rfl⟩
 exact zb
theorem sd (s:Str) (Hp:List AObj):AFun Tryz.prog 211 [V7 s,.v (.iface 284 (.pointer (some ErrAt.b)))] Hp (B4 true):=by
 intro d G w vs hn hv hH hT _
 have hsz:vs.size=2:=hn
 have h0:=hv 0 (V7 s) vs[0] rfl (Er (by omega))
 have h1:=Ri (hv 1 (.v (.iface 284 (.pointer (some ErrAt.b)))) vs[1] rfl (Er (by omega)))
 have hvs:vs=#[vs[0],vs[1]]:=by
  apply ACb
  ·exact hsz
  intro i hi1 hi2
  match i with
  | 0=>rfl
  | 1=>rfl
  | i+2=>omega
 unfold V7 at h0
 generalize vs[0]=u0 at h0 hvs
 cases h0 with
 | iface _ _ _ u h =>
  cases h with
  | ro _ _ ad f hs h1' hf hr =>
   obtain ⟨ab,ao,asp⟩:=ad
   simp only at hs
   subst hs
   have hc:=(hf 2 _ rfl).2
   have he:=Ri (hr 2 _ rfl)
   rw [he] at hc
   rw [hvs,h1]
   refine (callsIn_wide.2 (Tryz.is_range ab ao ErrAt.b w hc)).mono ?_
   rintro e w' ⟨rfl,rfl⟩
   exact ⟨_,G,_,Hp,rfl,.v _ _,hH,hT,Hf _ _ _,rfl,rfl,rfl⟩
end Go.SX.Nb
namespace Go.SX.Nb
open Go Go.SX Go.Proofs
variable [ErrAt]
set_option maxRecDepth 4000
def mf:Str:=[32,105,110,116,32,116,101,120,116,32,98,111,111,108]
def kindNames:List Str:=[[],[105,110,116],[116,101,120,116],[98,111,111,108]]
theorem zh:Px mf [32]=kindNames:=by kernel_rfl
def Ci (k:Int):Str:=if k<1∨3<k then [] else kindNames.getD k.toNat []
theorem c60 (k:Int) (Hp:List AObj):AFun Tryz.prog 60 [A5 k] Hp (Af (Ci k)):=by
 refine Ah [.tmp 2] [0] Tryz.func60 Tryz.ntmps60 (fun d=>?_)
 refine j4 ?_;refine Z97 ?_;refine A2 [0,8] ?_
 refine A3 (fun ht8=>?_) (fun ht8=>?_)
 ·refine Z28 ?_;refine F8 ?_;exact A8 (Ae A7) ⟨by rw [show Ci k=[] from if_pos (by simpa using ht8)],rfl⟩
 refine rk ?_
 have hk:1≤k∧k≤3:=by simp at ht8;omega
 have hget:(kindNames.map Af)[k.toNat]? = some (Af (kindNames.getD k.toNat [])):=by
  have hlt:k.toNat<kindNames.length:=by show k.toNat<4;omega
  rw [Ce,Aa hlt,D4,Aa hlt]
  rfl
 refine A9 Tryz.call90 (zh ▸ c90 mf [32] (by decide) (by decide) _) ?_;refine A4 ?_
 refine A4 (h:=Ac (k.toNat) (Af (kindNames.getD k.toNat [])) (fun _=>hget)) (hr:=?_)
 refine Z53 ?_;exact A8 (Ae A7) ⟨by rw [show Ci k=kindNames.getD k.toNat [] from if_neg (by omega)],rfl⟩

def Qy (s of:Str):Bool:=(!(s==[]) && !Lib.contains s [32])&&Lib.contains of ([32]++s++[32])
theorem AR8 (s of:Str) (hs:s.length≤1048576) (ho:of.length≤1048576) (Hp:List AObj):AFun Tryz.prog 112 [Af s,Af of] Hp (B4 (Qy s of)):=by
 refine Ah [.tmp 4] [0,1] Tryz.func112 Tryz.ntmps112 (fun d=>?_)
 refine Z61 ?_;refine Z19 ?_;refine Bd ?_;refine Bm Tryz.call153 (fun hB=>zg s [32] (by omega) _) ?_;refine Bd ?_;refine rt ?_;refine Bm Tryz.call153 (fun hB=>zg of ([32]++s++[32]) (by omega) _) ?_;exact AHp

def dw:Str:=[108,101,110,58,49,32,115,116,114,58,49,32,110,117,109,58,49,32,105,115,110,117,108,108,58,49,32,110,118,108,58,50,32,108,101,102,116,58,50,32,114,105,103,104,116,58,50,32,105,102,58,51]
def arityList:List (Str×UInt8):=[([108,101,110],49),([115,116,114],49),([110,117,109],49),([105,115,110,117,108,108],49),([110,118,108],50),([108,101,102,116],50),([114,105,103,104,116],50),([105,102],51)]
def Kl (p:Str×UInt8):Str:=p.1++[58,p.2]
theorem se:Px dw [32]=arityList.map Kl:=by kernel_rfl
theorem AE9 {p:Str×UInt8} (hp:p∈arityList):Lib.cut (Kl p) [58]=(p.1,[p.2],true):=by
 have h:(arityList.all fun p=>decide (Lib.cut (Kl p) [58]=(p.1,[p.2],true)))=true:=by kernel_rfl
 exact of_decide_eq_true (B5.1 h p hp)
def AMk (p:Str×UInt8):Int:=IntKind.i64.wrap (IntKind.u8.wrap ((p.2.toNat:Int)-48))
def Cc (nm:Str):Int:=match arityList.find? (fun p=>p.1==nm) with|some p=>AMk p|none => -1
theorem ja {α:Type} {p:α→Bool} {l:List α} {x:Nat} (h:x<l.length) (hp:p l[x]=true) (h2:∀(j:Nat) (y:α),j<x→l[j]? = some y→p y=false):l.find? p=some l[x]:=by
 rw [ACh]
 exact ⟨hp,x,h,rfl,fun j hj=>by simpa using h2 j l[j] hj (Aa _)⟩
theorem V8 {α:Type} {p:α→Bool} {l:List α} (h:∀(j:Nat) (y:α),l[j]? = some y→p y=false):l.find? p=none:=by
 rw [Na]
 intro y hy
 obtain ⟨j,hj⟩:=Cf hy
 simpa using h j y hj
theorem V9:arityList.length=8:=rfl
theorem zi {p:Str×UInt8} (hp:p∈arityList):(Kl p).length<4294967281:=by
 have h:(arityList.all fun p=>decide ((Kl p).length<4294967281))=true:=by kernel_rfl
 exact of_decide_eq_true (B5.1 h p hp)
theorem AMl (nm:Str) (Hp:List AObj):AFun Tryz.prog 113 [Af nm] Hp (A5 (Cc nm)):=by
 refine Ah [.tmp 2] [0] Tryz.func113 Tryz.ntmps113 (fun d=>?_)
 refine Z49 ?_;refine Z74 ?_;refine A9 Tryz.call90 (se ▸ c90 dw [32] (by decide) (by decide) _) ?_;refine Z0 ?_;refine A2 [0,8,9,10] ?_
 refine Az (α:=Nat) (fun x=>⟨28,A6 0 (Af nm) (A6 8 (Gg (arityList.map Kl)) (A6 9 (A5 8) (A6 10 (A5 (x:Nat)) (fun _=>.any)))),Hp,[],[],none⟩) (fun x=>x≤8∧∀(j:Nat) (y:Str×UInt8),j<x→arityList[j]? = some y→(y.1==nm)=false) (fun x=>8-x) (0) (by simp) (F6 _) rfl (fun x hx=>?_)
 refine Z2 ?_;refine A2 [0,8,9,10,11] ?_
 refine Ej (fun ht11=>?_) (fun ht11=>?_)
 ·have hlt:x<arityList.length:=by rw [V9];simp at ht11;omega
  have hal:=V9
  have hget:((arityList.map Kl).map Af)[x]? = some (Af (Kl arityList[x])):=by rw [Io];exact Aw hlt
  refine X6 ?_
  refine A4 (h:=Ac (x) (Af (Kl arityList[x])) (fun _=>hget)) (hr:=?_)
  refine Z0 ?_;refine A2 [0,4,8,9,10] ?_;refine Z2 ?_;refine A9 Tryz.call116 ((AE9 (Av hlt)) ▸ AR2 (Kl arityList[x]) [58] (zi (Av hlt)) _) ?_;refine Z0 ?_;refine Z63 ?_;refine A2 [0,5,6,8,9,10] ?_;refine Z19 ?_;refine A2 [0,6,8,9,10,22] ?_
  refine A3 (fun ht22=>?_) (fun ht22=>?_)
  ·refine Z2 ?_
   refine A4 (h:=Fq 0 arityList[x].2 (fun _=>rfl)) (hr:=?_)
   refine A4 (h:=L2) (hr:=?_)
   refine Z53 ?_;refine Z73 ?_;exact A8 (Ae A7) ⟨by rw [Cc,ja hlt ht22 hx.2];rfl,rfl⟩
  refine Nm ?_;refine A2 [0,8,9,10] ?_;exact Ay (x+1) ⟨by omega,C1 hlt hx.2 ht22⟩ (by omega) (Bh rfl)
 have hal:=V9
 refine Z26 ?_;refine Z28 ?_;exact A8 (Ae A7) ⟨by rw [Cc,V8 (Ml (by simp at ht11;omega) hx.2)],rfl⟩

def sg (s:Str):Int:=match Lib.parseIntB 64 s with|.ok v=>v|_=>Lib.intSat 64 s
def cv (s:Str):Bool:=match Lib.parseIntB 64 s with|.ok _=>false|_=>true
def cw (s:Str):AV:=bif cv s then V7 s else .v .nilIface
theorem sh (s:Str):(cw s).strip=cw s:=by unfold cw;cases cv s<;>rfl
attribute [go_sem] sh
theorem ASz (s:Str) (hs:s.length≤1048576) (h:AHv (Lib.parseIntB 64 s)=false) (Hp:List AObj):AFun Tryz.prog 210 [Af s,A5 10,A5 64] Hp (.tup [A5 (sg s),cw s]):=by
 cases hp:Lib.parseIntB 64 s with
 | ok v =>
  have:=AHy s hs v hp Hp
  rwa [show v=sg s by unfold sg;rw [hp],show AV.v .nilIface=cw s by unfold cw cv;rw [hp];rfl] at this
 | range =>
  have:=sc s hs hp Hp
  rwa [show Lib.intSat 64 s=sg s by unfold sg;rw [hp],show V7 s=cw s by unfold cw cv;rw [hp];rfl] at this
 | _=>rw [hp] at h;cases h
theorem AT0 (s:Str) (Hp:List AObj):AFun Tryz.prog 211 [cw s,.v (.iface 284 (.pointer (some ErrAt.b)))] Hp (B4 (cv s)):=by
 unfold cw
 cases cv s
 ·exact AE8 Hp
 exact sd s Hp
theorem AEa (s t:Str):(Lib.trimPrefix s t).length≤s.length:=by
 unfold Lib.trimPrefix;split<;>simp
theorem zj {d:Str} {b:Bool} (h:(((d==[]) || b)==false)=true):d≠[]:=by rintro rfl;simp at h
theorem Sh:∀c∈digs,c.toNat<128:=by decide
theorem Yz (s:Str):((((Lib.trimPrefix s [45]==[]) || (Lib.trimS (Lib.trimPrefix s [45]) digs != [])) || ((((Lib.trimPrefix s [45]).headD 0).toNat:Int)==48&&decide ((1:Int)<s.length))))=I0 s:=by
 unfold I0 Np
 have e1:((((Lib.trimPrefix s [45]).headD 0).toNat:Int)==48)=((Lib.trimPrefix s [45]).headD 0==48):=by
  rw [Bool.eq_iff_iff]
  simp only [beq_iff_eq]
  constructor
  ·intro h
   exact UInt8.toNat_inj.1 (by have:(48:UInt8).toNat=48:=rfl;omega)
  intro h;rw [h];rfl
 have e2:decide ((1:Int)<s.length)=decide (1<s.length):=by rw [decide_eq_decide];omega
 rw [e1,e2]
 rfl
theorem zk {s:Str} (hb:I0 s=false) (h:cv s=true):Bv s=(0,4):=by
 unfold Bv
 rw [hb]
 have:=Py hb
 unfold cv at h
 revert h this
 cases Lib.parseIntB 64 s with
 | ok v=>intro h;cases h
 | range=>intro _ _;rfl
 | _=>intro _ h;cases h
theorem AMm {s:Str} (hb:I0 s=false) (h:cv s=false):Bv s=(sg s,0):=by
 unfold Bv sg
 rw [hb]
 unfold cv at h
 revert h
 cases Lib.parseIntB 64 s with
 | ok v=>intro h;rfl
 | _=>intro h;cases h
theorem AEb (s:Str):s.take (min s.length 200)=s.take 200:=by
 rcases Nat.le_total s.length 200 with h|h
 ·rw [Nat.min_eq_left h,List.take_of_length_le (Nat.le_refl _),List.take_of_length_le h]
 rw [Nat.min_eq_right h]
theorem AR9 (s:Str) (hs:s.length≤1048576) (Hp:List AObj):AFun Tryz.prog 183 [Af s] Hp (.tup [A5 (Bv s).1,A5 (Bv s).2]):=by
 refine ACall.body [.tmp 2,.tmp 3] [0] Tryz.func183 Tryz.ntmps183 (fun d=>?_)
 refine Z1 ?_;refine R.fin [0] ?_;refine Z2 ?_;refine R.call Tryz.call208 (ASx s [45] _) ?_;refine R.go ?_;refine R.fin [0,4] ?_;refine Z33 ?_;refine G.go ?_
 refine G.call Tryz.call209 (fun hB=>ASy (Lib.trimPrefix s [45]) digs (by have:=AEa s [45];omega) (by decide) Sh _) ?_
 refine G.go ?_;refine Sf ?_
 refine G.go (h:=Q.sindex 0 ((Lib.trimPrefix s [45]).headD 0) (fun hB=>M1 (zj hB))) (hr:=?_)
 refine Pw ?_;refine Z97 ?_;refine R.fin [0,25] ?_
 refine W.cond (fun ht25=>?_) (fun ht25=>?_)
 ·have hb:I0 s=true:=by rw [←Yz];exact ht25
  refine yq ?_;refine Z13 ?_;exact K.fin (V.two V.tmp V.tmp) ⟨by rw [Bv,hb];rfl,rfl⟩
 have hb:I0 s=false:=by rw [←Yz];exact ht25
 refine Z92 ?_;refine R.call Tryz.call210 (ASz s hs (Py hb) _) ?_;refine Z63 ?_;refine R.fin [5,6] ?_;refine Z29 ?_;refine R.loadGlob Tryz.isAgg203 (fun w hg=>Wf hg) ?_;refine R.call Tryz.call211 (AT0 s _) ?_;refine R.fin [5,33] ?_
 refine W.cond (fun ht33=>?_) (fun ht33=>?_)
 ·refine yq ?_;refine Z13 ?_;exact K.fin (V.two V.tmp V.tmp) ⟨by rw [zk hb ht33],rfl⟩
 refine No ?_;refine Ja ?_;refine AW.ret ?_;exact K.fin (V.two V.tmp V.tmp) ⟨by rw [AMm hb ht33],rfl⟩

theorem ARa (n:Int) (h0 : -9223372036854775808≤n) (h1:n≤9223372036854775807) (Hp:List AObj):AFun Tryz.prog 225 [A5 n] Hp (Af (Lib.itoa n)):=by
 refine ACall.body [.tmp 2] [0] Tryz.func225 Tryz.ntmps225 (fun d=>?_)
 refine Z49 ?_;refine Z2 ?_;refine R.call Tryz.call247 (ASw n h0 h1 _) ?_;refine R.go ?_;exact AM7

theorem AT1 (Hp:List AObj):AFun Tryz.prog 143 [] Hp (Bi ⟨0,0,[]⟩):=by
 refine ACall.body [.cell 0 42] [] Tryz.func143 Tryz.ntmps143 (fun d=>?_)
 refine Z37 ?_;refine R.fin [0] ?_;refine Z34 ?_;refine Gc ?_;refine R.fin [0] ?_;refine AW.ret ?_;exact K.fin (V.one (V.cellN jA jS))

theorem AMn (n:Int) (Hp:List AObj):AFun Tryz.prog 184 [A5 n] Hp (Bi ⟨1,n,[]⟩):=by
 refine ACall.body [.cell 2 42] [0] Tryz.func184 Tryz.ntmps184 (fun d=>?_)
 refine Z67 ?_;refine ALu ?_;exact AD3

theorem zl (b:Bool) (Hp:List AObj):AFun Tryz.prog 145 [B4 b] Hp (Bi ⟨3,if b then 1 else 0,[]⟩):=by
 refine ACall.body [.cell 2 42] [0] Tryz.func145 Tryz.ntmps145 (fun d=>?_)
 refine Z67 ?_;refine Z34 ?_;refine lm ?_;refine Z29 ?_;refine R.fin [2,3,5] ?_
 refine W.cond (fun ht5=>?_) (fun ht5=>?_)
 ·refine Z52 ?_;refine r9 ?_;refine K.thN ?_;refine Z2 ?_;exact APb
 refine Z92 ?_;exact APb

theorem zm (s:Str) (Hp:List AObj):AFun Tryz.prog 206 [Af s] Hp (Bi ⟨2,0,s.take 200⟩):=by
 refine ACall.body [.cell 2 42] [0] Tryz.func206 Tryz.ntmps206 (fun d=>?_)
 refine Z67 ?_;refine Z19 ?_;refine R.minI ?_
 refine R.go (h:=Q.scutH (min s.length 200) (fun _=>Nat.zero_le _) (fun _=>Nat.min_le_left _ _) (hb:=fun _=>by split<;>omega)) (hr:=?_)
 refine co ?_;refine Z16 ?_;exact K.fin (V.one (V.cellN jA jS)) ⟨by rw [AEb],rfl⟩

theorem si {p s:Str} (h:p.isPrefixOf s=true):p.length≤s.length:=(List.isPrefixOf_iff_prefix.1 h).length_le
theorem sj (s o:Str) (h:0≤Lib.index s o):(Lib.index s o).toNat+o.length≤s.length:=by
 induction s with
 | nil =>
  unfold Lib.index at h ⊢
  split at h
  ·rename_i he
   rw [if_pos he]
   cases o with
   | nil=>simp
   | cons a b=>simp at he
  omega
 | cons b l ih =>
  unfold Lib.index at h ⊢
  split at h
  ·rename_i hp
   rw [if_pos hp]
   have:=si hp
   simpa using this
  rename_i hp
  rw [if_neg hp]
  split at h
  ·omega
  rename_i hi
  rw [if_neg hi]
  have hg:=Lib.index_ge l o
  have hi':Lib.index l o ≠ -1:=by simpa using hi
  have:=ih (by omega)
  simp only [B6]
  omega
def vk:Val:=⟨0,0,[]⟩
def E4 (b:Bool):Val:=⟨3,if b then 1 else 0,[]⟩
def AMo (n:Int):Prop := -9223372036854775808≤n∧n≤9223372036854775807
def L4 (v:Val):Str:=
 if !Cg v then [] else if v.kind==1 then Lib.itoa v.n else if v.kind==2 then [39]++Lib.replaceAll v.s [39] [39,39]++[39]
 else if v.kind==0 then [110,117,108,108] else if v.n==1 then [116,114,117,101] else [102,97,108,115,101]
theorem zn {v:Val} (h:Cg v=true) (h2:(v.kind==2)=true):v.s.length≤200:=by
 have e:v.kind=2:=by simpa using h2
 unfold Cg at h
 rw [e] at h
 simp at h
 omega
theorem mg (s o:Str) (ho:1≤o.length):Lib.countB ⟨s.toArray⟩ ⟨o.toArray⟩≤s.length:=Lib.countB_le ⟨o.toArray⟩ (by simpa [ByteArray.size] using ho) s.length ⟨s.toArray⟩ (by simp [ByteArray.size])
theorem Wg (o n:Str) (B:Nat) (hn:n.length≤B*o.length) (hB:1≤B):∀(k:Nat) (s:Str),(Lib.replaceK o n k s).length≤B*s.length
 | 0,s=>by rw [Lib.replaceK];exact Td _ hB
 | k+1,s=>by
  rw [Lib.replaceK]
  split
  ·exact Td _ hB
  rename_i h
  have ih:=Wg o n B hn hB k (s.drop ((Lib.index s o).toNat+o.length))
  have hx:(Lib.index s o).toNat+o.length≤s.length:=by
   have hg:=Lib.index_ge s o
   have hi:Lib.index s o ≠ -1:=by simpa using h
   exact sj s o (by omega)
  simp only [Ao,Fh,Bx] at ih ⊢
  have h1:min (Lib.index s o).toNat s.length≤B*(Lib.index s o).toNat:=Ir (Nat.min_le_left _ _) (Td _ hB)
  have h2:B*s.length=B*(Lib.index s o).toNat+B*o.length+B*(s.length-((Lib.index s o).toNat+o.length)):=by
   rw [←Lm,←Lm];congr 1;omega
  omega
theorem cx (s o n:Str) (B:Nat) (hn:n.length≤B*o.length) (hB:1≤B):(Lib.replaceAll s o n).length≤B*s.length:=by
 unfold Lib.replaceAll Lib.replace
 split
 ·exact Td _ hB
 exact Wg o n B hn hB _ s
theorem AT2 (v:Val) (hn:AMo v.n) (Hp:List AObj):AFun Tryz.prog 207 [Bi v] Hp (Af (L4 v)):=by
 refine Ah [.tmp 2] [0] Tryz.func207 Tryz.ntmps207 (fun d=>?_)
 refine Pv ?_;refine Tr ?_;refine A9 Tryz.call35 (c35 v _) ?_;refine Z0 ?_;refine A2 [1,3] ?_
 refine A3 (fun ht3=>?_) (fun ht3=>?_)
 ·refine Z28 ?_;refine Z6 ?_;exact A8 (Ae A7) ⟨by simp only [L4,ht3,if_true],rfl⟩
 have hp:Cg v=true:=by simpa using ht3
 refine Z25 ?_;refine A2 [1,7] ?_
 refine A3 (fun ht7=>?_) (fun ht7=>?_)
 ·refine Z1 ?_;refine A9 Tryz.call225 (ARa v.n hn.1 hn.2 _) ?_;refine A4 ?_;refine Z3 ?_;refine Z6 ?_;exact A8 (Ae A7) ⟨by simp only [L4,hp,ht7,C8,Ag,if_false,if_true];try rfl,rfl⟩
 refine Z25 ?_;refine A2 [1,14] ?_
 refine A3 (fun ht14=>?_) (fun ht14=>?_)
 ·refine Z1 ?_
  have hl:=zn hp ht14
  have hrl:=cx v.s [39] [39,39] 2 (by decide) (by decide)
  refine A9 Tryz.call205 (AR3 v.s [39] [39,39] (by omega) (by decide) (by have:=mg v.s [39] (by decide);simp;omega) _) ?_
  refine Z10 ?_;refine Z3 ?_;refine Z6 ?_;exact A8 (Ae A7) ⟨by simp only [L4,hp,ht7,ht14,C8,Ag,if_false,if_true];try rfl,rfl⟩
 refine Z25 ?_;refine A2 [1,23] ?_
 refine A3 (fun ht23=>?_) (fun ht23=>?_)
 ·refine Z28 ?_;refine Z6 ?_;exact A8 (Ae A7) ⟨by simp only [L4,hp,ht7,ht14,ht23,C8,Ag,if_false,if_true];try rfl,rfl⟩
 refine Z25 ?_;refine A2 [27] ?_
 refine A3 (fun ht27=>?_) (fun ht27=>?_)
 ·refine Z28 ?_;refine Z6 ?_;exact AQb
 refine Z17 ?_;refine Z28 ?_;exact AQb

def AEc (s:Str):Str:=Lib.replaceAll ((s.take (s.length-1)).drop 1) [39,39] [39]
def Z5 (s:Str):Val:=⟨2,0,(AEc s).take 200⟩
def mh (s:Str):Val×Int:=if !(L4 (Z5 s)==s) then (vk,7) else (Z5 s,0)
theorem AT3 (s:Str) (h2:2≤s.length) (hs:s.length≤1048576) (Hp:List AObj):AFun Tryz.prog 182 [Af s] Hp (.tup [Bi (mh s).1,A5 (mh s).2]):=by
 refine Ah [.cell 2 42,.tmp 3] [0] Tryz.func182 Tryz.ntmps182 (fun d=>?_)
 refine lx ?_;refine A2 [0,2] ?_;refine Z25 ?_
 refine A4 (h:=Q.scutLH 1 (s.length-1) (fun _=>show 1≤s.length-1 by omega) (fun _=>show s.length-1≤s.length by omega)) (hr:=?_)
 refine A9 Tryz.call205 (AR3 ((s.take (s.length-1)).drop 1) [39,39] [39] (by simp;omega) (by decide) (by have:=mg ((s.take (s.length-1)).drop 1) [39,39] (by decide);simp at this ⊢;omega) _) ?_
 refine A4 ?_;refine A2 [0,2,4] ?_;refine Z2 ?_;refine A9 Tryz.call206 (zm (AEc s) _) ?_;refine Z20 ?_;refine A2 [0,2,5] ?_;refine Z29 ?_
 refine A9 Tryz.call207 (AT2 (Z5 s) ⟨by show (-9223372036854775808:Int)≤0;decide,by show (0:Int)≤9223372036854775807;decide⟩ _) ?_
 refine Z0 ?_;refine A2 [2,5,17] ?_
 refine A3 (fun ht17=>?_) (fun ht17=>?_)
 ·refine Z34 ?_;refine To ?_;refine Z13 ?_;exact AQc
 refine Z92 ?_;refine To ?_;refine Dd ?_;exact AQc

def dx (s:Str):Bool:=(decide ((1:Int)<s.length)&&Lib.hasPrefix s [39])&&Lib.hasSuffix s [39]
def Ji (s:Str):Val×Int:=
 if s==[110,117,108,108] then (vk,0) else if (s==[116,114,117,101]) || (s==[102,97,108,115,101]) then (E4 (s==[116,114,117,101]),0)
 else if dx s then mh s else if (Bv s).2==0 then (⟨1,(Bv s).1,[]⟩,0) else if (Bv s).2==4 then (vk,4) else (vk,7)
theorem AEd {s:Str} (h:dx s=true):2≤s.length:=by
 unfold dx at h
 simp only [As,decide_eq_true_eq] at h
 omega
theorem AMp (s:Str) (hs:s.length≤1048576) (Hp:List AObj):AFun Tryz.prog 159 [Af s] Hp (.tup [Bi (Ji s).1,A5 (Ji s).2]):=by
 refine Ah [.cell 2 42,.tmp 3] [0] Tryz.func159 Tryz.ntmps159 (fun d=>?_)
 refine lx ?_;refine A2 [0,2] ?_;refine m8 ?_;refine A2 [0,2,6] ?_
 refine A3 (fun ht6=>?_) (fun ht6=>?_)
 ·refine AM8 ?_;refine To ?_;refine Z21 ?_;exact A8 (B1 (B8 jA jS) A7) ⟨by simp only [Ji,ht6,if_true,if_false,Ag];try rfl,rfl⟩
 refine Z19 ?_;refine Z7 ?_;refine Z0 ?_;refine A2 [0,2,10] ?_
 refine A3 (fun ht10=>?_) (fun ht10=>?_)
 ·refine Z1 ?_;refine A9 Tryz.call145 (zl (s==[116,114,117,101]) _) ?_;refine To ?_;refine Z21 ?_;exact A8 (B1 (B8 jA jS) A7) ⟨by simp only [Ji,ht6,ht10,if_true,if_false,Ag];try rfl,rfl⟩
 refine rp ?_;refine Bm Tryz.call180 (fun hB=>ASs s [39] _) ?_;refine Sf ?_;refine Bm Tryz.call181 (fun hB=>ASt s [39] (by omega) _) ?_;refine Z0 ?_;refine A2 [0,2,20] ?_
 refine A3 (fun ht20=>?_) (fun ht20=>?_)
 ·have hq:dx s=true:=ht20
  refine Z2 ?_;refine A9 Tryz.call182 (AT3 s (AEd hq) hs _) ?_;refine Z0 ?_;refine To ?_;refine Z21 ?_;exact A8 (B1 (B8 jA jS) A7) ⟨by simp only [Ji,ht6,ht10,hq,if_true,if_false,Ag];try rfl,rfl⟩
 have hq:dx s=false:=ht20
 refine Z17 ?_;refine Z2 ?_;refine A9 Tryz.call183 (AR9 s hs _) ?_;refine Z63 ?_;refine A2 [2,4,5] ?_;refine Z29 ?_;refine A2 [2,4,5,41] ?_;refine P8 ?_;refine A2 [2,4,5,41,42] ?_
 refine A3 (fun ht42=>?_) (fun ht42=>?_)
 ·refine Z2 ?_;refine A9 Tryz.call184 (AMn (Bv s).1 _) ?_;refine To ?_;refine Z21 ?_;exact A8 (B1 (B8 jA jS) A7) ⟨by simp only [Ji,ht6,ht10,hq,ht42,if_true,if_false,Ag];try rfl,rfl⟩
 refine Z1 ?_;refine A2 [2,5,46] ?_
 refine A3 (fun ht46=>?_) (fun ht46=>?_)
 ·refine Z34 ?_;refine A4 ?_;refine To ?_;refine Z21 ?_;exact A8 (B1 (B8 jA jS) A7) ⟨by simp only [Ji,ht6,ht10,hq,ht42,ht46,if_true,if_false,Ag];rw [show (Bv s).2=4 by simpa using ht46];rfl,rfl⟩
 refine Z17 ?_;refine Z34 ?_;refine To ?_;refine Dd ?_;exact A8 (B1 (B8 jA jS) A7) ⟨by simp only [Ji,ht6,ht10,hq,ht42,ht46,if_true,if_false,Ag];try rfl,rfl⟩

def blanks:Str:=[32,9,10]
/-- What stands behind blanks and notes. -/
def Ia:Str→Bool→Str
 | [],_=>[]
 | c::r,false=>if blanks.contains c then Ia r false else if c==35 then Ia r true else c::r
 | c::r,true=>if c==10 then Ia r false else Ia r true
def runN (s of:Str):Nat:=s.length-(Lib.trimLeftS s of).length
theorem jb (s of:Str):Tv s of=(runN s of:Int):=by
 have:=Xv s of
 unfold Tv runN
 omega
theorem jc (s of:Str):runN s of≤s.length:=Nat.sub_le _ _
theorem AEe (s of:Str):s.drop (runN s of)=Lib.trimLeftS s of:=by
 unfold runN Lib.trimLeftS
 have h:∀l:Str,l.drop (l.length-(l.dropWhile (of.contains ·)).length)=l.dropWhile (of.contains ·):=by
  intro l
  have e:=v7 (p:=(of.contains ·)) (l:=l)
  have hl:l.length-(l.dropWhile (of.contains ·)).length=(l.takeWhile (of.contains ·)).length:=by
   have:=congrArg List.length e
   simp only [Ao] at this
   omega
  rw [hl]
  conv=>lhs;rw [←e]
  rw [List.drop_left']
  rw [e]
 exact h s
theorem AEf (s of:Str):s.take (runN s of)=s.takeWhile (of.contains ·):=by
 have e:=v7 (p:=(of.contains ·)) (l:=s)
 have hl:runN s of=(s.takeWhile (of.contains ·)).length:=by
  unfold runN Lib.trimLeftS
  have:=congrArg List.length e
  simp only [Ao] at this
  omega
 rw [hl]
 conv=>lhs;rw [←e]
 rw [List.take_left']
 rw [e]
theorem Va:∀s:Str,Ia (Lib.trimLeftS s blanks) false=Ia s false
 | []=>rfl
 | c::r=>by
  unfold Lib.trimLeftS
  rw [Ut]
  by_cases h:blanks.contains c=true
  ·rw [if_pos h,Ia,if_pos h]
   exact Va r
  rw [if_neg h]
theorem dy (of:Str):∀(s:Str) (c:UInt8) (t:Str),Lib.trimLeftS s of=c::t→of.contains c=false
 | [],c,t,h=>by cases h
 | b::r,c,t,h=>by
  unfold Lib.trimLeftS at h
  rw [Ut] at h
  split at h
  ·exact dy of r c t h
  rename_i hb
  injection h with h1 h2
  subst h1
  simpa using hb
def Km:Str→Str
 | []=>[]
 | c::r=>if c==10 then r else Km r
theorem AMq (s:Str):(Lib.cut s [10]).2.1=Km s:=by
 unfold Lib.cut
 induction s with
 | nil=>rfl
 | cons c r ih =>
  have hg:=Lib.index_ge r [10]
  rw [Km]
  unfold Lib.index
  by_cases hc:c=10
  ·subst hc
   simp [List.isPrefixOf]
  have h1:([10]:Str).isPrefixOf (c::r)=false:=by simp [List.isPrefixOf,Ne.symm hc]
  have h2:(c==10)=false:=by simpa using hc
  rw [h1,h2]
  simp only [Ag,if_false]
  by_cases hi:Lib.index r [10] = -1
  ·rw [hi] at ih ⊢
   simpa using ih
  have h3:(Lib.index r [10] == -1)=false:=by simpa using hi
  rw [h3]
  simp only [Ag,if_false]
  rw [if_pos (by omega)] at ih ⊢
  have e:(Lib.index r [10]+1).toNat=(Lib.index r [10]).toNat+1:=by omega
  rw [e]
  rw [←ih]
  show (c::r).drop _=_
  rw [show (Lib.index r [10]).toNat+1+([10]:Str).length=((Lib.index r [10]).toNat+([10]:Str).length)+1 by omega,qf]
theorem dz:∀t:Str,Ia t true=Ia (Km t) false
 | []=>rfl
 | c::r=>by
  rw [Ia,Km]
  split
  ·rfl
  exact dz r
theorem Za:∀t:Str,(Km t).length≤t.length
 | []=>Aj _
 | c::r=>by
  rw [Km]
  split
  ·simp
  have:=Za r;simp only [B6];omega
def gapM (s:Str):Nat:=s.length-(Ia s false).length
theorem zo {d:Str} (h:((d==[])==false)=true):d≠[]:=by rintro rfl;simp at h
theorem jd:∀c∈blanks,c.toNat<128:=by decide
/-- The gap is at its end. -/
theorem AHz {x s:Str} (hx:Ia x false=Ia s false) (h:((Lib.trimLeftS x blanks==[]) || ((((Lib.trimLeftS x blanks).headD 0).toNat:Int) != 35))=true):Ia s false=Lib.trimLeftS x blanks:=by
 rw [←hx,←Va]
 cases ht:Lib.trimLeftS x blanks with
 | nil=>rfl
 | cons c t =>
  rw [ht] at h
  have hb:=dy blanks x c t ht
  have hc:(c==35)=false:=by
   simp at h
   rw [beq_eq_false_iff_ne]
   rintro rfl
   exact h rfl
  rw [Ia,hb,hc]
  rfl
theorem AMr {x s:Str} (hx:Ia x false=Ia s false) (h:((Lib.trimLeftS x blanks==[]) || ((((Lib.trimLeftS x blanks).headD 0).toNat:Int) != 35))=false):
  Ia (Lib.cut (Lib.trimLeftS x blanks) [10]).2.1 false=Ia s false∧(Lib.cut (Lib.trimLeftS x blanks) [10]).2.1.length<x.length:=by
 have hl:=Xv x blanks
 rw [AMq,←hx,←Va x]
 cases ht:Lib.trimLeftS x blanks with
 | nil=>rw [ht] at h;simp at h
 | cons c t =>
  rw [ht] at h hl
  have hc:c=35:=by
   simp at h
   exact Lo.1 (by have:(35:UInt8).toNat=35:=rfl;omega)
  subst hc
  have ha:=Za t
  refine ⟨?_,?_⟩
  ·rw [Km,Ia]
   have e1:blanks.contains 35=false:=by decide
   rw [e1]
   exact (dz t).symm
  rw [Km]
  simp only [B6] at hl
  show (Km t).length<_
  omega
theorem c92 (s:Str) (hs:s.length≤1048576) (Hp:List AObj):AFun Tryz.prog 92 [Af s] Hp (A5 (gapM s)):=by
 refine Ah [.tmp 2] [0] Tryz.func92 Tryz.ntmps92 (fun d=>?_)
 refine Z49 ?_;refine rg ?_
 refine Az (α:=Str) (fun x=>⟨27,A6 0 (Af s) (A6 3 (Af x) (fun _=>.any)),Hp,[],[],none⟩) (fun x=>Ia x false=Ia s false∧x.length≤s.length) (fun x=>x.length) (s) (by simp) (F6 _) rfl (fun x hx=>?_)
 refine Mi ?_;refine Ec ?_
 have hx2:=hx.2
 have htl:=Xv x blanks
 refine Z0 ?_;refine A9 Tryz.call115 (s9 x blanks (by omega) (by decide) jd _) ?_
 refine A4 (h:=S4 (runN x blanks) (fun _=>jc _ _) (fun _=>Aj _) (ha:=fun _=>jb x blanks)) (hr:=?_)
 rw [AEe]
 refine A4 ?_;refine Oj ?_;refine Z33 ?_;refine Bd ?_
 refine Bd (h:=Fq 0 ((Lib.trimLeftS x blanks).headD 0) (fun hB=>M1 (zo hB))) (hr:=?_)
 refine Z93 ?_;refine A2 [0,3,15] ?_
 refine A3 (fun ht15=>?_) (fun ht15=>?_)
 ·have he:=AHz hx.1 ht15
  refine Z25 ?_;refine Z53 ?_;refine F8 ?_;refine Mf ?_;refine Mg ?_;exact A8 (Ae A7) ⟨by rw [show ((s.length:Int)-(Lib.trimLeftS x blanks).length)=(gapM s:Int) by unfold gapM;rw [he];omega],rfl⟩
 have he:=AMr hx.1 ht15
 refine Z4 ?_;refine Z52 ?_;refine A9 Tryz.call116 (AR2 (Lib.trimLeftS x blanks) [10] (by omega) _) ?_;refine Z63 ?_;refine Oj ?_;refine L3 ?_;exact Ay _ ⟨he.1,by omega⟩ he.2 (Bh rfl)

def Ek (s of:Str):Str:=s.take (runN s of)
theorem K5 (s of:Str):(Ek s of).length≤s.length:=by unfold Ek;simp;omega
def Si (s:Str):Int×Str×Int×Int:=
 if I6 (Ek s tails) then (2,Ek s tails,(Ek s tails).length,0) else if !Dg (Ek s tails) then (0,[],0,3) else (1,Ek s tails,(Ek s tails).length,0)
abbrev AEg (r:Int×Str×Int×Int):AV:=.tup [A5 r.1,Af r.2.1,A5 r.2.2.1,A5 r.2.2.2]
theorem mi:∀c∈tails,c.toNat<128:=by decide
theorem cy:∀c∈letters,c.toNat<128:=by decide
theorem AT4 (s:Str) (hs:s.length≤1048576) (Hp:List AObj):AFun Tryz.prog 117 [Af s] Hp (AEg (Si s)):=by
 refine Ah [.tmp 2,.tmp 3,.tmp 4,.tmp 5] [0] Tryz.func117 Tryz.ntmps117 (fun d=>?_)
 refine ADj ?_;refine Z1 ?_;refine A9 Tryz.call115 (s9 s tails hs (by decide) mi _) ?_
 refine A4 (h:=L1 (runN s tails) (fun _=>Ap _) (fun _=>jc _ _) (hb:=fun _=>jb s tails)) (hr:=?_)
 refine A4 ?_;refine A2 [6] ?_;refine Tr ?_
 refine A9 Tryz.call152 (AR7 (Ek s tails) (by have:=K5 s tails;omega) _) ?_
 refine A4 ?_;refine A2 [6,11] ?_
 refine A3 (fun ht11=>?_) (fun ht11=>?_)
 ·refine Ec ?_
  have hwl:=K5 s tails
  refine Z0 ?_;refine Z63 ?_;refine AD8 ?_;exact A8 (Me A7 A7 A7 A7) ⟨by simp only [Si,ht11,if_true,if_false,Ag];try rfl,rfl⟩
 refine Z2 ?_
 refine A9 Tryz.call111 (AE7 (Ek s tails) (by have:=K5 s tails;omega) _) ?_
 refine Z0 ?_;refine A2 [6,17] ?_
 refine A3 (fun ht17=>?_) (fun ht17=>?_)
 ·refine Z25 ?_;refine AD8 ?_;exact AQd
 refine Z17 ?_;refine Ec ?_
 have hwl:=K5 s tails
 refine Z0 ?_;refine Z63 ?_;refine AD6 ?_;exact AQd

def je (s:Str):Int×Str×Int×Int:=(3,Ek s digs,(Ek s digs).length,(Ji (Ek s digs)).2)
theorem AT5 (s:Str) (hs:s.length≤1048576) (Hp:List AObj):AFun Tryz.prog 118 [Af s] Hp (AEg (je s)):=by
 refine Ah [.tmp 2,.tmp 3,.tmp 4,.tmp 5] [0] Tryz.func118 Tryz.ntmps118 (fun d=>?_)
 refine ADj ?_;refine Z1 ?_;refine A9 Tryz.call115 (s9 s digs hs (by decide) Sh _) ?_
 refine A4 (h:=L1 (runN s digs) (fun _=>Ap _) (fun _=>jc _ _) (hb:=fun _=>jb s digs)) (hr:=?_)
 refine A4 ?_;refine A2 [6] ?_;refine Z2 ?_
 refine A9 Tryz.call159 (AMp (Ek s digs) (by have:=K5 s digs;omega) _) ?_
 refine Ys ?_;refine A2 [6,8] ?_;refine Z25 ?_;refine Z70 ?_;refine AD6 ?_;exact A8 (Me A7 A7 A7 A7) ⟨rfl,rfl⟩

/-- Behind a mark: how many bytes up to the one that ALc, it too. -/
def E3:Str→Option Nat
 | []=>none
 | [c]=>if c==39 then some 1 else none
 | c::d::t=>if c==39 then (if d==39 then (E3 t).map (·+2) else some 1) else (E3 (d::t)).map (·+1)
theorem Wh {c:UInt8} (h:¬(c==39)=true) (r:Str):E3 (c::r)=(E3 r).map (·+1):=by
 cases r with
 | nil=>simp [E3,h]
 | cons d t=>rw [E3,if_neg h]
theorem Zb (r:Str):E3 (39::r)=match r with
   | []=>some 1
   | d::t=>if d==39 then (E3 t).map (·+2) else some 1:=by
 cases r with
 | nil=>rfl
 | cons d t=>rw [E3];simp
def N5 (s:Str):Int×Str×Int×Int:=
 match E3 (s.drop 1) with
 | none=>(0,[],0,7)
 | some n=>if (Ji (s.take (n+1))).2 != 0 then (0,[],0,3) else (4,(Ji (s.take (n+1))).1.s,((n+1:Nat):Int),0)
theorem Zc:∀l:Str,Lib.indexByte l 39 = -1→E3 l=none
 | [],_=>by rw [E3]
 | c::r,h=>by
  rw [Lib.indexByte] at h
  split at h
  ·omega
  rename_i hc
  rw [Wh hc]
  split at h
  ·rename_i hi
   rw [Zc r (by simpa using hi)]
   rfl
  have:=Lib.indexByte_ge r 39;omega
theorem mj:∀(l:Str) (k:Nat),Lib.indexByte l 39=(k:Int)→k<l.length∧E3 l=(E3 (l.drop k)).map (·+k)∧l[k]? = some 39
 | [],k,h=>by rw [Lib.indexByte] at h;omega
 | c::r,k,h=>by
  rw [Lib.indexByte] at h
  split at h
  ·rename_i hc
   have:k=0:=by omega
   subst this
   refine ⟨by simp,?_,by simpa using hc⟩
   rw [gm]
   cases E3 (c::r)<;>simp
  rename_i hc
  split at h
  ·omega
  have hg:=Lib.indexByte_ge r 39
  rename_i hi
  have hi':Lib.indexByte r 39 ≠ -1:=by simpa using hi
  obtain ⟨m,rfl⟩:∃m,k=m+1:=⟨k-1,by omega⟩
  obtain ⟨h1,h2,h3⟩:=mj r m (by omega)
  refine ⟨by simpa using h1,?_,by simpa using h3⟩
  rw [Wh hc,qf,h2]
  cases E3 (r.drop m)<;>simp [Ll]
theorem Ol {s:Str} {n:Nat} {c:UInt8} (h:s[n]? = some c):s.drop n=c::s.drop (n+1):=by
 obtain ⟨hlt,he⟩:=Ad.1 h
 rw [Hd hlt,he]
theorem Tw {s:Str} {n:Nat} (h:n<s.length):s[n]? = some (s.getD n 0):=by
 rw [D4,Aa h];rfl
theorem AEh {s:Str} {x k:Nat} (h:(decide (((x:Int)+((k:Int)+1))<s.length)==true)=true):x+(k+1)<s.length:=by
 have:=of_decide_eq_true (by simpa using h:decide (((x:Int)+((k:Int)+1))<s.length)=true)
 omega
/-- What a round of the search for the mark that ALc comes to. -/
theorem sk {s:Str} {x k:Nat} (h1:1≤x) (hx:E3 (s.drop 1)=(E3 (s.drop x)).map (·+(x-1))) (hk:Lib.indexByte (s.drop x) 39=(k:Int)):
  x+(k+1)≤s.length ∧
   ((decide (((x:Int)+((k:Int)+1))<s.length)&&(((s.getD (x+(k+1)) 0).toNat:Int)==39))=true→x+(k+1)+1≤s.length∧E3 (s.drop 1)=(E3 (s.drop (x+(k+1)+1))).map (·+(x+(k+1)+1-1))) ∧
   ((decide (((x:Int)+((k:Int)+1))<s.length)&&(((s.getD (x+(k+1)) 0).toNat:Int)==39))=false→E3 (s.drop 1)=some (x+k)):=by
 obtain ⟨g1,g2,g3⟩:=mj _ k hk
 rw [Fh] at g1
 rw [F4] at g3
 have e0:(s.drop x).drop k=39::s.drop (x+(k+1)):=by rw [gk,Ol g3,Ll]
 rw [e0] at g2
 refine ⟨by omega,fun h=>?_,fun h=>?_⟩
 ·simp only [As,decide_eq_true_eq,beq_iff_eq] at h
  have hlt:x+(k+1)<s.length:=by omega
  have hc:s.getD (x+(k+1)) 0=39:=Lo.1 (by have:(39:UInt8).toNat=39:=rfl;omega)
  have hd:=Ol (Tw hlt)
  rw [hc] at hd
  refine ⟨by omega,?_⟩
  rw [hx,g2,hd,Zb]
  simp only [beq_self_eq_true,if_true]
  cases E3 (s.drop (x+(k+1)+1)) with
  | none=>rfl
  | some m=>simp;omega
 rw [hx,g2,Zb]
 cases hd:s.drop (x+(k+1)) with
 | nil=>simp;omega
 | cons d t =>
  have hlt:x+(k+1)<s.length:=by
   have:=congrArg List.length hd
   simp at this;omega
  have hg:=Ol (Tw hlt)
  rw [hd] at hg
  injection hg with hg1 hg2
  have hne:(d==39)=false:=by
   rw [hg1,beq_eq_false_iff_ne]
   intro e
   rw [e] at h
   simp at h
   omega
  simp [hne];omega
theorem AT6 (s:Str) (h0:1≤s.length) (hs:s.length≤1048576) (Hp:List AObj):AFun Tryz.prog 119 [Af s] Hp (AEg (N5 s)):=by
 refine Ah [.tmp 2,.tmp 3,.tmp 4,.tmp 5] [0] Tryz.func119 Tryz.ntmps119 (fun d=>?_)
 refine ADj ?_;refine Z2 ?_;refine A2 [0,6] ?_
 refine Az (α:=Nat) (fun x=>⟨44,A6 0 (Af s) (A6 6 (A5 (x:Nat)) (fun _=>.any)),Hp,[],[],none⟩) (fun x=>1≤x∧x≤s.length∧E3 (s.drop 1)=(E3 (s.drop x)).map (·+(x-1))) (fun x=>s.length-x) (1) ⟨Aj _,h0,by cases E3 (s.drop 1)<;>rfl⟩ (F6 _) rfl (fun x hx=>?_)
 refine P8 ?_
 refine A4 (h:=S4 x (fun _=>hx.2.1) (fun _=>Aj _)) (hr:=?_)
 refine A9 Tryz.call160 (ASu (s.drop x) 39 _) ?_;refine A4 ?_;refine A2 [0,6,7] ?_;refine Z8 ?_;refine A2 [0,6,7,15] ?_
 refine A3 (fun ht15=>?_) (fun ht15=>?_)
 ·have hk:Lib.indexByte (s.drop x) 39 = -1:=by have:=Lib.indexByte_ge (s.drop x) 39;simp at ht15;omega
  have hcq:E3 (s.drop 1)=none:=by rw [hx.2.2,Zc _ hk];rfl
  refine Z25 ?_;refine AH8 ?_;refine Mf ?_;refine Mg ?_;exact A8 (Me A7 A7 A7 A7) ⟨by simp only [N5,hcq],rfl⟩
 obtain ⟨k0,hk⟩:=q8 (show 0≤Lib.indexByte (s.drop x) 39 by simp at ht15;omega)
 rw [hk]
 refine rk ?_
 have hst:=sk hx.1 hx.2.2 hk
 refine Z63 ?_;refine A2 [0,6] ?_;refine Oi ?_;refine Z7 ?_
 refine Bd (h:=Fq (x+(k0+1)) (s.getD (x+(k0+1)) 0) (fun hB=>Tw (AEh hB))) (hr:=?_)
 refine Z93 ?_;refine A2 [0,6,29] ?_
 refine A3 (fun ht29=>?_) (fun ht29=>?_)
 ·have hon:=hst.2.1 ht29
  refine Z19 ?_;refine A2 [0,6] ?_;refine Z32 ?_;refine K.blE ?_;exact Ay ((x+(k0+1))+1) ⟨by omega,hon.1,hon.2⟩ (by omega) (Bh rfl)
 have hcq:=hst.2.2 ht29
 refine Lq ?_
 refine A4 (h:=L1 (x+(k0+1)) (fun _=>Ap _) (fun _=>hst.1)) (hr:=?_)
 refine A9 Tryz.call159 (AMp (s.take (x+(k0+1))) (by simp;omega) _) ?_
 refine Ys ?_;refine A2 [6,8,9] ?_;refine Z8 ?_;refine A2 [6,8,40] ?_
 refine A3 (fun ht40=>?_) (fun ht40=>?_)
 ·refine Z25 ?_;refine AH8 ?_;refine Mf ?_;refine Mg ?_;exact A8 (Me A7 A7 A7 A7) ⟨by simp only [N5,hcq,show x+k0+1=x+(k0+1) by omega];rw [if_pos ht40],rfl⟩
 refine Z4 ?_;refine Cb [0,1,0,0,11,31,63] 5 Ai (by kernel_rfl) ?_;refine Z12 ?_;refine z7 ?_;refine Z0 ?_;refine AD6 ?_;refine Mf ?_;refine Mg ?_;exact A8 (Me A7 A7 A7 A7) ⟨by simp only [N5,hcq,show x+k0+1=x+(k0+1) by omega];rw [if_neg (by rw [ht40];simp)];rfl,rfl⟩

def vl:Str:=[60,61,32,62,61,32,33,61]
def vm:Str:=[40,41,44,59,61,60,62,43,45,42,47,37,38,58]
def Zd (s:Str):Int×Str×Int×Int:=
 if (decide ((1:Int)<s.length)&&Lib.contains vl (s.take 2))&&(((s.getD 1 0).toNat:Int)==61) then (5,s.take 2,2,0)
 else if Lib.contains vm (s.take 1) then (5,s.take 1,1,0) else (0,[],0,7)
theorem zp {s:Str} {b c:Bool} (h:(((decide ((1:Int)<s.length)&&b)&&c)==true)=true):1<s.length:=by
 revert h
 cases hd:decide ((1:Int)<s.length) with
 | true=>intro _;have:=of_decide_eq_true hd;omega
 | false=>intro h;simp at h
theorem Ze {s:Str} {b:Bool} (h:((decide ((1:Int)<s.length)&&b)==true)=true):1<s.length:=zp (c:=true) (by rw [Pc];exact h)
theorem sm {s:Str} (h:(decide ((1:Int)<s.length)==true)=true):2≤s.length:=Ze (b:=true) (by rw [Pc];exact h)
theorem AT7 (s:Str) (h0:1≤s.length) (Hp:List AObj):AFun Tryz.prog 120 [Af s] Hp (AEg (Zd s)):=by
 refine Ah [.tmp 2,.tmp 3,.tmp 4,.tmp 5] [0] Tryz.func120 Tryz.ntmps120 (fun d=>?_)
 refine ADj ?_;refine Z50 ?_;refine Bd ?_
 refine Bd (h:=L1 2 (fun _=>Ap _) (fun hB=>sm hB)) (hr:=?_)
 refine Bm Tryz.call153 (fun hB=>zg vl (s.take 2) (by decide) _) ?_;refine Sf ?_
 refine Bd (h:=Fq 1 (s.getD 1 0) (fun hB=>Tw (Ze hB))) (hr:=?_)
 refine Z93 ?_;refine A2 [0,18] ?_
 refine A3 (fun ht18=>?_) (fun ht18=>?_)
 ·have h2:2≤s.length:=by revert ht18;cases hd:decide ((1:Int)<s.length) with
   | true=>intro _;have:=of_decide_eq_true hd;omega
   | false=>intro h;simp at h
  refine Cb [0,1,0,7,15,31] 3 Ai (by kernel_rfl) ?_;refine Ak ?_
  refine Ak (h:=L1 2 (fun _=>Ap _) (fun _=>h2)) (hr:=?_)
  refine Sc ?_;refine Z10 ?_;refine AH8 ?_;exact A8 (Me A7 A7 A7 A7) ⟨by simp only [Zd,ht18,if_true,if_false,Ag];try rfl,rfl⟩
 refine Sd ?_
 refine A4 (h:=L1 1 (fun _=>Ap _) (fun _=>h0)) (hr:=?_)
 refine A9 Tryz.call153 (zg vm (s.take 1) (by decide) _) ?_;refine A2 [0,23] ?_
 refine A3 (fun ht23=>?_) (fun ht23=>?_)
 ·refine Cb [0,1,0,7,15,31] 3 Ai (by kernel_rfl) ?_;refine Ak ?_
  refine Ak (h:=L1 1 (fun _=>Ap _) (fun _=>h0)) (hr:=?_)
  refine Sc ?_;refine Z10 ?_;refine AH8 ?_;exact AQe
 refine Yt ?_;refine AD6 ?_;exact AQe

def Cz (s:Str):Int×Str×Int×Int:=
 if decide (0<Tv (s.take 1) letters) then Si s else if decide (0<Tv (s.take 1) digs) then je s else if ((s.getD 0 0).toNat:Int)==39 then N5 s else Zd s
theorem c93 (s:Str) (h0:1≤s.length) (hs:s.length≤1048576) (Hp:List AObj):AFun Tryz.prog 93 [Af s] Hp (AEg (Cz s)):=by
 refine Ah [.tmp 2,.tmp 3,.tmp 4,.tmp 5] [0] Tryz.func93 Tryz.ntmps93 (fun d=>?_)
 refine ADj ?_;refine Tr ?_
 refine A4 (h:=L1 1 (fun _=>Ap _) (fun _=>h0)) (hr:=?_)
 refine A9 Tryz.call115 (s9 (s.take 1) letters (by simp;omega) (by decide) cy _) ?_
 refine Z0 ?_;refine A2 [0,6] ?_
 refine A3 (fun ht6=>?_) (fun ht6=>?_)
 ·refine Z2 ?_;refine A9 Tryz.call117 (AT4 s hs _) ?_;refine Z70 ?_;refine Z70 ?_;refine AD8 ?_;exact A8 (Me A7 A7 A7 A7) ⟨by simp only [Cz,ht6,if_true,if_false,Ag],rfl⟩
 refine Z2 ?_
 refine A4 (h:=L1 1 (fun _=>Ap _) (fun _=>h0)) (hr:=?_)
 refine A9 Tryz.call115 (s9 (s.take 1) digs (by simp;omega) (by decide) Sh _) ?_
 refine Z0 ?_;refine A2 [0,17] ?_
 refine A3 (fun ht17=>?_) (fun ht17=>?_)
 ·refine Z2 ?_;refine A9 Tryz.call118 (AT5 s hs _) ?_;refine Z70 ?_;refine Z70 ?_;refine AD8 ?_;exact A8 (Me A7 A7 A7 A7) ⟨by simp only [Cz,ht6,ht17,if_true,if_false,Ag],rfl⟩
 refine Z2 ?_
 refine A4 (h:=Fq 0 (s.getD 0 0) (fun _=>Tw h0)) (hr:=?_)
 refine Z0 ?_;refine A2 [0,28] ?_
 refine A3 (fun ht28=>?_) (fun ht28=>?_)
 ·refine Z2 ?_;refine A9 Tryz.call119 (AT6 s h0 hs _) ?_;refine Z70 ?_;refine Z70 ?_;refine AD8 ?_;exact AQf
 refine Z17 ?_;refine Z2 ?_;refine A9 Tryz.call120 (AT7 s h0 _) ?_;refine Z70 ?_;refine Z70 ?_;refine AD6 ?_;exact AQf

structure Tok where
 kind:Int
 text:Str
 at_:Nat
 deriving DecidableEq
abbrev Mm (t:Tok):AV:=.agg [.v (.int .i64 t.kind),.v (sv t.text),.v (.int .i64 (t.at_:Int))]
abbrev vn (l:List Tok):AV:=.slice false 3 (l.map Mm)
theorem vo {c:UInt8} {of:Str} (h:decide (0<Tv ([c]:Str) of)=true):of.contains c=true:=by
 have:=of_decide_eq_true h
 unfold Tv Lib.trimLeftS at this
 rw [Ut] at this
 cases hc:of.contains c with
 | true=>rfl
 | false=>rw [hc] at this;simp at this
theorem Zf {c:UInt8} {r of:Str} (h:of.contains c=true):1≤(Ek (c::r) of).length:=by
 unfold Ek
 rw [AEf,List.takeWhile_cons,h]
 simp
theorem cz:∀c:UInt8,letters.contains c=true→tails.contains c=true:=by
 have h:((List.range 256).all fun n => !letters.contains (UInt8.ofNat n) || tails.contains (UInt8.ofNat n))=true:=by kernel_rfl
 intro c hc
 have:=B5.1 h c.toNat (Qm.2 c.toNat_lt)
 rw [show UInt8.ofNat c.toNat=c by simp,hc] at this
 simpa using this
theorem Zg:∀(l:Str) (n:Nat),E3 l=some n→1≤n∧n≤l.length
 | [],n,h=>by cases h
 | [c],n,h=>by
  rw [E3] at h
  split at h
  ·injection h with h;subst h;simp
  cases h
 | c::d::t,n,h=>by
  rw [E3] at h
  split at h
  ·split at h
   ·rw [Ep] at h
    obtain ⟨m,hm,rfl⟩:=h
    have:=Zg t m hm
    simp only [B6];omega
   injection h with h;subst h;simp
  rw [Ep] at h
  obtain ⟨m,hm,rfl⟩:=h
  have:=Zg (d::t) m hm
  simp only [B6] at this ⊢;omega
theorem vp {s:Str} (h0:1≤s.length) (h:(Cz s).2.2.2=0):∃n:Nat,(Cz s).2.2.1=(n:Int)∧1≤n∧n≤s.length:=by
 cases s with
 | nil=>simp at h0
 | cons c r =>
  unfold Cz at h ⊢
  split at h
  ·rename_i h1
   rw [if_pos h1]
   have hc:=cz c (vo h1)
   have hw:=Zf (r:=r) hc
   have hl:=K5 (c::r) tails
   unfold Si at h ⊢
   split at h
   ·rename_i h2;rw [if_pos h2];exact ⟨_,rfl,hw,hl⟩
   rename_i h2
   rw [if_neg h2]
   split at h
   ·exact ADn
   rename_i h3;rw [if_neg h3];exact ⟨_,rfl,hw,hl⟩
  rename_i h1
  rw [if_neg h1]
  split at h
  ·rename_i h2
   rw [if_pos h2]
   exact ⟨_,rfl,Zf (r:=r) (vo h2),K5 _ _⟩
  rename_i h2
  rw [if_neg h2]
  split at h
  ·rename_i h3
   rw [if_pos h3]
   unfold N5 at h ⊢
   split at h
   ·exact ADn
   rename_i n hn
   split at h
   ·exact ADn
   rename_i h4
   simp only [if_neg h4]
   have:=Zg _ n hn
   simp at this
   exact ⟨n+1,rfl,by omega,by simp only [B6];omega⟩
  rename_i h3
  rw [if_neg h3]
  unfold Zd at h ⊢
  split at h
  ·rename_i h4
   rw [if_pos h4]
   refine ⟨2,rfl,by omega,?_⟩
   simp only [As,decide_eq_true_eq] at h4
   have:=h4.1.1
   omega
  rename_i h4
  rw [if_neg h4]
  split at h
  ·rename_i h5;rw [if_pos h5];exact ⟨1,rfl,by omega,h0⟩
  exact ADn
/-- The words from a place on, up to one that is wrong. -/
def K6:Nat→Nat→Str→List (Tok×Int)
 | 0,_,_=>[]
 | f+1,k,s=>if s==[] then [] else
  (⟨(Cz s).1,(Cz s).2.1,k⟩,(Cz s).2.2.2)::(if (Cz s).2.2.2==0 then K6 f (k+(Cz s).2.2.1.toNat+gapM (s.drop (Cz s).2.2.1.toNat)) ((s.drop (Cz s).2.2.1.toNat).drop (gapM (s.drop (Cz s).2.2.1.toNat))) else [])
def Cw (s:Str):List (Tok×Int):=K6 (s.length+1) (gapM s) (s.drop (gapM s))
theorem so (s:Str):gapM s≤s.length:=Nat.sub_le _ _
end Go.SX.Nb
namespace Go.SX
variable [GI:GlobInv]
open Classical
@[simp] theorem AT8 {n o k m c:Nat}:Low n (.sl o k m c)↔o<n:=⟨fun h=>by cases h;assumption,fun h=>.sl o k m c h⟩
/-- The cells of elements, one behind the other. -/
abbrev Ns (xs:List AV):List AV:=xs.flatMap AV.cells
theorem Sj (x:AV) (r:List AV):Ns (x::r)=x.cells++Ns r:=by simp [Ns]
theorem Vb {k:Nat}:∀{xs:List AV},(∀x∈xs,x.cells.length=k)→(Ns xs).length=xs.length*k
 | [],_=>by simp
 | x::r,h=>by
  rw [Sj,Ao,h x Lj,Vb (fun y hy=>h y (Qj _ hy)),B6,Eg]
  omega
theorem Vc {k:Nat}:∀{xs:List AV},(∀x∈xs,x.cells.length=k)→∀{i j:Nat} {x y:AV},xs[i]? = some x→x.cells[j]? = some y→(Ns xs)[i*k+j]? = some y
 | [],_,i,j,x,y,h,_=>by simp at h
 | a::r,hk,0,j,x,y,h,h2=>by
  simp at h
  subst h
  rw [Sj,Th,Bl,Dh (Ad.1 h2).1]
  exact h2
 | a::r,hk,i+1,j,x,y,h,h2=>by
  rw [Pf] at h
  have ha:=hk a Lj
  have hh:=Vc (fun y hy=>hk y (Qj _ hy)) h h2
  rw [Sj,Dn (by rw [ha,Eg];omega),ha]
  rw [show (i+1)*k+j-k=i*k+j by rw [Eg];omega]
  exact hh
section
variable {P:Program} {d:Nat} {st:St} {dst:Option Tmp} {ty:TypeId} {pos:String} {aft:Array Edge} {gd:Option (Nat×Bool)}
/-- The address of an element. -/
theorem OpV.indexAddrSl {t e:TypeId} {x i:Operand} {o k n c m:Nat} {q:IntKind} (hu:P.underlying t=some (.slice e)) (hsz:∀w,(sizeOf e).run P w=.ok k w) (hm:m<n)
  (hx:st.ev x=.sl o k n c) (hi:st.ev i=.v (.int q (m:Int))):OpV P d ⟨dst,.indexAddr t x i,ty,pos,aft,gd⟩ st (.ptr o (m*k)):=
 Cj (by intro c h;cases h) fun G a w h=>by
  have hr:=hx ▸ h.eval x
  have hi':=Cy h hi
  generalize hv:a.eval x=u at hr
  cases hr with
  | sl l o k n c ho =>
   have hlt':(m:Int)<n:=by omega
   refine ⟨.pointer (some ((⟨G.blk o,0,none⟩:Addr).add (m*k))),by simp [execOp,Instr.indexAt,asIntOf,hi',hv,run_underlying hu,hm,hlt',hsz],?_⟩
   rw [Ck rfl,Bl]
   exact .ptr _ o _ ho
/-- An empty slice, over an object of its own. -/
theorem AOp.buildObj0 {t e:TypeId} {k s n:Nat} (hu:P.underlying t=some (.slice e)) (hsz:∀w,(sizeOf e).run P w=.ok k w) (hn:st.own.length=n) (hs:s<st.sz):
  AOp P d ⟨some s,.buildSlice t 0 #[],ty,pos,aft,gd⟩ st (·=({ st with own:=st.own++[.cells e []] }:St).set s (.sl (st.up.length+n) k 0 0)):=by
 intro G a w h Q'
 obtain ⟨G',h1,T,hb,hlt⟩:=Qs h e [] #[] rfl (fun j y u h1 _=>by simp at h1)
 have hlen:(st.up++st.own).length=st.up.length+n:=by rw [Ao,hn]
 rw [hlen] at hb hlt
 have hrun:(execOp a.eval (⟨some s,.buildSlice t 0 #[],ty,pos,aft,gd⟩:Oper)).run P w=.ok (.value (.slice (some ⟨w.heap.size,0,none⟩) 0 0)) (w.alloc (.cells #[] e)):=by
  have hfl:∀f:Nat→Option (Nat×Nat),Instr.fill f ((Array.range 0).map fun _=>(default:Value)) []=some #[]:=fun f=>by simp [Instr.fill]
  simp [execOp,Instr.buildSlice,run_underlying hu,hsz,newRow,hfl]
 refine Dp (by intro c h;cases h) hrun ⟨G',_,h1.put (s:=s) (y:=.sl (st.up.length+n) k 0 0) hs ?_,T.keep d,rfl,rfl,rfl,rfl⟩
 rw [←hb]
 exact .sl _ _ _ _ _ hlt
/-- What is appended to an empty slice lies in a new object of ours; of its spare cells nothing is known. -/
theorem AOp.appendObj {t e:TypeId} {i:TypeInfo} {z:Value} {k by' s o n:Nat} {xr x:Operand} {o2:Bool} {ys:List AV}
  (hu:P.underlying t=some (.slice e)) (hi:P.info? e=some i) (hz:i.zero=some z) (hsz:i.size=k) (hby:i.bytes=by') (hzk:z.cells.size=k) (hk:0<k)
  (hb:st.ev xr=.sl o k 0 0) (hx:Jz (st.ev x) o2 k ys) (hne:ys≠[]) (hn:st.own.length=n) (hs:s<st.sz) (hl:ys.length*by'≤140737488355328) (hl2:ys.length≤4611686018427387904):
  AOp P d ⟨some s,.call ⟨.builtin .append,#[xr,x],#[t,t]⟩,ty,pos,aft,gd⟩ st (fun st'=>∃c,ys.length≤c∧st'=({ st with own:=st.own++[.cells e (Ns ys++List.replicate ((c-ys.length)*k) .any)] }:St).set s (.sl (st.up.length+n) k ys.length c)):=by
 subst hsz
 subst hby
 intro G a w h Q'
 have hrb:=hb ▸ h.eval xr
 have hrx:=h.eval x
 have hm:ys.length≠0:=fun e=>hne (Pd e)
 generalize hvb:a.eval xr=vb at hrb
 cases hrb with
 | sl l o k n' c ho =>
  rcases Iz hx hrx with ⟨_,e0⟩|⟨ad2,c2,f2,hvx,hc2,F2,_⟩
  ·exact absurd e0 hne
  have hge:=Jg w (0+ys.length) 0 e
  have hv:=run_append_grow (P:=P) w t ty e i z hu hi hz ⟨G.blk o,0,none⟩ 0 0 [] (by simp) (by simp) ad2 ys.length c2 (Cr i.size ys.length f2) (Bg _ _ _) (F2.vals hk) (by omega) (by omega) (growslice_fits (by omega) (by rw [Bl];exact hl))
  rw [Bl] at hv hge
  let c':=grownCap w ys.length 0 e
  have hfl:(Ns ys).length=ys.length*i.size:=Vb F2.k
  have hd':StRel d G st a w.drew:=h.drew (w.drawn+1)
  obtain ⟨G',h1,T,hbk,hlt⟩:=Qs hd' e (Ns ys++List.replicate ((c'-ys.length)*i.size) .any) (([]:List Value).toArray++(Cr i.size ys.length f2).toArray++Builtin.zeroCells z.cells (c'-ys.length)) (by
    simp only [M7,Jd,Bg,qj _ hzk,Ao,List.length_replicate,hfl,Bw]
    omega) (fun j y u hy hu'=>by
    by_cases hj:j<ys.length*i.size
    ·rw [Dh (by rw [hfl];exact hj)] at hy
     have hq:j / i.size<ys.length:=by rw [v9 hk];exact hj
     have hjm:j % i.size<i.size:=Is _ hk
     have hx0:ys[j / i.size]? = some (ys[j / i.size]):=Aa hq
     have hcl:=F2.k _ (Av hq)
     have hy0:(ys[j / i.size]).cells[j % i.size]? = some ((ys[j / i.size]).cells[j % i.size]'(by omega)):=Aa _
     have e1:j / i.size*i.size+j % i.size=j:=by have:=Nat.div_add_mod j i.size;rw [Ln] at this;exact this
     have hfg:=Vc F2.k hx0 hy0
     rw [e1,hy] at hfg
     injection hfg with hfg
     have hval:(Cr i.size ys.length f2)[j]? = some (f2 (j / i.size) (j % i.size)):=Jf hj
     rw [M6 (by simp only [M7,Jd,Bg,Bw];omega)] at hu'
     have e2:u=f2 (j / i.size) (j % i.size):=by
      have:(([]:List Value).toArray++(Cr i.size ys.length f2).toArray)[j]? = (Cr i.size ys.length f2)[j]? := by simp
      rw [this,hval] at hu'
      injection hu' with hu'
      exact hu'.symm
     rw [e2,hfg]
     exact (M0 G w (w.drawn+1)).rep (F2.rep _ _ _ _ hx0 hy0)
    rw [Dn (by rw [hfl];omega)] at hy
    rw [ACk] at hy
    split at hy
    ·injection hy with hy;subst hy;exact .any _ _
    cases hy)
  have hlen:(st.up++st.own).length=st.up.length+n:=by rw [Ao,hn]
  rw [hlen] at hbk hlt
  have hrun:(execOp a.eval (⟨some s,.call ⟨.builtin .append,#[xr,x],#[t,t]⟩,ty,pos,aft,gd⟩:Oper)).run P w=.ok (.value (.slice (some ⟨w.heap.size,0,none⟩) ys.length c')) (w.drew.alloc (.cells (([]:List Value).toArray++(Cr i.size ys.length f2).toArray++Builtin.zeroCells z.cells (c'-ys.length)) e)):=by
   simp only [execOp,resolve,invoke,builtin,Sem.run_bind,Sem.run_pure,Result.andThen_ok,T7,C5,Ef,hvb,hvx,hv]
   rfl
  have K0:=(M0 G w (w.drawn+1)).keep d
  refine Dp (by intro c h;cases h) hrun ⟨G',_,h1.put (s:=s) (y:=.sl (st.up.length+n) i.size ys.length c') hs ?_,K0.trans (T.keep d),rfl,rfl,rfl,c',hge,rfl⟩
  have hsz':w.drew.heap.size=w.heap.size:=rfl
  rw [←hsz',←hbk]
  exact .sl _ _ _ _ _ hlt

/-- The elements are written no more: the object goes, and the slice is one of known elements. -/
theorem StRel.freeze {G:Gh} {a:Act} {w:World} (h:StRel d G st a w) {r i k c:Nat} {t:TypeId} {cs xs:List AV} (hr:st.fr r=.sl (st.up.length+i) k xs.length c) (ho:st.own[i]? = some (.cells t cs)) (hnc:xs.length≤c)
  (hcs:cs.take (xs.length*k)=Ns xs) (hk:∀x∈xs,x.cells.length=k) (h1:∀x∈xs,∀y∈x.cells,y.one=true) (hst:∀x∈xs,∀y∈x.cells,y.strip=y):
  ∃G',StRel d G' { st with fr:=A6 r (.slice false k xs) st.fr,own:=st.own.set i .gone } a w∧Keep d G w G' w:=by
 let G':Gh:={ G with tag:=fun b q=>if G.tag b q=.obj (st.up.length+i) then .fix else G.tag b q }
 have hto:(st.up++st.own)[st.up.length+i]? = some (.cells t cs):=by rw [Fk];exact ho
 have hol:st.up.length+i<(st.up++st.own).length:=(Ad.1 hto).1
 have htag:∀b q,G.tag b q≠.obj (st.up.length+i)→G'.tag b q=G.tag b q:=fun b q hb=>by simp only [G'];rw [if_neg hb]
 have htagO:∀b q,G.tag b q=.obj (st.up.length+i)→G'.tag b q=.fix:=fun b q hb=>by simp only [G'];rw [if_pos hb]
 have hfix:∀b q,G.tag b q=.fix→G'.tag b q=.fix:=fun b q hb=>by rw [htag b q (by rw [hb];simp)];exact hb
 have htail:∀b q L,G.tag b q=.tail L→G'.tag b q=.tail L:=fun b q L hb=>by rw [htag b q (by rw [hb];simp)];exact hb
 have hrep:∀{l:Option Loc} {y:AV} {u:Value},Rep G w l y u→Rep G' w l y u:=fun hy =>
  hy.mono (G':=G') (fun b q e=>⟨hfix b q e,rfl⟩) (Aj _) (fun _ _=>rfl) (fun L _ b q e=>htail b q L e)
 have hst':Still G w G' w:=fun b hb=>⟨rfl,hb.1,fun q=>by
  rcases hb.2.1 q with e|e
  ·exact .inl (hfix b q e)
  exact .inr (by rw [htag b q (by rw [e];simp)];exact e),hb.2.2⟩
 obtain ⟨vs,q1,q2,q3,q4⟩:=h.heap.obj _ _ hto
 refine ⟨G',⟨h.size,fun s=>?_,⟨fun j x hx=>?_,?_,h.heap.inj⟩,h.defs,fun q hq=>?_,h.defsNodup,h.defsGe,⟨fun b q hb=>h.tags.ex b q (fun e=>?_),fun b q j hb=>?_,fun b q L hb=>?_,h.tags.globKeep hst'⟩,h.rnd,h.low,h.top⟩,
  ⟨fun b q e=>⟨hfix b q e,rfl⟩,fun b q e s _ ht=>htail b q _ ht,Aj _,fun _ _=>rfl,rfl,rfl,rfl,Aj _,hst'⟩⟩
 ·show Rep G' w _ (A6 r (.slice false k xs) st.fr s) _
  unfold A6
  by_cases hs:s=r
  ·subst hs
   rw [if_pos rfl]
   have hsl:=h.slots s
   rw [hr] at hsl
   generalize a.tmps.getD s undef=v at hsl
   cases hsl with
   | sl l o k n c ho' =>
    refine .slice _ false k xs ⟨G.blk (st.up.length+i),0,none⟩ _ c (fun q j=>vs.getD (q*k+j) undef) rfl rfl hnc hk h1 (fun q x j y hx hy=>?_) (fun q x j y hx hy=>?_) (fun e=>by cases e)
    all_goals
     have hfg:=Vc hk hx hy
     have hlt:q*k+j<xs.length*k:=by
      have:=(Ad.1 hfg).1
      rw [Vb hk] at this;exact this
     rw [←hcs,List.getElem?_take_of_lt hlt] at hfg
     have hcl:=(Ad.1 hfg).1
    ·refine ⟨htagO _ _ (by simpa using q4 _ hcl),?_⟩
     simp only [Bl]
     simp [World.cell?,q1,show q*k+j<vs.size by omega]
    have hu:=q3 _ y (vs[q*k+j]'(by omega)) hfg (Er (by omega))
    have e1:vs.getD (q*k+j) undef=vs[q*k+j]'(by omega):=by simp [show q*k+j<vs.size by omega]
    rw [e1]
    have:=hrep (hu.strip (l':=none))
    rw [hst x (B3 hx) y (B3 hy)] at this
    exact this
  rw [if_neg hs]
  exact hrep (h.slots s)
 ·have hx':(st.up++st.own.set i .gone)[j]? = some x:=hx
  rw [←Cl,Nc] at hx'
  by_cases hj:st.up.length+i=j
  ·rw [if_pos hj,if_pos hol] at hx'
   injection hx' with hx'
   subst hx'
   subst hj
   exact ⟨vs,t,(0,0),q1,fun q hq=>htagO _ _ (q4 q (by omega))⟩
  rw [if_neg hj] at hx'
  exact (h.heap.obj j x hx').free (fun e=>hj e.symm) htag rfl rfl
 ·show G.n=(st.up++st.own.set i .gone).length
  have:=h.heap.n
  simpa using this
 ·show (st.up++st.own.set i .gone)[q]? = _
  have h2:=h.defsAt q hq
  rw [←Cl,Nc]
  by_cases hj:st.up.length+i=q
  ·subst hj;rw [hto] at h2;cases h2
  rw [if_neg hj];exact h2
 ·simp only [G'] at hb
  split at hb
  ·rename_i e';rw [e] at e';cases e'
  exact hb e
 ·simp only [G'] at hb
  split at hb
  ·cases hb
  exact h.tags.obj b q j hb
 simp only [G'] at hb
 split at hb
 ·cases hb
 exact h.tags.tail b q L hb
end
section
variable {P:Program} {d:Nat} {ops:Array Oper}
theorem ARun.turnSt {l:List Oper} {st st':St} {Q:St→Prop} (h:∀(G:Gh) (a:Act) (w:World),StRel d G st a w→∃G',StRel d G' st' a w∧Keep d G w G' w) (e1:st'.up.length=st.up.length) (e2:st'.rnd=st.rnd) (e3:st'.sz=st.sz) (hr:ARun P d ops l st' Q):ARun P d ops l st Q:=by
 intro G a w hrel idx hidx
 obtain ⟨G',h1,k⟩:=h G a w hrel
 have:=hr G' a w h1 idx hidx
 rw [Fj hrel k e2] at this
 exact Do (fun e a' w' hp=>⟨hp.1,hp.2.next k e1 e2 e3⟩) _ _ _ this
variable {sz:Nat} {fr:Nat→AV} {up own own':List AObj} {dfs:List Nat} {rnd:Option Nat} {Q:St→Prop} {rest:List Oper} {s:Nat} {ty:TypeId} {pos:String} {aft:Array Edge}
theorem R.indexAddrSl {t e:TypeId} {x i:Operand} {o k n c:Nat} {q:IntKind} {z:Int} (m:Nat) (ht:P.underlying t=some (.slice e)) (hsz:∀w,(Go.sizeOf e).run P w=.ok k w) (hm:m<n) (hr:ARun P d ops rest ⟨sz,A6 s (.ptr o (m*k)) fr,up,own,dfs,rnd⟩ Q)
  (hx:Bb fr x=.sl o k n c:=by exact sL0) (hi:Bb fr i=.v (.int q z):=by exact sL0) (hz:z=(m:Int):=by first|rfl|omega) (hs:Nat.blt s sz=true:=by rfl):
  ARun P d ops (⟨some s,.indexAddr t x i,ty,pos,aft,none⟩::rest) ⟨sz,fr,up,own,dfs,rnd⟩ Q:=
 Rj rfl rfl hs (OpV.indexAddrSl ht hsz hm hx (by subst hz;exact hi)) hr
theorem R.buildObj0 {t e:TypeId} {k n:Nat} (ht:P.underlying t=some (.slice e)) (hsz:∀w,(Go.sizeOf e).run P w=.ok k w) (hr:ARun P d ops rest ⟨sz,A6 s (.sl (oid up.length n) k 0 0) fr,up,own',dfs,rnd⟩ Q)
  (hn:own.length=n:=by rfl) (ho:own++[.cells e []]=own':=by rfl) (hs:Nat.blt s sz=true:=by rfl):
  ARun P d ops (⟨some s,.buildSlice t 0 #[],ty,pos,aft,none⟩::rest) ⟨sz,fr,up,own,dfs,rnd⟩ Q:=by
 subst ho
 exact AO7 rfl (AOp.buildObj0 (st:=⟨sz,fr,up,own,dfs,rnd⟩) ht hsz hn (by simpa using hs)) hr
theorem R.appendObj {t e:TypeId} {i:TypeInfo} {z:Value} {k o n:Nat} {xr x:Operand} {o2:Bool} {y:AV} {ys:List AV} (hu:P.underlying t=some (.slice e)) (hi:P.info? e=some i) (hne:ys≠[]) (hl:ys.length*i.bytes≤140737488355328) (hl2:ys.length≤4611686018427387904)
  (hr:∀c,ys.length≤c→ARun P d ops rest ⟨sz,A6 s (.sl (oid up.length n) k ys.length c) fr,up,own++[.cells e (Ns ys++List.replicate ((c-ys.length)*k) .any)],dfs,rnd⟩ Q)
  (hz:i.zero=some z:=by rfl) (hsz:i.size=k:=by rfl) (hzk:z.cells.size=k:=by rfl) (hk:0<k:=by decide) (hb:Bb fr xr=.sl o k 0 0:=by exact sL0)
  (hx:Bb fr x=y:=by exact sL0) (hx':Jz y o2 k ys:=by first|exact .inl rfl|exact .inr ⟨rfl,rfl⟩) (hn:own.length=n:=by rfl) (hs:Nat.blt s sz=true:=by rfl):
  ARun P d ops (⟨some s,.call ⟨.builtin .append,#[xr,x],#[t,t]⟩,ty,pos,aft,none⟩::rest) ⟨sz,fr,up,own,dfs,rnd⟩ Q:=by
 subst hx
 refine Ya rfl (AOp.appendObj (st:=⟨sz,fr,up,own,dfs,rnd⟩) hu hi hz hsz rfl hzk hk hb hx' hne hn (by simpa using hs) hl hl2) (fun s' hs'=>?_)
 obtain ⟨c,hc,rfl⟩:=hs'
 exact hr c hc
/-- The elements of the slice in slot r, over object i of ours, are written no more. -/
theorem R.freeze {l:List Oper} (r i:Nat) {k n c:Nat} {t:TypeId} {cs:List AV} (xs:List AV) (hnc:n≤c) (hn:n=xs.length) (hcs:cs.take (n*k)=Ns xs) (hk:∀x∈xs,x.cells.length=k) (h1:∀x∈xs,∀y∈x.cells,y.one=true) (hst:∀x∈xs,∀y∈x.cells,y.strip=y)
  (hr:ARun P d ops l ⟨sz,A6 r (.slice false k xs) fr,up,own',dfs,rnd⟩ Q) (hf:fr r=.sl (oid up.length i) k n c:=by exact sL0) (ho:own[i]? = some (.cells t cs):=by rfl) (hset:own.set i .gone=own':=by rfl):
  ARun P d ops l ⟨sz,fr,up,own,dfs,rnd⟩ Q:=by
 subst hset
 subst hn
 exact ARun.turnSt (fun G a w h=>h.freeze (st:=⟨sz,fr,up,own,dfs,rnd⟩) hf ho hnc hcs hk h1 hst) rfl rfl rfl hr
end
end Go.SX
namespace Go.SX
variable [GI:GlobInv]
open Classical
variable {P:Program} {d:Nat} {l0:List Oper} {kd:Nat} {ops:Array Oper} {rest:List Oper} {sz:Nat} {fr:Nat→AV} {up own:List AObj} {dfs:List Nat} {rnd:Option Nat} {Q:St→Prop} {s:Nat} {ty:TypeId} {pos:String} {aft:Array Edge} {E:List Oper→(Nat→AV)→Prop}
theorem R.nilTmp {l:List Oper} (s k:Nat) (o:Bool) (hr:ARun P d ops l ⟨sz,A6 s (.slice o k []) fr,up,own,dfs,rnd⟩ Q) (h:fr s=.nil:=by exact sL0):
  ARun P d ops l ⟨sz,fr,up,own,dfs,rnd⟩ Q:=
 ARun.le (st':=⟨sz,A6 s (.slice o k []) fr,up,own,dfs,rnd⟩) (Y9 (s:=⟨sz,fr,up,own,dfs,rnd⟩) fun i=>by
  show Le (fr i) (A6 s (.slice o k []) fr i)
  unfold A6
  by_cases hi:i=s
  ·subst hi;rw [if_pos rfl,h];exact .nil _ _
  rw [if_neg hi];exact .refl _) hr
/-! A slice without room behind its end: whoever appends to it gets a new one. -/
theorem sq (k:Nat) (xs:List AV):(AV.full k xs).strip=.full k xs:=rfl
theorem sr (k:Nat) (xs:List AV):(AV.full k xs).cells=[.full k xs]:=rfl
theorem AEi (k:Nat) (xs:List AV):(AV.full k xs).one=true:=rfl
attribute [go_sem] sq sr AEi
section
variable {KP:List PanicEntry→St→Prop} {up own:(Nat→Bool)→List AObj} {S:List SegY} {l:List Oper} {T F:List Nat}
/-- The p-th of those that turn the heap: a store into an object of whoever waits. -/
theorem Y.storeUp {t t':TypeId} {p x:Operand} {o off k pn:Nat} {y:AV} {ys cs cs':List AV} (hsz:∀w,(Go.sizeOf t).run P w=.ok k w)
  (hU:∀B:Nat→Bool,B pn=false→(up B)[o]? = some (.cells t' cs)∧up (upd B pn)=(up B).set o (.cells t' cs')∧own (upd B pn)=own B∧∀y∈ys,Low (up B).length y)
  (h:ChainY P d l0 sz up own dfs rnd KP E S l fr)
  (hp:Bb fr p=.ptr o off:=by exact sL0) (hx:Bb fr x=y:=by exact sL0) (hc:y.cells=ys:=by exact sL0) (hk:ys.length=k:=by rfl)
  (h1:ys.all AV.one=true:=by exact sL2) (hfit:off+k≤cs.length:=by exact sL1) (hput:Cd cs off ys=cs':=by exact sL0):
  ChainY P d l0 sz up own dfs rnd KP E (.s [] (some pn) T F::S) (⟨none,.store t p x,ty,pos,aft,none⟩::l) fr:=by
 subst hput
 subst hc
 refine ⟨_,l,[],rfl,⟨rfl,rfl,fun B f _ _ hB hf=>.of ?_⟩,h⟩
 obtain ⟨a1,a2,a3,a4⟩:=hU B (hB pn rfl)
 have e:Bb f p=.ptr o off:=by rw [agr hf (by simp [Op.operands])];exact hp
 have ex:Bb f x=y:=by rw [agr hf (by simp [Op.operands])];exact hx
 refine AOp.eqTo (AOp.storeUp (st:=⟨sz,f,up B,own B,dfs,rnd⟩) hsz e a1 ex hk h1 hfit a4) ?_
 show _=St.mk sz f (up (upd B pn)) (own (upd B pn)) dfs rnd
 rw [a2,a3]
end
end Go.SX
