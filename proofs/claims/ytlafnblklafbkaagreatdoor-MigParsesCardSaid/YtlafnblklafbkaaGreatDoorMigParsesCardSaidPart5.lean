/- On the way (part 5). -/
import Derived.Below
import Derived.Test.YtlafnblklafbkaaGreatDoorProg
import Derived.KernelRfl
import Derived.Shelf.Strconv.Itoa4
import Derived.Shelf.Strings.SplitShaped
import Derived.Shelf.Strings.SlTrimAscii
import Derived.Shelf.Strings.OnBuilder
import Derived.Shelf.Strings.Replace
import Derived.Shelf.Small.Strs
import Derived.Shelf.Strings.Prefix
import Derived.Shelf.Strconv.ErrVarParseInt
import Derived.Shelf.Bits.Mul64
import Derived.Shelf.Strings.Builder1
import Derived.Shelf.Strings.Cut
import Derived.Lib.SplitLaws
import Derived.LaidEql
import Derived.Stop.Asserts
import Derived.RowKitTokens
import Derived.WalkKit
import Derived.Lib.AtoiErrMem
import Derived.Lib.Strings
import Derived.BigCall
import Derived.Lib.ParseIntB
import Derived.Test.YtlafnblklafbkaaGreatDoorMigParsesCardSaidPart4
set_option linter.all false
namespace Go.SX
variable [GI:GlobInv]
open Classical Go.RowKit
section
variable {P:Program} {g:FuncId} {Hp:List AObj}

/-- What is known of package-level variables, of a world alone. -/
def Mh (w:World):Prop:=∀x∈GI.blocks,∃o,w.heap[x.1]? = some o∧x.2 o

theorem lg {G:Gh} {w:World} {xs:List Value} {vs:Array Value} (hn:vs.size=(xs.map AV.v).length) (h:∀(i:Nat) (y:AV) (u:Value),(xs.map AV.v)[i]? = some y→vs[i]? = some u→∃l,Rep G w l y u):vs=xs.toArray:=by
 apply mn
 ·simpa using hn
 intro i h1 h2
 have hi:i<xs.length:=by simpa using h2
 obtain ⟨l,hr⟩:=h i (.v xs[i]) vs[i] (by simp [hi]) (F3 h1)
 have:=O4 hr
 simpa using this

theorem Ii {G:Gh} {w w':World} (hT:TagOK G w) (hb:Below w.heap.size w w') {b o:Nat} (h:G.tag b o≠.free):w'.cell? ⟨b,o,none⟩=w.cell? ⟨b,o,none⟩∧w'.frozen? ⟨b,o,none⟩=w.frozen? ⟨b,o,none⟩:=by
 obtain ⟨u,hu⟩:=hT.ex b o h
 have hlt:b<w.heap.size:=World.block_lt_of_cell? _ _ hu
 have:=hb.block b hlt
 exact ⟨Fo this,Ef this⟩

theorem Tv {G:Gh} {w w':World} (hT:TagOK G w) (hb:Below w.heap.size w w'):Turn G w G w':=
 ⟨fun b o h=>⟨h,(Ii hT hb (by rw [h];simp)).1⟩,fun _ _ _ h=>h,fun _ _ _ h=>h,Ae _,fun _ _=>rfl,hb.os,hb.tape,hb.output,hb.size,Ma (fun b hv=>hb.block b hv.1) hb.size (fun _ _ _=>.inl rfl) (fun _ hi=>.inl ⟨hi,rfl⟩)⟩

theorem au {G:Gh} {H:List AObj} {w w':World} (hH:HeapRel G H w) (hT:TagOK G w) (hb:Below w.heap.size w w'):HeapRel G H w'∧TagOK G w':=by
 have T:=Tv hT hb
 refine ⟨⟨fun i x hx=>?_,hH.n,hH.inj⟩,⟨fun b o h=>?_,fun b o i h=>?_,fun b o L h=>?_,hT.globKeep T.old⟩⟩
 ·have hi:i<G.n:=by rw [hH.n];exact (Aa.1 hx).1
  exact T.objRel hi (hb.block _ (R5 hH i hi)) (hH.obj i x hx) (fun b h=>hb.block b h.lt)
 ·rw [(Ii hT hb h).1];exact hT.ex b o h
 ·rw [(Ii hT hb (by rw [h];simp)).2];exact hT.obj b o i h
 rw [(Ii hT hb (by rw [h];simp)).2];exact hT.tail b o L h

/-- A function of plain values that hands back a plain value. -/
theorem AFun.lib {xs:List Value} {r:AV} {v:Value} (hr:∀G w,Rep G w none r v) (h:∀w,Mh w→Calls P g xs.toArray w (fun e w'=>e=.returned v∧Below w.heap.size w w')):AFun P g (xs.map .v) Hp r:=by
 intro d G w vs hn hv hH hT hTop
 have hvs:=lg hn (fun i y u a b=>⟨_,hv i y u a b⟩)
 subst hvs
 refine (callsIn_wide.2 (h w (fun x hx=>let ⟨_,u,a,b⟩:=hT.glob x hx;⟨u,a,b⟩))).mono ?_
 rintro e w' ⟨rfl,hb⟩
 obtain ⟨h1,h2⟩:=au hH hT hb
 exact ⟨v,G,r,Hp,rfl,(hr G w').lift,h1,h2,(Tv hT hb).keep _,rfl,rfl,rfl⟩


/-- A function of plain values that hands back a new slice of plain values. -/
theorem AFun.libSlice {xs ys:List Value} {t:TypeId} (hone:∀y∈ys,y.oneCell'=true) (h:∀w,Mh w→Calls P g xs.toArray w (fun e w'=>e=.returned (.slice (some ⟨w.heap.size,0,none⟩) ys.length ys.length)∧w'=w.alloc (.cells ys.toArray t))):
  AFun P g (xs.map .v) Hp (.slice false 1 (ys.map .v)):=by
 intro d G w vs hn hv hH hT hTop
 have hvs:=lg hn (fun i y u a b=>⟨_,hv i y u a b⟩)
 subst hvs
 refine (callsIn_wide.2 (h w (fun x hx=>let ⟨_,u,a,b⟩:=hT.glob x hx;⟨u,a,b⟩))).mono ?_
 rintro e w' ⟨rfl,rfl⟩
 have hst:StRel (d+1) G ⟨0,fun _=>.any,Hp,[],[],none⟩ { tmps:=#[],defers:=[] } w:=
  ⟨rfl,fun s=>.any _ _,by simpa using hH,(by rw [Gd hTop];rfl),(fun o ho=>by simp at ho),Mp,(fun o ho=>by simp at ho),hT,(fun l hl=>by cases hl),ag hH,J9 hTop⟩
 obtain ⟨G',g1,T,g2⟩:=W8 hst t ys.toArray
 refine ⟨_,G',_,Hp,rfl,?_,by simpa using g1.heap,g1.tags,T.keep _,rfl,rfl,rfl⟩
 refine .slice _ false 1 _ _ _ _ (fun i j=>ys.toArray.getD i undef) rfl (by simp) (Ae _) (fun x hx=>?_) (fun x hx y hy=>?_) (fun i x j y hx hy=>?_) (fun i x j y hx hy=>?_) (fun h=>by cases h)
 ·obtain ⟨z,_,rfl⟩:=F4.1 hx
  rfl
 ·obtain ⟨z,hz,rfl⟩:=F4.1 hx
  have:y=.v z:=by simpa [AV.cells] using hy
  subst this
  exact hone z hz
 all_goals
  rw [D3,Fj] at hx
  obtain ⟨z,hz,rfl⟩:=hx
  have hlt:i<ys.length:=(Aa.1 hz).1
  have hj:j=0:=by
   match j,hy with
   | 0,_=>rfl
   | j+1,hy=>simp [AV.cells] at hy
  subst hj
 ·refine ⟨by simpa using g2 i (by simpa using hlt),?_⟩
  rw [World.cell?_alloc_new]
  simp [hlt]
 have:y=.v z:=by simpa [AV.cells] using hy.symm
 subst this
 have e:ys.toArray.getD i undef=z:=by
  have:=Ak hlt
  rw [this] at hz
  injection hz with hz
  simp [hlt,hz]
 rw [e]
 exact .v _ _
/-- A function that hands back a plain value and, behind an interface value, a new record of plain values. -/
theorem AFun.libErr {xs cs:List Value} {n:Value} {T te:TypeId} (hone:∀y∈cs,y.oneCell'=true) (h:∀w,Mh w→Calls P g xs.toArray w (fun e w'=>∃N,e=.returned (.tuple #[n,.iface T (.pointer (some ⟨N,0,none⟩))])∧w.heap.size≤N∧w'.heap[N]? = some (.cells cs.toArray te (0,0))∧Below w.heap.size w w')):
  AFun P g (xs.map .v) Hp (.tup [.v n,.iface T (.ro (cs.map .v))]):=by
 intro d G w vs hn hv hH hT hTop
 have hvs:=lg hn (fun i y u a b=>⟨_,hv i y u a b⟩)
 subst hvs
 refine (callsIn_wide.2 (h w (fun x hx=>let ⟨_,u,a,b⟩:=hT.glob x hx;⟨u,a,b⟩))).mono ?_
 rintro e w' ⟨N,rfl,hN,hcell,hb⟩
 have hfree:∀o,G.tag N o=.free:=fun o=>Ge hT _ o hN
 let G':Gh:={ G with tag:=fun b o=>if b=N∧o<cs.length then .fix else G.tag b o }
 have hne:∀b o,G.tag b o≠.free→¬(b=N∧o<cs.length):=fun b o hb hc=>by rw [hc.1] at hb;exact hb (hfree o)
 have hnew:∀o,o<cs.length→w'.cell? ⟨N,o,none⟩=cs[o]? := fun o ho=>by simp [World.cell?,hcell,ho]
 have T1:Turn G w G' w':=by
  refine ⟨fun b o h=>⟨?_,(Ii hT hb (by rw [h];simp)).1⟩,fun b o L h=>?_,fun b o i h=>?_,Ae _,fun _ _=>rfl,hb.os,hb.tape,hb.output,hb.size,
   Ma (fun b hv=>hb.block b hv.1) hb.size (fun b o hlt=>.inl ?_) (fun _ hi=>.inl ⟨hi,rfl⟩)⟩
  ·simp only [G'];rw [if_neg (hne b o (by rw [h];simp))];exact h
  ·simp only [G'];rw [if_neg (hne b o (by rw [h];simp))];exact h
  ·simp only [G'];rw [if_neg (hne b o (by rw [h];simp))];exact h
  simp only [G'];rw [if_neg (by omega)]
 have hH':HeapRel G' Hp w':=⟨fun i x hx=>by
  have hi:i<G.n:=by rw [hH.n];exact (Aa.1 hx).1
  exact T1.objRel hi (hb.block _ (R5 hH i hi)) (hH.obj i x hx) (fun b h=>hb.block b h.lt),hH.n,hH.inj⟩
 have hT':TagOK G' w':=by
  refine ⟨fun b o h=>?_,fun b o i h=>?_,fun b o L h=>?_,hT.globKeep T1.old⟩
  ·simp only [G'] at h
   split at h
   ·rename_i hc;obtain ⟨rfl,ho⟩:=hc;exact ⟨_,(hnew o ho).trans (Ak ho)⟩
   rw [(Ii hT hb h).1];exact hT.ex b o h
  ·simp only [G'] at h
   split at h
   ·cases h
   rw [(Ii hT hb (by rw [h];simp)).2];exact hT.obj b o i h
  simp only [G'] at h
  split at h
  ·cases h
  rw [(Ii hT hb (by rw [h];simp)).2];exact hT.tail b o L h
 refine ⟨_,G',_,Hp,rfl,?_,hH',hT',T1.keep _,rfl,rfl,rfl⟩
 refine .tup _ _ _ rfl (fun i y u hy hu=>?_)
 match i with
 | 0=>simp at hy hu;subst hy;subst hu;exact .v _ _
 | 1 =>
  simp at hy hu;subst hy;subst hu
  refine .iface _ _ _ _ (.ro _ _ ⟨N,0,none⟩ (fun j=>cs.getD j undef) rfl (fun y hy=>?_) (fun j y hy=>?_) (fun j y hy=>?_))
  ·obtain ⟨z,hz,rfl⟩:=F4.1 hy
   exact hone z hz
  all_goals
   rw [D3,Fj] at hy
   obtain ⟨z,hz,rfl⟩:=hy
   have hlt:j<cs.length:=(Aa.1 hz).1
   have e:cs.getD j undef=z:=by rw [F7,hz];rfl
  ·refine ⟨by simp [G',hlt],?_⟩
   rw [Bm,hnew j hlt,hz,e]
  rw [e];exact .v _ _
 | i+2=>simp at hy
theorem TagOK.globIn {G:Gh} {w:World} (h:TagOK G w):Mh w:=fun x hx=>(h.glob x hx).2
/-- A package-level variable of which something is known. -/
theorem R.loadGlob {d:Nat} {ops:Array Oper} {rest:List Oper} {sz:Nat} {fr:Nat→AV} {up own:List AObj} {dfs:List Nat} {rnd:Option Nat} {Q:St→Prop} {s:Nat} {ty:TypeId} {pos:String} {aft:Array Edge} {t:TypeId} {gl:Nat} {v:Value}
  (hagg:∀w,(isAgg t).run P w=.ok false w) (hv:∀w,Mh w→w.cell? ⟨gl,0,none⟩=some v) (hr:ARun P d ops rest ⟨sz,A9 s (.v v) fr,up,own,dfs,rnd⟩ Q) (hs:Nat.blt s sz=true:=by rfl):
  ARun P d ops (⟨some s,.load t (.global gl),ty,pos,aft,none⟩::rest) ⟨sz,fr,up,own,dfs,rnd⟩ Q:=by
 refine ARun.v rfl rfl (by simpa using hs) (Cd (by intro c h;cases h) fun G a w h=>⟨v,?_,.v _ _⟩) hr
 have hc:=hv w h.tags.globIn
 have e:a.eval (.global gl)=.pointer (some ⟨gl,0,none⟩):=rfl
 simp [execOp,e,Instr.loadAt,Instr.sureAddr,loadVar,hagg,hc]
end
end Go.SX
namespace Go.SX
def Qj:=@AFun.lib
end Go.SX
namespace Go.SX.Nb
open Go Go.SX Go.Proofs
set_option maxRecDepth 4000

/-- Where strconv.ErrRange points. -/
class ErrAt where
 b:Addr
 bd:Nat:=0
 bl:List Deferred:=[]
/-- The package-level variables of which something is known: bytealg.MaxLen is a number; strconv.ErrRange is an error of errors.New's make; the table of powers of ten. -/
def fp [E:ErrAt]:List (Nat×(Obj→Prop)):=[(0,fun o=>∃m t f,o=.cells #[.int .i64 m] t f),(3,fun o=>∃t f,o=.cells #[.iface 271 (.pointer (some E.b))] t f),(5,fun o=>∃t f,o=.cells (Lib.pow10Tab.map fun z=>Value.int .u64 z).toArray t f)]
instance globInv [E:ErrAt]:GlobInv:={ blocks:=fp,bd:=E.bd,bl:=E.bl }
variable [ErrAt]

abbrev Str:=List UInt8
structure Col where
 name:Str
 kind:Int
 deriving DecidableEq
structure Val where
 kind:Int
 n:Int
 s:Str
 deriving DecidableEq
structure Row where
 key:Int
 l:List Val
 deriving DecidableEq
abbrev Ac (s:Str):AV:=.v (sv s)
abbrev A7 (n:Int):AV:=.v (.int .i64 n)
abbrev F6 (n:Int):AV:=.v (.int .u64 n)
abbrev Bz (b:Bool):AV:=.v (.bool b)
abbrev Hz (c:Col):AV:=.agg [.v (sv c.name),.v (.int .i64 c.kind)]
abbrev ALk (c:List Col):AV:=.slice false 2 (c.map Hz)
abbrev lh (v:Val):AV:=.agg [.v (.int .i64 v.kind),.v (.int .i64 v.n),.v (sv v.s)]
abbrev Jw (l:List Str):AV:=.slice false 1 (l.map Ac)
theorem Ea {α β:Type} {f:α→β} {l:List α} {i:Nat} (h:i<l.length):(l.map f)[i]? = some (f l[i]):=by simp [h]
theorem Af:Tryz.prog.follows .mixedOrders=true:=by kernel_rfl
theorem AIy:Tryz.prog.eqGuardType Tryz.prog.depth 67=false:=by kernel_rfl
theorem Yw (k n k' n':Int) (s s':List UInt8) (w:World):(Op.equal 67 (.agg #[.int .i64 k,.int .i64 n,.string ⟨s.toArray⟩]) (.agg #[.int .i64 k',.int .i64 n',.string ⟨s'.toArray⟩])).run Tryz.prog w=.ok (k==k'&&n==n'&&s==s') w:=by
 have h1:Tryz.prog.stoodInHeld 67=false:=by kernel_rfl
 show (Op.equalIn (9999+1) _ _ _).run _ _=_
 rw [Op.equalIn]
 generalize hd:(9999:Nat)=d
 obtain ⟨d,rfl⟩:∃e,d=e+1:=⟨9998,hd.symm⟩
 clear hd
 simp [run_underlying Tryz.underlying67,h1,part,mz _ _ _ _ _ _ Tryz.underlying3,mz _ _ _ _ _ _ Tryz.underlying2,ALi _ _ _ _ _ Tryz.underlying9,Tryz.isAgg3,Tryz.isAgg2,Tryz.isAgg9]
 by_cases e1:k=k'<;>by_cases e2:n=n'<;>by_cases e3:s=s'<;>simp [e1,e2,e3]
end Go.SX.Nb
namespace Go.Proofs
open Go Go.Shelf
def Tryz.ren144:Ren where
 f:=fun x=>match x with|144=>140|143=>100|219=>136|217=>165|225=>166|224=>167|267=>168|266=>197|314=>198|n=>n
 t:=fun x=>match x with|9=>9|4=>4|3=>3|5=>5|46=>184|146=>208|51=>207|n=>n
 g:=fun x=>match x with|1=>0|n=>n
theorem Tryz.lays144:Lays.n144 Tryz.prog Tryz.ren144 where
 mixed:=by kernel_rfl
 f143:=Tryz.func100
 f144:=Tryz.func140
 f217:=Tryz.func165
 f219:=Tryz.func136
 f224:=Tryz.func167
 f225:=Tryz.func166
 f266:=Tryz.func197
 f267:=Tryz.func168
 f314:=Tryz.func198
 t3:=Tryz.underlying3
 a3:=Tryz.isAgg3
 z3:=Tryz.sizeOf3
 v3:=Tryz.zeroValue3
 t4:=Tryz.underlying4
 a4:=Tryz.isAgg4
 z4:=Tryz.sizeOf4
 v4:=Tryz.zeroValue4
 t5:=Tryz.underlying5
 a5:=Tryz.isAgg5
 z5:=Tryz.sizeOf5
 v5:=Tryz.zeroValue5
 t9:=Tryz.underlying9
 a9:=Tryz.isAgg9
 z9:=Tryz.sizeOf9
 v9:=Tryz.zeroValue9
 t46:=Tryz.underlying184
 a46:=Tryz.isAgg184
 z46:=Tryz.sizeOf184
 v46:=Tryz.zeroValue184
 t51:=Tryz.underlying207
 a51:=Tryz.isAgg207
 z51:=Tryz.sizeOf207
 v51:=Tryz.zeroValue207
 t146:=Tryz.underlying208
 a146:=Tryz.isAgg208
 z146:=Tryz.sizeOf208
 v146:=Tryz.zeroValue208
 g1:=by kernel_rfl
def Tryz.ren145:Ren where
 f:=fun x=>match x with|145=>118|220=>156|219=>136|217=>165|225=>166|224=>167|267=>168|266=>197|314=>198|n=>n
 t:=fun x=>match x with|9=>9|4=>4|59=>149|3=>3|5=>5|46=>184|146=>208|51=>207|n=>n
 g:=fun x=>match x with|1=>0|n=>n
theorem Tryz.lays145:Lays.n145 Tryz.prog Tryz.ren145 where
 mixed:=by kernel_rfl
 f145:=Tryz.func118
 f217:=Tryz.func165
 f219:=Tryz.func136
 f220:=Tryz.func156
 f224:=Tryz.func167
 f225:=Tryz.func166
 f266:=Tryz.func197
 f267:=Tryz.func168
 f314:=Tryz.func198
 t3:=Tryz.underlying3
 a3:=Tryz.isAgg3
 z3:=Tryz.sizeOf3
 v3:=Tryz.zeroValue3
 t4:=Tryz.underlying4
 a4:=Tryz.isAgg4
 z4:=Tryz.sizeOf4
 v4:=Tryz.zeroValue4
 t5:=Tryz.underlying5
 a5:=Tryz.isAgg5
 z5:=Tryz.sizeOf5
 v5:=Tryz.zeroValue5
 t9:=Tryz.underlying9
 a9:=Tryz.isAgg9
 z9:=Tryz.sizeOf9
 v9:=Tryz.zeroValue9
 t46:=Tryz.underlying184
 a46:=Tryz.isAgg184
 z46:=Tryz.sizeOf184
 v46:=Tryz.zeroValue184
 t51:=Tryz.underlying207
 a51:=Tryz.isAgg207
 z51:=Tryz.sizeOf207
 v51:=Tryz.zeroValue207
 t59:=Tryz.underlying149
 a59:=Tryz.isAgg149
 z59:=Tryz.sizeOf149
 v59:=Tryz.zeroValue149
 t146:=Tryz.underlying208
 a146:=Tryz.isAgg208
 z146:=Tryz.sizeOf208
 v146:=Tryz.zeroValue208
 g1:=by kernel_rfl
def Tryz.ren146:Ren where
 f:=fun x=>match x with|146=>29|221=>60|268=>98|138=>99|143=>100|195=>133|197=>134|218=>135|219=>136|260=>164|217=>165|225=>166|224=>167|267=>168|266=>197|314=>198|n=>n
 t:=fun x=>match x with|9=>9|31=>29|3=>3|4=>4|0=>0|105=>155|21=>21|5=>5|46=>184|119=>203|139=>206|138=>205|146=>208|51=>207|n=>n
 g:=fun x=>match x with|1=>0|3=>1|4=>2|n=>n
theorem Tryz.lays146:Lays.n146 Tryz.prog Tryz.ren146 where
 mixed:=by kernel_rfl
 f138:=Tryz.func99
 f143:=Tryz.func100
 f146:=Tryz.func29
 f195:=Tryz.func133
 f197:=Tryz.func134
 f217:=Tryz.func165
 f218:=Tryz.func135
 f219:=Tryz.func136
 f221:=Tryz.func60
 f224:=Tryz.func167
 f225:=Tryz.func166
 f260:=Tryz.func164
 f266:=Tryz.func197
 f267:=Tryz.func168
 f268:=Tryz.func98
 f314:=Tryz.func198
 t0:=Tryz.underlying0
 a0:=Tryz.isAgg0
 z0:=Tryz.sizeOf0
 v0:=Tryz.zeroValue0
 t3:=Tryz.underlying3
 a3:=Tryz.isAgg3
 z3:=Tryz.sizeOf3
 v3:=Tryz.zeroValue3
 t4:=Tryz.underlying4
 a4:=Tryz.isAgg4
 z4:=Tryz.sizeOf4
 v4:=Tryz.zeroValue4
 t5:=Tryz.underlying5
 a5:=Tryz.isAgg5
 z5:=Tryz.sizeOf5
 v5:=Tryz.zeroValue5
 t9:=Tryz.underlying9
 a9:=Tryz.isAgg9
 z9:=Tryz.sizeOf9
 v9:=Tryz.zeroValue9
 t21:=Tryz.underlying21
 a21:=Tryz.isAgg21
 z21:=Tryz.sizeOf21
 v21:=Tryz.zeroValue21
 t31:=Tryz.underlying29
 a31:=Tryz.isAgg29
 z31:=Tryz.sizeOf29
 v31:=Tryz.zeroValue29
 t46:=Tryz.underlying184
 a46:=Tryz.isAgg184
 z46:=Tryz.sizeOf184
 v46:=Tryz.zeroValue184
 t51:=Tryz.underlying207
 a51:=Tryz.isAgg207
 z51:=Tryz.sizeOf207
 v51:=Tryz.zeroValue207
 t105:=Tryz.underlying155
 a105:=Tryz.isAgg155
 z105:=Tryz.sizeOf155
 v105:=Tryz.zeroValue155
 t119:=Tryz.underlying203
 a119:=Tryz.isAgg203
 z119:=Tryz.sizeOf203
 t138:=Tryz.underlying205
 a138:=Tryz.isAgg205
 z138:=Tryz.sizeOf205
 v138:=Tryz.zeroValue205
 t139:=Tryz.underlying206
 a139:=Tryz.isAgg206
 z139:=Tryz.sizeOf206
 v139:=Tryz.zeroValue206
 t146:=Tryz.underlying208
 a146:=Tryz.isAgg208
 z146:=Tryz.sizeOf208
 v146:=Tryz.zeroValue208
 g1:=by kernel_rfl
 g3:=by kernel_rfl
 g4:=by kernel_rfl
def Tryz.ren161:Ren where
 f:=fun x=>match x with|161=>139|231=>173|227=>174|233=>175|235=>176|228=>202|197=>134|151=>203|260=>164|152=>222|137=>158|119=>237|224=>167|225=>166|217=>165|266=>197|n=>n
 t:=fun x=>match x with|9=>9|4=>4|3=>3|5=>5|117=>190|116=>189|0=>0|124=>193|105=>155|21=>21|119=>203|46=>184|139=>206|138=>205|n=>n
 g:=fun x=>match x with|3=>1|4=>2|n=>n
theorem Tryz.lays161:Lays.n161 Tryz.prog Tryz.ren161 where
 mixed:=by kernel_rfl
 f119:=Tryz.func237
 f137:=Tryz.func158
 f151:=Tryz.func203
 f152:=Tryz.func222
 f161:=Tryz.func139
 f197:=Tryz.func134
 f217:=Tryz.func165
 f224:=Tryz.func167
 f225:=Tryz.func166
 f227:=Tryz.func174
 f228:=Tryz.func202
 f231:=Tryz.func173
 f233:=Tryz.func175
 f235:=Tryz.func176
 f260:=Tryz.func164
 f266:=Tryz.func197
 t0:=Tryz.underlying0
 a0:=Tryz.isAgg0
 z0:=Tryz.sizeOf0
 v0:=Tryz.zeroValue0
 t3:=Tryz.underlying3
 a3:=Tryz.isAgg3
 z3:=Tryz.sizeOf3
 v3:=Tryz.zeroValue3
 t4:=Tryz.underlying4
 a4:=Tryz.isAgg4
 z4:=Tryz.sizeOf4
 v4:=Tryz.zeroValue4
 t5:=Tryz.underlying5
 a5:=Tryz.isAgg5
 z5:=Tryz.sizeOf5
 v5:=Tryz.zeroValue5
 t9:=Tryz.underlying9
 a9:=Tryz.isAgg9
 z9:=Tryz.sizeOf9
 v9:=Tryz.zeroValue9
 t21:=Tryz.underlying21
 a21:=Tryz.isAgg21
 z21:=Tryz.sizeOf21
 v21:=Tryz.zeroValue21
 t46:=Tryz.underlying184
 a46:=Tryz.isAgg184
 z46:=Tryz.sizeOf184
 v46:=Tryz.zeroValue184
 t105:=Tryz.underlying155
 a105:=Tryz.isAgg155
 z105:=Tryz.sizeOf155
 v105:=Tryz.zeroValue155
 t116:=Tryz.underlying189
 a116:=Tryz.isAgg189
 z116:=Tryz.sizeOf189
 t117:=Tryz.underlying190
 a117:=Tryz.isAgg190
 z117:=Tryz.sizeOf190
 v117:=Tryz.zeroValue190
 t119:=Tryz.underlying203
 a119:=Tryz.isAgg203
 z119:=Tryz.sizeOf203
 t124:=Tryz.underlying193
 a124:=Tryz.isAgg193
 z124:=Tryz.sizeOf193
 v124:=Tryz.zeroValue193
 t138:=Tryz.underlying205
 a138:=Tryz.isAgg205
 z138:=Tryz.sizeOf205
 v138:=Tryz.zeroValue205
 t139:=Tryz.underlying206
 a139:=Tryz.isAgg206
 z139:=Tryz.sizeOf206
 v139:=Tryz.zeroValue206
 g3:=by kernel_rfl
 g4:=by kernel_rfl
def Tryz.ren99:Ren where
 f:=fun x=>match x with|99=>186|206=>208|n=>n
 t:=fun x=>match x with|9=>9|4=>4|3=>3|n=>n
 g:=fun x=>x
theorem Tryz.lays99:Lays.n99 Tryz.prog Tryz.ren99 where
 mixed:=by kernel_rfl
 f99:=Tryz.func186
 f206:=Tryz.func208
 t3:=Tryz.underlying3
 a3:=Tryz.isAgg3
 z3:=Tryz.sizeOf3
 v3:=Tryz.zeroValue3
 t4:=Tryz.underlying4
 a4:=Tryz.isAgg4
 z4:=Tryz.sizeOf4
 v4:=Tryz.zeroValue4
 t9:=Tryz.underlying9
 a9:=Tryz.isAgg9
 z9:=Tryz.sizeOf9
 v9:=Tryz.zeroValue9
def Tryz.ren100:Ren where
 f:=fun x=>match x with|100=>187|207=>209|n=>n
 t:=fun x=>match x with|9=>9|4=>4|3=>3|n=>n
 g:=fun x=>x
theorem Tryz.lays100:Lays.n100 Tryz.prog Tryz.ren100 where
 mixed:=by kernel_rfl
 f100:=Tryz.func187
 f207:=Tryz.func209
 t3:=Tryz.underlying3
 a3:=Tryz.isAgg3
 z3:=Tryz.sizeOf3
 v3:=Tryz.zeroValue3
 t4:=Tryz.underlying4
 a4:=Tryz.isAgg4
 z4:=Tryz.sizeOf4
 v4:=Tryz.zeroValue4
 t9:=Tryz.underlying9
 a9:=Tryz.isAgg9
 z9:=Tryz.sizeOf9
 v9:=Tryz.zeroValue9
def Tryz.ren101:Ren where
 f:=fun x=>match x with|101=>211|208=>226|206=>208|n=>n
 t:=fun x=>match x with|9=>9|4=>4|3=>3|n=>n
 g:=fun x=>x
theorem Tryz.lays101:Lays.n101 Tryz.prog Tryz.ren101 where
 mixed:=by kernel_rfl
 f101:=Tryz.func211
 f206:=Tryz.func208
 f208:=Tryz.func226
 t3:=Tryz.underlying3
 a3:=Tryz.isAgg3
 z3:=Tryz.sizeOf3
 v3:=Tryz.zeroValue3
 t4:=Tryz.underlying4
 a4:=Tryz.isAgg4
 z4:=Tryz.sizeOf4
 v4:=Tryz.zeroValue4
 t9:=Tryz.underlying9
 a9:=Tryz.isAgg9
 z9:=Tryz.sizeOf9
 v9:=Tryz.zeroValue9
def Tryz.ren160:Ren where
 f:=fun x=>match x with|160=>212|232=>227|231=>173|227=>174|234=>228|233=>175|236=>229|235=>176|228=>202|271=>238|151=>203|197=>134|120=>251|152=>222|260=>164|137=>158|119=>237|224=>167|225=>166|217=>165|266=>197|n=>n
 t:=fun x=>match x with|9=>9|4=>4|3=>3|5=>5|117=>190|116=>189|0=>0|124=>193|21=>21|105=>155|46=>184|119=>203|139=>206|138=>205|n=>n
 g:=fun x=>match x with|3=>1|4=>2|n=>n
theorem Tryz.lays160:Lays.n160 Tryz.prog Tryz.ren160 where
 mixed:=by kernel_rfl
 f119:=Tryz.func237
 f120:=Tryz.func251
 f137:=Tryz.func158
 f151:=Tryz.func203
 f152:=Tryz.func222
 f160:=Tryz.func212
 f197:=Tryz.func134
 f217:=Tryz.func165
 f224:=Tryz.func167
 f225:=Tryz.func166
 f227:=Tryz.func174
 f228:=Tryz.func202
 f231:=Tryz.func173
 f232:=Tryz.func227
 f233:=Tryz.func175
 f234:=Tryz.func228
 f235:=Tryz.func176
 f236:=Tryz.func229
 f260:=Tryz.func164
 f266:=Tryz.func197
 f271:=Tryz.func238
 t0:=Tryz.underlying0
 a0:=Tryz.isAgg0
 z0:=Tryz.sizeOf0
 v0:=Tryz.zeroValue0
 t3:=Tryz.underlying3
 a3:=Tryz.isAgg3
 z3:=Tryz.sizeOf3
 v3:=Tryz.zeroValue3
 t4:=Tryz.underlying4
 a4:=Tryz.isAgg4
 z4:=Tryz.sizeOf4
 v4:=Tryz.zeroValue4
 t5:=Tryz.underlying5
 a5:=Tryz.isAgg5
 z5:=Tryz.sizeOf5
 v5:=Tryz.zeroValue5
 t9:=Tryz.underlying9
 a9:=Tryz.isAgg9
 z9:=Tryz.sizeOf9
 v9:=Tryz.zeroValue9
 t21:=Tryz.underlying21
 a21:=Tryz.isAgg21
 z21:=Tryz.sizeOf21
 v21:=Tryz.zeroValue21
 t46:=Tryz.underlying184
 a46:=Tryz.isAgg184
 z46:=Tryz.sizeOf184
 v46:=Tryz.zeroValue184
 t105:=Tryz.underlying155
 a105:=Tryz.isAgg155
 z105:=Tryz.sizeOf155
 v105:=Tryz.zeroValue155
 t116:=Tryz.underlying189
 a116:=Tryz.isAgg189
 z116:=Tryz.sizeOf189
 t117:=Tryz.underlying190
 a117:=Tryz.isAgg190
 z117:=Tryz.sizeOf190
 v117:=Tryz.zeroValue190
 t119:=Tryz.underlying203
 a119:=Tryz.isAgg203
 z119:=Tryz.sizeOf203
 t124:=Tryz.underlying193
 a124:=Tryz.isAgg193
 z124:=Tryz.sizeOf193
 v124:=Tryz.zeroValue193
 t138:=Tryz.underlying205
 a138:=Tryz.isAgg205
 z138:=Tryz.sizeOf205
 v138:=Tryz.zeroValue205
 t139:=Tryz.underlying206
 a139:=Tryz.isAgg206
 z139:=Tryz.sizeOf206
 v139:=Tryz.zeroValue206
 g3:=by kernel_rfl
 g4:=by kernel_rfl
def Tryz.ren155:Ren where
 f:=fun x=>match x with|155=>201|154=>221|138=>99|165=>102|143=>100|166=>31|197=>134|169=>33|195=>133|218=>135|240=>64|241=>138|219=>136|260=>164|276=>103|277=>172|217=>165|225=>166|224=>167|267=>168|266=>197|314=>198|n=>n
 t:=fun x=>match x with|9=>9|3=>3|4=>4|72=>74|0=>0|76=>78|105=>155|21=>21|5=>5|70=>71|20=>20|37=>72|75=>77|127=>108|164=>138|46=>184|119=>203|139=>206|138=>205|146=>208|51=>207|80=>81|n=>n
 g:=fun x=>match x with|1=>0|3=>1|4=>2|n=>n
theorem Tryz.lays155:Lays.n155 Tryz.prog Tryz.ren155 where
 mixed:=by kernel_rfl
 f138:=Tryz.func99
 f143:=Tryz.func100
 f154:=Tryz.func221
 f155:=Tryz.func201
 f165:=Tryz.func102
 f166:=Tryz.func31
 f169:=Tryz.func33
 f195:=Tryz.func133
 f197:=Tryz.func134
 f217:=Tryz.func165
 f218:=Tryz.func135
 f219:=Tryz.func136
 f224:=Tryz.func167
 f225:=Tryz.func166
 f240:=Tryz.func64
 f241:=Tryz.func138
 f260:=Tryz.func164
 f266:=Tryz.func197
 f267:=Tryz.func168
 f276:=Tryz.func103
 f277:=Tryz.func172
 f314:=Tryz.func198
 t0:=Tryz.underlying0
 a0:=Tryz.isAgg0
 z0:=Tryz.sizeOf0
 v0:=Tryz.zeroValue0
 t3:=Tryz.underlying3
 a3:=Tryz.isAgg3
 z3:=Tryz.sizeOf3
 v3:=Tryz.zeroValue3
 t4:=Tryz.underlying4
 a4:=Tryz.isAgg4
 z4:=Tryz.sizeOf4
 v4:=Tryz.zeroValue4
 t5:=Tryz.underlying5
 a5:=Tryz.isAgg5
 z5:=Tryz.sizeOf5
 v5:=Tryz.zeroValue5
 t9:=Tryz.underlying9
 a9:=Tryz.isAgg9
 z9:=Tryz.sizeOf9
 v9:=Tryz.zeroValue9
 t20:=Tryz.underlying20
 a20:=Tryz.isAgg20
 z20:=Tryz.sizeOf20
 v20:=Tryz.zeroValue20
 t21:=Tryz.underlying21
 a21:=Tryz.isAgg21
 z21:=Tryz.sizeOf21
 v21:=Tryz.zeroValue21
 t37:=Tryz.underlying72
 a37:=Tryz.isAgg72
 z37:=Tryz.sizeOf72
 v37:=Tryz.zeroValue72
 t46:=Tryz.underlying184
 a46:=Tryz.isAgg184
 z46:=Tryz.sizeOf184
 v46:=Tryz.zeroValue184
 t51:=Tryz.underlying207
 a51:=Tryz.isAgg207
 z51:=Tryz.sizeOf207
 v51:=Tryz.zeroValue207
 t70:=Tryz.underlying71
 a70:=Tryz.isAgg71
 z70:=Tryz.sizeOf71
 v70:=Tryz.zeroValue71
 t72:=Tryz.underlying74
 a72:=Tryz.isAgg74
 z72:=Tryz.sizeOf74
 v72:=Tryz.zeroValue74
 t75:=Tryz.underlying77
 a75:=Tryz.isAgg77
 z75:=Tryz.sizeOf77
 v75:=Tryz.zeroValue77
 t76:=Tryz.underlying78
 a76:=Tryz.isAgg78
 z76:=Tryz.sizeOf78
 v76:=Tryz.zeroValue78
 t105:=Tryz.underlying155
 a105:=Tryz.isAgg155
 z105:=Tryz.sizeOf155
 v105:=Tryz.zeroValue155
 t119:=Tryz.underlying203
 a119:=Tryz.isAgg203
 z119:=Tryz.sizeOf203
 t127:=Tryz.underlying108
 a127:=Tryz.isAgg108
 z127:=Tryz.sizeOf108
 v127:=Tryz.zeroValue108
 t138:=Tryz.underlying205
 a138:=Tryz.isAgg205
 z138:=Tryz.sizeOf205
 v138:=Tryz.zeroValue205
 t139:=Tryz.underlying206
 a139:=Tryz.isAgg206
 z139:=Tryz.sizeOf206
 v139:=Tryz.zeroValue206
 t146:=Tryz.underlying208
 a146:=Tryz.isAgg208
 z146:=Tryz.sizeOf208
 v146:=Tryz.zeroValue208
 t164:=Tryz.underlying138
 a164:=Tryz.isAgg138
 z164:=Tryz.sizeOf138
 v164:=Tryz.zeroValue138
 g1:=by kernel_rfl
 g3:=by kernel_rfl
 g4:=by kernel_rfl
def Tryz.ren174:Ren where
 f:=fun x=>match x with|174=>213|247=>230|245=>231|287=>239|279=>240|280=>241|281=>242|282=>243|321=>252|322=>253|316=>254|171=>256|205=>255|243=>265|246=>236|283=>247|284=>248|285=>249|286=>250|129=>261|317=>260|318=>262|319=>263|320=>264|337=>267|338=>268|n=>n
 t:=fun x=>match x with|9=>9|3=>3|2=>2|75=>77|85=>218|4=>4|167=>239|5=>5|53=>126|175=>240|46=>184|168=>242|37=>72|0=>0|210=>264|21=>21|127=>108|145=>273|143=>271|171=>256|173=>259|212=>268|51=>207|20=>20|213=>269|232=>275|233=>276|80=>81|n=>n
 g:=fun x=>match x with|15=>4|16=>3|17=>5|18=>6|19=>7|n=>n
theorem Tryz.lays174:LaysC.n174 Tryz.prog Tryz.ren174 where
 mixed:=by kernel_rfl
 f129:=Tryz.func261
 f171:=Tryz.func256
 f174:=Tryz.func213
 f205:=Tryz.func255
 f243:=Tryz.func265
 f245:=Tryz.func231
 f246:=Tryz.func236
 f247:=Tryz.func230
 f279:=Tryz.func240
 f280:=Tryz.func241
 f281:=Tryz.func242
 f282:=Tryz.func243
 f283:=Tryz.func247
 f284:=Tryz.func248
 f285:=Tryz.func249
 f286:=Tryz.func250
 f287:=Tryz.func239
 f316:=Tryz.func254
 f317:=Tryz.func260
 f318:=Tryz.func262
 f319:=Tryz.func263
 f320:=Tryz.func264
 f321:=Tryz.func252
 f322:=Tryz.func253
 f337:=Tryz.func267
 f338:=Tryz.func268
 t0:=Tryz.underlying0
 a0:=Tryz.isAgg0
 z0:=Tryz.sizeOf0
 v0:=Tryz.zeroValue0
 t2:=Tryz.underlying2
 a2:=Tryz.isAgg2
 z2:=Tryz.sizeOf2
 v2:=Tryz.zeroValue2
 t3:=Tryz.underlying3
 a3:=Tryz.isAgg3
 z3:=Tryz.sizeOf3
 v3:=Tryz.zeroValue3
 t4:=Tryz.underlying4
 a4:=Tryz.isAgg4
 z4:=Tryz.sizeOf4
 v4:=Tryz.zeroValue4
 t5:=Tryz.underlying5
 a5:=Tryz.isAgg5
 z5:=Tryz.sizeOf5
 v5:=Tryz.zeroValue5
 t9:=Tryz.underlying9
 a9:=Tryz.isAgg9
 z9:=Tryz.sizeOf9
 v9:=Tryz.zeroValue9
 t20:=Tryz.underlying20
 a20:=Tryz.isAgg20
 z20:=Tryz.sizeOf20
 v20:=Tryz.zeroValue20
 t21:=Tryz.underlying21
 a21:=Tryz.isAgg21
 z21:=Tryz.sizeOf21
 v21:=Tryz.zeroValue21
 t37:=Tryz.underlying72
 a37:=Tryz.isAgg72
 z37:=Tryz.sizeOf72
 v37:=Tryz.zeroValue72
 t46:=Tryz.underlying184
 a46:=Tryz.isAgg184
 z46:=Tryz.sizeOf184
 v46:=Tryz.zeroValue184
 t51:=Tryz.underlying207
 a51:=Tryz.isAgg207
 z51:=Tryz.sizeOf207
 v51:=Tryz.zeroValue207
 t53:=Tryz.underlying126
 a53:=Tryz.isAgg126
 z53:=Tryz.sizeOf126
 v53:=Tryz.zeroValue126
 t75:=Tryz.underlying77
 a75:=Tryz.isAgg77
 z75:=Tryz.sizeOf77
 v75:=Tryz.zeroValue77
 t85:=Tryz.underlying218
 a85:=Tryz.isAgg218
 z85:=Tryz.sizeOf218
 v85:=Tryz.zeroValue218
 t127:=Tryz.underlying108
 a127:=Tryz.isAgg108
 z127:=Tryz.sizeOf108
 v127:=Tryz.zeroValue108
 t143:=Tryz.underlying271
 a143:=Tryz.isAgg271
 z143:=Tryz.sizeOf271
 v143:=Tryz.zeroValue271
 t145:=Tryz.underlying273
 a145:=Tryz.isAgg273
 z145:=Tryz.sizeOf273
 v145:=Tryz.zeroValue273
 t167:=Tryz.underlying239
 a167:=Tryz.isAgg239
 z167:=Tryz.sizeOf239
 v167:=Tryz.zeroValue239
 t168:=Tryz.underlying242
 a168:=Tryz.isAgg242
 z168:=Tryz.sizeOf242
 v168:=Tryz.zeroValue242
 t171:=Tryz.underlying256
 a171:=Tryz.isAgg256
 z171:=Tryz.sizeOf256
 v171:=Tryz.zeroValue256
 t173:=Tryz.underlying259
 a173:=Tryz.isAgg259
 z173:=Tryz.sizeOf259
 v173:=Tryz.zeroValue259
 t175:=Tryz.underlying240
 a175:=Tryz.isAgg240
 z175:=Tryz.sizeOf240
 v175:=Tryz.zeroValue240
 t210:=Tryz.underlying264
 a210:=Tryz.isAgg264
 z210:=Tryz.sizeOf264
 v210:=Tryz.zeroValue264
 t212:=Tryz.underlying268
 a212:=Tryz.isAgg268
 z212:=Tryz.sizeOf268
 v212:=Tryz.zeroValue268
 t213:=Tryz.underlying269
 a213:=Tryz.isAgg269
 z213:=Tryz.sizeOf269
 t232:=Tryz.underlying275
 a232:=Tryz.isAgg275
 z232:=Tryz.sizeOf275
 v232:=Tryz.zeroValue275
 t233:=Tryz.underlying276
 a233:=Tryz.isAgg276
 z233:=Tryz.sizeOf276
 v233:=Tryz.zeroValue276
 g15:=by kernel_rfl
 g16:=by kernel_rfl
 g17:=by kernel_rfl
 g18:=by kernel_rfl
 g19:=by kernel_rfl
 t80:=Tryz.underlying81
 a80:=Tryz.isAgg81
 z80:=Tryz.sizeOf81
 v80:=Tryz.zeroValue81
 i0:=by kernel_rfl
 i2:=by kernel_rfl
 i3:=by kernel_rfl
 i4:=by kernel_rfl
 i5:=by kernel_rfl
 i9:=by kernel_rfl
 i20:=by kernel_rfl
 i21:=by kernel_rfl
 i37:=by kernel_rfl
 i46:=by kernel_rfl
 i51:=by kernel_rfl
 i53:=by kernel_rfl
 i75:=by kernel_rfl
 i80:=by kernel_rfl
 i85:=by kernel_rfl
 i127:=by kernel_rfl
 i143:=by kernel_rfl
 i145:=by kernel_rfl
 i167:=by kernel_rfl
 i168:=by kernel_rfl
 i171:=by kernel_rfl
 i173:=by kernel_rfl
 i175:=by kernel_rfl
 i210:=by kernel_rfl
 i212:=by kernel_rfl
 i232:=by kernel_rfl
 i233:=by kernel_rfl
 m15:=by kernel_rfl
 m16:=by kernel_rfl
 m17:=by kernel_rfl
 m18:=by kernel_rfl
 m19:=by kernel_rfl
 c0:=by kernel_rfl
 c2:=by kernel_rfl
 c3:=by kernel_rfl
 c4:=by kernel_rfl
 c5:=by kernel_rfl
 c9:=by kernel_rfl
 c20:=by kernel_rfl
 c21:=by kernel_rfl
 c37:=by kernel_rfl
 c46:=by kernel_rfl
 c51:=by kernel_rfl
 c53:=by kernel_rfl
 c75:=by kernel_rfl
 c80:=by kernel_rfl
 c85:=by kernel_rfl
 c127:=by kernel_rfl
 c143:=by kernel_rfl
 c145:=by kernel_rfl
 c167:=by kernel_rfl
 c168:=by kernel_rfl
 c171:=by kernel_rfl
 c173:=by kernel_rfl
 c175:=by kernel_rfl
 c210:=by kernel_rfl
 c212:=by kernel_rfl
 c213:=by kernel_rfl
 c232:=by kernel_rfl
 c233:=by kernel_rfl
def Tryz.ren173:Ren where
 f:=fun x=>match x with|173=>220|246=>236|283=>247|284=>248|285=>249|286=>250|129=>261|317=>260|318=>262|319=>263|320=>264|337=>267|338=>268|n=>n
 t:=fun x=>match x with|2=>2|3=>3|9=>9|4=>4|171=>256|0=>0|53=>126|37=>72|5=>5|173=>259|212=>268|51=>207|20=>20|213=>269|46=>184|232=>275|233=>276|n=>n
 g:=fun x=>match x with|17=>5|18=>6|19=>7|n=>n
theorem Tryz.lays173:LaysM.n173 Tryz.prog Tryz.ren173 where
 mixed:=by kernel_rfl
 f129:=Tryz.func261
 f173:=Tryz.func220
 f246:=Tryz.func236
 f283:=Tryz.func247
 f284:=Tryz.func248
 f285:=Tryz.func249
 f286:=Tryz.func250
 f317:=Tryz.func260
 f318:=Tryz.func262
 f319:=Tryz.func263
 f320:=Tryz.func264
 f337:=Tryz.func267
 f338:=Tryz.func268
 t0:=Tryz.underlying0
 a0:=Tryz.isAgg0
 z0:=Tryz.sizeOf0
 v0:=Tryz.zeroValue0
 t2:=Tryz.underlying2
 a2:=Tryz.isAgg2
 z2:=Tryz.sizeOf2
 v2:=Tryz.zeroValue2
 t3:=Tryz.underlying3
 a3:=Tryz.isAgg3
 z3:=Tryz.sizeOf3
 v3:=Tryz.zeroValue3
 t4:=Tryz.underlying4
 a4:=Tryz.isAgg4
 z4:=Tryz.sizeOf4
 v4:=Tryz.zeroValue4
 t5:=Tryz.underlying5
 a5:=Tryz.isAgg5
 z5:=Tryz.sizeOf5
 v5:=Tryz.zeroValue5
 t9:=Tryz.underlying9
 a9:=Tryz.isAgg9
 z9:=Tryz.sizeOf9
 v9:=Tryz.zeroValue9
 t20:=Tryz.underlying20
 a20:=Tryz.isAgg20
 z20:=Tryz.sizeOf20
 v20:=Tryz.zeroValue20
 t37:=Tryz.underlying72
 a37:=Tryz.isAgg72
 z37:=Tryz.sizeOf72
 v37:=Tryz.zeroValue72
 t46:=Tryz.underlying184
 a46:=Tryz.isAgg184
 z46:=Tryz.sizeOf184
 v46:=Tryz.zeroValue184
 t51:=Tryz.underlying207
 a51:=Tryz.isAgg207
 z51:=Tryz.sizeOf207
 v51:=Tryz.zeroValue207
 t53:=Tryz.underlying126
 a53:=Tryz.isAgg126
 z53:=Tryz.sizeOf126
 v53:=Tryz.zeroValue126
 t171:=Tryz.underlying256
 a171:=Tryz.isAgg256
 z171:=Tryz.sizeOf256
 v171:=Tryz.zeroValue256
 t173:=Tryz.underlying259
 a173:=Tryz.isAgg259
 z173:=Tryz.sizeOf259
 v173:=Tryz.zeroValue259
 t212:=Tryz.underlying268
 a212:=Tryz.isAgg268
 z212:=Tryz.sizeOf268
 v212:=Tryz.zeroValue268
 t213:=Tryz.underlying269
 a213:=Tryz.isAgg269
 z213:=Tryz.sizeOf269
 t232:=Tryz.underlying275
 a232:=Tryz.isAgg275
 z232:=Tryz.sizeOf275
 v232:=Tryz.zeroValue275
 t233:=Tryz.underlying276
 a233:=Tryz.isAgg276
 z233:=Tryz.sizeOf276
 v233:=Tryz.zeroValue276
 g17:=by kernel_rfl
 g18:=by kernel_rfl
 g19:=by kernel_rfl
 i0:=by kernel_rfl
 i2:=by kernel_rfl
 i3:=by kernel_rfl
 i4:=by kernel_rfl
 i5:=by kernel_rfl
 i9:=by kernel_rfl
 i20:=by kernel_rfl
 i37:=by kernel_rfl
 i46:=by kernel_rfl
 i51:=by kernel_rfl
 i53:=by kernel_rfl
 i171:=by kernel_rfl
 i173:=by kernel_rfl
 i212:=by kernel_rfl
 i232:=by kernel_rfl
 i233:=by kernel_rfl
 m17:=by kernel_rfl
 m18:=by kernel_rfl
 m19:=by kernel_rfl
def Tryz.ren137:Ren where
 f:=fun x=>match x with|137=>158|217=>165|266=>197|n=>n
 t:=fun x=>match x with|9=>9|5=>5|3=>3|n=>n
 g:=fun x=>x
theorem Tryz.lays137:Lays.n137 Tryz.prog Tryz.ren137 where
 mixed:=by kernel_rfl
 f137:=Tryz.func158
 f217:=Tryz.func165
 f266:=Tryz.func197
 t3:=Tryz.underlying3
 a3:=Tryz.isAgg3
 z3:=Tryz.sizeOf3
 v3:=Tryz.zeroValue3
 t5:=Tryz.underlying5
 a5:=Tryz.isAgg5
 z5:=Tryz.sizeOf5
 v5:=Tryz.zeroValue5
 t9:=Tryz.underlying9
 a9:=Tryz.isAgg9
 z9:=Tryz.sizeOf9
 v9:=Tryz.zeroValue9
def Tryz.ren170:Ren where
 f:=fun x=>match x with|170=>32|n=>n
 t:=fun x=>match x with|70=>71|3=>3|0=>0|72=>74|37=>72|5=>5|n=>n
 g:=fun x=>x
theorem Tryz.lays170:Lays.n170 Tryz.prog Tryz.ren170 where
 mixed:=by kernel_rfl
 f170:=Tryz.func32
 t0:=Tryz.underlying0
 a0:=Tryz.isAgg0
 z0:=Tryz.sizeOf0
 v0:=Tryz.zeroValue0
 t3:=Tryz.underlying3
 a3:=Tryz.isAgg3
 z3:=Tryz.sizeOf3
 v3:=Tryz.zeroValue3
 t37:=Tryz.underlying72
 a37:=Tryz.isAgg72
 z37:=Tryz.sizeOf72
 v37:=Tryz.zeroValue72
 t70:=Tryz.underlying71
 a70:=Tryz.isAgg71
 z70:=Tryz.sizeOf71
 v70:=Tryz.zeroValue71
 t72:=Tryz.underlying74
 a72:=Tryz.isAgg74
 z72:=Tryz.sizeOf74
 v72:=Tryz.zeroValue74
def Tryz.ren156:Ren where
 f:=fun x=>match x with|156=>63|165=>102|166=>31|169=>33|240=>64|241=>138|276=>103|277=>172|n=>n
 t:=fun x=>match x with|31=>29|9=>9|3=>3|4=>4|0=>0|20=>20|72=>74|76=>78|70=>71|37=>72|75=>77|127=>108|164=>138|5=>5|80=>81|n=>n
 g:=fun x=>x
theorem Tryz.lays156:Lays.n156 Tryz.prog Tryz.ren156 where
 mixed:=by kernel_rfl
 f156:=Tryz.func63
 f165:=Tryz.func102
 f166:=Tryz.func31
 f169:=Tryz.func33
 f240:=Tryz.func64
 f241:=Tryz.func138
 f276:=Tryz.func103
 f277:=Tryz.func172
 t0:=Tryz.underlying0
 a0:=Tryz.isAgg0
 z0:=Tryz.sizeOf0
 v0:=Tryz.zeroValue0
 t3:=Tryz.underlying3
 a3:=Tryz.isAgg3
 z3:=Tryz.sizeOf3
 v3:=Tryz.zeroValue3
 t4:=Tryz.underlying4
 a4:=Tryz.isAgg4
 z4:=Tryz.sizeOf4
 v4:=Tryz.zeroValue4
 t9:=Tryz.underlying9
 a9:=Tryz.isAgg9
 z9:=Tryz.sizeOf9
 v9:=Tryz.zeroValue9
 t20:=Tryz.underlying20
 a20:=Tryz.isAgg20
 z20:=Tryz.sizeOf20
 v20:=Tryz.zeroValue20
 t31:=Tryz.underlying29
 a31:=Tryz.isAgg29
 z31:=Tryz.sizeOf29
 v31:=Tryz.zeroValue29
 t37:=Tryz.underlying72
 a37:=Tryz.isAgg72
 z37:=Tryz.sizeOf72
 v37:=Tryz.zeroValue72
 t70:=Tryz.underlying71
 a70:=Tryz.isAgg71
 z70:=Tryz.sizeOf71
 v70:=Tryz.zeroValue71
 t72:=Tryz.underlying74
 a72:=Tryz.isAgg74
 z72:=Tryz.sizeOf74
 v72:=Tryz.zeroValue74
 t75:=Tryz.underlying77
 a75:=Tryz.isAgg77
 z75:=Tryz.sizeOf77
 v75:=Tryz.zeroValue77
 t76:=Tryz.underlying78
 a76:=Tryz.isAgg78
 z76:=Tryz.sizeOf78
 v76:=Tryz.zeroValue78
 t127:=Tryz.underlying108
 a127:=Tryz.isAgg108
 z127:=Tryz.sizeOf108
 v127:=Tryz.zeroValue108
 t164:=Tryz.underlying138
 a164:=Tryz.isAgg138
 z164:=Tryz.sizeOf138
 v164:=Tryz.zeroValue138
theorem Tryz.lays166:Lays.n166 Tryz.prog Tryz.ren155:={ Tryz.lays155 with }
end Go.Proofs
namespace Go.SX.Nb
open Go Go.SX Go.Proofs Go.RowKit
variable [ErrAt]
set_option maxRecDepth 4000
theorem Sp {w:World} (h:Mh w):∃m,w.cell? ⟨0,0,none⟩=some (.int .i64 m):=by
 obtain ⟨_,a,m,t,f,rfl⟩:=h (0,fun o=>∃m t f,o=.cells #[.int .i64 m] t f) (by simp [GlobInv.blocks,fp])
 exact ⟨m,by simp [World.cell?,a]⟩
theorem Xm {w:World} (h:Mh w):w.cell? ⟨3,0,none⟩=some (.iface 271 (.pointer (some ErrAt.b))):=by
 obtain ⟨_,a,t,f,rfl⟩:=h (3,fun o=>∃t f,o=.cells #[.iface 271 (.pointer (some ErrAt.b))] t f) (by simp [GlobInv.blocks,fp])
 simp [World.cell?,a]
theorem AEx {w:World} (h:Mh w):Lib.TabIs Tryz.prog w "internal/strconv.uint64pow10" .u64 Lib.pow10Tab:=by
 obtain ⟨_,a,t,f,rfl⟩:=h (5,fun o=>∃t f,o=.cells (Lib.pow10Tab.map fun z=>Value.int .u64 z).toArray t f) (by simp [GlobInv.blocks,fp])
 have hg:Tryz.prog.globalNamed "internal/strconv.uint64pow10" = some 5:=by kernel_rfl
 simp only at a
 simp [Lib.TabIs,World.var?,hg,a]
theorem o6 (w:World) (n:Nat):Below w.heap.size w (w.drewN n):=⟨rfl,rfl,rfl,Ae _,fun _ _=>rfl⟩
theorem ABc (s t:Str) (hs:s.length<4294967281) (Hp:List AObj):AFun Tryz.prog 140 [Ac s,Ac t] Hp (Bz (Lib.contains s t)):=by
 refine Qj (xs:=[sv s,sv t]) (v:=.bool (Lib.contains s t)) (fun G w=>.v _ _) (fun w hg=>?_)
 obtain ⟨m,hm⟩:=Sp hg
 refine (Any.strings_Contains Tryz.lays144 ⟨s.toArray⟩ ⟨t.toArray⟩ m w (by simpa [ByteArray.size] using hs) hm).mono ?_
 rintro e w' ⟨rfl,rfl⟩
 exact nx
theorem AQb (s t:Str) (hs:s.length<4294967281) (Hp:List AObj):AFun Tryz.prog 118 [Ac s,Ac t] Hp (.tup [Ac (Lib.cut s t).1,Ac (Lib.cut s t).2.1,Bz (Lib.cut s t).2.2]):=by
 refine Qj (xs:=[sv s,sv t]) (v:=.tuple #[sv (Lib.cut s t).1,sv (Lib.cut s t).2.1,.bool (Lib.cut s t).2.2]) (fun G w=>Sk rfl (fun i y u hy hu=>?_)) (fun w hg=>?_)
 ·match i with
  | 0=>simp at hy hu;subst hy;subst hu;exact .v _ _
  | 1=>simp at hy hu;subst hy;subst hu;exact .v _ _
  | 2=>simp at hy hu;subst hy;subst hu;exact .v _ _
  | i+3=>simp at hy
 obtain ⟨m,hm⟩:=Sp hg
 refine (Any.strings_Cut Tryz.lays145 ⟨s.toArray⟩ ⟨t.toArray⟩ m w (by simpa [ByteArray.size] using hs) hm).mono ?_
 rintro e w' ⟨rfl,n,rfl⟩
 exact ⟨rfl,o6 _ _⟩
theorem ARp (s t:Str) (ht:t.length<4294967281) (ha:∀c∈t,c.toNat<128) (Hp:List AObj):AFun Tryz.prog 139 [Ac s,Ac t] Hp (Ac (Lib.trimLeftS s t)):=by
 refine Qj (xs:=[sv s,sv t]) (v:=sv (Lib.trimLeftS s t)) (fun G w=>.v _ _) (fun w hg=>?_)
 refine (Any.strings_TrimLeft_laid Tryz.lays161 (by kernel_rfl) ⟨s.toArray⟩ ⟨t.toArray⟩ w (by simpa [ByteArray.size] using ht) (fun j b hj=>ha b (Bd hj))).mono ?_
 rintro e w' ⟨rfl,hb⟩
 exact ⟨rfl,hb⟩
/-- The pieces of a split. -/
def Rh (s t:Str):List Str:=(Lib.splitB ⟨t.toArray⟩ 0 (Lib.countB ⟨s.toArray⟩ ⟨t.toArray⟩) ⟨s.toArray⟩).map (·.data.toList)
theorem c29 (s t:Str) (hs:s.length<4294967281) (ht:1≤t.length) (Hp:List AObj):AFun Tryz.prog 29 [Ac s,Ac t] Hp (Jw (Rh s t)):=by
 have:=AFun.libSlice (P:=Tryz.prog) (g:=29) (Hp:=Hp) (xs:=[sv s,sv t]) (ys:=(Rh s t).map sv) (t:=9) (by intro y hy;obtain ⟨z,_,rfl⟩:=F4.1 hy;rfl) (fun w hg=>by
  obtain ⟨m,hm⟩:=Sp hg
  refine (Any.strings_Split Tryz.lays146 (by kernel_rfl) ⟨s.toArray⟩ ⟨t.toArray⟩ m w (by simpa [ByteArray.size] using hs) hm (by simpa [ByteArray.size] using ht)).mono ?_
  rintro e w' ⟨rfl,rfl⟩
  have hl:((Rh s t).map sv).length=Lib.countB ⟨s.toArray⟩ ⟨t.toArray⟩+1:=by
   rw [Bh]
   unfold Rh
   rw [Bh]
   exact Lib.splitB_all _ (by simpa [ByteArray.size] using ht) _ _ _ rfl
  refine ⟨by rw [hl],?_⟩
  unfold Rh
  rw [Mo]
  rfl)
 rw [Mo] at this
 exact this
end Go.SX.Nb
namespace Go.Proofs
open Go Go.RowKit Go.Extern.Stop Go.Stop Go.Extern
theorem Tryz.isTypeOf (v:Value) (w:World):(Extern.ReflectliteType.typeOf #[.iface 271 v]).run Tryz.prog w=.ok (.iface 246 (.agg #[.pointer (some ⟨8,271,none⟩)])) w:=by kernel_rfl
def Tryz.cmpOf:Array Value→Sem Value:=Extern.ReflectliteType.method fun t=>do Extern.Rtype.noPackHeld "Comparable" t;pure (.bool (←typeInfo t).comparable)
theorem Tryz.isComparable (w:World):(Tryz.cmpOf #[.agg #[.pointer (some ⟨8,271,none⟩)]]).run Tryz.prog w=.ok (.bool true) w:=by kernel_rfl
theorem Tryz.isMethodComparable (v:Value) (w:World):(Go.method 408 246 v "Comparable").run Tryz.prog w=.ok (298,v) w:=by kernel_rfl
theorem Tryz.isComp:(Tryz.prog.info? 271).map (·.comparable)=some true:=by kernel_rfl
theorem Tryz.isSize:(Tryz.prog.info? 273).map (·.size)=some 1:=by kernel_rfl
theorem Tryz.noIsW (v:Value) (xT:TypeId) (w:World):(Instr.typeAssert (.iface 242 v) xT 248 true).run Tryz.prog w=.ok (.tuple #[.nilIface,.bool false]) w:=run_typeAssert_lacksB Tryz.underlying248 (by kernel_rfl) (by kernel_rfl) v xT w
theorem Tryz.hasUnwrapW (v:Value) (xT:TypeId) (w:World):(Instr.typeAssert (.iface 242 v) xT 251 true).run Tryz.prog w=.ok (.tuple #[.iface 242 v,.bool true]) w:=run_typeAssert_hasB Tryz.underlying251 (by kernel_rfl) v xT w
theorem Tryz.methodUnwrap (v:Value) (w:World):(Go.method 408 242 v "Unwrap").run Tryz.prog w=.ok (294,v) w:=by kernel_rfl
namespace Tryz
theorem is_nil (b:Addr) (w:World):
  Calls Tryz.prog 214 #[.nilIface,.iface 271 (.pointer (some b))] w fun e w'=>e=.returned (.bool false)∧w'=w:=by
 have hn:=run_eql_iface_nil_left (P:=Tryz.prog) w 271 (.pointer (some b)) Tryz.underlying77
 go_enter Tryz.func214,Tryz.ntmps214
 go_wp2
 go_ret
 exact ⟨rfl,rfl⟩
set_option maxRecDepth 100000 in
theorem is_range (pb po:Nat) (b:Addr) (w:World) (h1:w.cell? ⟨pb,po+2,none⟩=some (.iface 271 (.pointer (some b)))):
  Calls Tryz.prog 214 #[.iface 242 (.pointer (some ⟨pb,po,none⟩)),.iface 271 (.pointer (some b))] w fun e w'=>e=.returned (.bool true)∧w'=w:=by
 obtain ⟨i,hi,hcmp⟩:=Option.map_eq_some_iff.1 Tryz.isComp
 obtain ⟨j,hj,hjs⟩:=Option.map_eq_some_iff.1 Tryz.isSize
 have h8:=@run_callFunc_extern Tryz.prog 232 _ Extern.ReflectliteType.typeOf Tryz.func232 (by kernel_rfl) (by kernel_rfl) (by kernel_rfl) (by kernel_rfl)
 have h32:=@run_callFunc_extern Tryz.prog 298 _ Tryz.cmpOf Tryz.func298 (by kernel_rfl) (by kernel_rfl) (by kernel_rfl) (by kernel_rfl)
 have tT:=Tryz.isTypeOf
 have cT:=Tryz.isComparable
 have mR:=Tryz.isMethodComparable
 have nW:=Tryz.noIsW
 have uW:=Tryz.hasUnwrapW
 have mU:=Tryz.methodUnwrap
 have heq:=run_eql_iface_ptr_same (P:=Tryz.prog) w b Tryz.underlying77 Tryz.underlying271 hi hcmp hj
 have hty:=run_eql_iface_types (P:=Tryz.prog) 242 271 (.pointer (some ⟨pb,po,none⟩)) (.pointer (some b)) Tryz.underlying77 (by decide) w
 go_enter Tryz.func214,Tryz.ntmps214
 go_wp2
 refine wp_loop_rounds 2 ?_
 rw [rounds_succ]
 go_wp2
 rw [rounds_succ]
 go_wp2
 go_ret
 exact ⟨rfl,rfl⟩
end Tryz
end Go.Proofs
namespace Go.SX.Nb
open Go Go.SX Go.Proofs Go.RowKit Go.Sort
variable [ErrAt]
set_option maxRecDepth 4000
theorem ARq (s t:Str) (Hp:List AObj):AFun Tryz.prog 186 [Ac s,Ac t] Hp (Bz (Lib.hasPrefix s t)):=by
 refine Qj (xs:=[sv s,sv t]) (v:=.bool (Lib.hasPrefix s t)) (fun G w=>.v _ _) (fun w hg=>?_)
 refine (Any.strings_HasPrefix Tryz.lays99 ⟨s.toArray⟩ ⟨t.toArray⟩ w).mono ?_
 rintro e w' ⟨rfl,rfl⟩
 exact nx
theorem ARr (s t:Str) (hs:s.length≤9223372036854775807) (Hp:List AObj):AFun Tryz.prog 187 [Ac s,Ac t] Hp (Bz (Lib.hasSuffix s t)):=by
 refine Qj (xs:=[sv s,sv t]) (v:=.bool (Lib.hasSuffix s t)) (fun G w=>.v _ _) (fun w hg=>?_)
 refine (Any.strings_HasSuffix Tryz.lays100 ⟨s.toArray⟩ ⟨t.toArray⟩ w (by simpa [ByteArray.size] using hs)).mono ?_
 rintro e w' ⟨rfl,rfl⟩
 exact nx
theorem ARs (s:Str) (c:UInt8) (Hp:List AObj):AFun Tryz.prog 158 [Ac s,.v (.int .u8 (c.toNat:Int))] Hp (A7 (Lib.indexByte s c)):=by
 refine Qj (xs:=[sv s,.int .u8 (c.toNat:Int)]) (v:=.int .i64 (Lib.indexByte s c)) (fun G w=>.v _ _) (fun w hg=>?_)
 refine (Any.strings_IndexByte Tryz.lays137 ⟨s.toArray⟩ (c.toNat:Int) w).mono ?_
 rintro e w' ⟨rfl,rfl⟩
 exact ⟨by simp,Below.refl _ _⟩
theorem ARt:Builder.Extra Tryz.prog Tryz.ren155:={ sizeBuilder:=by kernel_rfl,liesBuilder:=by kernel_rfl,t5:=Tryz.underlying5,a5:=Tryz.isAgg5,z5:=Tryz.sizeOf5,v5:=Tryz.zeroValue5,infoByte:=by kernel_rfl,cellsByte:=by kernel_rfl,sizeByte:=by kernel_rfl,neB5:=by decide }
theorem AQc (s o n:Str) (hs:s.length<4294967281) (ho:1≤o.length) (hl:s.length+Lib.countB ⟨s.toArray⟩ ⟨o.toArray⟩*n.length≤140737488355328) (Hp:List AObj):AFun Tryz.prog 201 [Ac s,Ac o,Ac n] Hp (Ac (Lib.replaceAll s o n)):=by
 refine Qj (xs:=[sv s,sv o,sv n]) (v:=sv (Lib.replaceAll s o n)) (fun G w=>.v _ _) (fun w hg=>?_)
 obtain ⟨m,hm⟩:=Sp hg
 refine (Any.strings_ReplaceAll Tryz.lays155 ARt ⟨s.toArray⟩ ⟨o.toArray⟩ ⟨n.toArray⟩ m w (by simpa [ByteArray.size] using hs) hm (by simpa [ByteArray.size] using ho) (by simpa [ByteArray.size] using hl)).mono ?_
 rintro e w' ⟨rfl,hb⟩
 exact ⟨rfl,hb⟩
theorem uo (w:World) (k:Nat) (os:Array Obj):Below w.heap.size w (grow (w.drewN k) os):=by
 refine ⟨rfl,rfl,rfl,by simp [grow],fun b hb=>?_⟩
 show ((w.drewN k).heap++os)[b]? = w.heap[b]?
 rw [Kp (by exact hb)]
 rfl
theorem ARu (n:Int) (h0 : -9223372036854775808≤n) (h1:n≤9223372036854775807) (Hp:List AObj):AFun Tryz.prog 220 [.v (.int .i64 n),A7 10] Hp (Ac (Lib.itoa n)):=by
 refine Qj (xs:=[.int .i64 n,.int .i64 10]) (v:=sv (Lib.itoa n)) (fun G w=>.v _ _) (fun w hg=>?_)
 refine (Any.strconv_FormatInt_10 Tryz.lays173 n h0 h1 w (AEx hg)).mono ?_
 rintro e w' ⟨rfl,k,os,rfl⟩
 exact ⟨rfl,uo _ _ _⟩
end Go.SX.Nb
namespace Go.SX.Nb
open Go Go.SX Go.Proofs Go.RowKit
variable [ErrAt]
set_option maxRecDepth 4000
def digs:Str:=[48,49,50,51,52,53,54,55,56,57]
def Ng (s:Str):Str:=Lib.trimPrefix s [45]
def Gn (s:Str):Bool:=(Ng s==[]) || !(Lib.trimS (Ng s) digs==[]) || (((Ng s).headD 0==48)&&decide (1<s.length))
def B6 (s:Str):Int×Int:=if Gn s then (0,6) else match Lib.parseIntB 64 s with|.ok v=>(v,0)|.range=>(0,4)|_=>(0,0)
def AIz {α:Type}:Lib.NumEnd α→Bool|.ok _=>false|.range=>false|_=>true
theorem uq {p:UInt8→Bool}:∀{l:Str},l.dropWhile p=[]↔∀b∈l,p b=true
 | []=>by simp
 | b::r=>by
  rw [Tm]
  by_cases h:p b=true
  ·rw [if_pos h,uq]
   simp [h]
  rw [if_neg h]
  simp [h]
theorem AEy {p:UInt8→Bool}:∀{l:Str} {b:UInt8},b∈l→p b=false→b∈l.dropWhile p
 | x::r,b,h,hb=>by
  rw [Tm]
  by_cases hx:p x=true
  ·rw [if_pos hx]
   rcases C9.1 h with rfl|h
   ·rw [hb] at hx;cases hx
   exact AEy h hb
  rw [if_neg hx];exact h
theorem trimS_nil {l cs:Str}:Lib.trimS l cs=[]↔∀b∈l,cs.contains b=true:=by
 unfold Lib.trimS Lib.trimLeftS Lib.trimRightS
 rw [uq]
 constructor
 ·intro h b hb
  cases hc:cs.contains b with
  | true=>rfl
  | false =>
   have:=h b (Yj.2 (AEy (p:=(cs.contains ·)) (Yj.2 hb) hc))
   rw [hc] at this;exact this
 intro h b hb
 exact h b (Yj.1 ((su (cs.contains ·)).subset (Yj.1 hb)))
theorem Oq (c:UInt8):digs.contains c=(decide (48≤c.toNat)&&decide (c.toNat≤57)):=by
 have h:((List.range 256).all fun n=>digs.contains (UInt8.ofNat n)==(decide (48≤(UInt8.ofNat n).toNat)&&decide ((UInt8.ofNat n).toNat≤57)))=true:=by kernel_rfl
 have:=Ay.1 h c.toNat (Pi.2 c.toNat_lt)
 simpa using this
theorem fq (M:Nat):∀(l:Str) (acc:Nat),(∀b∈l,digs.contains b=true)→AIz (Lib.parseUintM M acc l)=false
 | [],acc,_=>by rw [Lib.parseUintM];rfl
 | c::r,acc,h=>by
  have hc:=h c (by simp)
  rw [Oq] at hc
  simp only [Ah,decide_eq_true_eq] at hc
  rw [Lib.parseUintM,if_pos hc]
  split
  ·rfl
  split
  ·rfl
  exact fq M r _ (fun b hb=>h b (by simp [hb]))
theorem Lp (s:Str):(s.head? ≠ some 45∧Ng s=s)∨∃r,s=45::r∧Ng s=r:=by
 unfold Ng Lib.trimPrefix Lib.hasPrefix
 cases s with
 | nil=>exact .inl ⟨by simp,rfl⟩
 | cons c r =>
  by_cases hc:c=45
  ·subst hc;exact .inr ⟨r,rfl,by simp [List.isPrefixOf]⟩
  refine .inl ⟨by simpa using hc,?_⟩
  rw [if_neg]
  simp [List.isPrefixOf,Ne.symm hc]
theorem Ri {s:Str} (h:Gn s=false):AIz (Lib.parseIntB 64 s)=false:=by
 unfold Gn at h
 simp only [Hb,Tj,beq_iff_eq,beq_eq_false_iff_ne] at h
 obtain ⟨⟨h1,h2⟩,_⟩:=h
 rw [trimS_nil] at h2
 have key:∀l:Str,l≠[]→(∀b∈l,digs.contains b=true)→AIz (Lib.parseUintB 64 l)=false:=fun l hl ha=>by
  unfold Lib.parseUintB
  rw [if_neg hl]
  exact fq _ l 0 ha
 rcases Lp s with ⟨h3,h4⟩|⟨r,rfl,h4⟩
 ·rw [h4] at h1 h2
  cases s with
  | nil=>exact absurd rfl h1
  | cons c r =>
   have hcd:=h2 c (by simp)
   rw [Oq] at hcd
   simp only [Ah,decide_eq_true_eq] at hcd
   have e1:¬(c.toNat=43∨c.toNat=45):=by omega
   have:=key (c::r) (by simp) h2
   simp only [Lib.parseIntB,if_neg e1]
   revert this
   cases Lib.parseUintB 64 (c::r) with
   | range=>intro _;rfl
   | ok u=>intro _;simp only;split<;>(try split)<;>rfl
   | _=>intro h;cases h
 rw [h4] at h1 h2
 have:=key r h1 h2
 have e1:((45:UInt8).toNat=43∨(45:UInt8).toNat=45):=.inr rfl
 simp only [Lib.parseIntB,if_pos e1]
 revert this
 cases Lib.parseUintB 64 r with
 | range=>intro _;rfl
 | ok u=>intro _;simp only;split<;>(try split)<;>rfl
 | _=>intro h;cases h
end Go.SX.Nb
namespace Go.SX.Nb
open Go Go.SX Go.Proofs
variable [ErrAt]
set_option maxRecDepth 4000
def Cw (c:UInt8):Bool:=decide ((97:Int)≤c.toNat)&&decide ((c.toNat:Int)≤122)
def By (c:UInt8):Bool:=decide ((48:Int)≤c.toNat)&&decide ((c.toNat:Int)≤57)
theorem c51 (c:UInt8) (Hp:List AObj):AFun Tryz.prog 51 [.v (.int .u8 (c.toNat:Int))] Hp (.v (.bool (Cw c))):=by
 refine B0 [.tmp 2] [0] Tryz.func51 Tryz.ntmps51 (fun d=>?_)
 refine Z59 ?_;refine ee ?_;exact Z88

theorem c52 (c:UInt8) (Hp:List AObj):AFun Tryz.prog 52 [.v (.int .u8 (c.toNat:Int))] Hp (.v (.bool (By c))):=by
 refine B0 [.tmp 2] [0] Tryz.func52 Tryz.ntmps52 (fun d=>?_)
 refine Z59 ?_;refine ee ?_;exact Z88

def words:List Str:=[[97,100,100],[100,114,111,112],[114,101,110,97,109,101],[115,112,108,105,116],[109,101,114,103,101],[114,101,116,121,112,101],[105,110,116,111],[116,111],[98,97,99,107],[97,110,100],[111,114],[110,111,116],[116,114,117,101],[102,97,108,115,101],[110,117,108,108],[105,110,116],[116,101,120,116],[98,111,111,108],[115,101,108,101,99,116],[119,104,101,114,101],[102,114,111,109],[108,105,109,105,116]]
def D8 (s:Str):Bool:=words.any (·==s)
theorem fu:words.length=22:=rfl
theorem AMs {α:Type} {p:α→Bool} {l:List α} {i:Nat} (h:i<l.length) (hp:p l[i]=true):l.any p=true:=by
 rw [Zu];exact ⟨l[i],D4 h,hp⟩
theorem AEz {α:Type} {p:α→Bool} {l:List α} (h:∀(j:Nat) (y:α),l[j]? = some y→p y=false):l.any p=false:=by
 rw [jv]
 intro x hx
 obtain ⟨j,hj⟩:=Dp hx
 simp [h j x hj]
theorem Jx {α:Type} {l:List α} {x:Nat} {p:α→Prop} (hlt:x<l.length) (h:∀(j:Nat) (y:α),j<x→l[j]? = some y→p y) (hx:p l[x]):∀(j:Nat) (y:α),j<x+1→l[j]? = some y→p y:=by
 intro j y hj hy
 rcases Aw j x with h'|h'
 ·exact h j y h' hy
 have:j=x:=by omega
 subst this
 rw [Ak hlt] at hy
 injection hy with hy
 subst hy
 exact hx
theorem o7 {α:Type} {l:List α} {x:Nat} {p:α→Prop} (hge:l.length≤x) (h:∀(j:Nat) (y:α),j<x→l[j]? = some y→p y):∀(j:Nat) (y:α),l[j]? = some y→p y:=
 fun j y hy=>h j y (by have:=(Aa.1 hy).1;omega) hy
theorem c53 (s:Str) (Hp:List AObj):AFun Tryz.prog 53 [Ac s] Hp (Bz (D8 s)):=by
 refine B0 [.tmp 2] [0] Tryz.func53 Tryz.ntmps53 (fun d=>?_)
 refine Z59 ?_;refine Ei ?_;refine AB3 ?_;refine Qm ?_;refine Z35 ?_;refine la ?_
 refine Bo (α:=Nat) (fun x=>⟨18,A9 0 (Ac s) (A9 3 (.slice true 1 (words.map Ac)) (A9 4 (A7 (x:Nat)) (fun _=>.any))),Hp,[],[],none⟩) (fun x=>x≤words.length∧∀(j:Nat) (y:Str),j<x→words[j]? = some y→(y==s)=false) (fun x=>words.length-x) (0) (by simp) (Gk _) rfl (fun x hx=>?_)
 refine Z42 ?_;refine A2 [0,3,4,9] ?_
 refine A6 (fun ht9=>?_) (fun ht9=>?_)
 ·have hlt:x<words.length:=by simpa using ht9
  have hwl:=fu
  refine Z56 ?_;refine Z1 ?_
  refine A3 (h:=B2 (x) (Ac words[x]) (fun _=>Ea hlt)) (hr:=?_)
  refine Z7 ?_;refine A2 [0,3,4,17] ?_
  refine A6 (fun ht17=>?_) (fun ht17=>?_)
  ·refine Z20 ?_;refine Z66 ?_;exact Ab (Ao Ag) ⟨by rw [show D8 s=true from AMs hlt ht17],rfl⟩
  refine Wf ?_;refine la ?_;exact Be (x+1) ⟨hlt,Jx hlt hx.2 ht17⟩ (by have:=fu;omega) (Bp rfl)
 refine Z41 ?_;refine Z20 ?_;exact Ab (Ao Ag) ⟨by rw [show D8 s=false from AEz (o7 (by simp at ht9;omega) hx.2)],rfl⟩

def Cr (c:UInt8):Bool:=Cw c || By c || c==95
def H8 (s:Str):Bool:=match s with
 | []=>false
 | c::_=>decide (s.length≤16)&&Cw c && !D8 s&&s.all Cr
theorem P4 {s:Str} (h:s≠[]):s[0]? = some (s.headD 0):=by cases s with
 | nil=>exact absurd rfl h
 | cons c r=>rfl
theorem o8 (s:Str):H8 s=(!((s.length:Int)==0 || decide ((16:Int)<s.length) || !Cw (s.headD 0) || D8 s)&&s.all Cr):=by
 cases s with
 | nil=>rfl
 | cons c r =>
  have h1:(((c::r).length:Int)==0)=false:=by simp;omega
  have h2:decide ((c::r).length≤16) = !decide ((16:Int)<(c::r).length):=by
   by_cases h:(c::r).length≤16
   ·have:¬((16:Int)<(c::r).length):=by omega
    simp only [h,this,decide_true,decide_false,N5]
   have:((16:Int)<(c::r).length):=by omega
   simp only [h,this,decide_true,decide_false,Hu]
  simp only [H8,h1,h2,List.headD_cons,Bool.not_or,Bool.not_not,Gy]
def yf (nm:Str) (c:List Col):Int:=match c.findIdx? (fun y=>y.name==nm) with|some i=>i|none => -1
structure OkCols (c:List Col):Prop where
 len:c.length≤1048576
 names:∀y∈c,y.name.length≤1048576
theorem ur {α:Type} {l:List α} {x:Nat} {p:Nat→α→Prop} (hlt:x<l.length) (h:∀(j:Nat) (y:α),j<x→l[j]? = some y→p j y) (hx:p x l[x]):∀(j:Nat) (y:α),j<x+1→l[j]? = some y→p j y:=by
 intro j y hj hy
 rcases Aw j x with h'|h'
 ·exact h j y h' hy
 have:j=x:=by omega
 subst this
 rw [Ak hlt] at hy
 injection hy with hy
 subst hy
 exact hx
def Dr (v:Val):Bool:=if v.kind==0 then v.n==0&&v.s==[] else if v.kind==1 then v.s==[] else if v.kind==2 then v.n==0&&decide ((v.s.length:Int)≤200) else v.kind==3&&v.s==[]&&decide (0≤v.n)&&decide (v.n≤1)
theorem AMt (e:Bool) (n:Int):(e&&(n==0 || n==1))=(e&&decide (0≤n)&&decide (n≤1)):=by
 cases e
 ·rfl
 rw [N3]
 simp
 omega
theorem c143 (v:Val) (Hp:List AObj):AFun Tryz.prog 143 [lh v] Hp (Bz (Dr v)):=by
 refine B0 [.tmp 2] [0] Tryz.func143 Tryz.ntmps143 (fun d=>?_)
 refine Ei ?_;refine Ps ?_;refine A3 ?_;refine A2 [1] ?_;refine Z9 ?_;refine A2 [1,4] ?_;refine Z84 ?_;refine A2 [1,4,5] ?_
 refine A6 (fun ht5=>?_) (fun ht5=>?_)
 ·refine Z82 ?_
  refine A3 (h:=Q.eqlAgg AIy (Yw v.kind v.n 0 0 v.s [])) (hr:=?_)
  refine A3 ?_;refine Z3 ?_;refine Z8 ?_;exact Ab (Ao Ag) ⟨by simp [Dr,ht5],rfl⟩
 refine Z1 ?_;refine A2 [1,4,10] ?_
 refine A6 (fun ht10=>?_) (fun ht10=>?_)
 ·refine Z33 ?_;refine Z3 ?_;refine Z8 ?_;exact Ab (Ao Ag) ⟨by simp [Dr,ht5,ht10],rfl⟩
 refine Z1 ?_;refine A2 [1,4,15] ?_
 refine A6 (fun ht15=>?_) (fun ht15=>?_)
 ·refine Z1 ?_;refine Z48 ?_;refine ug ?_;exact Ab (Ao Ag) ⟨by simp [Dr,ht5,ht10,ht15],rfl⟩
 refine Z1 ?_;refine A2 [1,26] ?_
 refine A6 (fun ht26=>?_) (fun ht26=>?_)
 ·refine Z1 ?_;refine Z48 ?_;refine l9 ?_;refine ug ?_;exact Ab (Ao Ag) ⟨by simp [Dr,ht5,ht10,ht15,ht26];rw [AMt],rfl⟩
 refine uh ?_;exact Ab (Ao Ag) ⟨by simp [Dr,ht5,ht10,ht15,ht26],rfl⟩

def Lq (s of:Str):Int:=(s.length:Int)-(Lib.trimLeftS s of).length
theorem Yx (s of:Str):(Lib.trimLeftS s of).length≤s.length:=by
 unfold Lib.trimLeftS
 exact (su _).length_le
def Px:Str:=[32,97,100,100,32,100,114,111,112,32,114,101,110,97,109,101,32,115,112,108,105,116,32,109,101,114,103,101,32,114,101,116,121,112,101,32,105,110,116,111,32,116,111,32,98,97,99,107,32,97,110,100,32,111,114,32,110,111,116,32,116,114,117,101,32,102,97,108,115,101,32,110,117,108,108,32,105,110,116,32,116,101,120,116,32,98,111,111,108,32,115,101,108,101,99,116,32,119,104,101,114,101,32,102,114,111,109,32,108,105,109,105,116,32]
def letters:Str:=[97,98,99,100,101,102,103,104,105,106,107,108,109,110,111,112,113,114,115,116,117,118,119,120,121,122]
def tails:Str:=[97,98,99,100,101,102,103,104,105,106,107,108,109,110,111,112,113,114,115,116,117,118,119,120,121,122,48,49,50,51,52,53,54,55,56,57,95]
theorem ut (s of:Str) (hs:s.length≤1048576) (ho:of.length≤1048576) (ha:∀c∈of,c.toNat<128) (Hp:List AObj):AFun Tryz.prog 104 [Ac s,Ac of] Hp (A7 (Lq s of)):=by
 refine B0 [.tmp 4] [0,1] Tryz.func104 Tryz.ntmps104 (fun d=>?_)
 refine Z63 ?_;refine Z33 ?_;refine Ap Tryz.call139 (ARp s of (by omega) ha _) ?_;refine A3 ?_
 have htl:=Yx s of
 exact AIi

def Dk (s:Str):Bool:=(!(s==[]) && !Lib.contains s [32])&&Lib.contains Px ([32]++s++[32])
theorem AQd (s:Str) (hs:s.length≤1048576) (Hp:List AObj):AFun Tryz.prog 105 [Ac s] Hp (Bz (Dk s)):=by
 refine B0 [.tmp 2] [0] Tryz.func105 Tryz.ntmps105 (fun d=>?_)
 refine Z59 ?_;refine Z16 ?_;refine Bk ?_;refine D9 Tryz.call140 (fun hB=>ABc s [32] (by omega) _) ?_;refine Bk ?_;refine uj ?_;refine D9 Tryz.call140 (fun hB=>ABc Px ([32]++s++[32]) (by decide) _) ?_;exact Z88

theorem AMu {s:Str} {b c:Bool} (h:(((!(s==[])&&b)&&c)==true)=true):1≤s.length:=by
 cases s with
 | nil=>simp at h
 | cons x r=>simp
def Ej (s:Str):Bool:=((((!(s==[])&&decide ((s.length:Int)≤16))&&(Lq s tails==(s.length:Int)))&&(Lq (s.take 1) letters==1)) && !Dk s)
theorem c67 (s:Str) (hs:s.length≤1048576) (Hp:List AObj):AFun Tryz.prog 67 [Ac s] Hp (Bz (Ej s)):=by
 refine B0 [.tmp 2] [0] Tryz.func67 Tryz.ntmps67 (fun d=>?_)
 refine Z59 ?_;refine ee ?_;refine Bk ?_;refine Wg ?_;refine D9 Tryz.call104 (fun hB=>ut s tails hs (by decide) (by decide) _) ?_;refine Z6 ?_;refine Bk ?_;refine Wg ?_
 refine Bk (h:=Ol 1 (fun _=>Al _) (fun hB=>AMu hB)) (hr:=?_)
 refine D9 Tryz.call104 (fun hB=>ut (s.take 1) letters (by simp;omega) (by decide) (by decide) _) ?_
 refine Bk ?_;refine Wg ?_;refine D9 Tryz.call105 (fun hB=>AQd s hs _) ?_;refine Bk ?_;exact Z88

end Go.SX.Nb
namespace Go.SX.Nb
open Go Go.SX Go.Proofs Go.RowKit
variable [ErrAt]
set_option maxRecDepth 4000
theorem ARv (s t:Str) (Hp:List AObj):AFun Tryz.prog 211 [Ac s,Ac t] Hp (Ac (Lib.trimPrefix s t)):=by
 refine Qj (xs:=[sv s,sv t]) (v:=sv (Lib.trimPrefix s t)) (fun G w=>.v _ _) (fun w hg=>?_)
 refine (Any.strings_TrimPrefix Tryz.lays101 ⟨s.toArray⟩ ⟨t.toArray⟩ w).mono ?_
 rintro e w' ⟨rfl,rfl⟩
 exact nx
theorem c212 (s t:Str) (hs:s.length≤9223372036854775807) (ht:t.length<4294967281) (ha:∀c∈t,c.toNat<128) (Hp:List AObj):AFun Tryz.prog 212 [Ac s,Ac t] Hp (Ac (Lib.trimS s t)):=by
 refine Qj (xs:=[sv s,sv t]) (v:=sv (Lib.trimS s t)) (fun G w=>.v _ _) (fun w hg=>?_)
 refine (Any.strings_Trim_laid Tryz.lays160 (by kernel_rfl) ⟨s.toArray⟩ ⟨t.toArray⟩ w (by simpa [ByteArray.size] using hs) (by simpa [ByteArray.size] using ht) (fun j b hj=>ha b (Bd hj))).mono ?_
 rintro e w' ⟨rfl,hb⟩
 exact ⟨rfl,hb⟩
theorem AJ0 (s:Str) (hs:s.length≤1048576) (v:Int) (h:Lib.parseIntB 64 s=.ok v) (Hp:List AObj):AFun Tryz.prog 213 [Ac s,A7 10,A7 64] Hp (.tup [A7 v,.v .nilIface]):=by
 refine Qj (xs:=[sv s,.int .i64 10,.int .i64 64]) (v:=.tuple #[.int .i64 v,.nilIface]) (fun G w=>Sk rfl (fun i y u hy hu=>?_)) (fun w hg=>?_)
 ·match i with
  | 0=>simp at hy hu;subst hy;subst hu;exact .v _ _
  | 1=>simp at hy hu;subst hy;subst hu;exact .v _ _
  | i+2=>simp at hy
 refine (Any.strconv_ParseInt_10_at64_ok Tryz.lays174 ⟨s.toArray⟩ (by simp [ByteArray.size];omega) v h w).mono ?_
 rintro e w' ⟨rfl,rfl|⟨t,rfl⟩⟩
 ·exact nx
 exact ⟨rfl,Lib.bytesWorld_below _ _ _⟩
def Wh (s:Str):AV:=.iface 242 (.ro [.v (sv [80,97,114,115,101,73,110,116]),.v (sv s),.v (.iface 271 (.pointer (some ErrAt.b)))])
theorem uu (s:Str) (hs:s.length≤1048576) (h:Lib.parseIntB 64 s=.range) (Hp:List AObj):AFun Tryz.prog 213 [Ac s,A7 10,A7 64] Hp (.tup [A7 (Lib.intSat 64 s),Wh s]):=by
 refine AFun.libErr (xs:=[sv s,.int .i64 10,.int .i64 64]) (n:=.int .i64 (Lib.intSat 64 s)) (cs:=[sv [80,97,114,115,101,73,110,116],sv s,.iface 271 (.pointer (some ErrAt.b))]) (te:=264) (fun y hy=>?_) (fun w hg=>?_)
 ·simp only [C9,Ph,or_false] at hy
  rcases hy with rfl|rfl|rfl<;>rfl
 refine (Any.strconv_ParseInt_10_at64_range Tryz.lays174 ⟨s.toArray⟩ (by simp [ByteArray.size];omega) h (.iface 271 (.pointer (some ErrAt.b))) w (Xm hg) (.inr ⟨_,_,rfl⟩)).mono ?_
 rintro e w' ⟨N,rfl,h1,h2,h3⟩
 exact ⟨N,rfl,h1,h2,h3⟩
theorem AF0 (Hp:List AObj):AFun Tryz.prog 214 [.v .nilIface,.v (.iface 271 (.pointer (some ErrAt.b)))] Hp (Bz false):=by
 refine Qj (xs:=[.nilIface,.iface 271 (.pointer (some ErrAt.b))]) (v:=.bool false) (fun G w=>.v _ _) (fun w hg=>?_)
 refine (Tryz.is_nil _ w).mono ?_
 rintro e w' ⟨rfl,rfl⟩
 exact nx
theorem uv (s:Str) (Hp:List AObj):AFun Tryz.prog 214 [Wh s,.v (.iface 271 (.pointer (some ErrAt.b)))] Hp (Bz true):=by
 intro d G w vs hn hv hH hT _
 have hsz:vs.size=2:=hn
 have h0:=hv 0 (Wh s) vs[0] rfl (F3 (by omega))
 have h1:=O4 (hv 1 (.v (.iface 271 (.pointer (some ErrAt.b)))) vs[1] rfl (F3 (by omega)))
 have hvs:vs=#[vs[0],vs[1]]:=by
  apply mn
  ·exact hsz
  intro i hi1 hi2
  match i with
  | 0=>rfl
  | 1=>rfl
  | i+2=>omega
 unfold Wh at h0
 generalize vs[0]=u0 at h0 hvs
 cases h0 with
 | iface _ _ _ u h =>
  cases h with
  | ro _ _ ad f hs h1' hf hr =>
   obtain ⟨ab,ao,asp⟩:=ad
   simp only at hs
   subst hs
   have hc:=(hf 2 _ rfl).2
   have he:=O4 (hr 2 _ rfl)
   rw [he] at hc
   rw [hvs,h1]
   refine (callsIn_wide.2 (Tryz.is_range ab ao ErrAt.b w hc)).mono ?_
   rintro e w' ⟨rfl,rfl⟩
   exact ⟨_,G,_,Hp,rfl,.v _ _,hH,hT,Hv _ _ _,rfl,rfl,rfl⟩
end Go.SX.Nb
namespace Go.SX.Nb
open Go Go.SX Go.Proofs
variable [ErrAt]
set_option maxRecDepth 4000
def o9:Str:=[32,105,110,116,32,116,101,120,116,32,98,111,111,108]
def kindNames:List Str:=[[],[105,110,116],[116,101,120,116],[98,111,111,108]]
theorem ABd:Rh o9 [32]=kindNames:=by kernel_rfl
def Av (k:Int):Str:=if k<1∨3<k then [] else kindNames.getD k.toNat []
theorem c68 (k:Int) (Hp:List AObj):AFun Tryz.prog 68 [A7 k] Hp (Ac (Av k)):=by
 refine B0 [.tmp 2] [0] Tryz.func68 Tryz.ntmps68 (fun d=>?_)
 refine Z59 ?_;refine Z50 ?_;refine Z77 ?_;refine A2 [0,8] ?_
 refine A6 (fun ht8=>?_) (fun ht8=>?_)
 ·refine Z20 ?_;refine Dd ?_;exact Ab (Ao Ag) ⟨by rw [show Av k=[] from if_pos (by simpa using ht8)],rfl⟩
 refine Y8 ?_
 have hk:1≤k∧k≤3:=by simp at ht8;omega
 have hget:(kindNames.map Ac)[k.toNat]? = some (Ac (kindNames.getD k.toNat [])):=by
  have hlt:k.toNat<kindNames.length:=by show k.toNat<4;omega
  rw [D3,Ak hlt,F7,Ak hlt]
  rfl
 refine Ap Tryz.call29 (ABd ▸ c29 o9 [32] (by decide) (by decide) _) ?_;refine A3 ?_
 refine A3 (h:=B2 (k.toNat) (Ac (kindNames.getD k.toNat [])) (fun _=>hget)) (hr:=?_)
 exact AOc

def Fy (s of:Str):Bool:=(!(s==[]) && !Lib.contains s [32])&&Lib.contains of ([32]++s++[32])
theorem AQe (s of:Str) (hs:s.length≤1048576) (ho:of.length≤1048576) (Hp:List AObj):AFun Tryz.prog 144 [Ac s,Ac of] Hp (Bz (Fy s of)):=by
 refine B0 [.tmp 4] [0,1] Tryz.func144 Tryz.ntmps144 (fun d=>?_)
 refine Z63 ?_;refine Z16 ?_;refine Bk ?_;refine D9 Tryz.call140 (fun hB=>ABc s [32] (by omega) _) ?_;refine We ?_;refine D9 Tryz.call140 (fun hB=>ABc of ([32]++s++[32]) (by omega) _) ?_;exact AIi

def fw:Str:=[108,101,110,58,49,32,115,116,114,58,49,32,110,117,109,58,49,32,105,115,110,117,108,108,58,49,32,110,118,108,58,50,32,108,101,102,116,58,50,32,114,105,103,104,116,58,50,32,105,102,58,51]
def arityList:List (Str×UInt8):=[([108,101,110],49),([115,116,114],49),([110,117,109],49),([105,115,110,117,108,108],49),([110,118,108],50),([108,101,102,116],50),([114,105,103,104,116],50),([105,102],51)]
def Lg (p:Str×UInt8):Str:=p.1++[58,p.2]
theorem uw:Rh fw [32]=arityList.map Lg:=by kernel_rfl
theorem AF1 {p:Str×UInt8} (hp:p∈arityList):Lib.cut (Lg p) [58]=(p.1,[p.2],true):=by
 have h:(arityList.all fun p=>decide (Lib.cut (Lg p) [58]=(p.1,[p.2],true)))=true:=by kernel_rfl
 exact of_decide_eq_true (Ay.1 h p hp)
def AF2 (p:Str×UInt8):Int:=IntKind.i64.wrap (IntKind.u8.wrap ((p.2.toNat:Int)-48))
def Ce (nm:Str):Int:=match arityList.find? (fun p=>p.1==nm) with|some p=>AF2 p|none => -1
theorem AJ1 {α:Type} {p:α→Bool} {l:List α} {x:Nat} (h:x<l.length) (hp:p l[x]=true) (h2:∀(j:Nat) (y:α),j<x→l[j]? = some y→p y=false):l.find? p=some l[x]:=by
 rw [ADz]
 exact ⟨hp,x,h,rfl,fun j hj=>by simpa using h2 j l[j] hj (Ak _)⟩
theorem ABe {α:Type} {p:α→Bool} {l:List α} (h:∀(j:Nat) (y:α),l[j]? = some y→p y=false):l.find? p=none:=by
 rw [W7]
 intro y hy
 obtain ⟨j,hj⟩:=Dp hy
 simpa using h j y hj
theorem Wi:arityList.length=8:=rfl
theorem ABf {p:Str×UInt8} (hp:p∈arityList):(Lg p).length<4294967281:=by
 have h:(arityList.all fun p=>decide ((Lg p).length<4294967281))=true:=by kernel_rfl
 exact of_decide_eq_true (Ay.1 h p hp)
theorem c145 (nm:Str) (Hp:List AObj):AFun Tryz.prog 145 [Ac nm] Hp (A7 (Ce nm)):=by
 refine B0 [.tmp 2] [0] Tryz.func145 Tryz.ntmps145 (fun d=>?_)
 refine Z59 ?_;refine Z71 ?_;refine Ap Tryz.call29 (uw ▸ c29 fw [32] (by decide) (by decide) _) ?_;refine Z0 ?_;refine A2 [0,8,9,10] ?_
 refine Bo (α:=Nat) (fun x=>⟨28,A9 0 (Ac nm) (A9 8 (Jw (arityList.map Lg)) (A9 9 (A7 8) (A9 10 (A7 (x:Nat)) (fun _=>.any)))),Hp,[],[],none⟩) (fun x=>x≤8∧∀(j:Nat) (y:Str×UInt8),j<x→arityList[j]? = some y→(y.1==nm)=false) (fun x=>8-x) (0) (by simp) (Gk _) rfl (fun x hx=>?_)
 refine Z2 ?_;refine A2 [0,8,9,10,11] ?_
 refine Nc (fun ht11=>?_) (fun ht11=>?_)
 ·have hlt:x<arityList.length:=by rw [Wi];simp at ht11;omega
  have hal:=Wi
  have hget:((arityList.map Lg).map Ac)[x]? = some (Ac (Lg arityList[x])):=by rw [Mo];exact Ea hlt
  refine AEo ?_
  refine A3 (h:=B2 (x) (Ac (Lg arityList[x])) (fun _=>hget)) (hr:=?_)
  refine Z0 ?_;refine A2 [0,4,8,9,10] ?_;refine Z2 ?_;refine Ap Tryz.call118 ((AF1 (D4 hlt)) ▸ AQb (Lg arityList[x]) [58] (ABf (D4 hlt)) _) ?_;refine Z67 ?_;refine Z7 ?_;refine A2 [0,5,6,8,9,10] ?_;refine Z16 ?_;refine A2 [0,6,8,9,10,22] ?_
  refine A6 (fun ht22=>?_) (fun ht22=>?_)
  ·refine Z2 ?_
   refine A3 (h:=F8 0 arityList[x].2 (fun _=>rfl)) (hr:=?_)
   refine A3 (h:=N8) (hr:=?_)
   refine Z54 ?_;refine Z66 ?_;exact Ab (Ao Ag) ⟨by rw [Ce,AJ1 hlt ht22 hx.2];rfl,rfl⟩
  refine ui ?_;refine A2 [0,8,9,10] ?_;exact Be (x+1) ⟨by omega,Jx hlt hx.2 ht22⟩ (by omega) (Bp rfl)
 have hal:=Wi
 refine Z26 ?_;refine Z20 ?_;exact Ab (Ao Ag) ⟨by rw [Ce,ABe (o7 (by simp at ht11;omega) hx.2)],rfl⟩

def ux (s:Str):Int:=match Lib.parseIntB 64 s with|.ok v=>v|_=>Lib.intSat 64 s
def ej (s:Str):Bool:=match Lib.parseIntB 64 s with|.ok _=>false|_=>true
def ek (s:Str):AV:=bif ej s then Wh s else .v .nilIface
theorem uz (s:Str):(ek s).strip=ek s:=by unfold ek;cases ej s<;>rfl
attribute [go_sem] uz
theorem c213 (s:Str) (hs:s.length≤1048576) (h:AIz (Lib.parseIntB 64 s)=false) (Hp:List AObj):AFun Tryz.prog 213 [Ac s,A7 10,A7 64] Hp (.tup [A7 (ux s),ek s]):=by
 cases hp:Lib.parseIntB 64 s with
 | ok v =>
  have:=AJ0 s hs v hp Hp
  rwa [show v=ux s by unfold ux;rw [hp],show AV.v .nilIface=ek s by unfold ek ej;rw [hp];rfl] at this
 | range =>
  have:=uu s hs hp Hp
  rwa [show Lib.intSat 64 s=ux s by unfold ux;rw [hp],show Wh s=ek s by unfold ek ej;rw [hp];rfl] at this
 | _=>rw [hp] at h;cases h
theorem ARw (s:Str) (Hp:List AObj):AFun Tryz.prog 214 [ek s,.v (.iface 271 (.pointer (some ErrAt.b)))] Hp (Bz (ej s)):=by
 unfold ek
 cases ej s
 ·exact AF0 Hp
 exact uv s Hp
theorem AF3 (s t:Str):(Lib.trimPrefix s t).length≤s.length:=by
 unfold Lib.trimPrefix;split<;>simp
theorem ABg {d:Str} {b:Bool} (h:(((d==[]) || b)==false)=true):d≠[]:=by rintro rfl;simp at h
theorem Tw:∀c∈digs,c.toNat<128:=by decide
theorem av (s:Str):((((Lib.trimPrefix s [45]==[]) || (Lib.trimS (Lib.trimPrefix s [45]) digs != [])) || ((((Lib.trimPrefix s [45]).headD 0).toNat:Int)==48&&decide ((1:Int)<s.length))))=Gn s:=by
 unfold Gn Ng
 have e1:((((Lib.trimPrefix s [45]).headD 0).toNat:Int)==48)=((Lib.trimPrefix s [45]).headD 0==48):=by
  rw [Bool.eq_iff_iff]
  simp only [beq_iff_eq]
  constructor
  ·intro h
   exact UInt8.toNat_inj.1 (by have:(48:UInt8).toNat=48:=rfl;omega)
  intro h;rw [h];rfl
 have e2:decide ((1:Int)<s.length)=decide (1<s.length):=by rw [decide_eq_decide];omega
 rw [e1,e2]
 rfl
theorem ABh {s:Str} (hb:Gn s=false) (h:ej s=true):B6 s=(0,4):=by
 unfold B6
 rw [hb]
 have:=Ri hb
 unfold ej at h
 revert h this
 cases Lib.parseIntB 64 s with
 | ok v=>intro h;cases h
 | range=>intro _ _;rfl
 | _=>intro _ h;cases h
theorem AMv {s:Str} (hb:Gn s=false) (h:ej s=false):B6 s=(ux s,0):=by
 unfold B6 ux
 rw [hb]
 unfold ej at h
 revert h
 cases Lib.parseIntB 64 s with
 | ok v=>intro h;rfl
 | _=>intro h;cases h
theorem AF4 (s:Str):s.take (min s.length 200)=s.take 200:=by
 rcases Nat.le_total s.length 200 with h|h
 ·rw [Nat.min_eq_left h,List.take_of_length_le (Nat.le_refl _),List.take_of_length_le h]
 rw [Nat.min_eq_right h]
theorem ARx (s:Str) (hs:s.length≤1048576) (Hp:List AObj):AFun Tryz.prog 189 [Ac s] Hp (.tup [A7 (B6 s).1,A7 (B6 s).2]):=by
 refine ACall.body [.tmp 2,.tmp 3] [0] Tryz.func189 Tryz.ntmps189 (fun d=>?_)
 refine Z1 ?_;refine R.fin [0] ?_;refine Z2 ?_;refine R.call Tryz.call211 (ARv s [45] _) ?_;refine R.go ?_;refine R.fin [0,4] ?_;refine Z50 ?_;refine G.go ?_
 refine G.call Tryz.call212 (fun hB=>c212 (Lib.trimPrefix s [45]) digs (by have:=AF3 s [45];omega) (by decide) Tw _) ?_
 refine G.go ?_;refine Wg ?_
 refine G.go (h:=Q.sindex 0 ((Lib.trimPrefix s [45]).headD 0) (fun hB=>P4 (ABg hB))) (hr:=?_)
 refine l9 ?_;refine Z77 ?_;refine R.fin [0,25] ?_
 refine W.cond (fun ht25=>?_) (fun ht25=>?_)
 ·have hb:Gn s=true:=by rw [←av];exact ht25
  refine uf ?_;exact K.fin (V.two V.tmp V.tmp) ⟨by rw [B6,hb];rfl,rfl⟩
 have hb:Gn s=false:=by rw [←av];exact ht25
 refine ar ?_;refine R.call Tryz.call213 (c213 s hs (Ri hb) _) ?_;refine Z89 ?_;refine R.fin [5,6] ?_;refine Z35 ?_;refine R.loadGlob Tryz.isAgg77 (fun w hg=>Xm hg) ?_;refine R.call Tryz.call214 (ARw s _) ?_;refine R.fin [5,33] ?_
 refine W.cond (fun ht33=>?_) (fun ht33=>?_)
 ·refine uf ?_;exact K.fin (V.two V.tmp V.tmp) ⟨by rw [ABh hb ht33],rfl⟩
 refine Y9 ?_;refine Z14 ?_;exact K.fin (V.two V.tmp V.tmp) ⟨by rw [AMv hb ht33],rfl⟩

theorem ARy (n:Int) (h0 : -9223372036854775808≤n) (h1:n≤9223372036854775807) (Hp:List AObj):AFun Tryz.prog 200 [A7 n] Hp (Ac (Lib.itoa n)):=by
 refine ACall.body [.tmp 2] [0] Tryz.func200 Tryz.ntmps200 (fun d=>?_)
 refine Z59 ?_;refine Z2 ?_;refine R.call Tryz.call220 (ARu n h0 h1 _) ?_;refine R.go ?_;refine Z3 ?_;exact ul

theorem ARz (Hp:List AObj):AFun Tryz.prog 184 [] Hp (lh ⟨0,0,[]⟩):=by
 refine ACall.body [.cell 0 67] [] Tryz.func184 Tryz.ntmps184 (fun d=>?_)
 refine Z24 ?_;refine R.fin [0] ?_;refine Z40 ?_;refine Ho ?_;refine R.fin [0] ?_;refine AW.ret ?_;exact AMk

theorem AS0 (n:Int) (Hp:List AObj):AFun Tryz.prog 190 [A7 n] Hp (lh ⟨1,n,[]⟩):=by
 refine ACall.body [.cell 2 67] [0] Tryz.func190 Tryz.ntmps190 (fun d=>?_)
 refine Z43 ?_;refine Z82 ?_;exact AMb

theorem AS1 (b:Bool) (Hp:List AObj):AFun Tryz.prog 185 [Bz b] Hp (lh ⟨3,if b then 1 else 0,[]⟩):=by
 refine ACall.body [.cell 2 67] [0] Tryz.func185 Tryz.ntmps185 (fun d=>?_)
 refine Z43 ?_;refine Z40 ?_;refine Z92 ?_;refine Z35 ?_;refine R.fin [2,3,5] ?_
 refine W.cond (fun ht5=>?_) (fun ht5=>?_)
 ·refine Z32 ?_;refine Ho ?_;refine P3 ?_;refine K.thN ?_;exact AOs
 refine Z4 ?_;exact AOs

theorem c210 (s:Str) (Hp:List AObj):AFun Tryz.prog 210 [Ac s] Hp (lh ⟨2,0,s.take 200⟩):=by
 refine ACall.body [.cell 2 67] [0] Tryz.func210 Tryz.ntmps210 (fun d=>?_)
 refine Z43 ?_;refine Z16 ?_;refine R.minI ?_
 refine R.go (h:=Q.scutH (min s.length 200) (fun _=>Nat.zero_le _) (fun _=>Nat.min_le_left _ _) (hb:=fun _=>by split<;>omega)) (hr:=?_)
 refine ABa ?_;refine Z18 ?_;exact K.fin (V.one (V.cellN jA jS)) ⟨by rw [AF4],rfl⟩

theorem v6 {p s:Str} (h:p.isPrefixOf s=true):p.length≤s.length:=(List.isPrefixOf_iff_prefix.1 h).length_le
theorem v7 (s o:Str) (h:0≤Lib.index s o):(Lib.index s o).toNat+o.length≤s.length:=by
 induction s with
 | nil =>
  unfold Lib.index at h ⊢
  split at h
  ·rename_i he
   rw [if_pos he]
   cases o with
   | nil=>simp
   | cons a b=>simp at he
  omega
 | cons b l ih =>
  unfold Lib.index at h ⊢
  split at h
  ·rename_i hp
   rw [if_pos hp]
   have:=v6 hp
   simpa using this
  rename_i hp
  rw [if_neg hp]
  split at h
  ·omega
  rename_i hi
  rw [if_neg hi]
  have hg:=Lib.index_ge l o
  have hi':Lib.index l o ≠ -1:=by simpa using hi
  have:=ih (by omega)
  simp only [Aq]
  omega
def yg:Val:=⟨0,0,[]⟩
def oa (b:Bool):Val:=⟨3,if b then 1 else 0,[]⟩
def AJ2 (n:Int):Prop := -9223372036854775808≤n∧n≤9223372036854775807
def De (v:Val):Str:=
 if !Dr v then [] else if v.kind==1 then Lib.itoa v.n else if v.kind==2 then [39]++Lib.replaceAll v.s [39] [39,39]++[39]
 else if v.kind==0 then [110,117,108,108] else if v.n==1 then [116,114,117,101] else [102,97,108,115,101]
theorem ABi {v:Val} (h:Dr v=true) (h2:(v.kind==2)=true):v.s.length≤200:=by
 have e:v.kind=2:=by simpa using h2
 unfold Dr at h
 rw [e] at h
 simp at h
 omega
theorem ob (s o:Str) (ho:1≤o.length):Lib.countB ⟨s.toArray⟩ ⟨o.toArray⟩≤s.length:=Lib.countB_le ⟨o.toArray⟩ (by simpa [ByteArray.size] using ho) s.length ⟨s.toArray⟩ (by simp [ByteArray.size])
theorem Xn (o n:Str) (B:Nat) (hn:n.length≤B*o.length) (hB:1≤B):∀(k:Nat) (s:Str),(Lib.replaceK o n k s).length≤B*s.length
 | 0,s=>by rw [Lib.replaceK];exact Ui _ hB
 | k+1,s=>by
  rw [Lib.replaceK]
  split
  ·exact Ui _ hB
  rename_i h
  have ih:=Xn o n B hn hB k (s.drop ((Lib.index s o).toNat+o.length))
  have hx:(Lib.index s o).toNat+o.length≤s.length:=by
   have hg:=Lib.index_ge s o
   have hi:Lib.index s o ≠ -1:=by simpa using h
   exact v7 s o (by omega)
  simp only [Ai,Dh,J6] at ih ⊢
  have h1:min (Lib.index s o).toNat s.length≤B*(Lib.index s o).toNat:=Mq (Nat.min_le_left _ _) (Ui _ hB)
  have h2:B*s.length=B*(Lib.index s o).toNat+B*o.length+B*(s.length-((Lib.index s o).toNat+o.length)):=by
   rw [←Mr,←Mr];congr 1;omega
  omega
theorem el (s o n:Str) (B:Nat) (hn:n.length≤B*o.length) (hB:1≤B):(Lib.replaceAll s o n).length≤B*s.length:=by
 unfold Lib.replaceAll Lib.replace
 split
 ·exact Ui _ hB
 exact Xn o n B hn hB _ s
theorem AQf (v:Val) (hn:AJ2 v.n) (Hp:List AObj):AFun Tryz.prog 170 [lh v] Hp (Ac (De v)):=by
 refine B0 [.tmp 2] [0] Tryz.func170 Tryz.ntmps170 (fun d=>?_)
 refine Z90 ?_;refine Z22 ?_;refine Z2 ?_;refine Ap Tryz.call143 (c143 v _) ?_;refine Z0 ?_;refine A2 [1,3] ?_
 refine A6 (fun ht3=>?_) (fun ht3=>?_)
 ·refine Z20 ?_;refine Z8 ?_;exact Ab (Ao Ag) ⟨by simp only [De,ht3,if_true],rfl⟩
 have hp:Dr v=true:=by simpa using ht3
 refine Z33 ?_;refine A2 [1,7] ?_
 refine A6 (fun ht7=>?_) (fun ht7=>?_)
 ·refine Z1 ?_;refine Ap Tryz.call200 (ARy v.n hn.1 hn.2 _) ?_;refine A3 ?_;refine Z3 ?_;refine Z8 ?_;exact Ab (Ao Ag) ⟨by simp only [De,hp,ht7,Hu,B1,if_false,if_true];try rfl,rfl⟩
 refine Z33 ?_;refine A2 [1,14] ?_
 refine A6 (fun ht14=>?_) (fun ht14=>?_)
 ·refine Z1 ?_
  have hl:=ABi hp ht14
  have hrl:=el v.s [39] [39,39] 2 (by decide) (by decide)
  refine Ap Tryz.call201 (AQc v.s [39] [39,39] (by omega) (by decide) (by have:=ob v.s [39] (by decide);simp;omega) _) ?_
  refine Z7 ?_;refine Z3 ?_;refine Z8 ?_;exact Ab (Ao Ag) ⟨by simp only [De,hp,ht7,ht14,Hu,B1,if_false,if_true];try rfl,rfl⟩
 refine Z33 ?_;refine A2 [1,23] ?_
 refine A6 (fun ht23=>?_) (fun ht23=>?_)
 ·refine Z20 ?_;refine Z8 ?_;exact Ab (Ao Ag) ⟨by simp only [De,hp,ht7,ht14,ht23,Hu,B1,if_false,if_true];try rfl,rfl⟩
 refine Z33 ?_;refine A2 [27] ?_
 refine A6 (fun ht27=>?_) (fun ht27=>?_)
 ·refine Z20 ?_;refine Z8 ?_;exact APi
 refine uh ?_;exact APi

def Wj (s:Str):Str:=Lib.replaceAll ((s.take (s.length-1)).drop 1) [39,39] [39]
def Rj (s:Str):Val:=⟨2,0,(Wj s).take 200⟩
def aw (s:Str):Val×Int:=if !(De (Rj s)==s) then (yg,7) else (Rj s,0)
theorem AS2 (s:Str) (h2:2≤s.length) (hs:s.length≤1048576) (Hp:List AObj):AFun Tryz.prog 188 [Ac s] Hp (.tup [lh (aw s).1,A7 (aw s).2]):=by
 refine B0 [.cell 2 67,.tmp 3] [0] Tryz.func188 Tryz.ntmps188 (fun d=>?_)
 refine Z24 ?_;refine A3 ?_;refine A2 [0,2] ?_;refine Z33 ?_
 refine A3 (h:=Q.scutLH 1 (s.length-1) (fun _=>show 1≤s.length-1 by omega) (fun _=>show s.length-1≤s.length by omega)) (hr:=?_)
 refine Ap Tryz.call201 (AQc ((s.take (s.length-1)).drop 1) [39,39] [39] (by simp;omega) (by decide) (by have:=ob ((s.take (s.length-1)).drop 1) [39,39] (by decide);simp at this ⊢;omega) _) ?_
 refine A3 ?_;refine A2 [0,2,4] ?_;refine Z2 ?_;refine Ap Tryz.call210 (c210 (Wj s) _) ?_;refine Z11 ?_;refine A2 [0,2,5] ?_;refine Z35 ?_
 refine Ap Tryz.call170 (AQf (Rj s) ⟨by show (-9223372036854775808:Int)≤0;decide,by show (0:Int)≤9223372036854775807;decide⟩ _) ?_
 refine Z0 ?_;refine A2 [2,5,17] ?_
 refine A6 (fun ht17=>?_) (fun ht17=>?_)
 ·refine Z40 ?_;refine AO7 ?_;refine Z60 ?_;exact APj
 refine ar ?_;refine AB9 ?_;exact APj

def Kq (s:Str):Bool:=(decide ((1:Int)<s.length)&&Lib.hasPrefix s [39])&&Lib.hasSuffix s [39]
def Dy (s:Str):Val×Int:=
 if s==[110,117,108,108] then (yg,0) else if (s==[116,114,117,101]) || (s==[102,97,108,115,101]) then (oa (s==[116,114,117,101]),0)
 else if Kq s then aw s else if (B6 s).2==0 then (⟨1,(B6 s).1,[]⟩,0) else if (B6 s).2==4 then (yg,4) else (yg,7)
theorem AF5 {s:Str} (h:Kq s=true):2≤s.length:=by
 unfold Kq at h
 simp only [Ah,decide_eq_true_eq] at h
 omega
theorem AMw (s:Str) (hs:s.length≤1048576) (Hp:List AObj):AFun Tryz.prog 157 [Ac s] Hp (.tup [lh (Dy s).1,A7 (Dy s).2]):=by
 refine B0 [.cell 2 67,.tmp 3] [0] Tryz.func157 Tryz.ntmps157 (fun d=>?_)
 refine Z24 ?_;refine A3 ?_;refine A2 [0,2] ?_;refine Z22 ?_;refine Z16 ?_;refine A2 [0,2,6] ?_
 refine A6 (fun ht6=>?_) (fun ht6=>?_)
 ·refine Ei ?_;refine Ap Tryz.call184 (ARz _) ?_;refine AB9 ?_;refine Z8 ?_;exact Ab (Es (B5 jA jS) Ag) ⟨by simp only [Dy,ht6,if_true,if_false,B1];try rfl,rfl⟩
 refine ee ?_;refine Z0 ?_;refine A2 [0,2,10] ?_
 refine A6 (fun ht10=>?_) (fun ht10=>?_)
 ·refine Z1 ?_;refine Ap Tryz.call185 (AS1 (s==[116,114,117,101]) _) ?_;refine AB9 ?_;refine Z8 ?_;exact Ab (Es (B5 jA jS) Ag) ⟨by simp only [Dy,ht6,ht10,if_true,if_false,B1];try rfl,rfl⟩
 refine Z33 ?_;refine Bk ?_;refine D9 Tryz.call186 (fun hB=>ARq s [39] _) ?_;refine Wg ?_;refine D9 Tryz.call187 (fun hB=>ARr s [39] (by omega) _) ?_;refine Z0 ?_;refine A2 [0,2,20] ?_
 refine A6 (fun ht20=>?_) (fun ht20=>?_)
 ·have hq:Kq s=true:=ht20
  refine Z2 ?_;refine Ap Tryz.call188 (AS2 s (AF5 hq) hs _) ?_;refine Z0 ?_;refine AB9 ?_;refine Z8 ?_;exact Ab (Es (B5 jA jS) Ag) ⟨by simp only [Dy,ht6,ht10,hq,if_true,if_false,B1];try rfl,rfl⟩
 have hq:Kq s=false:=ht20
 refine Z25 ?_;refine Z2 ?_;refine Ap Tryz.call189 (ARx s hs _) ?_;refine Z89 ?_;refine A2 [2,4,5] ?_;refine Z35 ?_;refine A2 [2,4,5,41] ?_;refine Z84 ?_;refine A2 [2,4,5,41,42] ?_
 refine A6 (fun ht42=>?_) (fun ht42=>?_)
 ·refine Z2 ?_;refine Ap Tryz.call190 (AS0 (B6 s).1 _) ?_;refine AB9 ?_;refine Z8 ?_;exact Ab (Es (B5 jA jS) Ag) ⟨by simp only [Dy,ht6,ht10,hq,ht42,if_true,if_false,B1];try rfl,rfl⟩
 refine Z1 ?_;refine A2 [2,5,46] ?_
 refine A6 (fun ht46=>?_) (fun ht46=>?_)
 ·refine Z40 ?_;refine Z45 ?_;refine A3 ?_;refine Z14 ?_;refine Z8 ?_;exact Ab (Es (B5 jA jS) Ag) ⟨by simp only [Dy,ht6,ht10,hq,ht42,ht46,if_true,if_false,B1];rw [show (B6 s).2=4 by simpa using ht46];rfl,rfl⟩
 refine Z25 ?_;refine Z40 ?_;refine AB9 ?_;exact Ab (Es (B5 jA jS) Ag) ⟨by simp only [Dy,ht6,ht10,hq,ht42,ht46,if_true,if_false,B1];try rfl,rfl⟩

def blanks:Str:=[32,9,10]
/-- What stands behind blanks and notes. -/
def Cx:Str→Bool→Str
 | [],_=>[]
 | c::r,false=>if blanks.contains c then Cx r false else if c==35 then Cx r true else c::r
 | c::r,true=>if c==10 then Cx r false else Cx r true
def runN (s of:Str):Nat:=s.length-(Lib.trimLeftS s of).length
theorem Ur (s of:Str):Lq s of=(runN s of:Int):=by
 have:=Yx s of
 unfold Lq runN
 omega
theorem li (s of:Str):runN s of≤s.length:=Yq _ _
theorem AF6 (s of:Str):s.drop (runN s of)=Lib.trimLeftS s of:=by
 unfold runN Lib.trimLeftS
 have h:∀l:Str,l.drop (l.length-(l.dropWhile (of.contains ·)).length)=l.dropWhile (of.contains ·):=by
  intro l
  have e:=kb (p:=(of.contains ·)) (l:=l)
  have hl:l.length-(l.dropWhile (of.contains ·)).length=(l.takeWhile (of.contains ·)).length:=by
   have:=congrArg List.length e
   simp only [Ai] at this
   omega
  rw [hl]
  conv=>lhs;rw [←e]
  rw [List.drop_left']
  rw [e]
 exact h s
theorem oc (s of:Str):s.take (runN s of)=s.takeWhile (of.contains ·):=by
 have e:=kb (p:=(of.contains ·)) (l:=s)
 have hl:runN s of=(s.takeWhile (of.contains ·)).length:=by
  unfold runN Lib.trimLeftS
  have:=congrArg List.length e
  simp only [Ai] at this
  omega
 rw [hl]
 conv=>lhs;rw [←e]
 rw [List.take_left']
 rw [e]
theorem Wk:∀s:Str,Cx (Lib.trimLeftS s blanks) false=Cx s false
 | []=>rfl
 | c::r=>by
  unfold Lib.trimLeftS
  rw [Tm]
  by_cases h:blanks.contains c=true
  ·rw [if_pos h,Cx,if_pos h]
   exact Wk r
  rw [if_neg h]
theorem fx (of:Str):∀(s:Str) (c:UInt8) (t:Str),Lib.trimLeftS s of=c::t→of.contains c=false
 | [],c,t,h=>by cases h
 | b::r,c,t,h=>by
  unfold Lib.trimLeftS at h
  rw [Tm] at h
  split at h
  ·exact fx of r c t h
  rename_i hb
  injection h with h1 h2
  subst h1
  simpa using hb
def Lh:Str→Str
 | []=>[]
 | c::r=>if c==10 then r else Lh r
theorem AMx (s:Str):(Lib.cut s [10]).2.1=Lh s:=by
 unfold Lib.cut
 induction s with
 | nil=>rfl
 | cons c r ih =>
  have hg:=Lib.index_ge r [10]
  rw [Lh]
  unfold Lib.index
  by_cases hc:c=10
  ·subst hc
   simp [List.isPrefixOf]
  have h1:([10]:Str).isPrefixOf (c::r)=false:=by simp [List.isPrefixOf,Ne.symm hc]
  have h2:(c==10)=false:=by simpa using hc
  rw [h1,h2]
  simp only [B1,if_false]
  by_cases hi:Lib.index r [10] = -1
  ·rw [hi] at ih ⊢
   simpa using ih
  have h3:(Lib.index r [10] == -1)=false:=by simpa using hi
  rw [h3]
  simp only [B1,if_false]
  rw [if_pos (by omega)] at ih ⊢
  have e:(Lib.index r [10]+1).toNat=(Lib.index r [10]).toNat+1:=by omega
  rw [e]
  rw [←ih]
  show (c::r).drop _=_
  rw [show (Lib.index r [10]).toNat+1+([10]:Str).length=((Lib.index r [10]).toNat+([10]:Str).length)+1 by omega,Ok]
theorem g7:∀t:Str,Cx t true=Cx (Lh t) false
 | []=>rfl
 | c::r=>by
  rw [Cx,Lh]
  split
  ·rfl
  exact g7 r
theorem ax:∀t:Str,(Lh t).length≤t.length
 | []=>Ae _
 | c::r=>by
  rw [Lh]
  split
  ·simp
  have:=ax r;simp only [Aq];omega
theorem O9:∀(s:Str) (b:Bool),(Cx s b).length≤s.length
 | [],b=>by simp [Cx]
 | c::r,false=>by
  rw [Cx]
  split
  ·have:=O9 r false;simp only [Aq];omega
  split
  ·have:=O9 r true;simp only [Aq];omega
  exact Ae _
 | c::r,true=>by
  rw [Cx]
  split
  ·have:=O9 r false;simp only [Aq];omega
  have:=O9 r true;simp only [Aq];omega
def gapM (s:Str):Nat:=s.length-(Cx s false).length
theorem ABj {d:Str} (h:((d==[])==false)=true):d≠[]:=by rintro rfl;simp at h
theorem lj:∀c∈blanks,c.toNat<128:=by decide
/-- The gap is at its end. -/
theorem AJ3 {x s:Str} (hx:Cx x false=Cx s false) (h:((Lib.trimLeftS x blanks==[]) || ((((Lib.trimLeftS x blanks).headD 0).toNat:Int) != 35))=true):Cx s false=Lib.trimLeftS x blanks:=by
 rw [←hx,←Wk]
 cases ht:Lib.trimLeftS x blanks with
 | nil=>rfl
 | cons c t =>
  rw [ht] at h
  have hb:=fx blanks x c t ht
  have hc:(c==35)=false:=by
   simp at h
   rw [beq_eq_false_iff_ne]
   rintro rfl
   exact h rfl
  rw [Cx,hb,hc]
  rfl
theorem AMy {x s:Str} (hx:Cx x false=Cx s false) (h:((Lib.trimLeftS x blanks==[]) || ((((Lib.trimLeftS x blanks).headD 0).toNat:Int) != 35))=false):
  Cx (Lib.cut (Lib.trimLeftS x blanks) [10]).2.1 false=Cx s false∧(Lib.cut (Lib.trimLeftS x blanks) [10]).2.1.length<x.length:=by
 have hl:=Yx x blanks
 rw [AMx,←hx,←Wk x]
 cases ht:Lib.trimLeftS x blanks with
 | nil=>rw [ht] at h;simp at h
 | cons c t =>
  rw [ht] at h hl
  have hc:c=35:=by
   simp at h
   exact F5.1 (by have:(35:UInt8).toNat=35:=rfl;omega)
  subst hc
  have ha:=ax t
  refine ⟨?_,?_⟩
  ·rw [Lh,Cx]
   have e1:blanks.contains 35=false:=by decide
   rw [e1]
   exact (g7 t).symm
  rw [Lh]
  simp only [Aq] at hl
  show (Lh t).length<_
  omega
theorem c88 (s:Str) (hs:s.length≤1048576) (Hp:List AObj):AFun Tryz.prog 88 [Ac s] Hp (A7 (gapM s)):=by
 refine B0 [.tmp 2] [0] Tryz.func88 Tryz.ntmps88 (fun d=>?_)
 refine Z59 ?_;refine Z1 ?_;refine Qm ?_
 refine Bo (α:=Str) (fun x=>⟨27,A9 0 (Ac s) (A9 3 (Ac x) (fun _=>.any)),Hp,[],[],none⟩) (fun x=>Cx x false=Cx s false∧x.length≤s.length) (fun x=>x.length) (s) (by simp) (Gk _) rfl (fun x hx=>?_)
 refine Ic ?_;refine Ei ?_
 have hx2:=hx.2
 have htl:=Yx x blanks
 refine Z0 ?_;refine Ap Tryz.call104 (ut x blanks (by omega) (by decide) lj _) ?_
 refine A3 (h:=Q.scutL (runN x blanks) (fun _=>li _ _) (fun _=>Ae _) (ha:=fun _=>Ur x blanks)) (hr:=?_)
 rw [AF6]
 refine A3 ?_;refine Qm ?_;refine Z50 ?_;refine Bk ?_
 refine Bk (h:=F8 0 ((Lib.trimLeftS x blanks).headD 0) (fun hB=>P4 (ABj hB))) (hr:=?_)
 refine Z55 ?_;refine A2 [0,3,15] ?_
 refine A6 (fun ht15=>?_) (fun ht15=>?_)
 ·have he:=AJ3 hx.1 ht15
  refine Z33 ?_;refine Z54 ?_;refine Dd ?_;refine AB6 ?_;exact Ab (Ao Ag) ⟨by rw [show ((s.length:Int)-(Lib.trimLeftS x blanks).length)=(gapM s:Int) by unfold gapM;rw [he];omega],rfl⟩
 have he:=AMy hx.1 ht15
 refine Z4 ?_;refine Z32 ?_;refine Ap Tryz.call118 (AQb (Lib.trimLeftS x blanks) [10] (by omega) _) ?_;refine Z89 ?_;refine Qm ?_;refine Hh ?_;exact Be _ ⟨he.1,by omega⟩ he.2 (Bp rfl)

def Cp (s of:Str):Str:=s.take (runN s of)
theorem Kz (s of:Str):(Cp s of).length≤s.length:=by unfold Cp;simp;omega
def Nh (s:Str):Int×Str×Int×Int:=
 if Dk (Cp s tails) then (2,Cp s tails,(Cp s tails).length,0) else if !Ej (Cp s tails) then (0,[],0,3) else (1,Cp s tails,(Cp s tails).length,0)
abbrev AF7 (r:Int×Str×Int×Int):AV:=.tup [A7 r.1,Ac r.2.1,A7 r.2.2.1,A7 r.2.2.2]
theorem od:∀c∈tails,c.toNat<128:=by decide
theorem en:∀c∈letters,c.toNat<128:=by decide
theorem AS3 (s:Str) (hs:s.length≤1048576) (Hp:List AObj):AFun Tryz.prog 119 [Ac s] Hp (AF7 (Nh s)):=by
 refine B0 [.tmp 2,.tmp 3,.tmp 4,.tmp 5] [0] Tryz.func119 Tryz.ntmps119 (fun d=>?_)
 refine AEm ?_;refine Z1 ?_;refine Ap Tryz.call104 (ut s tails hs (by decide) od _) ?_
 refine A3 (h:=Ol (runN s tails) (fun _=>Al _) (fun _=>li _ _) (hb:=fun _=>Ur s tails)) (hr:=?_)
 refine A3 ?_;refine A2 [6] ?_;refine Z22 ?_;refine Z2 ?_
 refine Ap Tryz.call105 (AQd (Cp s tails) (by have:=Kz s tails;omega) _) ?_
 refine A3 ?_;refine A2 [6,11] ?_
 refine A6 (fun ht11=>?_) (fun ht11=>?_)
 ·refine Ei ?_
  have hwl:=Kz s tails
  refine Z67 ?_;refine Z7 ?_;refine Z52 ?_;refine Z8 ?_;exact Ab (Na Ag Ag Ag Ag) ⟨by simp only [Nh,ht11,if_true,if_false,B1];try rfl,rfl⟩
 refine Z2 ?_
 refine Ap Tryz.call67 (c67 (Cp s tails) (by have:=Kz s tails;omega) _) ?_
 refine Z0 ?_;refine A2 [6,17] ?_
 refine A6 (fun ht17=>?_) (fun ht17=>?_)
 ·refine Z33 ?_;refine Z52 ?_;refine Z8 ?_;exact APk
 refine Z25 ?_;refine Ei ?_
 have hwl:=Kz s tails
 refine Z67 ?_;refine Z7 ?_;refine Z52 ?_;exact APk

def Py (s:Str):Int×Str×Int×Int:=(3,Cp s digs,(Cp s digs).length,(Dy (Cp s digs)).2)
theorem AS4 (s:Str) (hs:s.length≤1048576) (Hp:List AObj):AFun Tryz.prog 120 [Ac s] Hp (AF7 (Py s)):=by
 refine B0 [.tmp 2,.tmp 3,.tmp 4,.tmp 5] [0] Tryz.func120 Tryz.ntmps120 (fun d=>?_)
 refine AEm ?_;refine Z1 ?_;refine Ap Tryz.call104 (ut s digs hs (by decide) Tw _) ?_
 refine A3 (h:=Ol (runN s digs) (fun _=>Al _) (fun _=>li _ _) (hb:=fun _=>Ur s digs)) (hr:=?_)
 refine A3 ?_;refine A2 [6] ?_;refine Z2 ?_
 refine Ap Tryz.call157 (AMw (Cp s digs) (by have:=Kz s digs;omega) _) ?_
 refine Z7 ?_;refine Z11 ?_;refine A3 ?_;refine A2 [6,8] ?_;refine Z33 ?_;refine Z67 ?_;refine Z52 ?_;exact Ab (Na Ag Ag Ag Ag) ⟨rfl,rfl⟩

/-- Behind a mark: how many bytes up to the one that AM0, it too. -/
def D5:Str→Option Nat
 | []=>none
 | [c]=>if c==39 then some 1 else none
 | c::d::t=>if c==39 then (if d==39 then (D5 t).map (·+2) else some 1) else (D5 (d::t)).map (·+1)
theorem Lr {c:UInt8} (h:¬(c==39)=true) (r:Str):D5 (c::r)=(D5 r).map (·+1):=by
 cases r with
 | nil=>simp [D5,h]
 | cons d t=>rw [D5,if_neg h]
theorem Tx (r:Str):D5 (39::r)=match r with
   | []=>some 1
   | d::t=>if d==39 then (D5 t).map (·+2) else some 1:=by
 cases r with
 | nil=>rfl
 | cons d t=>rw [D5];simp
def Jb (s:Str):Int×Str×Int×Int:=
 match D5 (s.drop 1) with
 | none=>(0,[],0,7)
 | some n=>if (Dy (s.take (n+1))).2 != 0 then (0,[],0,3) else (4,(Dy (s.take (n+1))).1.s,((n+1:Nat):Int),0)
theorem ay:∀l:Str,Lib.indexByte l 39 = -1→D5 l=none
 | [],_=>by rw [D5]
 | c::r,h=>by
  rw [Lib.indexByte] at h
  split at h
  ·omega
  rename_i hc
  rw [Lr hc]
  split at h
  ·rename_i hi
   rw [ay r (by simpa using hi)]
   rfl
  have:=Lib.indexByte_ge r 39;omega
theorem oe:∀(l:Str) (k:Nat),Lib.indexByte l 39=(k:Int)→k<l.length∧D5 l=(D5 (l.drop k)).map (·+k)∧l[k]? = some 39
 | [],k,h=>by rw [Lib.indexByte] at h;omega
 | c::r,k,h=>by
  rw [Lib.indexByte] at h
  split at h
  ·rename_i hc
   have:k=0:=by omega
   subst this
   refine ⟨by simp,?_,by simpa using hc⟩
   rw [Pf]
   cases D5 (c::r)<;>simp
  rename_i hc
  split at h
  ·omega
  have hg:=Lib.indexByte_ge r 39
  rename_i hi
  have hi':Lib.indexByte r 39 ≠ -1:=by simpa using hi
  obtain ⟨m,rfl⟩:∃m,k=m+1:=⟨k-1,by omega⟩
  obtain ⟨h1,h2,h3⟩:=oe r m (by omega)
  refine ⟨by simpa using h1,?_,by simpa using h3⟩
  rw [Lr hc,Ok,h2]
  cases D5 (r.drop m)<;>simp [Is]
theorem Pz {s:Str} {n:Nat} {c:UInt8} (h:s[n]? = some c):s.drop n=c::s.drop (n+1):=by
 obtain ⟨hlt,he⟩:=Aa.1 h
 rw [W5 hlt,he]
theorem Gw {s:Str} {n:Nat} (h:n<s.length):s[n]? = some (s.getD n 0):=by
 rw [F7,Ak h];rfl
theorem AF8 {s:Str} {x k:Nat} (h:(decide (((x:Int)+((k:Int)+1))<s.length)==true)=true):x+(k+1)<s.length:=by
 have:=of_decide_eq_true (by simpa using h:decide (((x:Int)+((k:Int)+1))<s.length)=true)
 omega
/-- What a round of the search for the mark that AM0 comes to. -/
theorem v8 {s:Str} {x k:Nat} (h1:1≤x) (hx:D5 (s.drop 1)=(D5 (s.drop x)).map (·+(x-1))) (hk:Lib.indexByte (s.drop x) 39=(k:Int)):
  x+(k+1)≤s.length ∧
   ((decide (((x:Int)+((k:Int)+1))<s.length)&&(((s.getD (x+(k+1)) 0).toNat:Int)==39))=true→x+(k+1)+1≤s.length∧D5 (s.drop 1)=(D5 (s.drop (x+(k+1)+1))).map (·+(x+(k+1)+1-1))) ∧
   ((decide (((x:Int)+((k:Int)+1))<s.length)&&(((s.getD (x+(k+1)) 0).toNat:Int)==39))=false→D5 (s.drop 1)=some (x+k)):=by
 obtain ⟨g1,g2,g3⟩:=oe _ k hk
 rw [Dh] at g1
 rw [Gg] at g3
 have e0:(s.drop x).drop k=39::s.drop (x+(k+1)):=by rw [Qt,Pz g3,Is]
 rw [e0] at g2
 refine ⟨by omega,fun h=>?_,fun h=>?_⟩
 ·simp only [Ah,decide_eq_true_eq,beq_iff_eq] at h
  have hlt:x+(k+1)<s.length:=by omega
  have hc:s.getD (x+(k+1)) 0=39:=F5.1 (by have:(39:UInt8).toNat=39:=rfl;omega)
  have hd:=Pz (Gw hlt)
  rw [hc] at hd
  refine ⟨by omega,?_⟩
  rw [hx,g2,hd,Tx]
  simp only [beq_self_eq_true,if_true]
  cases D5 (s.drop (x+(k+1)+1)) with
  | none=>rfl
  | some m=>simp;omega
 rw [hx,g2,Tx]
 cases hd:s.drop (x+(k+1)) with
 | nil=>simp;omega
 | cons d t =>
  have hlt:x+(k+1)<s.length:=by
   have:=congrArg List.length hd
   simp at this;omega
  have hg:=Pz (Gw hlt)
  rw [hd] at hg
  injection hg with hg1 hg2
  have hne:(d==39)=false:=by
   rw [hg1,beq_eq_false_iff_ne]
   intro e
   rw [e] at h
   simp at h
   omega
  simp [hne];omega
theorem AS5 (s:Str) (h0:1≤s.length) (hs:s.length≤1048576) (Hp:List AObj):AFun Tryz.prog 121 [Ac s] Hp (AF7 (Jb s)):=by
 refine B0 [.tmp 2,.tmp 3,.tmp 4,.tmp 5] [0] Tryz.func121 Tryz.ntmps121 (fun d=>?_)
 refine AEm ?_;refine Z2 ?_;refine A2 [0,6] ?_
 refine Bo (α:=Nat) (fun x=>⟨44,A9 0 (Ac s) (A9 6 (A7 (x:Nat)) (fun _=>.any)),Hp,[],[],none⟩) (fun x=>1≤x∧x≤s.length∧D5 (s.drop 1)=(D5 (s.drop x)).map (·+(x-1))) (fun x=>s.length-x) (1) ⟨Ae _,h0,by cases D5 (s.drop 1)<;>rfl⟩ (Gk _) rfl (fun x hx=>?_)
 refine Z84 ?_
 refine A3 (h:=Q.scutL x (fun _=>hx.2.1) (fun _=>Ae _)) (hr:=?_)
 refine Ap Tryz.call158 (ARs (s.drop x) 39 _) ?_;refine A3 ?_;refine A2 [0,6,7] ?_;refine Z9 ?_;refine A2 [0,6,7,15] ?_
 refine A6 (fun ht15=>?_) (fun ht15=>?_)
 ·have hk:Lib.indexByte (s.drop x) 39 = -1:=by have:=Lib.indexByte_ge (s.drop x) 39;simp at ht15;omega
  have hcq:D5 (s.drop 1)=none:=by rw [hx.2.2,ay _ hk];rfl
  refine Z33 ?_;refine Z52 ?_;refine Dd ?_;refine AB6 ?_;exact Ab (Na Ag Ag Ag Ag) ⟨by simp only [Jb,hcq],rfl⟩
 obtain ⟨k0,hk⟩:=Int.eq_ofNat_of_zero_le (show 0≤Lib.indexByte (s.drop x) 39 by simp at ht15;omega)
 rw [hk]
 refine Y8 ?_
 have hst:=v8 hx.1 hx.2.2 hk
 refine Z89 ?_;refine A2 [0,6] ?_;refine Tt ?_;refine Z6 ?_
 refine Bk (h:=F8 (x+(k0+1)) (s.getD (x+(k0+1)) 0) (fun hB=>Gw (AF8 hB))) (hr:=?_)
 refine Z55 ?_;refine A2 [0,6,29] ?_
 refine A6 (fun ht29=>?_) (fun ht29=>?_)
 ·have hon:=hst.2.1 ht29
  refine Z16 ?_;refine A2 [0,6] ?_;refine Z23 ?_;refine K.blE ?_;exact Be ((x+(k0+1))+1) ⟨by omega,hon.1,hon.2⟩ (by omega) (Bp rfl)
 have hcq:=hst.2.2 ht29
 refine nw ?_
 refine A3 (h:=Ol (x+(k0+1)) (fun _=>Al _) (fun _=>hst.1)) (hr:=?_)
 refine Ap Tryz.call157 (AMw (s.take (x+(k0+1))) (by simp;omega) _) ?_
 refine Z7 ?_;refine Z11 ?_;refine A3 ?_;refine A2 [6,8,9] ?_;refine Z9 ?_;refine A2 [6,8,40] ?_
 refine A6 (fun ht40=>?_) (fun ht40=>?_)
 ·refine Z33 ?_;refine Z52 ?_;refine Dd ?_;refine AB6 ?_;exact Ab (Na Ag Ag Ag Ag) ⟨by simp only [Jb,hcq,show x+k0+1=x+(k0+1) by omega];rw [if_pos ht40],rfl⟩
 refine Z4 ?_;refine Gb [0,1,0,0,11,31,63] 5 Af (by kernel_rfl) ?_;refine aq ?_;refine Er ?_;refine Z0 ?_;refine Z52 ?_;refine AB6 ?_;exact Ab (Na Ag Ag Ag Ag) ⟨by simp only [Jb,hcq,show x+k0+1=x+(k0+1) by omega];rw [if_neg (by rw [ht40];simp)];rfl,rfl⟩

def Sq:Str:=[60,61,32,62,61,32,33,61]
def singles:Str:=[40,41,44,59,61,60,62,43,45,42,47,37,38,58]
def Ni (s:Str):Int×Str×Int×Int:=
 if (decide ((1:Int)<s.length)&&Lib.contains Sq (s.take 2))&&(((s.getD 1 0).toNat:Int)==61) then (5,s.take 2,2,0)
 else if Lib.contains singles (s.take 1) then (5,s.take 1,1,0) else (0,[],0,7)
theorem ABk {s:Str} {b c:Bool} (h:(((decide ((1:Int)<s.length)&&b)&&c)==true)=true):1<s.length:=by
 revert h
 cases hd:decide ((1:Int)<s.length) with
 | true=>intro _;have:=of_decide_eq_true hd;omega
 | false=>intro h;simp at h
theorem az {s:Str} {b:Bool} (h:((decide ((1:Int)<s.length)&&b)==true)=true):1<s.length:=ABk (c:=true) (by rw [jt];exact h)
theorem vd {s:Str} (h:(decide ((1:Int)<s.length)==true)=true):2≤s.length:=az (b:=true) (by rw [jt];exact h)
theorem AS6 (s:Str) (h0:1≤s.length) (Hp:List AObj):AFun Tryz.prog 122 [Ac s] Hp (AF7 (Ni s)):=by
 refine B0 [.tmp 2,.tmp 3,.tmp 4,.tmp 5] [0] Tryz.func122 Tryz.ntmps122 (fun d=>?_)
 refine AEm ?_;refine Z42 ?_;refine Bk ?_
 refine Bk (h:=Ol 2 (fun _=>Al _) (fun hB=>vd hB)) (hr:=?_)
 refine D9 Tryz.call140 (fun hB=>ABc Sq (s.take 2) (by decide) _) ?_;refine Wg ?_
 refine Bk (h:=F8 1 (s.getD 1 0) (fun hB=>Gw (az hB))) (hr:=?_)
 refine Z55 ?_;refine A2 [0,18] ?_
 refine A6 (fun ht18=>?_) (fun ht18=>?_)
 ·have h2:2≤s.length:=by revert ht18;cases hd:decide ((1:Int)<s.length) with
   | true=>intro _;have:=of_decide_eq_true hd;omega
   | false=>intro h;simp at h
  refine Gb [0,1,0,7,15,31] 3 Af (by kernel_rfl) ?_;refine Am ?_
  refine Am (h:=Ol 2 (fun _=>Al _) (fun _=>h2)) (hr:=?_)
  refine Z65 ?_;refine Z7 ?_;refine Z52 ?_;refine Dd ?_;exact Ab (Na Ag Ag Ag Ag) ⟨by simp only [Ni,ht18,if_true,if_false,B1];try rfl,rfl⟩
 refine Z4 ?_;refine Z35 ?_
 refine A3 (h:=Ol 1 (fun _=>Al _) (fun _=>h0)) (hr:=?_)
 refine Ap Tryz.call140 (ABc singles (s.take 1) (by decide) _) ?_;refine A2 [0,23] ?_
 refine A6 (fun ht23=>?_) (fun ht23=>?_)
 ·refine Gb [0,1,0,7,15,31] 3 Af (by kernel_rfl) ?_;refine Am ?_
  refine Am (h:=Ol 1 (fun _=>Al _) (fun _=>h0)) (hr:=?_)
  refine Z65 ?_;refine Z7 ?_;refine Z52 ?_;refine Dd ?_;exact APl
 refine Z4 ?_;refine Z33 ?_;refine Z52 ?_;exact APl

def Bi (s:Str):Int×Str×Int×Int:=
 if decide (0<Lq (s.take 1) letters) then Nh s else if decide (0<Lq (s.take 1) digs) then Py s else if ((s.getD 0 0).toNat:Int)==39 then Jb s else Ni s
theorem c89 (s:Str) (h0:1≤s.length) (hs:s.length≤1048576) (Hp:List AObj):AFun Tryz.prog 89 [Ac s] Hp (AF7 (Bi s)):=by
 refine B0 [.tmp 2,.tmp 3,.tmp 4,.tmp 5] [0] Tryz.func89 Tryz.ntmps89 (fun d=>?_)
 refine AEm ?_;refine Z22 ?_;refine Z2 ?_
 refine A3 (h:=Ol 1 (fun _=>Al _) (fun _=>h0)) (hr:=?_)
 refine Ap Tryz.call104 (ut (s.take 1) letters (by simp;omega) (by decide) en _) ?_
 refine Z0 ?_;refine A2 [0,6] ?_
 refine A6 (fun ht6=>?_) (fun ht6=>?_)
 ·refine Z2 ?_;refine Ap Tryz.call119 (AS3 s hs _) ?_;refine Z67 ?_;refine Z67 ?_;refine Z52 ?_;refine Z8 ?_;exact Ab (Na Ag Ag Ag Ag) ⟨by simp only [Bi,ht6,if_true,if_false,B1],rfl⟩
 refine Z2 ?_
 refine A3 (h:=Ol 1 (fun _=>Al _) (fun _=>h0)) (hr:=?_)
 refine Ap Tryz.call104 (ut (s.take 1) digs (by simp;omega) (by decide) Tw _) ?_
 refine Z0 ?_;refine A2 [0,17] ?_
 refine A6 (fun ht17=>?_) (fun ht17=>?_)
 ·refine Z2 ?_;refine Ap Tryz.call120 (AS4 s hs _) ?_;refine Z67 ?_;refine Z67 ?_;refine Z52 ?_;refine Z8 ?_;exact Ab (Na Ag Ag Ag Ag) ⟨by simp only [Bi,ht6,ht17,if_true,if_false,B1],rfl⟩
 refine Z2 ?_
 refine A3 (h:=F8 0 (s.getD 0 0) (fun _=>Gw h0)) (hr:=?_)
 refine Z0 ?_;refine A2 [0,28] ?_
 refine A6 (fun ht28=>?_) (fun ht28=>?_)
 ·refine Z2 ?_;refine Ap Tryz.call121 (AS5 s h0 hs _) ?_;refine Z67 ?_;refine Z67 ?_;refine Z52 ?_;refine Z8 ?_;exact APm
 refine Z25 ?_;refine Z2 ?_;refine Ap Tryz.call122 (AS6 s h0 _) ?_;refine Z67 ?_;refine Z67 ?_;refine Z52 ?_;exact APm

structure Tok where
 kind:Int
 text:Str
 at_:Nat
 deriving DecidableEq
abbrev En (t:Tok):AV:=.agg [.v (.int .i64 t.kind),.v (sv t.text),.v (.int .i64 (t.at_:Int))]
abbrev Us (l:List Tok):AV:=.slice false 3 (l.map En)
theorem yh {c:UInt8} {of:Str} (h:decide (0<Lq ([c]:Str) of)=true):of.contains c=true:=by
 have:=of_decide_eq_true h
 unfold Lq Lib.trimLeftS at this
 rw [Tm] at this
 cases hc:of.contains c with
 | true=>rfl
 | false=>rw [hc] at this;simp at this
theorem b6 {c:UInt8} {r of:Str} (h:of.contains c=true):1≤(Cp (c::r) of).length:=by
 unfold Cp
 rw [oc,O2,h]
 simp
theorem eo:∀c:UInt8,letters.contains c=true→tails.contains c=true:=by
 have h:((List.range 256).all fun n => !letters.contains (UInt8.ofNat n) || tails.contains (UInt8.ofNat n))=true:=by kernel_rfl
 intro c hc
 have:=Ay.1 h c.toNat (Pi.2 c.toNat_lt)
 rw [show UInt8.ofNat c.toNat=c by simp,hc] at this
 simpa using this
theorem b7:∀(l:Str) (n:Nat),D5 l=some n→1≤n∧n≤l.length
 | [],n,h=>by cases h
 | [c],n,h=>by
  rw [D5] at h
  split at h
  ·injection h with h;subst h;simp
  cases h
 | c::d::t,n,h=>by
  rw [D5] at h
  split at h
  ·split at h
   ·rw [Fj] at h
    obtain ⟨m,hm,rfl⟩:=h
    have:=b7 t m hm
    simp only [Aq];omega
   injection h with h;subst h;simp
  rw [Fj] at h
  obtain ⟨m,hm,rfl⟩:=h
  have:=b7 (d::t) m hm
  simp only [Aq] at this ⊢;omega
theorem Ut {s:Str} (h0:1≤s.length) (h:(Bi s).2.2.2=0):∃n:Nat,(Bi s).2.2.1=(n:Int)∧1≤n∧n≤s.length:=by
 cases s with
 | nil=>simp at h0
 | cons c r =>
  unfold Bi at h ⊢
  split at h
  ·rename_i h1
   rw [if_pos h1]
   have hc:=eo c (yh h1)
   have hw:=b6 (r:=r) hc
   have hl:=Kz (c::r) tails
   unfold Nh at h ⊢
   split at h
   ·rename_i h2;rw [if_pos h2];exact ⟨_,rfl,hw,hl⟩
   rename_i h2
   rw [if_neg h2]
   split at h
   ·exact AEp
   rename_i h3;rw [if_neg h3];exact ⟨_,rfl,hw,hl⟩
  rename_i h1
  rw [if_neg h1]
  split at h
  ·rename_i h2
   rw [if_pos h2]
   exact ⟨_,rfl,b6 (r:=r) (yh h2),Kz _ _⟩
  rename_i h2
  rw [if_neg h2]
  split at h
  ·rename_i h3
   rw [if_pos h3]
   unfold Jb at h ⊢
   split at h
   ·exact AEp
   rename_i n hn
   split at h
   ·exact AEp
   rename_i h4
   simp only [if_neg h4]
   have:=b7 _ n hn
   simp at this
   exact ⟨n+1,rfl,by omega,by simp only [Aq];omega⟩
  rename_i h3
  rw [if_neg h3]
  unfold Ni at h ⊢
  split at h
  ·rename_i h4
   rw [if_pos h4]
   refine ⟨2,rfl,by omega,?_⟩
   simp only [Ah,decide_eq_true_eq] at h4
   have:=h4.1.1
   omega
  rename_i h4
  rw [if_neg h4]
  split at h
  ·rename_i h5;rw [if_pos h5];exact ⟨1,rfl,by omega,h0⟩
  exact AEp
/-- The words from a place on, up to one that is wrong. -/
def Gc:Nat→Nat→Str→List (Tok×Int)
 | 0,_,_=>[]
 | f+1,k,s=>if s==[] then [] else
  (⟨(Bi s).1,(Bi s).2.1,k⟩,(Bi s).2.2.2)::(if (Bi s).2.2.2==0 then Gc f (k+(Bi s).2.2.1.toNat+gapM (s.drop (Bi s).2.2.1.toNat)) ((s.drop (Bi s).2.2.1.toNat).drop (gapM (s.drop (Bi s).2.2.1.toNat))) else [])
def C0 (s:Str):List (Tok×Int):=Gc (s.length+1) (gapM s) (s.drop (gapM s))
theorem ll (s:Str):gapM s≤s.length:=Yq _ _
end Go.SX.Nb
namespace Go.SX
variable [GI:GlobInv]
open Classical
section
variable {P:Program} {d:Nat} {st:St} {dst:Option Tmp} {ty:TypeId} {pos:String} {aft:Array Edge} {gd:Option (Nat×Bool)}
end
section
variable {P:Program} {d:Nat} {ops:Array Oper}
variable {sz:Nat} {fr:Nat→AV} {up own own':List AObj} {dfs:List Nat} {rnd:Option Nat} {Q:St→Prop} {rest:List Oper} {s:Nat} {ty:TypeId} {pos:String} {aft:Array Edge}
end
end Go.SX
namespace Go.SX
variable [GI:GlobInv]
open Classical
variable {P:Program} {d:Nat} {l0:List Oper} {kd:Nat} {ops:Array Oper} {rest:List Oper} {sz:Nat} {fr:Nat→AV} {up own:List AObj} {dfs:List Nat} {rnd:Option Nat} {Q:St→Prop} {s:Nat} {ty:TypeId} {pos:String} {aft:Array Edge} {E:List Oper→(Nat→AV)→Prop}
theorem D.bytesStr {a t e:TypeId} {x:Operand} {o:Bool} (l:List UInt8) (hs':P.underlying a=some (.slice e)) (he:P.underlying e=some (.int .u8)) (ht:P.underlying t=some .string) (hr:ADraw P d l0 sz up own dfs rnd E kd rest (A9 s (.v (sv l)) fr))
  (hx:Ba fr x=.slice o 1 (l.map u8A):=by exact sL0) (hs:Nat.blt s sz=true:=by rfl):
  ADraw P d l0 sz up own dfs rnd E (kd+1) (⟨some s,.convert a t x,ty,pos,aft,none⟩::rest) fr:=
 ⟨s,_,rfl,by simpa using hs,fun f0 hag=>OpV.bytesStr hs' he ht ((agr hag (by simp [Op.operands,Call.operands])).trans hx),hr⟩
theorem R.nilTmp {l:List Oper} (s k:Nat) (o:Bool) (hr:ARun P d ops l ⟨sz,A9 s (.slice o k []) fr,up,own,dfs,rnd⟩ Q) (h:fr s=.nil:=by exact sL0):
  ARun P d ops l ⟨sz,fr,up,own,dfs,rnd⟩ Q:=
 ye (st':=⟨sz,A9 s (.slice o k []) fr,up,own,dfs,rnd⟩) (Zw (s:=⟨sz,fr,up,own,dfs,rnd⟩) fun i=>by
  show Le (fr i) (A9 s (.slice o k []) fr i)
  unfold A9
  by_cases hi:i=s
  ·subst hi;rw [if_pos rfl,h];exact .nil _ _
  rw [if_neg hi];exact .refl _) hr
/-! A slice without room behind its end: whoever appends to it gets a new one. -/
theorem ve (k:Nat) (xs:List AV):(AV.full k xs).strip=.full k xs:=rfl
theorem vf (k:Nat) (xs:List AV):(AV.full k xs).cells=[.full k xs]:=rfl
theorem AF9 (k:Nat) (xs:List AV):(AV.full k xs).one=true:=rfl
attribute [go_sem] ve vf AF9
theorem Rep.thaw {G:Gh} {w:World} {L:Loc} {k:Nat} {xs:List AV} {u:Value} (hne:xs≠[]) (h:Rep G w (some L) (.full k xs) u):Rep G w (some L) (.slice true k xs) u:=by
 cases h with
 | full _ _ _ ad n h =>
  cases h with
  | sliceE=>exact absurd rfl hne
  | slice _ _ _ _ _ _ _ f hs hn hc hk h1 hf hr _=>exact .slice _ true k xs ad n n f hs hn hc hk h1 hf hr (fun _=>⟨L,rfl,fun o a b=>by omega⟩)
theorem StLe.thaw {n k j0:Nat} {t:TypeId} {cs xs:List AV} (ho:own[n]? = some (.cells t cs)) (hc:cs[j0]? = some (.full k xs)) (hne:xs≠[]):StLe d ⟨sz,fr,up,own,dfs,rnd⟩ ⟨sz,fr,up,own.set n (.cells t (cs.set j0 (.slice true k xs))),dfs,rnd⟩:=by
 refine ⟨fun G a w h=>?_,rfl,rfl,rfl⟩
 refine ⟨h.size,h.slots,⟨fun i x hx=>?_,?_,h.heap.inj⟩,h.defs,fun o hoo=>?_,h.defsNodup,h.defsGe,h.tags,h.rnd,h.low,h.top⟩
 ·by_cases hi:i=up.length+n
  ·subst hi
   simp only at hx
   rw [E2,List.getElem?_set_self (List.getElem?_eq_some_iff.1 ho).1] at hx
   injection hx with hx
   subst hx
   have hob:=h.heap.obj (up.length+n) (.cells t cs) (by simp only [E2];exact ho)
   obtain ⟨vs,h1,h2,h3,h4⟩:=hob
   refine ⟨vs,h1,by simpa using h2,fun j y u p q=>?_,by simpa using h4⟩
   by_cases hj:j=j0
   ·subst hj
    rw [List.getElem?_set_self (List.getElem?_eq_some_iff.1 hc).1] at p
    have e:y=.slice true k xs:=by simpa using p.symm
    subst e
    exact (h3 j (.full k xs) u hc q).thaw hne
   rw [List.getElem?_set_ne (fun e=>hj e.symm)] at p
   exact h3 j y u p q
  refine h.heap.obj i x ?_
  simp only at hx ⊢
  rwa [←Bn,List.getElem?_set_ne (fun e=>hi e.symm)] at hx
 ·have:=h.heap.n;simpa using this
 have h1:=h.defsAt o hoo
 simp only at h1 ⊢
 rw [←Bn]
 by_cases hi:o=up.length+n
 ·subst hi
  rw [E2,ho] at h1
  cases h1
 rw [List.getElem?_set_ne (fun e=>hi e.symm)]
 exact h1
theorem D.buildFull {t e:TypeId} {k len:Nat} {z:Value} {parts:List (Nat×Operand)} {ys:List AV} (hu:P.underlying t=some (.slice e)) (hsz:∀w,(Go.sizeOf e).run P w=.ok k w) (hz:∀w,(zeroValue e).run P w=.ok z w)
  (hr:ADraw P d l0 sz up own dfs rnd E kd rest (A9 s (.full k ys) fr)) (hp:parts.toArray=(((parts.map Prod.snd).zipIdx).map fun x=>(x.2,x.1)).toArray:=by rfl) (hev:(parts.map Prod.snd).map (Ba fr)=ys:=by exact sL0)
  (hk:ys.all (fun y=>decide (y.cells.length=k)&&y.cells.all AV.one)=true:=by simp [go_sem]) (hl:len=ys.length:=by rfl) (hlen:ys.length*k≤16777216:=by exact sL1) (hs:Nat.blt s sz=true:=by rfl):
  ADraw P d l0 sz up own dfs rnd E (kd+1) (⟨some s,.buildSlice t len parts.toArray,ty,pos,aft,none⟩::rest) fr:=by
 have h2:∀y∈ys,y.cells.length=k∧y.cells.all AV.one=true:=fun y hy=>by simpa using List.all_eq_true.1 hk y hy
 refine ⟨s,_,rfl,by simpa using hs,fun f0 hag=>?_,hr⟩
 have hev':(parts.map Prod.snd).map (Ba f0)=ys:=by
  rw [←hev]
  refine List.map_congr_left fun x hx=>?_
  refine agr hag ?_
  simp only [Op.operands,List.toList_toArray,Array.toList_map,List.mem_map] at hx ⊢
  exact hx
 exact OpV.buildFull (st:=⟨sz,f0,up,own,dfs,rnd⟩) hu hsz hz hev' (fun y hy=>(h2 y hy).1) (fun y hy c hc=>List.all_eq_true.1 (h2 y hy).2 c hc) hlen hl hp
section
variable {KP:List PanicEntry→St→Prop} {up own:(Nat→Bool)→List AObj} {S:List SegY} {l:List Oper} {T F:List Nat}
/-- The p-th of those that turn the heap: a store into an object of whoever waits. -/
theorem Y.storeUp {t t':TypeId} {p x:Operand} {o off k pn:Nat} {y:AV} {ys cs cs':List AV} (hsz:∀w,(Go.sizeOf t).run P w=.ok k w)
  (hU:∀B:Nat→Bool,B pn=false→(up B)[o]? = some (.cells t' cs)∧up (upd B pn)=(up B).set o (.cells t' cs')∧own (upd B pn)=own B∧∀y∈ys,Low (up B).length y)
  (h:ChainY P d l0 sz up own dfs rnd KP E S l fr)
  (hp:Ba fr p=.ptr o off:=by exact sL0) (hx:Ba fr x=y:=by exact sL0) (hc:y.cells=ys:=by exact sL0) (hk:ys.length=k:=by rfl)
  (h1:ys.all AV.one=true:=by exact sL2) (hfit:off+k≤cs.length:=by exact sL1) (hput:Ca cs off ys=cs':=by exact sL0):
  ChainY P d l0 sz up own dfs rnd KP E (.s [] (some pn) T F::S) (⟨none,.store t p x,ty,pos,aft,none⟩::l) fr:=by
 subst hput
 subst hc
 refine ⟨_,l,[],rfl,⟨rfl,rfl,fun B f _ _ hB hf=>.of ?_⟩,h⟩
 obtain ⟨a1,a2,a3,a4⟩:=hU B (hB pn rfl)
 have e:Ba f p=.ptr o off:=by rw [agr hf (by simp [Op.operands])];exact hp
 have ex:Ba f x=y:=by rw [agr hf (by simp [Op.operands])];exact hx
 refine AOp.eqTo (AOp.storeUp (st:=⟨sz,f,up B,own B,dfs,rnd⟩) hsz e a1 ex hk h1 hfit a4) ?_
 show _=St.mk sz f (up (upd B pn)) (own (upd B pn)) dfs rnd
 rw [a2,a3]
end
end Go.SX
