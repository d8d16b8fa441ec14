/- On the way (part 4). -/
import Derived.Below
import Derived.Test.YtofbdcbjpdpllaaGreatDoorProg
import Derived.KernelRfl
import Derived.Shelf.Strconv.Itoa4
import Derived.Shelf.Strings.SplitShaped
import Derived.Shelf.Strings.SlTrimAscii
import Derived.Shelf.Strings.OnBuilder
import Derived.Shelf.Strings.Replace
import Derived.Shelf.Small.Strs
import Derived.Shelf.Strings.Prefix
import Derived.Shelf.Strconv.ErrVarParseInt
import Derived.Shelf.Bits.Mul64
import Derived.Shelf.Strings.Builder1
import Derived.Shelf.Strings.Cut
import Derived.Lib.SplitLaws
import Derived.LaidEql
import Derived.Stop.Asserts
import Derived.RowKitTokens
import Derived.WalkKit
import Derived.Lib.AtoiErrMem
import Derived.Lib.Strings
import Derived.BigCall
import Derived.Lib.ParseIntB
import Derived.Test.YtofbdcbjpdpllaaGreatDoorImageNamesCardSaidPart3
set_option linter.all false
namespace Go.SX
variable [GI:GlobInv]
open Classical Go.RowKit
section
variable {P:Program} {g:FuncId} {Hp:List AObj}

/-- What is known of package-level variables, of a world alone. -/
def Jw (w:World):Prop:=∀x∈GI.blocks,∃o,w.heap[x.1]? = some o∧x.2 o

theorem Zq {G:Gh} {w:World} {xs:List Value} {vs:Array Value} (hn:vs.size=(xs.map AV.v).length) (h:∀(i:Nat) (y:AV) (u:Value),(xs.map AV.v)[i]? = some y→vs[i]? = some u→∃l,Rep G w l y u):vs=xs.toArray:=by
 apply jo
 ·simpa using hn
 intro i h1 h2
 have hi:i<xs.length:=by simpa using h2
 obtain ⟨l,hr⟩:=h i (.v xs[i]) vs[i] (by simp [hi]) (Ds h1)
 have:=Pj hr
 simpa using this

theorem G9 {G:Gh} {w w':World} (hT:TagOK G w) (hb:Below w.heap.size w w') {b o:Nat} (h:G.tag b o≠.free):w'.cell? ⟨b,o,none⟩=w.cell? ⟨b,o,none⟩∧w'.frozen? ⟨b,o,none⟩=w.frozen? ⟨b,o,none⟩:=by
 obtain ⟨u,hu⟩:=hT.ex b o h
 have hlt:b<w.heap.size:=World.block_lt_of_cell? _ _ hu
 have:=hb.block b hlt
 exact ⟨It this,Il this⟩

theorem U9 {G:Gh} {w w':World} (hT:TagOK G w) (hb:Below w.heap.size w w'):Turn G w G w':=
 ⟨fun b o h=>⟨h,(G9 hT hb (by rw [h];simp)).1⟩,fun _ _ _ h=>h,fun _ _ _ h=>h,Ae _,fun _ _=>rfl,hb.os,hb.tape,hb.output,hb.size,Jn (fun b hv=>hb.block b hv.1) hb.size (fun _ _ _=>.inl rfl) (fun _ hi=>.inl ⟨hi,rfl⟩)⟩

theorem gk {G:Gh} {H:List AObj} {w w':World} (hH:HeapRel G H w) (hT:TagOK G w) (hb:Below w.heap.size w w'):HeapRel G H w'∧TagOK G w':=by
 have T:=U9 hT hb
 refine ⟨⟨fun i x hx=>?_,hH.n,hH.inj⟩,⟨fun b o h=>?_,fun b o i h=>?_,fun b o L h=>?_,hT.globKeep T.old⟩⟩
 ·have hi:i<G.n:=by rw [hH.n];exact (Ab.1 hx).1
  exact T.objRel hi (hb.block _ (Mr hH i hi)) (hH.obj i x hx) (fun b h=>hb.block b h.lt)
 ·rw [(G9 hT hb h).1];exact hT.ex b o h
 ·rw [(G9 hT hb (by rw [h];simp)).2];exact hT.obj b o i h
 rw [(G9 hT hb (by rw [h];simp)).2];exact hT.tail b o L h

/-- A function of plain values that hands back a plain value. -/
theorem AFun.lib {xs:List Value} {r:AV} {v:Value} (hr:∀G w,Rep G w none r v) (h:∀w,Jw w→Calls P g xs.toArray w (fun e w'=>e=.returned v∧Below w.heap.size w w')):AFun P g (xs.map .v) Hp r:=by
 intro d G w vs hn hv hH hT hTop
 have hvs:=Zq hn (fun i y u a b=>⟨_,hv i y u a b⟩)
 subst hvs
 refine (callsIn_wide.2 (h w (fun x hx=>let ⟨_,u,a,b⟩:=hT.glob x hx;⟨u,a,b⟩))).mono ?_
 rintro e w' ⟨rfl,hb⟩
 obtain ⟨h1,h2⟩:=gk hH hT hb
 exact ⟨v,G,r,Hp,rfl,(hr G w').lift,h1,h2,(U9 hT hb).keep _,rfl,rfl,rfl⟩


/-- A function of plain values that hands back a new slice of plain values. -/
theorem AFun.libSlice {xs ys:List Value} {t:TypeId} (hone:∀y∈ys,y.oneCell'=true) (h:∀w,Jw w→Calls P g xs.toArray w (fun e w'=>e=.returned (.slice (some ⟨w.heap.size,0,none⟩) ys.length ys.length)∧w'=w.alloc (.cells ys.toArray t))):
  AFun P g (xs.map .v) Hp (.slice false 1 (ys.map .v)):=by
 intro d G w vs hn hv hH hT hTop
 have hvs:=Zq hn (fun i y u a b=>⟨_,hv i y u a b⟩)
 subst hvs
 refine (callsIn_wide.2 (h w (fun x hx=>let ⟨_,u,a,b⟩:=hT.glob x hx;⟨u,a,b⟩))).mono ?_
 rintro e w' ⟨rfl,rfl⟩
 have hst:StRel (d+1) G ⟨0,fun _=>.any,Hp,[],[],none⟩ { tmps:=#[],defers:=[] } w:=
  ⟨rfl,fun s=>.any _ _,by simpa using hH,(by rw [Fc hTop];rfl),(fun o ho=>by simp at ho),Ka,(fun o ho=>by simp at ho),hT,(fun l hl=>by cases hl),Tv hH,Ln hTop⟩
 obtain ⟨G',g1,T,g2⟩:=Qu hst t ys.toArray
 refine ⟨_,G',_,Hp,rfl,?_,by simpa using g1.heap,g1.tags,T.keep _,rfl,rfl,rfl⟩
 refine .slice _ false 1 _ _ _ _ (fun i j=>ys.toArray.getD i undef) rfl (by simp) (Ae _) (fun x hx=>?_) (fun x hx y hy=>?_) (fun i x j y hx hy=>?_) (fun i x j y hx hy=>?_) (fun h=>by cases h)
 ·obtain ⟨z,_,rfl⟩:=C1.1 hx
  rfl
 ·obtain ⟨z,hz,rfl⟩:=C1.1 hx
  have:y=.v z:=by simpa [AV.cells] using hy
  subst this
  exact hone z hz
 all_goals
  rw [C9,Dq] at hx
  obtain ⟨z,hz,rfl⟩:=hx
  have hlt:i<ys.length:=(Ab.1 hz).1
  have hj:j=0:=by
   match j,hy with
   | 0,_=>rfl
   | j+1,hy=>simp [AV.cells] at hy
  subst hj
 ·refine ⟨by simpa using g2 i (by simpa using hlt),?_⟩
  rw [World.cell?_alloc_new]
  simp [hlt]
 have:y=.v z:=by simpa [AV.cells] using hy.symm
 subst this
 have e:ys.toArray.getD i undef=z:=by
  have:=Aa hlt
  rw [this] at hz
  injection hz with hz
  simp [hlt,hz]
 rw [e]
 exact .v _ _
/-- A function that hands back a plain value and, behind an interface value, a new record of plain values. -/
theorem AFun.libErr {xs cs:List Value} {n:Value} {T te:TypeId} (hone:∀y∈cs,y.oneCell'=true) (h:∀w,Jw w→Calls P g xs.toArray w (fun e w'=>∃N,e=.returned (.tuple #[n,.iface T (.pointer (some ⟨N,0,none⟩))])∧w.heap.size≤N∧w'.heap[N]? = some (.cells cs.toArray te (0,0))∧Below w.heap.size w w')):
  AFun P g (xs.map .v) Hp (.tup [.v n,.iface T (.ro (cs.map .v))]):=by
 intro d G w vs hn hv hH hT hTop
 have hvs:=Zq hn (fun i y u a b=>⟨_,hv i y u a b⟩)
 subst hvs
 refine (callsIn_wide.2 (h w (fun x hx=>let ⟨_,u,a,b⟩:=hT.glob x hx;⟨u,a,b⟩))).mono ?_
 rintro e w' ⟨N,rfl,hN,hcell,hb⟩
 have hfree:∀o,G.tag N o=.free:=fun o=>F8 hT _ o hN
 let G':Gh:={ G with tag:=fun b o=>if b=N∧o<cs.length then .fix else G.tag b o }
 have hne:∀b o,G.tag b o≠.free→¬(b=N∧o<cs.length):=fun b o hb hc=>by rw [hc.1] at hb;exact hb (hfree o)
 have hnew:∀o,o<cs.length→w'.cell? ⟨N,o,none⟩=cs[o]? := fun o ho=>by simp [World.cell?,hcell,ho]
 have T1:Turn G w G' w':=by
  refine ⟨fun b o h=>⟨?_,(G9 hT hb (by rw [h];simp)).1⟩,fun b o L h=>?_,fun b o i h=>?_,Ae _,fun _ _=>rfl,hb.os,hb.tape,hb.output,hb.size,
   Jn (fun b hv=>hb.block b hv.1) hb.size (fun b o hlt=>.inl ?_) (fun _ hi=>.inl ⟨hi,rfl⟩)⟩
  ·simp only [G'];rw [if_neg (hne b o (by rw [h];simp))];exact h
  ·simp only [G'];rw [if_neg (hne b o (by rw [h];simp))];exact h
  ·simp only [G'];rw [if_neg (hne b o (by rw [h];simp))];exact h
  simp only [G'];rw [if_neg (by omega)]
 have hH':HeapRel G' Hp w':=⟨fun i x hx=>by
  have hi:i<G.n:=by rw [hH.n];exact (Ab.1 hx).1
  exact T1.objRel hi (hb.block _ (Mr hH i hi)) (hH.obj i x hx) (fun b h=>hb.block b h.lt),hH.n,hH.inj⟩
 have hT':TagOK G' w':=by
  refine ⟨fun b o h=>?_,fun b o i h=>?_,fun b o L h=>?_,hT.globKeep T1.old⟩
  ·simp only [G'] at h
   split at h
   ·rename_i hc;obtain ⟨rfl,ho⟩:=hc;exact ⟨_,(hnew o ho).trans (Aa ho)⟩
   rw [(G9 hT hb h).1];exact hT.ex b o h
  ·simp only [G'] at h
   split at h
   ·cases h
   rw [(G9 hT hb (by rw [h];simp)).2];exact hT.obj b o i h
  simp only [G'] at h
  split at h
  ·cases h
  rw [(G9 hT hb (by rw [h];simp)).2];exact hT.tail b o L h
 refine ⟨_,G',_,Hp,rfl,?_,hH',hT',T1.keep _,rfl,rfl,rfl⟩
 refine .tup _ _ _ rfl (fun i y u hy hu=>?_)
 match i with
 | 0=>simp at hy hu;subst hy;subst hu;exact .v _ _
 | 1 =>
  simp at hy hu;subst hy;subst hu
  refine .iface _ _ _ _ (.ro _ _ ⟨N,0,none⟩ (fun j=>cs.getD j undef) rfl (fun y hy=>?_) (fun j y hy=>?_) (fun j y hy=>?_))
  ·obtain ⟨z,hz,rfl⟩:=C1.1 hy
   exact hone z hz
  all_goals
   rw [C9,Dq] at hy
   obtain ⟨z,hz,rfl⟩:=hy
   have hlt:j<cs.length:=(Ab.1 hz).1
   have e:cs.getD j undef=z:=by rw [Cz,hz];rfl
  ·refine ⟨by simp [G',hlt],?_⟩
   rw [B5,hnew j hlt,hz,e]
  rw [e];exact .v _ _
 | i+2=>simp at hy
theorem TagOK.globIn {G:Gh} {w:World} (h:TagOK G w):Jw w:=fun x hx=>(h.glob x hx).2
/-- A package-level variable of which something is known. -/
theorem R.loadGlob {d:Nat} {ops:Array Oper} {rest:List Oper} {sz:Nat} {fr:Nat→AV} {up own:List AObj} {dfs:List Nat} {rnd:Option Nat} {Q:St→Prop} {s:Nat} {ty:TypeId} {pos:String} {aft:Array Edge} {t:TypeId} {gl:Nat} {v:Value}
  (hagg:∀w,(isAgg t).run P w=.ok false w) (hv:∀w,Jw w→w.cell? ⟨gl,0,none⟩=some v) (hr:ARun P d ops rest ⟨sz,A7 s (.v v) fr,up,own,dfs,rnd⟩ Q) (hs:Nat.blt s sz=true:=by rfl):
  ARun P d ops (⟨some s,.load t (.global gl),ty,pos,aft,none⟩::rest) ⟨sz,fr,up,own,dfs,rnd⟩ Q:=by
 refine ARun.v rfl rfl (by simpa using hs) (C2 (by intro c h;cases h) fun G a w h=>⟨v,?_,.v _ _⟩) hr
 have hc:=hv w h.tags.globIn
 have e:a.eval (.global gl)=.pointer (some ⟨gl,0,none⟩):=rfl
 simp [execOp,e,Instr.loadAt,Instr.sureAddr,loadVar,hagg,hc]
end
end Go.SX
namespace Go.SX
def Kg:=@AFun.lib
end Go.SX
namespace Go.SX.Nb
open Go Go.SX Go.Proofs
set_option maxRecDepth 4000

/-- Where strconv.ErrRange points. -/
class ErrAt where
 b:Addr
 bd:Nat:=0
 bl:List Deferred:=[]
/-- The package-level variables of which something is known: bytealg.MaxLen is a number; strconv.ErrRange is an error of errors.New's make; the table of powers of ten. -/
def X9 [E:ErrAt]:List (Nat×(Obj→Prop)):=[(0,fun o=>∃m t f,o=.cells #[.int .i64 m] t f),(1,fun o=>∃t f,o=.cells #[.iface 347 (.pointer (some E.b))] t f),(4,fun o=>∃t f,o=.cells (Lib.pow10Tab.map fun z=>Value.int .u64 z).toArray t f)]
instance globInv [E:ErrAt]:GlobInv:={ blocks:=X9,bd:=E.bd,bl:=E.bl }
variable [ErrAt]

abbrev Str:=List UInt8
structure Col where
 name:Str
 kind:Int
 deriving DecidableEq
structure Val where
 kind:Int
 n:Int
 s:Str
 deriving DecidableEq
structure Row where
 key:Int
 l:List Val
 deriving DecidableEq
abbrev Ad (s:Str):AV:=.v (sv s)
abbrev A4 (n:Int):AV:=.v (.int .i64 n)
abbrev tc (n:Int):AV:=.v (.int .u64 n)
abbrev Bm (b:Bool):AV:=.v (.bool b)
abbrev Bs (c:Col):AV:=.agg [.v (sv c.name),.v (.int .i64 c.kind)]
abbrev Aq (c:List Col):AV:=.slice false 2 (c.map Bs)
abbrev Ba (v:Val):AV:=.agg [.v (.int .i64 v.kind),.v (.int .i64 v.n),.v (sv v.s)]
abbrev Br (l:List Val):AV:=.slice false 3 (l.map Ba)
abbrev Ft (l:List Str):AV:=.slice false 1 (l.map Ad)
theorem Bk {α β:Type} {f:α→β} {l:List α} {i:Nat} (h:i<l.length):(l.map f)[i]? = some (f l[i]):=by simp [h]
theorem Al:Tryz.prog.follows .mixedOrders=true:=by kernel_rfl
theorem Wm:Tryz.prog.eqGuardType Tryz.prog.depth 23=false:=by kernel_rfl
theorem Im (k n k' n':Int) (s s':List UInt8) (w:World):(Op.equal 23 (.agg #[.int .i64 k,.int .i64 n,.string ⟨s.toArray⟩]) (.agg #[.int .i64 k',.int .i64 n',.string ⟨s'.toArray⟩])).run Tryz.prog w=.ok (k==k'&&n==n'&&s==s') w:=by
 have h1:Tryz.prog.stoodInHeld 23=false:=by kernel_rfl
 show (Op.equalIn (9999+1) _ _ _).run _ _=_
 rw [Op.equalIn]
 generalize hd:(9999:Nat)=d
 obtain ⟨d,rfl⟩:∃e,d=e+1:=⟨9998,hd.symm⟩
 clear hd
 simp [run_underlying Tryz.underlying23,h1,part,AAs _ _ _ _ _ _ Tryz.underlying3,AAs _ _ _ _ _ _ Tryz.underlying2,AD0 _ _ _ _ _ Tryz.underlying9,Tryz.isAgg3,Tryz.isAgg2,Tryz.isAgg9]
 by_cases e1:k=k'<;>by_cases e2:n=n'<;>by_cases e3:s=s'<;>simp [e1,e2,e3]
end Go.SX.Nb
namespace Go.Proofs
open Go Go.Shelf
def Tryz.ren144:Ren where
 f:=fun x=>match x with|144=>131|143=>168|219=>215|217=>263|225=>264|224=>265|267=>266|266=>298|314=>299|n=>n
 t:=fun x=>match x with|9=>9|4=>4|3=>3|5=>5|46=>34|146=>302|51=>301|n=>n
 g:=fun x=>match x with|1=>0|n=>n
theorem Tryz.lays144:Lays.n144 Tryz.prog Tryz.ren144 where
 mixed:=by kernel_rfl
 f143:=Tryz.func168
 f144:=Tryz.func131
 f217:=Tryz.func263
 f219:=Tryz.func215
 f224:=Tryz.func265
 f225:=Tryz.func264
 f266:=Tryz.func298
 f267:=Tryz.func266
 f314:=Tryz.func299
 t3:=Tryz.underlying3
 a3:=Tryz.isAgg3
 z3:=Tryz.sizeOf3
 v3:=Tryz.zeroValue3
 t4:=Tryz.underlying4
 a4:=Tryz.isAgg4
 z4:=Tryz.sizeOf4
 v4:=Tryz.zeroValue4
 t5:=Tryz.underlying5
 a5:=Tryz.isAgg5
 z5:=Tryz.sizeOf5
 v5:=Tryz.zeroValue5
 t9:=Tryz.underlying9
 a9:=Tryz.isAgg9
 z9:=Tryz.sizeOf9
 v9:=Tryz.zeroValue9
 t46:=Tryz.underlying34
 a46:=Tryz.isAgg34
 z46:=Tryz.sizeOf34
 v46:=Tryz.zeroValue34
 t51:=Tryz.underlying301
 a51:=Tryz.isAgg301
 z51:=Tryz.sizeOf301
 v51:=Tryz.zeroValue301
 t146:=Tryz.underlying302
 a146:=Tryz.isAgg302
 z146:=Tryz.sizeOf302
 v146:=Tryz.zeroValue302
 g1:=by kernel_rfl
def Tryz.ren145:Ren where
 f:=fun x=>match x with|145=>163|220=>211|219=>215|217=>263|225=>264|224=>265|267=>266|266=>298|314=>299|n=>n
 t:=fun x=>match x with|9=>9|4=>4|59=>208|3=>3|5=>5|46=>34|146=>302|51=>301|n=>n
 g:=fun x=>match x with|1=>0|n=>n
theorem Tryz.lays145:Lays.n145 Tryz.prog Tryz.ren145 where
 mixed:=by kernel_rfl
 f145:=Tryz.func163
 f217:=Tryz.func263
 f219:=Tryz.func215
 f220:=Tryz.func211
 f224:=Tryz.func265
 f225:=Tryz.func264
 f266:=Tryz.func298
 f267:=Tryz.func266
 f314:=Tryz.func299
 t3:=Tryz.underlying3
 a3:=Tryz.isAgg3
 z3:=Tryz.sizeOf3
 v3:=Tryz.zeroValue3
 t4:=Tryz.underlying4
 a4:=Tryz.isAgg4
 z4:=Tryz.sizeOf4
 v4:=Tryz.zeroValue4
 t5:=Tryz.underlying5
 a5:=Tryz.isAgg5
 z5:=Tryz.sizeOf5
 v5:=Tryz.zeroValue5
 t9:=Tryz.underlying9
 a9:=Tryz.isAgg9
 z9:=Tryz.sizeOf9
 v9:=Tryz.zeroValue9
 t46:=Tryz.underlying34
 a46:=Tryz.isAgg34
 z46:=Tryz.sizeOf34
 v46:=Tryz.zeroValue34
 t51:=Tryz.underlying301
 a51:=Tryz.isAgg301
 z51:=Tryz.sizeOf301
 v51:=Tryz.zeroValue301
 t59:=Tryz.underlying208
 a59:=Tryz.isAgg208
 z59:=Tryz.sizeOf208
 v59:=Tryz.zeroValue208
 t146:=Tryz.underlying302
 a146:=Tryz.isAgg302
 z146:=Tryz.sizeOf302
 v146:=Tryz.zeroValue302
 g1:=by kernel_rfl
def Tryz.ren146:Ren where
 f:=fun x=>match x with|146=>122|221=>162|268=>209|138=>210|143=>168|195=>259|197=>213|218=>260|219=>215|260=>261|217=>263|225=>264|224=>265|267=>266|266=>298|314=>299|n=>n
 t:=fun x=>match x with|9=>9|31=>45|3=>3|4=>4|0=>0|105=>247|21=>21|5=>5|46=>34|119=>296|139=>299|138=>298|146=>302|51=>301|n=>n
 g:=fun x=>match x with|1=>0|3=>2|4=>3|n=>n
theorem Tryz.lays146:Lays.n146 Tryz.prog Tryz.ren146 where
 mixed:=by kernel_rfl
 f138:=Tryz.func210
 f143:=Tryz.func168
 f146:=Tryz.func122
 f195:=Tryz.func259
 f197:=Tryz.func213
 f217:=Tryz.func263
 f218:=Tryz.func260
 f219:=Tryz.func215
 f221:=Tryz.func162
 f224:=Tryz.func265
 f225:=Tryz.func264
 f260:=Tryz.func261
 f266:=Tryz.func298
 f267:=Tryz.func266
 f268:=Tryz.func209
 f314:=Tryz.func299
 t0:=Tryz.underlying0
 a0:=Tryz.isAgg0
 z0:=Tryz.sizeOf0
 v0:=Tryz.zeroValue0
 t3:=Tryz.underlying3
 a3:=Tryz.isAgg3
 z3:=Tryz.sizeOf3
 v3:=Tryz.zeroValue3
 t4:=Tryz.underlying4
 a4:=Tryz.isAgg4
 z4:=Tryz.sizeOf4
 v4:=Tryz.zeroValue4
 t5:=Tryz.underlying5
 a5:=Tryz.isAgg5
 z5:=Tryz.sizeOf5
 v5:=Tryz.zeroValue5
 t9:=Tryz.underlying9
 a9:=Tryz.isAgg9
 z9:=Tryz.sizeOf9
 v9:=Tryz.zeroValue9
 t21:=Tryz.underlying21
 a21:=Tryz.isAgg21
 z21:=Tryz.sizeOf21
 v21:=Tryz.zeroValue21
 t31:=Tryz.underlying45
 a31:=Tryz.isAgg45
 z31:=Tryz.sizeOf45
 v31:=Tryz.zeroValue45
 t46:=Tryz.underlying34
 a46:=Tryz.isAgg34
 z46:=Tryz.sizeOf34
 v46:=Tryz.zeroValue34
 t51:=Tryz.underlying301
 a51:=Tryz.isAgg301
 z51:=Tryz.sizeOf301
 v51:=Tryz.zeroValue301
 t105:=Tryz.underlying247
 a105:=Tryz.isAgg247
 z105:=Tryz.sizeOf247
 v105:=Tryz.zeroValue247
 t119:=Tryz.underlying296
 a119:=Tryz.isAgg296
 z119:=Tryz.sizeOf296
 t138:=Tryz.underlying298
 a138:=Tryz.isAgg298
 z138:=Tryz.sizeOf298
 v138:=Tryz.zeroValue298
 t139:=Tryz.underlying299
 a139:=Tryz.isAgg299
 z139:=Tryz.sizeOf299
 v139:=Tryz.zeroValue299
 t146:=Tryz.underlying302
 a146:=Tryz.isAgg302
 z146:=Tryz.sizeOf302
 v146:=Tryz.zeroValue302
 g1:=by kernel_rfl
 g3:=by kernel_rfl
 g4:=by kernel_rfl
def Tryz.ren161:Ren where
 f:=fun x=>match x with|161=>130|231=>164|227=>165|233=>166|235=>167|228=>212|197=>213|151=>214|260=>261|152=>262|137=>253|119=>297|224=>265|225=>264|217=>263|266=>298|n=>n
 t:=fun x=>match x with|9=>9|4=>4|3=>3|5=>5|117=>213|116=>212|0=>0|124=>216|105=>247|21=>21|119=>296|46=>34|139=>299|138=>298|n=>n
 g:=fun x=>match x with|3=>2|4=>3|n=>n
theorem Tryz.lays161:Lays.n161 Tryz.prog Tryz.ren161 where
 mixed:=by kernel_rfl
 f119:=Tryz.func297
 f137:=Tryz.func253
 f151:=Tryz.func214
 f152:=Tryz.func262
 f161:=Tryz.func130
 f197:=Tryz.func213
 f217:=Tryz.func263
 f224:=Tryz.func265
 f225:=Tryz.func264
 f227:=Tryz.func165
 f228:=Tryz.func212
 f231:=Tryz.func164
 f233:=Tryz.func166
 f235:=Tryz.func167
 f260:=Tryz.func261
 f266:=Tryz.func298
 t0:=Tryz.underlying0
 a0:=Tryz.isAgg0
 z0:=Tryz.sizeOf0
 v0:=Tryz.zeroValue0
 t3:=Tryz.underlying3
 a3:=Tryz.isAgg3
 z3:=Tryz.sizeOf3
 v3:=Tryz.zeroValue3
 t4:=Tryz.underlying4
 a4:=Tryz.isAgg4
 z4:=Tryz.sizeOf4
 v4:=Tryz.zeroValue4
 t5:=Tryz.underlying5
 a5:=Tryz.isAgg5
 z5:=Tryz.sizeOf5
 v5:=Tryz.zeroValue5
 t9:=Tryz.underlying9
 a9:=Tryz.isAgg9
 z9:=Tryz.sizeOf9
 v9:=Tryz.zeroValue9
 t21:=Tryz.underlying21
 a21:=Tryz.isAgg21
 z21:=Tryz.sizeOf21
 v21:=Tryz.zeroValue21
 t46:=Tryz.underlying34
 a46:=Tryz.isAgg34
 z46:=Tryz.sizeOf34
 v46:=Tryz.zeroValue34
 t105:=Tryz.underlying247
 a105:=Tryz.isAgg247
 z105:=Tryz.sizeOf247
 v105:=Tryz.zeroValue247
 t116:=Tryz.underlying212
 a116:=Tryz.isAgg212
 z116:=Tryz.sizeOf212
 t117:=Tryz.underlying213
 a117:=Tryz.isAgg213
 z117:=Tryz.sizeOf213
 v117:=Tryz.zeroValue213
 t119:=Tryz.underlying296
 a119:=Tryz.isAgg296
 z119:=Tryz.sizeOf296
 t124:=Tryz.underlying216
 a124:=Tryz.isAgg216
 z124:=Tryz.sizeOf216
 v124:=Tryz.zeroValue216
 t138:=Tryz.underlying298
 a138:=Tryz.isAgg298
 z138:=Tryz.sizeOf298
 v138:=Tryz.zeroValue298
 t139:=Tryz.underlying299
 a139:=Tryz.isAgg299
 z139:=Tryz.sizeOf299
 v139:=Tryz.zeroValue299
 g3:=by kernel_rfl
 g4:=by kernel_rfl
def Tryz.ren99:Ren where
 f:=fun x=>match x with|99=>288|206=>315|n=>n
 t:=fun x=>match x with|9=>9|4=>4|3=>3|n=>n
 g:=fun x=>x
theorem Tryz.lays99:Lays.n99 Tryz.prog Tryz.ren99 where
 mixed:=by kernel_rfl
 f99:=Tryz.func288
 f206:=Tryz.func315
 t3:=Tryz.underlying3
 a3:=Tryz.isAgg3
 z3:=Tryz.sizeOf3
 v3:=Tryz.zeroValue3
 t4:=Tryz.underlying4
 a4:=Tryz.isAgg4
 z4:=Tryz.sizeOf4
 v4:=Tryz.zeroValue4
 t9:=Tryz.underlying9
 a9:=Tryz.isAgg9
 z9:=Tryz.sizeOf9
 v9:=Tryz.zeroValue9
def Tryz.ren100:Ren where
 f:=fun x=>match x with|100=>289|207=>316|n=>n
 t:=fun x=>match x with|9=>9|4=>4|3=>3|n=>n
 g:=fun x=>x
theorem Tryz.lays100:Lays.n100 Tryz.prog Tryz.ren100 where
 mixed:=by kernel_rfl
 f100:=Tryz.func289
 f207:=Tryz.func316
 t3:=Tryz.underlying3
 a3:=Tryz.isAgg3
 z3:=Tryz.sizeOf3
 v3:=Tryz.zeroValue3
 t4:=Tryz.underlying4
 a4:=Tryz.isAgg4
 z4:=Tryz.sizeOf4
 v4:=Tryz.zeroValue4
 t9:=Tryz.underlying9
 a9:=Tryz.isAgg9
 z9:=Tryz.sizeOf9
 v9:=Tryz.zeroValue9
def Tryz.ren101:Ren where
 f:=fun x=>match x with|101=>277|208=>306|206=>315|n=>n
 t:=fun x=>match x with|9=>9|4=>4|3=>3|n=>n
 g:=fun x=>x
theorem Tryz.lays101:Lays.n101 Tryz.prog Tryz.ren101 where
 mixed:=by kernel_rfl
 f101:=Tryz.func277
 f206:=Tryz.func315
 f208:=Tryz.func306
 t3:=Tryz.underlying3
 a3:=Tryz.isAgg3
 z3:=Tryz.sizeOf3
 v3:=Tryz.zeroValue3
 t4:=Tryz.underlying4
 a4:=Tryz.isAgg4
 z4:=Tryz.sizeOf4
 v4:=Tryz.zeroValue4
 t9:=Tryz.underlying9
 a9:=Tryz.isAgg9
 z9:=Tryz.sizeOf9
 v9:=Tryz.zeroValue9
def Tryz.ren160:Ren where
 f:=fun x=>match x with|160=>278|232=>307|231=>164|227=>165|234=>308|233=>166|236=>309|235=>167|228=>212|271=>328|151=>214|197=>213|120=>340|152=>262|260=>261|137=>253|119=>297|224=>265|225=>264|217=>263|266=>298|n=>n
 t:=fun x=>match x with|9=>9|4=>4|3=>3|5=>5|117=>213|116=>212|0=>0|124=>216|21=>21|105=>247|46=>34|119=>296|139=>299|138=>298|n=>n
 g:=fun x=>match x with|3=>2|4=>3|n=>n
theorem Tryz.lays160:Lays.n160 Tryz.prog Tryz.ren160 where
 mixed:=by kernel_rfl
 f119:=Tryz.func297
 f120:=Tryz.func340
 f137:=Tryz.func253
 f151:=Tryz.func214
 f152:=Tryz.func262
 f160:=Tryz.func278
 f197:=Tryz.func213
 f217:=Tryz.func263
 f224:=Tryz.func265
 f225:=Tryz.func264
 f227:=Tryz.func165
 f228:=Tryz.func212
 f231:=Tryz.func164
 f232:=Tryz.func307
 f233:=Tryz.func166
 f234:=Tryz.func308
 f235:=Tryz.func167
 f236:=Tryz.func309
 f260:=Tryz.func261
 f266:=Tryz.func298
 f271:=Tryz.func328
 t0:=Tryz.underlying0
 a0:=Tryz.isAgg0
 z0:=Tryz.sizeOf0
 v0:=Tryz.zeroValue0
 t3:=Tryz.underlying3
 a3:=Tryz.isAgg3
 z3:=Tryz.sizeOf3
 v3:=Tryz.zeroValue3
 t4:=Tryz.underlying4
 a4:=Tryz.isAgg4
 z4:=Tryz.sizeOf4
 v4:=Tryz.zeroValue4
 t5:=Tryz.underlying5
 a5:=Tryz.isAgg5
 z5:=Tryz.sizeOf5
 v5:=Tryz.zeroValue5
 t9:=Tryz.underlying9
 a9:=Tryz.isAgg9
 z9:=Tryz.sizeOf9
 v9:=Tryz.zeroValue9
 t21:=Tryz.underlying21
 a21:=Tryz.isAgg21
 z21:=Tryz.sizeOf21
 v21:=Tryz.zeroValue21
 t46:=Tryz.underlying34
 a46:=Tryz.isAgg34
 z46:=Tryz.sizeOf34
 v46:=Tryz.zeroValue34
 t105:=Tryz.underlying247
 a105:=Tryz.isAgg247
 z105:=Tryz.sizeOf247
 v105:=Tryz.zeroValue247
 t116:=Tryz.underlying212
 a116:=Tryz.isAgg212
 z116:=Tryz.sizeOf212
 t117:=Tryz.underlying213
 a117:=Tryz.isAgg213
 z117:=Tryz.sizeOf213
 v117:=Tryz.zeroValue213
 t119:=Tryz.underlying296
 a119:=Tryz.isAgg296
 z119:=Tryz.sizeOf296
 t124:=Tryz.underlying216
 a124:=Tryz.isAgg216
 z124:=Tryz.sizeOf216
 v124:=Tryz.zeroValue216
 t138:=Tryz.underlying298
 a138:=Tryz.isAgg298
 z138:=Tryz.sizeOf298
 v138:=Tryz.zeroValue298
 t139:=Tryz.underlying299
 a139:=Tryz.isAgg299
 z139:=Tryz.sizeOf299
 v139:=Tryz.zeroValue299
 g3:=by kernel_rfl
 g4:=by kernel_rfl
def Tryz.ren155:Ren where
 f:=fun x=>match x with|155=>161|154=>208|138=>210|165=>258|143=>168|166=>119|197=>213|169=>75|195=>259|218=>260|240=>159|241=>296|219=>215|260=>261|276=>206|277=>323|217=>263|225=>264|224=>265|267=>266|266=>298|314=>299|n=>n
 t:=fun x=>match x with|9=>9|3=>3|4=>4|72=>118|0=>0|76=>176|105=>247|21=>21|5=>5|70=>115|20=>20|37=>116|75=>175|127=>180|164=>242|46=>34|119=>296|139=>299|138=>298|146=>302|51=>301|80=>123|n=>n
 g:=fun x=>match x with|1=>0|3=>2|4=>3|n=>n
theorem Tryz.lays155:Lays.n155 Tryz.prog Tryz.ren155 where
 mixed:=by kernel_rfl
 f138:=Tryz.func210
 f143:=Tryz.func168
 f154:=Tryz.func208
 f155:=Tryz.func161
 f165:=Tryz.func258
 f166:=Tryz.func119
 f169:=Tryz.func75
 f195:=Tryz.func259
 f197:=Tryz.func213
 f217:=Tryz.func263
 f218:=Tryz.func260
 f219:=Tryz.func215
 f224:=Tryz.func265
 f225:=Tryz.func264
 f240:=Tryz.func159
 f241:=Tryz.func296
 f260:=Tryz.func261
 f266:=Tryz.func298
 f267:=Tryz.func266
 f276:=Tryz.func206
 f277:=Tryz.func323
 f314:=Tryz.func299
 t0:=Tryz.underlying0
 a0:=Tryz.isAgg0
 z0:=Tryz.sizeOf0
 v0:=Tryz.zeroValue0
 t3:=Tryz.underlying3
 a3:=Tryz.isAgg3
 z3:=Tryz.sizeOf3
 v3:=Tryz.zeroValue3
 t4:=Tryz.underlying4
 a4:=Tryz.isAgg4
 z4:=Tryz.sizeOf4
 v4:=Tryz.zeroValue4
 t5:=Tryz.underlying5
 a5:=Tryz.isAgg5
 z5:=Tryz.sizeOf5
 v5:=Tryz.zeroValue5
 t9:=Tryz.underlying9
 a9:=Tryz.isAgg9
 z9:=Tryz.sizeOf9
 v9:=Tryz.zeroValue9
 t20:=Tryz.underlying20
 a20:=Tryz.isAgg20
 z20:=Tryz.sizeOf20
 v20:=Tryz.zeroValue20
 t21:=Tryz.underlying21
 a21:=Tryz.isAgg21
 z21:=Tryz.sizeOf21
 v21:=Tryz.zeroValue21
 t37:=Tryz.underlying116
 a37:=Tryz.isAgg116
 z37:=Tryz.sizeOf116
 v37:=Tryz.zeroValue116
 t46:=Tryz.underlying34
 a46:=Tryz.isAgg34
 z46:=Tryz.sizeOf34
 v46:=Tryz.zeroValue34
 t51:=Tryz.underlying301
 a51:=Tryz.isAgg301
 z51:=Tryz.sizeOf301
 v51:=Tryz.zeroValue301
 t70:=Tryz.underlying115
 a70:=Tryz.isAgg115
 z70:=Tryz.sizeOf115
 v70:=Tryz.zeroValue115
 t72:=Tryz.underlying118
 a72:=Tryz.isAgg118
 z72:=Tryz.sizeOf118
 v72:=Tryz.zeroValue118
 t75:=Tryz.underlying175
 a75:=Tryz.isAgg175
 z75:=Tryz.sizeOf175
 v75:=Tryz.zeroValue175
 t76:=Tryz.underlying176
 a76:=Tryz.isAgg176
 z76:=Tryz.sizeOf176
 v76:=Tryz.zeroValue176
 t105:=Tryz.underlying247
 a105:=Tryz.isAgg247
 z105:=Tryz.sizeOf247
 v105:=Tryz.zeroValue247
 t119:=Tryz.underlying296
 a119:=Tryz.isAgg296
 z119:=Tryz.sizeOf296
 t127:=Tryz.underlying180
 a127:=Tryz.isAgg180
 z127:=Tryz.sizeOf180
 v127:=Tryz.zeroValue180
 t138:=Tryz.underlying298
 a138:=Tryz.isAgg298
 z138:=Tryz.sizeOf298
 v138:=Tryz.zeroValue298
 t139:=Tryz.underlying299
 a139:=Tryz.isAgg299
 z139:=Tryz.sizeOf299
 v139:=Tryz.zeroValue299
 t146:=Tryz.underlying302
 a146:=Tryz.isAgg302
 z146:=Tryz.sizeOf302
 v146:=Tryz.zeroValue302
 t164:=Tryz.underlying242
 a164:=Tryz.isAgg242
 z164:=Tryz.sizeOf242
 v164:=Tryz.zeroValue242
 g1:=by kernel_rfl
 g3:=by kernel_rfl
 g4:=by kernel_rfl
def Tryz.ren174:Ren where
 f:=fun x=>match x with|174=>279|247=>310|245=>311|287=>329|279=>330|280=>331|281=>332|282=>333|321=>341|322=>342|316=>343|171=>345|205=>344|243=>347|246=>257|283=>292|284=>293|285=>294|286=>295|129=>319|317=>318|318=>320|319=>321|320=>322|337=>335|338=>336|n=>n
 t:=fun x=>match x with|9=>9|3=>3|2=>2|75=>175|85=>284|4=>4|167=>321|5=>5|53=>233|175=>322|46=>34|168=>324|37=>116|0=>0|210=>343|21=>21|127=>180|145=>349|143=>347|171=>291|173=>294|212=>315|51=>301|20=>20|213=>316|232=>345|233=>346|80=>123|n=>n
 g:=fun x=>match x with|15=>5|16=>1|17=>4|18=>6|19=>7|n=>n
theorem Tryz.lays174:LaysC.n174 Tryz.prog Tryz.ren174 where
 mixed:=by kernel_rfl
 f129:=Tryz.func319
 f171:=Tryz.func345
 f174:=Tryz.func279
 f205:=Tryz.func344
 f243:=Tryz.func347
 f245:=Tryz.func311
 f246:=Tryz.func257
 f247:=Tryz.func310
 f279:=Tryz.func330
 f280:=Tryz.func331
 f281:=Tryz.func332
 f282:=Tryz.func333
 f283:=Tryz.func292
 f284:=Tryz.func293
 f285:=Tryz.func294
 f286:=Tryz.func295
 f287:=Tryz.func329
 f316:=Tryz.func343
 f317:=Tryz.func318
 f318:=Tryz.func320
 f319:=Tryz.func321
 f320:=Tryz.func322
 f321:=Tryz.func341
 f322:=Tryz.func342
 f337:=Tryz.func335
 f338:=Tryz.func336
 t0:=Tryz.underlying0
 a0:=Tryz.isAgg0
 z0:=Tryz.sizeOf0
 v0:=Tryz.zeroValue0
 t2:=Tryz.underlying2
 a2:=Tryz.isAgg2
 z2:=Tryz.sizeOf2
 v2:=Tryz.zeroValue2
 t3:=Tryz.underlying3
 a3:=Tryz.isAgg3
 z3:=Tryz.sizeOf3
 v3:=Tryz.zeroValue3
 t4:=Tryz.underlying4
 a4:=Tryz.isAgg4
 z4:=Tryz.sizeOf4
 v4:=Tryz.zeroValue4
 t5:=Tryz.underlying5
 a5:=Tryz.isAgg5
 z5:=Tryz.sizeOf5
 v5:=Tryz.zeroValue5
 t9:=Tryz.underlying9
 a9:=Tryz.isAgg9
 z9:=Tryz.sizeOf9
 v9:=Tryz.zeroValue9
 t20:=Tryz.underlying20
 a20:=Tryz.isAgg20
 z20:=Tryz.sizeOf20
 v20:=Tryz.zeroValue20
 t21:=Tryz.underlying21
 a21:=Tryz.isAgg21
 z21:=Tryz.sizeOf21
 v21:=Tryz.zeroValue21
 t37:=Tryz.underlying116
 a37:=Tryz.isAgg116
 z37:=Tryz.sizeOf116
 v37:=Tryz.zeroValue116
 t46:=Tryz.underlying34
 a46:=Tryz.isAgg34
 z46:=Tryz.sizeOf34
 v46:=Tryz.zeroValue34
 t51:=Tryz.underlying301
 a51:=Tryz.isAgg301
 z51:=Tryz.sizeOf301
 v51:=Tryz.zeroValue301
 t53:=Tryz.underlying233
 a53:=Tryz.isAgg233
 z53:=Tryz.sizeOf233
 v53:=Tryz.zeroValue233
 t75:=Tryz.underlying175
 a75:=Tryz.isAgg175
 z75:=Tryz.sizeOf175
 v75:=Tryz.zeroValue175
 t85:=Tryz.underlying284
 a85:=Tryz.isAgg284
 z85:=Tryz.sizeOf284
 v85:=Tryz.zeroValue284
 t127:=Tryz.underlying180
 a127:=Tryz.isAgg180
 z127:=Tryz.sizeOf180
 v127:=Tryz.zeroValue180
 t143:=Tryz.underlying347
 a143:=Tryz.isAgg347
 z143:=Tryz.sizeOf347
 v143:=Tryz.zeroValue347
 t145:=Tryz.underlying349
 a145:=Tryz.isAgg349
 z145:=Tryz.sizeOf349
 v145:=Tryz.zeroValue349
 t167:=Tryz.underlying321
 a167:=Tryz.isAgg321
 z167:=Tryz.sizeOf321
 v167:=Tryz.zeroValue321
 t168:=Tryz.underlying324
 a168:=Tryz.isAgg324
 z168:=Tryz.sizeOf324
 v168:=Tryz.zeroValue324
 t171:=Tryz.underlying291
 a171:=Tryz.isAgg291
 z171:=Tryz.sizeOf291
 v171:=Tryz.zeroValue291
 t173:=Tryz.underlying294
 a173:=Tryz.isAgg294
 z173:=Tryz.sizeOf294
 v173:=Tryz.zeroValue294
 t175:=Tryz.underlying322
 a175:=Tryz.isAgg322
 z175:=Tryz.sizeOf322
 v175:=Tryz.zeroValue322
 t210:=Tryz.underlying343
 a210:=Tryz.isAgg343
 z210:=Tryz.sizeOf343
 v210:=Tryz.zeroValue343
 t212:=Tryz.underlying315
 a212:=Tryz.isAgg315
 z212:=Tryz.sizeOf315
 v212:=Tryz.zeroValue315
 t213:=Tryz.underlying316
 a213:=Tryz.isAgg316
 z213:=Tryz.sizeOf316
 t232:=Tryz.underlying345
 a232:=Tryz.isAgg345
 z232:=Tryz.sizeOf345
 v232:=Tryz.zeroValue345
 t233:=Tryz.underlying346
 a233:=Tryz.isAgg346
 z233:=Tryz.sizeOf346
 v233:=Tryz.zeroValue346
 g15:=by kernel_rfl
 g16:=by kernel_rfl
 g17:=by kernel_rfl
 g18:=by kernel_rfl
 g19:=by kernel_rfl
 t80:=Tryz.underlying123
 a80:=Tryz.isAgg123
 z80:=Tryz.sizeOf123
 v80:=Tryz.zeroValue123
 i0:=by kernel_rfl
 i2:=by kernel_rfl
 i3:=by kernel_rfl
 i4:=by kernel_rfl
 i5:=by kernel_rfl
 i9:=by kernel_rfl
 i20:=by kernel_rfl
 i21:=by kernel_rfl
 i37:=by kernel_rfl
 i46:=by kernel_rfl
 i51:=by kernel_rfl
 i53:=by kernel_rfl
 i75:=by kernel_rfl
 i80:=by kernel_rfl
 i85:=by kernel_rfl
 i127:=by kernel_rfl
 i143:=by kernel_rfl
 i145:=by kernel_rfl
 i167:=by kernel_rfl
 i168:=by kernel_rfl
 i171:=by kernel_rfl
 i173:=by kernel_rfl
 i175:=by kernel_rfl
 i210:=by kernel_rfl
 i212:=by kernel_rfl
 i232:=by kernel_rfl
 i233:=by kernel_rfl
 m15:=by kernel_rfl
 m16:=by kernel_rfl
 m17:=by kernel_rfl
 m18:=by kernel_rfl
 m19:=by kernel_rfl
 c0:=by kernel_rfl
 c2:=by kernel_rfl
 c3:=by kernel_rfl
 c4:=by kernel_rfl
 c5:=by kernel_rfl
 c9:=by kernel_rfl
 c20:=by kernel_rfl
 c21:=by kernel_rfl
 c37:=by kernel_rfl
 c46:=by kernel_rfl
 c51:=by kernel_rfl
 c53:=by kernel_rfl
 c75:=by kernel_rfl
 c80:=by kernel_rfl
 c85:=by kernel_rfl
 c127:=by kernel_rfl
 c143:=by kernel_rfl
 c145:=by kernel_rfl
 c167:=by kernel_rfl
 c168:=by kernel_rfl
 c171:=by kernel_rfl
 c173:=by kernel_rfl
 c175:=by kernel_rfl
 c210:=by kernel_rfl
 c212:=by kernel_rfl
 c213:=by kernel_rfl
 c232:=by kernel_rfl
 c233:=by kernel_rfl
def Tryz.ren173:Ren where
 f:=fun x=>match x with|173=>207|246=>257|283=>292|284=>293|285=>294|286=>295|129=>319|317=>318|318=>320|319=>321|320=>322|337=>335|338=>336|n=>n
 t:=fun x=>match x with|2=>2|3=>3|9=>9|4=>4|171=>291|0=>0|53=>233|37=>116|5=>5|173=>294|212=>315|51=>301|20=>20|213=>316|46=>34|232=>345|233=>346|n=>n
 g:=fun x=>match x with|17=>4|18=>6|19=>7|n=>n
theorem Tryz.lays173:LaysM.n173 Tryz.prog Tryz.ren173 where
 mixed:=by kernel_rfl
 f129:=Tryz.func319
 f173:=Tryz.func207
 f246:=Tryz.func257
 f283:=Tryz.func292
 f284:=Tryz.func293
 f285:=Tryz.func294
 f286:=Tryz.func295
 f317:=Tryz.func318
 f318:=Tryz.func320
 f319:=Tryz.func321
 f320:=Tryz.func322
 f337:=Tryz.func335
 f338:=Tryz.func336
 t0:=Tryz.underlying0
 a0:=Tryz.isAgg0
 z0:=Tryz.sizeOf0
 v0:=Tryz.zeroValue0
 t2:=Tryz.underlying2
 a2:=Tryz.isAgg2
 z2:=Tryz.sizeOf2
 v2:=Tryz.zeroValue2
 t3:=Tryz.underlying3
 a3:=Tryz.isAgg3
 z3:=Tryz.sizeOf3
 v3:=Tryz.zeroValue3
 t4:=Tryz.underlying4
 a4:=Tryz.isAgg4
 z4:=Tryz.sizeOf4
 v4:=Tryz.zeroValue4
 t5:=Tryz.underlying5
 a5:=Tryz.isAgg5
 z5:=Tryz.sizeOf5
 v5:=Tryz.zeroValue5
 t9:=Tryz.underlying9
 a9:=Tryz.isAgg9
 z9:=Tryz.sizeOf9
 v9:=Tryz.zeroValue9
 t20:=Tryz.underlying20
 a20:=Tryz.isAgg20
 z20:=Tryz.sizeOf20
 v20:=Tryz.zeroValue20
 t37:=Tryz.underlying116
 a37:=Tryz.isAgg116
 z37:=Tryz.sizeOf116
 v37:=Tryz.zeroValue116
 t46:=Tryz.underlying34
 a46:=Tryz.isAgg34
 z46:=Tryz.sizeOf34
 v46:=Tryz.zeroValue34
 t51:=Tryz.underlying301
 a51:=Tryz.isAgg301
 z51:=Tryz.sizeOf301
 v51:=Tryz.zeroValue301
 t53:=Tryz.underlying233
 a53:=Tryz.isAgg233
 z53:=Tryz.sizeOf233
 v53:=Tryz.zeroValue233
 t171:=Tryz.underlying291
 a171:=Tryz.isAgg291
 z171:=Tryz.sizeOf291
 v171:=Tryz.zeroValue291
 t173:=Tryz.underlying294
 a173:=Tryz.isAgg294
 z173:=Tryz.sizeOf294
 v173:=Tryz.zeroValue294
 t212:=Tryz.underlying315
 a212:=Tryz.isAgg315
 z212:=Tryz.sizeOf315
 v212:=Tryz.zeroValue315
 t213:=Tryz.underlying316
 a213:=Tryz.isAgg316
 z213:=Tryz.sizeOf316
 t232:=Tryz.underlying345
 a232:=Tryz.isAgg345
 z232:=Tryz.sizeOf345
 v232:=Tryz.zeroValue345
 t233:=Tryz.underlying346
 a233:=Tryz.isAgg346
 z233:=Tryz.sizeOf346
 v233:=Tryz.zeroValue346
 g17:=by kernel_rfl
 g18:=by kernel_rfl
 g19:=by kernel_rfl
 i0:=by kernel_rfl
 i2:=by kernel_rfl
 i3:=by kernel_rfl
 i4:=by kernel_rfl
 i5:=by kernel_rfl
 i9:=by kernel_rfl
 i20:=by kernel_rfl
 i37:=by kernel_rfl
 i46:=by kernel_rfl
 i51:=by kernel_rfl
 i53:=by kernel_rfl
 i171:=by kernel_rfl
 i173:=by kernel_rfl
 i212:=by kernel_rfl
 i232:=by kernel_rfl
 i233:=by kernel_rfl
 m17:=by kernel_rfl
 m18:=by kernel_rfl
 m19:=by kernel_rfl
def Tryz.ren137:Ren where
 f:=fun x=>match x with|137=>253|217=>263|266=>298|n=>n
 t:=fun x=>match x with|9=>9|5=>5|3=>3|n=>n
 g:=fun x=>x
theorem Tryz.lays137:Lays.n137 Tryz.prog Tryz.ren137 where
 mixed:=by kernel_rfl
 f137:=Tryz.func253
 f217:=Tryz.func263
 f266:=Tryz.func298
 t3:=Tryz.underlying3
 a3:=Tryz.isAgg3
 z3:=Tryz.sizeOf3
 v3:=Tryz.zeroValue3
 t5:=Tryz.underlying5
 a5:=Tryz.isAgg5
 z5:=Tryz.sizeOf5
 v5:=Tryz.zeroValue5
 t9:=Tryz.underlying9
 a9:=Tryz.isAgg9
 z9:=Tryz.sizeOf9
 v9:=Tryz.zeroValue9
def Tryz.ren264:Ren where
 f:=fun x=>match x with|264=>304|n=>n
 t:=fun x=>match x with|53=>233|46=>34|n=>n
 g:=fun x=>x
theorem Tryz.lays264:Lays.n264 Tryz.prog Tryz.ren264 where
 mixed:=by kernel_rfl
 f264:=Tryz.func304
 t46:=Tryz.underlying34
 a46:=Tryz.isAgg34
 z46:=Tryz.sizeOf34
 v46:=Tryz.zeroValue34
 t53:=Tryz.underlying233
 a53:=Tryz.isAgg233
 z53:=Tryz.sizeOf233
 v53:=Tryz.zeroValue233
def Tryz.ren106:Ren where
 f:=fun x=>match x with|106=>272|213=>303|265=>327|n=>n
 t:=fun x=>match x with|9=>9|3=>3|n=>n
 g:=fun x=>x
theorem Tryz.lays106:Lays.n106 Tryz.prog Tryz.ren106 where
 mixed:=by kernel_rfl
 f106:=Tryz.func272
 f213:=Tryz.func303
 f265:=Tryz.func327
 t3:=Tryz.underlying3
 a3:=Tryz.isAgg3
 z3:=Tryz.sizeOf3
 v3:=Tryz.zeroValue3
 t9:=Tryz.underlying9
 a9:=Tryz.isAgg9
 z9:=Tryz.sizeOf9
 v9:=Tryz.zeroValue9

end Go.Proofs
namespace Go.SX.Nb
open Go Go.SX Go.Proofs Go.RowKit
variable [ErrAt]
set_option maxRecDepth 4000
theorem Nu {w:World} (h:Jw w):∃m,w.cell? ⟨0,0,none⟩=some (.int .i64 m):=by
 obtain ⟨_,a,m,t,f,rfl⟩:=h (0,fun o=>∃m t f,o=.cells #[.int .i64 m] t f) (by simp [GlobInv.blocks,X9])
 exact ⟨m,by simp [World.cell?,a]⟩
theorem S6 {w:World} (h:Jw w):w.cell? ⟨1,0,none⟩=some (.iface 347 (.pointer (some ErrAt.b))):=by
 obtain ⟨_,a,t,f,rfl⟩:=h (1,fun o=>∃t f,o=.cells #[.iface 347 (.pointer (some ErrAt.b))] t f) (by simp [GlobInv.blocks,X9])
 simp [World.cell?,a]
theorem td {w:World} (h:Jw w):Lib.TabIs Tryz.prog w "internal/strconv.uint64pow10" .u64 Lib.pow10Tab:=by
 obtain ⟨_,a,t,f,rfl⟩:=h (4,fun o=>∃t f,o=.cells (Lib.pow10Tab.map fun z=>Value.int .u64 z).toArray t f) (by simp [GlobInv.blocks,X9])
 have hg:Tryz.prog.globalNamed "internal/strconv.uint64pow10" = some 4:=by kernel_rfl
 simp only at a
 simp [Lib.TabIs,World.var?,hg,a]
theorem c6 (w:World) (n:Nat):Below w.heap.size w (w.drewN n):=⟨rfl,rfl,rfl,Ae _,fun _ _=>rfl⟩
theorem nl (s t:Str) (hs:s.length<4294967281) (Hp:List AObj):AFun Tryz.prog 131 [Ad s,Ad t] Hp (Bm (Lib.contains s t)):=by
 refine Kg (xs:=[sv s,sv t]) (v:=.bool (Lib.contains s t)) (fun G w=>.v _ _) (fun w hg=>?_)
 obtain ⟨m,hm⟩:=Nu hg
 refine (Any.strings_Contains Tryz.lays144 ⟨s.toArray⟩ ⟨t.toArray⟩ m w (by simpa [ByteArray.size] using hs) hm).mono ?_
 rintro e w' ⟨rfl,rfl⟩
 exact nf
theorem AEk (s t:Str) (hs:s.length<4294967281) (Hp:List AObj):AFun Tryz.prog 163 [Ad s,Ad t] Hp (.tup [Ad (Lib.cut s t).1,Ad (Lib.cut s t).2.1,Bm (Lib.cut s t).2.2]):=by
 refine Kg (xs:=[sv s,sv t]) (v:=.tuple #[sv (Lib.cut s t).1,sv (Lib.cut s t).2.1,.bool (Lib.cut s t).2.2]) (fun G w=>Lq rfl (fun i y u hy hu=>?_)) (fun w hg=>?_)
 ·match i with
  | 0=>simp at hy hu;subst hy;subst hu;exact .v _ _
  | 1=>simp at hy hu;subst hy;subst hu;exact .v _ _
  | 2=>simp at hy hu;subst hy;subst hu;exact .v _ _
  | i+3=>simp at hy
 obtain ⟨m,hm⟩:=Nu hg
 refine (Any.strings_Cut Tryz.lays145 ⟨s.toArray⟩ ⟨t.toArray⟩ m w (by simpa [ByteArray.size] using hs) hm).mono ?_
 rintro e w' ⟨rfl,n,rfl⟩
 exact ⟨rfl,c6 _ _⟩
theorem AFu (s t:Str) (ht:t.length<4294967281) (ha:∀c∈t,c.toNat<128) (Hp:List AObj):AFun Tryz.prog 130 [Ad s,Ad t] Hp (Ad (Lib.trimLeftS s t)):=by
 refine Kg (xs:=[sv s,sv t]) (v:=sv (Lib.trimLeftS s t)) (fun G w=>.v _ _) (fun w hg=>?_)
 refine (Any.strings_TrimLeft_laid Tryz.lays161 (by kernel_rfl) ⟨s.toArray⟩ ⟨t.toArray⟩ w (by simpa [ByteArray.size] using ht) (fun j b hj=>ha b (Ar hj))).mono ?_
 rintro e w' ⟨rfl,hb⟩
 exact ⟨rfl,hb⟩
/-- The pieces of a split. -/
def Mz (s t:Str):List Str:=(Lib.splitB ⟨t.toArray⟩ 0 (Lib.countB ⟨s.toArray⟩ ⟨t.toArray⟩) ⟨s.toArray⟩).map (·.data.toList)
theorem ABk (s t:Str) (hs:s.length<4294967281) (ht:1≤t.length) (Hp:List AObj):AFun Tryz.prog 122 [Ad s,Ad t] Hp (Ft (Mz s t)):=by
 have:=AFun.libSlice (P:=Tryz.prog) (g:=122) (Hp:=Hp) (xs:=[sv s,sv t]) (ys:=(Mz s t).map sv) (t:=9) (by intro y hy;obtain ⟨z,_,rfl⟩:=C1.1 hy;rfl) (fun w hg=>by
  obtain ⟨m,hm⟩:=Nu hg
  refine (Any.strings_Split Tryz.lays146 (by kernel_rfl) ⟨s.toArray⟩ ⟨t.toArray⟩ m w (by simpa [ByteArray.size] using hs) hm (by simpa [ByteArray.size] using ht)).mono ?_
  rintro e w' ⟨rfl,rfl⟩
  have hl:((Mz s t).map sv).length=Lib.countB ⟨s.toArray⟩ ⟨t.toArray⟩+1:=by
   rw [Aw]
   unfold Mz
   rw [Aw]
   exact Lib.splitB_all _ (by simpa [ByteArray.size] using ht) _ _ _ rfl
  refine ⟨by rw [hl],?_⟩
  unfold Mz
  rw [Ig]
  rfl)
 rw [Ig] at this
 exact this
end Go.SX.Nb
namespace Go.Proofs
open Go Go.RowKit Go.Extern.Stop Go.Stop Go.Extern
theorem Tryz.isTypeOf (v:Value) (w:World):(Extern.ReflectliteType.typeOf #[.iface 347 v]).run Tryz.prog w=.ok (.iface 328 (.agg #[.pointer (some ⟨8,347,none⟩)])) w:=by kernel_rfl
def Tryz.cmpOf:Array Value→Sem Value:=Extern.ReflectliteType.method fun t=>do Extern.Rtype.noPackHeld "Comparable" t;pure (.bool (←typeInfo t).comparable)
theorem Tryz.isComparable (w:World):(Tryz.cmpOf #[.agg #[.pointer (some ⟨8,347,none⟩)]]).run Tryz.prog w=.ok (.bool true) w:=by kernel_rfl
theorem Tryz.isMethodComparable (v:Value) (w:World):(Go.method 480 328 v "Comparable").run Tryz.prog w=.ok (374,v) w:=by kernel_rfl
theorem Tryz.isComp:(Tryz.prog.info? 347).map (·.comparable)=some true:=by kernel_rfl
theorem Tryz.isSize:(Tryz.prog.info? 349).map (·.size)=some 1:=by kernel_rfl
theorem Tryz.noIsW (v:Value) (xT:TypeId) (w:World):(Instr.typeAssert (.iface 324 v) xT 330 true).run Tryz.prog w=.ok (.tuple #[.nilIface,.bool false]) w:=run_typeAssert_lacksB Tryz.underlying330 (by kernel_rfl) (by kernel_rfl) v xT w
theorem Tryz.hasUnwrapW (v:Value) (xT:TypeId) (w:World):(Instr.typeAssert (.iface 324 v) xT 333 true).run Tryz.prog w=.ok (.tuple #[.iface 324 v,.bool true]) w:=run_typeAssert_hasB Tryz.underlying333 (by kernel_rfl) v xT w
theorem Tryz.methodUnwrap (v:Value) (w:World):(Go.method 480 324 v "Unwrap").run Tryz.prog w=.ok (370,v) w:=by kernel_rfl
namespace Tryz
theorem is_nil (b:Addr) (w:World):
  Calls Tryz.prog 280 #[.nilIface,.iface 347 (.pointer (some b))] w fun e w'=>e=.returned (.bool false)∧w'=w:=by
 have hn:=run_eql_iface_nil_left (P:=Tryz.prog) w 347 (.pointer (some b)) Tryz.underlying175
 go_enter Tryz.func280,Tryz.ntmps280
 go_wp2
 go_ret
 exact ⟨rfl,rfl⟩
set_option maxRecDepth 100000 in
theorem is_range (pb po:Nat) (b:Addr) (w:World) (h1:w.cell? ⟨pb,po+2,none⟩=some (.iface 347 (.pointer (some b)))):
  Calls Tryz.prog 280 #[.iface 324 (.pointer (some ⟨pb,po,none⟩)),.iface 347 (.pointer (some b))] w fun e w'=>e=.returned (.bool true)∧w'=w:=by
 obtain ⟨i,hi,hcmp⟩:=Option.map_eq_some_iff.1 Tryz.isComp
 obtain ⟨j,hj,hjs⟩:=Option.map_eq_some_iff.1 Tryz.isSize
 have h8:=@run_callFunc_extern Tryz.prog 312 _ Extern.ReflectliteType.typeOf Tryz.func312 (by kernel_rfl) (by kernel_rfl) (by kernel_rfl) (by kernel_rfl)
 have h32:=@run_callFunc_extern Tryz.prog 374 _ Tryz.cmpOf Tryz.func374 (by kernel_rfl) (by kernel_rfl) (by kernel_rfl) (by kernel_rfl)
 have tT:=Tryz.isTypeOf
 have cT:=Tryz.isComparable
 have mR:=Tryz.isMethodComparable
 have nW:=Tryz.noIsW
 have uW:=Tryz.hasUnwrapW
 have mU:=Tryz.methodUnwrap
 have heq:=run_eql_iface_ptr_same (P:=Tryz.prog) w b Tryz.underlying175 Tryz.underlying347 hi hcmp hj
 have hty:=run_eql_iface_types (P:=Tryz.prog) 324 347 (.pointer (some ⟨pb,po,none⟩)) (.pointer (some b)) Tryz.underlying175 (by decide) w
 go_enter Tryz.func280,Tryz.ntmps280
 go_wp2
 refine wp_loop_rounds 2 ?_
 rw [rounds_succ]
 go_wp2
 rw [rounds_succ]
 go_wp2
 go_ret
 exact ⟨rfl,rfl⟩
end Tryz
end Go.Proofs
namespace Go.SX.Nb
open Go Go.SX Go.Proofs Go.RowKit Go.Sort
variable [ErrAt]
set_option maxRecDepth 4000
theorem AFv (s t:Str) (Hp:List AObj):AFun Tryz.prog 288 [Ad s,Ad t] Hp (Bm (Lib.hasPrefix s t)):=by
 refine Kg (xs:=[sv s,sv t]) (v:=.bool (Lib.hasPrefix s t)) (fun G w=>.v _ _) (fun w hg=>?_)
 refine (Any.strings_HasPrefix Tryz.lays99 ⟨s.toArray⟩ ⟨t.toArray⟩ w).mono ?_
 rintro e w' ⟨rfl,rfl⟩
 exact nf
theorem AFw (s t:Str) (hs:s.length≤9223372036854775807) (Hp:List AObj):AFun Tryz.prog 289 [Ad s,Ad t] Hp (Bm (Lib.hasSuffix s t)):=by
 refine Kg (xs:=[sv s,sv t]) (v:=.bool (Lib.hasSuffix s t)) (fun G w=>.v _ _) (fun w hg=>?_)
 refine (Any.strings_HasSuffix Tryz.lays100 ⟨s.toArray⟩ ⟨t.toArray⟩ w (by simpa [ByteArray.size] using hs)).mono ?_
 rintro e w' ⟨rfl,rfl⟩
 exact nf
theorem AFx (s:Str) (c:UInt8) (Hp:List AObj):AFun Tryz.prog 253 [Ad s,.v (.int .u8 (c.toNat:Int))] Hp (A4 (Lib.indexByte s c)):=by
 refine Kg (xs:=[sv s,.int .u8 (c.toNat:Int)]) (v:=.int .i64 (Lib.indexByte s c)) (fun G w=>.v _ _) (fun w hg=>?_)
 refine (Any.strings_IndexByte Tryz.lays137 ⟨s.toArray⟩ (c.toNat:Int) w).mono ?_
 rintro e w' ⟨rfl,rfl⟩
 exact ⟨by simp,Below.refl _ _⟩
theorem AFy:Builder.Extra Tryz.prog Tryz.ren155:={ sizeBuilder:=by kernel_rfl,liesBuilder:=by kernel_rfl,t5:=Tryz.underlying5,a5:=Tryz.isAgg5,z5:=Tryz.sizeOf5,v5:=Tryz.zeroValue5,infoByte:=by kernel_rfl,cellsByte:=by kernel_rfl,sizeByte:=by kernel_rfl,neB5:=by decide }
theorem AEl (s o n:Str) (hs:s.length<4294967281) (ho:1≤o.length) (hl:s.length+Lib.countB ⟨s.toArray⟩ ⟨o.toArray⟩*n.length≤140737488355328) (Hp:List AObj):AFun Tryz.prog 161 [Ad s,Ad o,Ad n] Hp (Ad (Lib.replaceAll s o n)):=by
 refine Kg (xs:=[sv s,sv o,sv n]) (v:=sv (Lib.replaceAll s o n)) (fun G w=>.v _ _) (fun w hg=>?_)
 obtain ⟨m,hm⟩:=Nu hg
 refine (Any.strings_ReplaceAll Tryz.lays155 AFy ⟨s.toArray⟩ ⟨o.toArray⟩ ⟨n.toArray⟩ m w (by simpa [ByteArray.size] using hs) hm (by simpa [ByteArray.size] using ho) (by simpa [ByteArray.size] using hl)).mono ?_
 rintro e w' ⟨rfl,hb⟩
 exact ⟨rfl,hb⟩
theorem gm (w:World) (k:Nat) (os:Array Obj):Below w.heap.size w (grow (w.drewN k) os):=by
 refine ⟨rfl,rfl,rfl,by simp [grow],fun b hb=>?_⟩
 show ((w.drewN k).heap++os)[b]? = w.heap[b]?
 rw [Jk (by exact hb)]
 rfl
theorem AFz (n:Int) (h0 : -9223372036854775808≤n) (h1:n≤9223372036854775807) (Hp:List AObj):AFun Tryz.prog 207 [.v (.int .i64 n),A4 10] Hp (Ad (Lib.itoa n)):=by
 refine Kg (xs:=[.int .i64 n,.int .i64 10]) (v:=sv (Lib.itoa n)) (fun G w=>.v _ _) (fun w hg=>?_)
 refine (Any.strconv_FormatInt_10 Tryz.lays173 n h0 h1 w (td hg)).mono ?_
 rintro e w' ⟨rfl,k,os,rfl⟩
 exact ⟨rfl,gm _ _ _⟩
end Go.SX.Nb
namespace Go.SX.Nb
open Go Go.SX Go.Proofs Go.RowKit
variable [ErrAt]
set_option maxRecDepth 4000
def digs:Str:=[48,49,50,51,52,53,54,55,56,57]
def S7 (s:Str):Str:=Lib.trimPrefix s [45]
def Jx (s:Str):Bool:=(S7 s==[]) || !(Lib.trimS (S7 s) digs==[]) || (((S7 s).headD 0==48)&&decide (1<s.length))
def Ca (s:Str):Int×Int:=if Jx s then (0,6) else match Lib.parseIntB 64 s with|.ok v=>(v,0)|.range=>(0,4)|_=>(0,0)
def yd {α:Type}:Lib.NumEnd α→Bool|.ok _=>false|.range=>false|_=>true
theorem tg {p:UInt8→Bool}:∀{l:Str},l.dropWhile p=[]↔∀b∈l,p b=true
 | []=>by simp
 | b::r=>by
  rw [Qn]
  by_cases h:p b=true
  ·rw [if_pos h,tg]
   simp [h]
  rw [if_neg h]
  simp [h]
theorem th {p:UInt8→Bool}:∀{l:Str} {b:UInt8},b∈l→p b=false→b∈l.dropWhile p
 | x::r,b,h,hb=>by
  rw [Qn]
  by_cases hx:p x=true
  ·rw [if_pos hx]
   rcases Bg.1 h with rfl|h
   ·rw [hb] at hx;cases hx
   exact th h hb
  rw [if_neg hx];exact h
theorem Xa {l cs:Str}:Lib.trimS l cs=[]↔∀b∈l,cs.contains b=true:=by
 unfold Lib.trimS Lib.trimLeftS Lib.trimRightS
 rw [tg]
 constructor
 ·intro h b hb
  cases hc:cs.contains b with
  | true=>rfl
  | false =>
   have:=h b (T6.2 (th (p:=(cs.contains ·)) (T6.2 hb) hc))
   rw [hc] at this;exact this
 intro h b hb
 exact h b (T6.1 ((et (cs.contains ·)).subset (T6.1 hb)))
theorem Ob (c:UInt8):digs.contains c=(decide (48≤c.toNat)&&decide (c.toNat≤57)):=by
 have h:((List.range 256).all fun n=>digs.contains (UInt8.ofNat n)==(decide (48≤(UInt8.ofNat n).toNat)&&decide ((UInt8.ofNat n).toNat≤57)))=true:=by kernel_rfl
 have:=At.1 h c.toNat (Np.2 c.toNat_lt)
 simpa using this
theorem Xb (M:Nat):∀(l:Str) (acc:Nat),(∀b∈l,digs.contains b=true)→yd (Lib.parseUintM M acc l)=false
 | [],acc,_=>by rw [Lib.parseUintM];rfl
 | c::r,acc,h=>by
  have hc:=h c (by simp)
  rw [Ob] at hc
  simp only [Ao,decide_eq_true_eq] at hc
  rw [Lib.parseUintM,if_pos hc]
  split
  ·rfl
  split
  ·rfl
  exact Xb M r _ (fun b hb=>h b (by simp [hb]))
theorem S8 (s:Str):(s.head? ≠ some 45∧S7 s=s)∨∃r,s=45::r∧S7 s=r:=by
 unfold S7 Lib.trimPrefix Lib.hasPrefix
 cases s with
 | nil=>exact .inl ⟨by simp,rfl⟩
 | cons c r =>
  by_cases hc:c=45
  ·subst hc;exact .inr ⟨r,rfl,by simp [List.isPrefixOf]⟩
  refine .inl ⟨by simpa using hc,?_⟩
  rw [if_neg]
  simp [List.isPrefixOf,Ne.symm hc]
theorem N0 {s:Str} (h:Jx s=false):yd (Lib.parseIntB 64 s)=false:=by
 unfold Jx at h
 simp only [Eo,Mg,beq_iff_eq,beq_eq_false_iff_ne] at h
 obtain ⟨⟨h1,h2⟩,_⟩:=h
 rw [Xa] at h2
 have key:∀l:Str,l≠[]→(∀b∈l,digs.contains b=true)→yd (Lib.parseUintB 64 l)=false:=fun l hl ha=>by
  unfold Lib.parseUintB
  rw [if_neg hl]
  exact Xb _ l 0 ha
 rcases S8 s with ⟨h3,h4⟩|⟨r,rfl,h4⟩
 ·rw [h4] at h1 h2
  cases s with
  | nil=>exact absurd rfl h1
  | cons c r =>
   have hcd:=h2 c (by simp)
   rw [Ob] at hcd
   simp only [Ao,decide_eq_true_eq] at hcd
   have e1:¬(c.toNat=43∨c.toNat=45):=by omega
   have:=key (c::r) (by simp) h2
   simp only [Lib.parseIntB,if_neg e1]
   revert this
   cases Lib.parseUintB 64 (c::r) with
   | range=>intro _;rfl
   | ok u=>intro _;simp only;split<;>(try split)<;>rfl
   | _=>intro h;cases h
 rw [h4] at h1 h2
 have:=key r h1 h2
 have e1:((45:UInt8).toNat=43∨(45:UInt8).toNat=45):=.inr rfl
 simp only [Lib.parseIntB,if_pos e1]
 revert this
 cases Lib.parseUintB 64 r with
 | range=>intro _;rfl
 | ok u=>intro _;simp only;split<;>(try split)<;>rfl
 | _=>intro h;cases h
end Go.SX.Nb
namespace Go.SX.Nb
open Go Go.SX Go.Proofs
variable [ErrAt]
set_option maxRecDepth 4000
def Lw (c:UInt8):Bool:=decide ((97:Int)≤c.toNat)&&decide ((c.toNat:Int)≤122)
def ABl (c:UInt8):Bool:=decide ((48:Int)≤c.toNat)&&decide ((c.toNat:Int)≤57)
def words:List Str:=[[97,100,100],[100,114,111,112],[114,101,110,97,109,101],[115,112,108,105,116],[109,101,114,103,101],[114,101,116,121,112,101],[105,110,116,111],[116,111],[98,97,99,107],[97,110,100],[111,114],[110,111,116],[116,114,117,101],[102,97,108,115,101],[110,117,108,108],[105,110,116],[116,101,120,116],[98,111,111,108],[115,101,108,101,99,116],[119,104,101,114,101],[102,114,111,109],[108,105,109,105,116]]
def R0 (s:Str):Bool:=words.any (·==s)
theorem Gc {α:Type} {l:List α} {x:Nat} {p:α→Prop} (hlt:x<l.length) (h:∀(j:Nat) (y:α),j<x→l[j]? = some y→p y) (hx:p l[x]):∀(j:Nat) (y:α),j<x+1→l[j]? = some y→p y:=by
 intro j y hj hy
 rcases B3 j x with h'|h'
 ·exact h j y h' hy
 have:j=x:=by omega
 subst this
 rw [Aa hlt] at hy
 injection hy with hy
 subst hy
 exact hx
theorem Ua {α:Type} {l:List α} {x:Nat} {p:α→Prop} (hge:l.length≤x) (h:∀(j:Nat) (y:α),j<x→l[j]? = some y→p y):∀(j:Nat) (y:α),l[j]? = some y→p y:=
 fun j y hy=>h j y (by have:=(Ab.1 hy).1;omega) hy
def Ub (c:UInt8):Bool:=Lw c || ABl c || c==95
def Pr (s:Str):Bool:=match s with
 | []=>false
 | c::_=>decide (s.length≤16)&&Lw c && !R0 s&&s.all Ub
theorem Xc {s:Str} (h:s≠[]):s[0]? = some (s.headD 0):=by cases s with
 | nil=>exact absurd rfl h
 | cons c r=>rfl
def Be (nm:Str) (c:List Col):Int:=match c.findIdx? (fun y=>y.name==nm) with|some i=>i|none => -1
theorem c7 {nm:List UInt8} {c:List Col} {x:Nat} (h:x<c.length) (h1:c[x].name=nm) (h2:∀(j:Nat) (y:Col),j<x→c[j]? = some y→¬(y.name=nm)):Be nm c=x:=by
 have:c.findIdx? (fun y=>y.name==nm)=some x:=by
  rw [Mh]
  exact ⟨h,by simpa using h1,fun j hj=>by simpa using h2 j c[j] hj (Aa _)⟩
 simp [Be,this]
theorem gn {nm:List UInt8} {c:List Col} (h:∀(j:Nat) (y:Col),c[j]? = some y→¬(y.name=nm)):Be nm c = -1:=by
 have:c.findIdx? (fun y=>y.name==nm)=none:=by
  rw [Qq]
  intro y hy
  obtain ⟨j,hj⟩:=Cc hy
  simpa using h j y hj
 simp [Be,this]
structure OkCols (c:List Col):Prop where
 len:c.length≤1048576
 names:∀y∈c,y.name.length≤1048576
def kb (c:List Col) (x:Nat) (y:Col):Bool := !(((!Pr y.name || decide (y.kind<1)) || decide ((3:Int)<y.kind)) || (Be y.name c != (x:Int)))
def Iw (c:List Col):Bool:=c.zipIdx.all fun x=>kb c x.2 x.1
theorem gq {c:List Col}:Iw c=true↔∀(j:Nat) (y:Col),c[j]? = some y→kb c j y=true:=by
 unfold Iw
 rw [At]
 constructor
 ·intro h j y hj
  exact AE0
 rintro h ⟨y,j⟩ hx
 rw [K8] at hx
 exact h j y hx
theorem Lx {α:Type} {l:List α} {x:Nat} {p:Nat→α→Prop} (hlt:x<l.length) (h:∀(j:Nat) (y:α),j<x→l[j]? = some y→p j y) (hx:p x l[x]):∀(j:Nat) (y:α),j<x+1→l[j]? = some y→p j y:=by
 intro j y hj hy
 rcases B3 j x with h'|h'
 ·exact h j y h' hy
 have:j=x:=by omega
 subst this
 rw [Aa hlt] at hy
 injection hy with hy
 subst hy
 exact hx
theorem Nv {α:Type} {l:List α} {x:Nat} {p:Nat→α→Prop} (hge:l.length≤x) (h:∀(j:Nat) (y:α),j<x→l[j]? = some y→p j y):∀(j:Nat) (y:α),l[j]? = some y→p j y:=
 fun j y hy=>h j y (by have:=(Ab.1 hy).1;omega) hy
def E6 (c:List Col):Bool:=decide ((c.length:Int)≤12)&&Iw c
def Dm (v:Val):Bool:=if v.kind==0 then v.n==0&&v.s==[] else if v.kind==1 then v.s==[] else if v.kind==2 then v.n==0&&decide ((v.s.length:Int)≤200) else v.kind==3&&v.s==[]&&decide (0≤v.n)&&decide (v.n≤1)
theorem ABm (e:Bool) (n:Int):(e&&(n==0 || n==1))=(e&&decide (0≤n)&&decide (n≤1)):=by
 cases e
 ·rfl
 rw [Tj]
 simp
 omega
theorem c37 (v:Val) (Hp:List AObj):AFun Tryz.prog 37 [Ba v] Hp (Bm (Dm v)):=by
 refine Ah [.tmp 2] [0] Tryz.func37 Tryz.ntmps37 (fun d=>?_)
 refine E5 ?_;refine R.box ?_;refine A5 ?_;refine A2 [1] ?_;refine Z29 ?_;refine A2 [1,4] ?_;refine Z92 ?_;refine A2 [1,4,5] ?_
 refine A3 (fun ht5=>?_) (fun ht5=>?_)
 ·refine ABb ?_
  refine A5 (h:=Mt Wm (Im v.kind v.n 0 0 v.s [])) (hr:=?_)
  refine A5 ?_;refine Z4 ?_;refine Z5 ?_;exact A8 (Aj A6) ⟨by simp [Dm,ht5],rfl⟩
 refine Z1 ?_;refine A2 [1,4,10] ?_
 refine A3 (fun ht10=>?_) (fun ht10=>?_)
 ·refine Z19 ?_;refine Z4 ?_;refine Z5 ?_;exact A8 (Aj A6) ⟨by simp [Dm,ht5,ht10],rfl⟩
 refine Z1 ?_;refine A2 [1,4,15] ?_
 refine A3 (fun ht15=>?_) (fun ht15=>?_)
 ·refine Z19 ?_;refine Z10 ?_;refine Z91 ?_;refine Z5 ?_;exact A8 (Aj A6) ⟨by simp [Dm,ht5,ht10,ht15],rfl⟩
 refine Z1 ?_;refine A2 [1,26] ?_
 refine A3 (fun ht26=>?_) (fun ht26=>?_)
 ·refine Z19 ?_;refine Wi ?_;refine Z10 ?_;refine Z91 ?_;refine Z5 ?_;exact A8 (Aj A6) ⟨by simp [Dm,ht5,ht10,ht15,ht26];rw [ABm],rfl⟩
 refine Z17 ?_;refine Z61 ?_;exact A8 (Aj A6) ⟨by simp [Dm,ht5,ht10,ht15,ht26],rfl⟩

def Kh (c:List Col):Bool:=decide ((50:Int)<c.length) || c.any fun y=>decide ((100:Int)<y.name.length)
theorem AEm {α:Type} [DecidableEq α] {a b:List α} (h:((a.length:Int) != b.length)=true):decide (a=b)=false:=by
 rw [decide_eq_false_iff_not]
 rintro rfl
 simp at h
theorem AG0 {α:Type} [DecidableEq α] {a b:List α} {x:Nat} (h1:x<a.length) (h2:x<b.length) (h:a[x]≠b[x]):decide (a=b)=false:=by
 rw [decide_eq_false_iff_not]
 rintro rfl
 exact h rfl
theorem AEn {α β:Type} {a:List α} {b:List β} (hl:((a.length:Int) != b.length)=false):a.length=b.length:=by simp at hl;omega
theorem AEo {α:Type} [DecidableEq α] {a b:List α} (hl:((a.length:Int) != b.length)=false) (h:∀(j:Nat) (y:α),a[j]? = some y→b[j]? = some y):decide (a=b)=true:=by
 rw [decide_eq_true_eq]
 have hl':a.length=b.length:=AEn hl
 apply Lj fun i=>?_
 cases hi:a[i]? with
 | some y=>exact (h i y hi).symm
 | none=>rw [f9] at hi;exact (Ex (by omega)).symm
theorem ABn {α β γ δ:Type} {a:List α} {b:List β} {f:α→γ} {g:β→δ} (hl:(((a.map f).length:Int) != (b.map g).length)=false):a.length=b.length:=by simp at hl;omega
theorem kc {a b:Val}:(a.kind==b.kind&&a.n==b.n&&a.s==b.s)=decide (a=b):=by
 rw [Tj]
 cases a;cases b
 simp [and_assoc]
theorem Oy {α:Type} {c:List α} {p:Nat→α→Bool}:(c.zipIdx.all fun x=>p x.2 x.1)=true↔∀(j:Nat) (y:α),c[j]? = some y→p j y=true:=by
 rw [At]
 constructor
 ·intro h j y hj
  exact AE0
 rintro h ⟨y,j⟩ hx
 rw [K8] at hx
 exact h j y hx
theorem AG1 (y:Col) (nm:Str) (Hp:List AObj):AFun Tryz.prog 105 [Bs y,.ro [Ad nm]] Hp (Bm (y.name==nm)):=by
 refine Ah [.tmp 3] [0,1] Tryz.func105 Tryz.ntmps105 (fun d=>?_)
 refine Z1 ?_;refine A2 [1,2] ?_;refine Z19 ?_;refine A5 ?_;refine A2 [3] ?_;refine Ep ?_;exact gh

theorem AG2 (c:List Col) (hc:OkCols c) (nm:Str) (Hp:List AObj):AFun Tryz.prog 104 [Aq c,.fn (.func 105) [] [.ro [Ad nm]]] Hp (A4 (Be nm c)):=by
 refine Ah [.tmp 4] [0,1] Tryz.func104 Tryz.ntmps104 (fun d=>?_)
 refine Z53 ?_;refine sd ?_
 refine D7 (α:=Nat) (fun x=>⟨19,A7 0 (Aq c) (A7 1 (.fn (.func 105) [] [.ro [Ad nm]]) (A7 7 (A4 c.length) (A7 8 (A4 (x:Nat)) (fun _=>.any)))),Hp,[],[],none⟩) (fun x=>x≤c.length∧∀(j:Nat) (y:Col),j<x→c[j]? = some y→¬(y.name=nm)) (fun x=>c.length-x) (0) (by simp) (Cp (by simp)) rfl (fun x hx=>?_)
 refine sc ?_
 refine Dl (fun ht9=>?_) (fun ht9=>?_)
 ·have hlt:x<c.length:=by simpa using ht9
  have hcl:=hc.len
  refine Zm ?_;refine sb ?_
  refine A5 (h:=Ak (x) (Bs c[x]) (fun _=>Bk hlt)) (hr:=?_)
  refine A5 ?_;refine R.callV Tryz.call105 (AG1 c[x] nm _) ?_;refine so ?_
  refine A3 (fun ht16=>?_) (fun ht16=>?_)
  ·refine nb ?_;refine Z62 ?_;exact A8 (Aj A6) ⟨by rw [c7 hlt (by simpa using ht16) hx.2],rfl⟩
  refine Z58 ?_;refine A2 [0,1,7,8] ?_;exact Bp (x+1) ⟨hlt,Gc hlt hx.2 (by simpa using ht16)⟩ (by omega) (Ea rfl)
 refine Z33 ?_;refine Z73 ?_;exact A8 (Aj A6) ⟨by rw [gn (Ua (by simp at ht9;omega) hx.2)],rfl⟩

theorem c58 (c:List Col) (hc:OkCols c) (nm:Str) (Hp:List AObj):AFun Tryz.prog 58 [Aq c,Ad nm] Hp (A4 (Be nm c)):=by
 refine Ah [.tmp 4] [0,1] Tryz.func58 Tryz.ntmps58 (fun d=>?_)
 refine sj ?_;refine Z2 ?_;refine I3 ?_;refine A9 Tryz.call104 (AG2 c hc nm _) ?_;refine A5 ?_;exact AB5

def Ps (s of:Str):Int:=(s.length:Int)-(Lib.trimLeftS s of).length
theorem Tc (s of:Str):(Lib.trimLeftS s of).length≤s.length:=by
 unfold Lib.trimLeftS
 exact (et _).length_le
def Ly:Str:=[32,97,100,100,32,100,114,111,112,32,114,101,110,97,109,101,32,115,112,108,105,116,32,109,101,114,103,101,32,114,101,116,121,112,101,32,105,110,116,111,32,116,111,32,98,97,99,107,32,97,110,100,32,111,114,32,110,111,116,32,116,114,117,101,32,102,97,108,115,101,32,110,117,108,108,32,105,110,116,32,116,101,120,116,32,98,111,111,108,32,115,101,108,101,99,116,32,119,104,101,114,101,32,102,114,111,109,32,108,105,109,105,116,32]
def letters:Str:=[97,98,99,100,101,102,103,104,105,106,107,108,109,110,111,112,113,114,115,116,117,118,119,120,121,122]
def tails:Str:=[97,98,99,100,101,102,103,104,105,106,107,108,109,110,111,112,113,114,115,116,117,118,119,120,121,122,48,49,50,51,52,53,54,55,56,57,95]
theorem c81 (s of:Str) (hs:s.length≤1048576) (ho:of.length≤1048576) (ha:∀c∈of,c.toNat<128) (Hp:List AObj):AFun Tryz.prog 81 [Ad s,Ad of] Hp (A4 (Ps s of)):=by
 refine Ah [.tmp 4] [0,1] Tryz.func81 Tryz.ntmps81 (fun d=>?_)
 refine Z53 ?_;refine Z19 ?_;refine A9 Tryz.call130 (AFu s of (by omega) ha _) ?_;refine A5 ?_
 have htl:=Tc s of
 exact y8

def Gd (s:Str):Bool:=(!(s==[]) && !Lib.contains s [32])&&Lib.contains Ly ([32]++s++[32])
theorem c82 (s:Str) (hs:s.length≤1048576) (Hp:List AObj):AFun Tryz.prog 82 [Ad s] Hp (Bm (Gd s)):=by
 refine Ah [.tmp 2] [0] Tryz.func82 Tryz.ntmps82 (fun d=>?_)
 refine Z46 ?_;refine Z13 ?_;refine Ci ?_;refine Cd Tryz.call131 (fun hB=>nl s [32] (by omega) _) ?_;refine Ci ?_;refine Z0 ?_;refine Z34 ?_;refine Cd Tryz.call131 (fun hB=>nl Ly ([32]++s++[32]) (by decide) _) ?_;exact sa

theorem ABo {s:Str} {b c:Bool} (h:(((!(s==[])&&b)&&c)==true)=true):1≤s.length:=by
 cases s with
 | nil=>simp at h
 | cons x r=>simp
def E2 (s:Str):Bool:=((((!(s==[])&&decide ((s.length:Int)≤16))&&(Ps s tails==(s.length:Int)))&&(Ps (s.take 1) letters==1)) && !Gd s)
theorem c40 (s:Str) (hs:s.length≤1048576) (Hp:List AObj):AFun Tryz.prog 40 [Ad s] Hp (Bm (E2 s)):=by
 refine Ah [.tmp 2] [0] Tryz.func40 Tryz.ntmps40 (fun d=>?_)
 refine Z46 ?_;refine Z13 ?_;refine Z85 ?_;refine Ci ?_;refine Cd Tryz.call81 (fun hB=>c81 s tails hs (by decide) (by decide) _) ?_;refine Z85 ?_;refine Ci ?_
 refine Ci (h:=Jr 1 (fun _=>Av _) (fun hB=>ABo hB)) (hr:=?_)
 refine Cd Tryz.call81 (fun hB=>c81 (s.take 1) letters (by simp;omega) (by decide) (by decide) _) ?_
 refine Ci ?_;refine bw ?_;refine Cd Tryz.call82 (fun hB=>c82 s hs _) ?_;refine Ci ?_;exact sa

end Go.SX.Nb
namespace Go.SX.Nb
open Go Go.SX Go.Proofs Go.RowKit
variable [ErrAt]
set_option maxRecDepth 4000
theorem AG3 (s t:Str) (Hp:List AObj):AFun Tryz.prog 277 [Ad s,Ad t] Hp (Ad (Lib.trimPrefix s t)):=by
 refine Kg (xs:=[sv s,sv t]) (v:=sv (Lib.trimPrefix s t)) (fun G w=>.v _ _) (fun w hg=>?_)
 refine (Any.strings_TrimPrefix Tryz.lays101 ⟨s.toArray⟩ ⟨t.toArray⟩ w).mono ?_
 rintro e w' ⟨rfl,rfl⟩
 exact nf
theorem AG4 (s t:Str) (hs:s.length≤9223372036854775807) (ht:t.length<4294967281) (ha:∀c∈t,c.toNat<128) (Hp:List AObj):AFun Tryz.prog 278 [Ad s,Ad t] Hp (Ad (Lib.trimS s t)):=by
 refine Kg (xs:=[sv s,sv t]) (v:=sv (Lib.trimS s t)) (fun G w=>.v _ _) (fun w hg=>?_)
 refine (Any.strings_Trim_laid Tryz.lays160 (by kernel_rfl) ⟨s.toArray⟩ ⟨t.toArray⟩ w (by simpa [ByteArray.size] using hs) (by simpa [ByteArray.size] using ht) (fun j b hj=>ha b (Ar hj))).mono ?_
 rintro e w' ⟨rfl,hb⟩
 exact ⟨rfl,hb⟩
theorem ye (s:Str) (hs:s.length≤1048576) (v:Int) (h:Lib.parseIntB 64 s=.ok v) (Hp:List AObj):AFun Tryz.prog 279 [Ad s,A4 10,A4 64] Hp (.tup [A4 v,.v .nilIface]):=by
 refine Kg (xs:=[sv s,.int .i64 10,.int .i64 64]) (v:=.tuple #[.int .i64 v,.nilIface]) (fun G w=>Lq rfl (fun i y u hy hu=>?_)) (fun w hg=>?_)
 ·match i with
  | 0=>simp at hy hu;subst hy;subst hu;exact .v _ _
  | 1=>simp at hy hu;subst hy;subst hu;exact .v _ _
  | i+2=>simp at hy
 refine (Any.strconv_ParseInt_10_at64_ok Tryz.lays174 ⟨s.toArray⟩ (by simp [ByteArray.size];omega) v h w).mono ?_
 rintro e w' ⟨rfl,rfl|⟨t,rfl⟩⟩
 ·exact nf
 exact ⟨rfl,Lib.bytesWorld_below _ _ _⟩
def R1 (s:Str):AV:=.iface 324 (.ro [.v (sv [80,97,114,115,101,73,110,116]),.v (sv s),.v (.iface 347 (.pointer (some ErrAt.b)))])
theorem gr (s:Str) (hs:s.length≤1048576) (h:Lib.parseIntB 64 s=.range) (Hp:List AObj):AFun Tryz.prog 279 [Ad s,A4 10,A4 64] Hp (.tup [A4 (Lib.intSat 64 s),R1 s]):=by
 refine AFun.libErr (xs:=[sv s,.int .i64 10,.int .i64 64]) (n:=.int .i64 (Lib.intSat 64 s)) (cs:=[sv [80,97,114,115,101,73,110,116],sv s,.iface 347 (.pointer (some ErrAt.b))]) (te:=343) (fun y hy=>?_) (fun w hg=>?_)
 ·simp only [Bg,Fq,or_false] at hy
  rcases hy with rfl|rfl|rfl<;>rfl
 refine (Any.strconv_ParseInt_10_at64_range Tryz.lays174 ⟨s.toArray⟩ (by simp [ByteArray.size];omega) h (.iface 347 (.pointer (some ErrAt.b))) w (S6 hg) (.inr ⟨_,_,rfl⟩)).mono ?_
 rintro e w' ⟨N,rfl,h1,h2,h3⟩
 exact ⟨N,rfl,h1,h2,h3⟩
theorem tj (Hp:List AObj):AFun Tryz.prog 280 [.v .nilIface,.v (.iface 347 (.pointer (some ErrAt.b)))] Hp (Bm false):=by
 refine Kg (xs:=[.nilIface,.iface 347 (.pointer (some ErrAt.b))]) (v:=.bool false) (fun G w=>.v _ _) (fun w hg=>?_)
 refine (Tryz.is_nil _ w).mono ?_
 rintro e w' ⟨rfl,rfl⟩
 exact nf
theorem gt (s:Str) (Hp:List AObj):AFun Tryz.prog 280 [R1 s,.v (.iface 347 (.pointer (some ErrAt.b)))] Hp (Bm true):=by
 intro d G w vs hn hv hH hT _
 have hsz:vs.size=2:=hn
 have h0:=hv 0 (R1 s) vs[0] rfl (Ds (by omega))
 have h1:=Pj (hv 1 (.v (.iface 347 (.pointer (some ErrAt.b)))) vs[1] rfl (Ds (by omega)))
 have hvs:vs=#[vs[0],vs[1]]:=by
  apply jo
  ·exact hsz
  intro i hi1 hi2
  match i with
  | 0=>rfl
  | 1=>rfl
  | i+2=>omega
 unfold R1 at h0
 generalize vs[0]=u0 at h0 hvs
 cases h0 with
 | iface _ _ _ u h =>
  cases h with
  | ro _ _ ad f hs h1' hf hr =>
   obtain ⟨ab,ao,asp⟩:=ad
   simp only at hs
   subst hs
   have hc:=(hf 2 _ rfl).2
   have he:=Pj (hr 2 _ rfl)
   rw [he] at hc
   rw [hvs,h1]
   refine (callsIn_wide.2 (Tryz.is_range ab ao ErrAt.b w hc)).mono ?_
   rintro e w' ⟨rfl,rfl⟩
   exact ⟨_,G,_,Hp,rfl,.v _ _,hH,hT,Fk _ _ _,rfl,rfl,rfl⟩
end Go.SX.Nb
namespace Go.SX.Nb
open Go Go.SX Go.Proofs
variable [ErrAt]
set_option maxRecDepth 4000
def c8:Str:=[32,105,110,116,32,116,101,120,116,32,98,111,111,108]
def kindNames:List Str:=[[],[105,110,116],[116,101,120,116],[98,111,111,108]]
theorem nn:Mz c8 [32]=kindNames:=by kernel_rfl
def Cf (k:Int):Str:=if k<1∨3<k then [] else kindNames.getD k.toNat []
theorem c76 (k:Int) (Hp:List AObj):AFun Tryz.prog 76 [A4 k] Hp (Ad (Cf k)):=by
 refine Ah [.tmp 2] [0] Tryz.func76 Tryz.ntmps76 (fun d=>?_)
 refine Z46 ?_;refine Z32 ?_;refine U7 ?_;refine A2 [0,8] ?_
 refine A3 (fun ht8=>?_) (fun ht8=>?_)
 ·refine Z61 ?_;refine Bz ?_;exact A8 (Aj A6) ⟨by rw [show Cf k=[] from if_pos (by simpa using ht8)],rfl⟩
 refine bt ?_
 have hk:1≤k∧k≤3:=by simp at ht8;omega
 have hget:(kindNames.map Ad)[k.toNat]? = some (Ad (kindNames.getD k.toNat [])):=by
  have hlt:k.toNat<kindNames.length:=by show k.toNat<4;omega
  rw [C9,Aa hlt,Cz,Aa hlt]
  rfl
 refine A9 Tryz.call122 (nn ▸ ABk c8 [32] (by decide) (by decide) _) ?_;refine A5 ?_
 refine A5 (h:=Ak (k.toNat) (Ad (kindNames.getD k.toNat [])) (fun _=>hget)) (hr:=?_)
 refine Z57 ?_;exact A8 (Aj A6) ⟨by rw [show Cf k=kindNames.getD k.toNat [] from if_neg (by omega)],rfl⟩

def Nw (s of:Str):Bool:=(!(s==[]) && !Lib.contains s [32])&&Lib.contains of ([32]++s++[32])
theorem AEp (s of:Str) (hs:s.length≤1048576) (ho:of.length≤1048576) (Hp:List AObj):AFun Tryz.prog 125 [Ad s,Ad of] Hp (Bm (Nw s of)):=by
 refine Ah [.tmp 4] [0,1] Tryz.func125 Tryz.ntmps125 (fun d=>?_)
 refine Z53 ?_;refine Z13 ?_;refine Ci ?_;refine Cd Tryz.call131 (fun hB=>nl s [32] (by omega) _) ?_;refine Ci ?_;refine Z59 ?_;refine Z10 ?_;refine Cd Tryz.call131 (fun hB=>nl of ([32]++s++[32]) (by omega) _) ?_;exact y8

def Xd:Str:=[108,101,110,58,49,32,115,116,114,58,49,32,110,117,109,58,49,32,105,115,110,117,108,108,58,49,32,110,118,108,58,50,32,108,101,102,116,58,50,32,114,105,103,104,116,58,50,32,105,102,58,51]
def arityList:List (Str×UInt8):=[([108,101,110],49),([115,116,114],49),([110,117,109],49),([105,115,110,117,108,108],49),([110,118,108],50),([108,101,102,116],50),([114,105,103,104,116],50),([105,102],51)]
def Io (p:Str×UInt8):Str:=p.1++[58,p.2]
theorem gu:Mz Xd [32]=arityList.map Io:=by kernel_rfl
theorem tm {p:Str×UInt8} (hp:p∈arityList):Lib.cut (Io p) [58]=(p.1,[p.2],true):=by
 have h:(arityList.all fun p=>decide (Lib.cut (Io p) [58]=(p.1,[p.2],true)))=true:=by kernel_rfl
 exact of_decide_eq_true (At.1 h p hp)
def ABp (p:Str×UInt8):Int:=IntKind.i64.wrap (IntKind.u8.wrap ((p.2.toNat:Int)-48))
def C4 (nm:Str):Int:=match arityList.find? (fun p=>p.1==nm) with|some p=>ABp p|none => -1
theorem Zr {α:Type} {p:α→Bool} {l:List α} {x:Nat} (h:x<l.length) (hp:p l[x]=true) (h2:∀(j:Nat) (y:α),j<x→l[j]? = some y→p y=false):l.find? p=some l[x]:=by
 rw [rg]
 exact ⟨hp,x,h,rfl,fun j hj=>by simpa using h2 j l[j] hj (Aa _)⟩
theorem R2 {α:Type} {p:α→Bool} {l:List α} (h:∀(j:Nat) (y:α),l[j]? = some y→p y=false):l.find? p=none:=by
 rw [Ll]
 intro y hy
 obtain ⟨j,hj⟩:=Cc hy
 simpa using h j y hj
theorem R3:arityList.length=8:=rfl
theorem np {p:Str×UInt8} (hp:p∈arityList):(Io p).length<4294967281:=by
 have h:(arityList.all fun p=>decide ((Io p).length<4294967281))=true:=by kernel_rfl
 exact of_decide_eq_true (At.1 h p hp)
theorem ABq (nm:Str) (Hp:List AObj):AFun Tryz.prog 126 [Ad nm] Hp (A4 (C4 nm)):=by
 refine Ah [.tmp 2] [0] Tryz.func126 Tryz.ntmps126 (fun d=>?_)
 refine Z46 ?_;refine Z64 ?_;refine A9 Tryz.call122 (gu ▸ ABk Xd [32] (by decide) (by decide) _) ?_;refine Z0 ?_;refine A2 [0,8,9,10] ?_
 refine D7 (α:=Nat) (fun x=>⟨28,A7 0 (Ad nm) (A7 8 (Ft (arityList.map Io)) (A7 9 (A4 8) (A7 10 (A4 (x:Nat)) (fun _=>.any)))),Hp,[],[],none⟩) (fun x=>x≤8∧∀(j:Nat) (y:Str×UInt8),j<x→arityList[j]? = some y→(y.1==nm)=false) (fun x=>8-x) (0) (by simp) (Lp _) rfl (fun x hx=>?_)
 refine Z2 ?_;refine A2 [0,8,9,10,11] ?_
 refine Dl (fun ht11=>?_) (fun ht11=>?_)
 ·have hlt:x<arityList.length:=by rw [R3];simp at ht11;omega
  have hal:=R3
  have hget:((arityList.map Io).map Ad)[x]? = some (Ad (Io arityList[x])):=by rw [Ig];exact Bk hlt
  refine Z88 ?_
  refine A5 (h:=Ak (x) (Ad (Io arityList[x])) (fun _=>hget)) (hr:=?_)
  refine Z0 ?_;refine A2 [0,4,8,9,10] ?_;refine Z2 ?_;refine A9 Tryz.call163 ((tm (Cl hlt)) ▸ AEk (Io arityList[x]) [58] (np (Cl hlt)) _) ?_;refine Z0 ?_;refine Z63 ?_;refine A2 [0,5,6,8,9,10] ?_;refine Z13 ?_;refine A2 [0,6,8,9,10,22] ?_
  refine A3 (fun ht22=>?_) (fun ht22=>?_)
  ·refine Z2 ?_
   refine A5 (h:=Tz 0 arityList[x].2 (fun _=>rfl)) (hr:=?_)
   refine A5 (h:=Q.sub) (hr:=?_)
   refine Z57 ?_;refine Z62 ?_;exact A8 (Aj A6) ⟨by rw [C4,Zr hlt ht22 hx.2];rfl,rfl⟩
  refine Z58 ?_;refine A2 [0,8,9,10] ?_;exact Bp (x+1) ⟨by omega,Gc hlt hx.2 ht22⟩ (by omega) (Ea rfl)
 have hal:=R3
 refine Z33 ?_;refine Z61 ?_;exact A8 (Aj A6) ⟨by rw [C4,R2 (Ua (by simp at ht11;omega) hx.2)],rfl⟩

def gw (s:Str):Int:=match Lib.parseIntB 64 s with|.ok v=>v|_=>Lib.intSat 64 s
def Wn (s:Str):Bool:=match Lib.parseIntB 64 s with|.ok _=>false|_=>true
def Wo (s:Str):AV:=bif Wn s then R1 s else .v .nilIface
theorem gx (s:Str):(Wo s).strip=Wo s:=by unfold Wo;cases Wn s<;>rfl
attribute [go_sem] gx
theorem AG5 (s:Str) (hs:s.length≤1048576) (h:yd (Lib.parseIntB 64 s)=false) (Hp:List AObj):AFun Tryz.prog 279 [Ad s,A4 10,A4 64] Hp (.tup [A4 (gw s),Wo s]):=by
 cases hp:Lib.parseIntB 64 s with
 | ok v =>
  have:=ye s hs v hp Hp
  rwa [show v=gw s by unfold gw;rw [hp],show AV.v .nilIface=Wo s by unfold Wo Wn;rw [hp];rfl] at this
 | range =>
  have:=gr s hs hp Hp
  rwa [show Lib.intSat 64 s=gw s by unfold gw;rw [hp],show R1 s=Wo s by unfold Wo Wn;rw [hp];rfl] at this
 | _=>rw [hp] at h;cases h
theorem AG6 (s:Str) (Hp:List AObj):AFun Tryz.prog 280 [Wo s,.v (.iface 347 (.pointer (some ErrAt.b)))] Hp (Bm (Wn s)):=by
 unfold Wo
 cases Wn s
 ·exact tj Hp
 exact gt s Hp
theorem tq (s t:Str):(Lib.trimPrefix s t).length≤s.length:=by
 unfold Lib.trimPrefix;split<;>simp
theorem nq {d:Str} {b:Bool} (h:(((d==[]) || b)==false)=true):d≠[]:=by rintro rfl;simp at h
theorem Oz:∀c∈digs,c.toNat<128:=by decide
theorem Uc (s:Str):((((Lib.trimPrefix s [45]==[]) || (Lib.trimS (Lib.trimPrefix s [45]) digs != [])) || ((((Lib.trimPrefix s [45]).headD 0).toNat:Int)==48&&decide ((1:Int)<s.length))))=Jx s:=by
 unfold Jx S7
 have e1:((((Lib.trimPrefix s [45]).headD 0).toNat:Int)==48)=((Lib.trimPrefix s [45]).headD 0==48):=by
  rw [Bool.eq_iff_iff]
  simp only [beq_iff_eq]
  constructor
  ·intro h
   exact UInt8.toNat_inj.1 (by have:(48:UInt8).toNat=48:=rfl;omega)
  intro h;rw [h];rfl
 have e2:decide ((1:Int)<s.length)=decide (1<s.length):=by rw [decide_eq_decide];omega
 rw [e1,e2]
 rfl
theorem nr {s:Str} (hb:Jx s=false) (h:Wn s=true):Ca s=(0,4):=by
 unfold Ca
 rw [hb]
 have:=N0 hb
 unfold Wn at h
 revert h this
 cases Lib.parseIntB 64 s with
 | ok v=>intro h;cases h
 | range=>intro _ _;rfl
 | _=>intro _ h;cases h
theorem ABr {s:Str} (hb:Jx s=false) (h:Wn s=false):Ca s=(gw s,0):=by
 unfold Ca gw
 rw [hb]
 unfold Wn at h
 revert h
 cases Lib.parseIntB 64 s with
 | ok v=>intro h;rfl
 | _=>intro h;cases h
theorem tr (s:Str):s.take (min s.length 200)=s.take 200:=by
 rcases Nat.le_total s.length 200 with h|h
 ·rw [Nat.min_eq_left h,List.take_of_length_le (Nat.le_refl _),List.take_of_length_le h]
 rw [Nat.min_eq_right h]
theorem AEq (s:Str) (hs:s.length≤1048576) (Hp:List AObj):AFun Tryz.prog 224 [Ad s] Hp (.tup [A4 (Ca s).1,A4 (Ca s).2]):=by
 refine ACall.body [.tmp 2,.tmp 3] [0] Tryz.func224 Tryz.ntmps224 (fun d=>?_)
 refine Z1 ?_;refine R.fin [0] ?_;refine Z2 ?_;refine R.call Tryz.call277 (AG3 s [45] _) ?_;refine R.go ?_;refine R.fin [0,4] ?_;refine Z32 ?_;refine G.go ?_
 refine G.call Tryz.call278 (fun hB=>AG4 (Lib.trimPrefix s [45]) digs (by have:=tq s [45];omega) (by decide) Oz _) ?_
 refine G.go ?_;refine bw ?_
 refine G.go (h:=Q.sindex 0 ((Lib.trimPrefix s [45]).headD 0) (fun hB=>Xc (nq hB))) (hr:=?_)
 refine Wi ?_;refine U7 ?_;refine R.fin [0,25] ?_
 refine W.cond (fun ht25=>?_) (fun ht25=>?_)
 ·have hb:Jx s=true:=by rw [←Uc];exact ht25
  refine Z1 ?_;refine Z42 ?_;refine K.thR ?_;exact K.fin (V.two V.tmp V.tmp) ⟨by rw [Ca,hb];rfl,rfl⟩
 have hb:Jx s=false:=by rw [←Uc];exact ht25
 refine Z96 ?_;refine R.call Tryz.call279 (AG5 s hs (N0 hb) _) ?_;refine Z63 ?_;refine R.fin [5,6] ?_;refine Z35 ?_;refine R.loadGlob Tryz.isAgg175 (fun w hg=>S6 hg) ?_;refine R.call Tryz.call280 (AG6 s _) ?_;refine R.fin [5,33] ?_
 refine W.cond (fun ht33=>?_) (fun ht33=>?_)
 ·refine Z1 ?_;refine Z42 ?_;refine K.thR ?_;exact K.fin (V.two V.tmp V.tmp) ⟨by rw [nr hb ht33],rfl⟩
 refine Su ?_;refine Z42 ?_;exact K.fin (V.two V.tmp V.tmp) ⟨by rw [ABr hb ht33],rfl⟩

theorem AEr (n:Int) (h0 : -9223372036854775808≤n) (h1:n≤9223372036854775807) (Hp:List AObj):AFun Tryz.prog 160 [A4 n] Hp (Ad (Lib.itoa n)):=by
 refine ACall.body [.tmp 2] [0] Tryz.func160 Tryz.ntmps160 (fun d=>?_)
 refine Z46 ?_;refine Z2 ?_;refine R.call Tryz.call207 (AFz n h0 h1 _) ?_;refine R.go ?_;refine Z4 ?_;exact gh

theorem c86 (Hp:List AObj):AFun Tryz.prog 86 [] Hp (Ba ⟨0,0,[]⟩):=by
 refine ACall.body [.cell 0 23] [] Tryz.func86 Tryz.ntmps86 (fun d=>?_)
 refine Z25 ?_;refine R.fin [0] ?_;refine Z65 ?_;refine H9 ?_;refine R.fin [0] ?_;refine AW.ret ?_;exact K.fin (V.one (V.cellN jA jS))

theorem ABs (n:Int) (Hp:List AObj):AFun Tryz.prog 221 [A4 n] Hp (Ba ⟨1,n,[]⟩):=by
 refine ACall.body [.cell 2 23] [0] Tryz.func221 Tryz.ntmps221 (fun d=>?_)
 refine Z47 ?_;refine ABb ?_;exact xn

theorem c88 (b:Bool) (Hp:List AObj):AFun Tryz.prog 88 [Bm b] Hp (Ba ⟨3,if b then 1 else 0,[]⟩):=by
 refine ACall.body [.cell 2 23] [0] Tryz.func88 Tryz.ntmps88 (fun d=>?_)
 refine Z47 ?_;refine Z65 ?_;refine br ?_;refine Z35 ?_;refine R.fin [2,3,5] ?_
 refine W.cond (fun ht5=>?_) (fun ht5=>?_)
 ·refine Z77 ?_;refine H9 ?_;refine Ju ?_;refine K.thN ?_;refine Z2 ?_;exact ADk
 refine Z96 ?_;exact ADk

theorem nt (s:Str) (Hp:List AObj):AFun Tryz.prog 223 [Ad s] Hp (Ba ⟨2,0,s.take 200⟩):=by
 refine ACall.body [.cell 2 23] [0] Tryz.func223 Tryz.ntmps223 (fun d=>?_)
 refine Z47 ?_;refine Z13 ?_;refine R.minI ?_
 refine R.go (h:=Q.scutH (min s.length 200) (fun _=>Nat.zero_le _) (fun _=>Nat.min_le_left _ _) (hb:=fun _=>by split<;>omega)) (hr:=?_)
 refine ng ?_;refine Z9 ?_;exact K.fin (V.one (V.cellN jA jS)) ⟨by rw [tr],rfl⟩

theorem gy {p s:Str} (h:p.isPrefixOf s=true):p.length≤s.length:=(List.isPrefixOf_iff_prefix.1 h).length_le
theorem gz (s o:Str) (h:0≤Lib.index s o):(Lib.index s o).toNat+o.length≤s.length:=by
 induction s with
 | nil =>
  unfold Lib.index at h ⊢
  split at h
  ·rename_i he
   rw [if_pos he]
   cases o with
   | nil=>simp
   | cons a b=>simp at he
  omega
 | cons b l ih =>
  unfold Lib.index at h ⊢
  split at h
  ·rename_i hp
   rw [if_pos hp]
   have:=gy hp
   simpa using this
  rename_i hp
  rw [if_neg hp]
  split at h
  ·omega
  rename_i hi
  rw [if_neg hi]
  have hg:=Lib.index_ge l o
  have hi':Lib.index l o ≠ -1:=by simpa using hi
  have:=ih (by omega)
  simp only [Bh]
  omega
def ke:Val:=⟨0,0,[]⟩
def Ht (b:Bool):Val:=⟨3,if b then 1 else 0,[]⟩
def AG7 (n:Int):Prop := -9223372036854775808≤n∧n≤9223372036854775807
def J1 (v:Val):Str:=
 if !Dm v then [] else if v.kind==1 then Lib.itoa v.n else if v.kind==2 then [39]++Lib.replaceAll v.s [39] [39,39]++[39]
 else if v.kind==0 then [110,117,108,108] else if v.n==1 then [116,114,117,101] else [102,97,108,115,101]
theorem nu {v:Val} (h:Dm v=true) (h2:(v.kind==2)=true):v.s.length≤200:=by
 have e:v.kind=2:=by simpa using h2
 unfold Dm at h
 rw [e] at h
 simp at h
 omega
theorem ca (s o:Str) (ho:1≤o.length):Lib.countB ⟨s.toArray⟩ ⟨o.toArray⟩≤s.length:=Lib.countB_le ⟨o.toArray⟩ (by simpa [ByteArray.size] using ho) s.length ⟨s.toArray⟩ (by simp [ByteArray.size])
theorem S9 (o n:Str) (B:Nat) (hn:n.length≤B*o.length) (hB:1≤B):∀(k:Nat) (s:Str),(Lib.replaceK o n k s).length≤B*s.length
 | 0,s=>by rw [Lib.replaceK];exact T7 _ hB
 | k+1,s=>by
  rw [Lib.replaceK]
  split
  ·exact T7 _ hB
  rename_i h
  have ih:=S9 o n B hn hB k (s.drop ((Lib.index s o).toNat+o.length))
  have hx:(Lib.index s o).toNat+o.length≤s.length:=by
   have hg:=Lib.index_ge s o
   have hi:Lib.index s o ≠ -1:=by simpa using h
   exact gz s o (by omega)
  simp only [Ap,Hb,Cn] at ih ⊢
  have h1:min (Lib.index s o).toNat s.length≤B*(Lib.index s o).toNat:=Ij (Nat.min_le_left _ _) (T7 _ hB)
  have h2:B*s.length=B*(Lib.index s o).toNat+B*o.length+B*(s.length-((Lib.index s o).toNat+o.length)):=by
   rw [←Nat.mul_add,←Nat.mul_add];congr 1;omega
  omega
theorem Wp (s o n:Str) (B:Nat) (hn:n.length≤B*o.length) (hB:1≤B):(Lib.replaceAll s o n).length≤B*s.length:=by
 unfold Lib.replaceAll Lib.replace
 split
 ·exact T7 _ hB
 exact S9 o n B hn hB _ s
theorem AG8 (v:Val) (hn:AG7 v.n) (Hp:List AObj):AFun Tryz.prog 120 [Ba v] Hp (Ad (J1 v)):=by
 refine Ah [.tmp 2] [0] Tryz.func120 Tryz.ntmps120 (fun d=>?_)
 refine Wf ?_;refine Z83 ?_;refine A9 Tryz.call37 (c37 v _) ?_;refine Z0 ?_;refine A2 [1,3] ?_
 refine A3 (fun ht3=>?_) (fun ht3=>?_)
 ·refine Z61 ?_;refine Z5 ?_;exact A8 (Aj A6) ⟨by simp only [J1,ht3,if_true],rfl⟩
 have hp:Dm v=true:=by simpa using ht3
 refine Z19 ?_;refine A2 [1,7] ?_
 refine A3 (fun ht7=>?_) (fun ht7=>?_)
 ·refine Z1 ?_;refine A9 Tryz.call160 (AEr v.n hn.1 hn.2 _) ?_;refine A5 ?_;refine Z4 ?_;refine Z5 ?_;exact A8 (Aj A6) ⟨by simp only [J1,hp,ht7,Kp,B2,if_false,if_true];try rfl,rfl⟩
 refine Z19 ?_;refine A2 [1,14] ?_
 refine A3 (fun ht14=>?_) (fun ht14=>?_)
 ·refine Z1 ?_
  have hl:=nu hp ht14
  have hrl:=Wp v.s [39] [39,39] 2 (by decide) (by decide)
  refine A9 Tryz.call161 (AEl v.s [39] [39,39] (by omega) (by decide) (by have:=ca v.s [39] (by decide);simp;omega) _) ?_
  refine Z28 ?_;refine Z4 ?_;refine Z5 ?_;exact A8 (Aj A6) ⟨by simp only [J1,hp,ht7,ht14,Kp,B2,if_false,if_true];try rfl,rfl⟩
 refine Z19 ?_;refine A2 [1,23] ?_
 refine A3 (fun ht23=>?_) (fun ht23=>?_)
 ·refine Z61 ?_;refine Z5 ?_;exact A8 (Aj A6) ⟨by simp only [J1,hp,ht7,ht14,ht23,Kp,B2,if_false,if_true];try rfl,rfl⟩
 refine Z19 ?_;refine A2 [27] ?_
 refine A3 (fun ht27=>?_) (fun ht27=>?_)
 ·refine Z61 ?_;refine Z5 ?_;exact AE1
 refine Z17 ?_;refine Z61 ?_;exact AE1

def tt (s:Str):Str:=Lib.replaceAll ((s.take (s.length-1)).drop 1) [39,39] [39]
def Ud (s:Str):Val:=⟨2,0,(tt s).take 200⟩
def cb (s:Str):Val×Int:=if !(J1 (Ud s)==s) then (ke,7) else (Ud s,0)
theorem AG9 (s:Str) (h2:2≤s.length) (hs:s.length≤1048576) (Hp:List AObj):AFun Tryz.prog 290 [Ad s] Hp (.tup [Ba (cb s).1,A4 (cb s).2]):=by
 refine Ah [.cell 2 23,.tmp 3] [0] Tryz.func290 Tryz.ntmps290 (fun d=>?_)
 refine bv ?_;refine A2 [0,2] ?_;refine Z19 ?_
 refine A5 (h:=Q.scutLH 1 (s.length-1) (fun _=>show 1≤s.length-1 by omega) (fun _=>show s.length-1≤s.length by omega)) (hr:=?_)
 refine A9 Tryz.call161 (AEl ((s.take (s.length-1)).drop 1) [39,39] [39] (by simp;omega) (by decide) (by have:=ca ((s.take (s.length-1)).drop 1) [39,39] (by decide);simp at this ⊢;omega) _) ?_
 refine A5 ?_;refine A2 [0,2,4] ?_;refine Z2 ?_;refine A9 Tryz.call223 (nt (tt s) _) ?_;refine Z18 ?_;refine A2 [0,2,5] ?_;refine Z35 ?_
 refine A9 Tryz.call120 (AG8 (Ud s) ⟨by show (-9223372036854775808:Int)≤0;decide,by show (0:Int)≤9223372036854775807;decide⟩ _) ?_
 refine Z0 ?_;refine A2 [2,5,17] ?_
 refine A3 (fun ht17=>?_) (fun ht17=>?_)
 ·refine Z65 ?_;refine Ss ?_;refine Bz ?_;exact AE2
 refine Z96 ?_;refine Ss ?_;exact AE2

def Xe (s:Str):Bool:=(decide ((1:Int)<s.length)&&Lib.hasPrefix s [39])&&Lib.hasSuffix s [39]
def Hh (s:Str):Val×Int:=
 if s==[110,117,108,108] then (ke,0) else if (s==[116,114,117,101]) || (s==[102,97,108,115,101]) then (Ht (s==[116,114,117,101]),0)
 else if Xe s then cb s else if (Ca s).2==0 then (⟨1,(Ca s).1,[]⟩,0) else if (Ca s).2==4 then (ke,4) else (ke,7)
theorem tw {s:Str} (h:Xe s=true):2≤s.length:=by
 unfold Xe at h
 simp only [Ao,decide_eq_true_eq] at h
 omega
theorem ABt (s:Str) (hs:s.length≤1048576) (Hp:List AObj):AFun Tryz.prog 252 [Ad s] Hp (.tup [Ba (Hh s).1,A4 (Hh s).2]):=by
 refine Ah [.cell 2 23,.tmp 3] [0] Tryz.func252 Tryz.ntmps252 (fun d=>?_)
 refine bv ?_;refine A2 [0,2] ?_;refine Zl ?_;refine A2 [0,2,6] ?_
 refine A3 (fun ht6=>?_) (fun ht6=>?_)
 ·refine ABf ?_;refine Ss ?_;refine Z5 ?_;exact A8 (B9 (B8 jA jS) A6) ⟨by simp only [Hh,ht6,if_true,if_false,B2];try rfl,rfl⟩
 refine Z13 ?_;refine Z10 ?_;refine Z0 ?_;refine A2 [0,2,10] ?_
 refine A3 (fun ht10=>?_) (fun ht10=>?_)
 ·refine Z1 ?_;refine A9 Tryz.call88 (c88 (s==[116,114,117,101]) _) ?_;refine Ss ?_;refine Z5 ?_;exact A8 (B9 (B8 jA jS) A6) ⟨by simp only [Hh,ht6,ht10,if_true,if_false,B2];try rfl,rfl⟩
 refine nd ?_;refine Cd Tryz.call288 (fun hB=>AFv s [39] _) ?_;refine bw ?_;refine Cd Tryz.call289 (fun hB=>AFw s [39] (by omega) _) ?_;refine Z0 ?_;refine A2 [0,2,20] ?_
 refine A3 (fun ht20=>?_) (fun ht20=>?_)
 ·have hq:Xe s=true:=ht20
  refine Z2 ?_;refine A9 Tryz.call290 (AG9 s (tw hq) hs _) ?_;refine Z0 ?_;refine Ss ?_;refine Z5 ?_;exact A8 (B9 (B8 jA jS) A6) ⟨by simp only [Hh,ht6,ht10,hq,if_true,if_false,B2];try rfl,rfl⟩
 have hq:Xe s=false:=ht20
 refine Z17 ?_;refine Z2 ?_;refine A9 Tryz.call224 (AEq s hs _) ?_;refine Z63 ?_;refine A2 [2,4,5] ?_;refine Z35 ?_;refine A2 [2,4,5,41] ?_;refine Z92 ?_;refine A2 [2,4,5,41,42] ?_
 refine A3 (fun ht42=>?_) (fun ht42=>?_)
 ·refine Z2 ?_;refine A9 Tryz.call221 (ABs (Ca s).1 _) ?_;refine Ss ?_;refine Z5 ?_;exact A8 (B9 (B8 jA jS) A6) ⟨by simp only [Hh,ht6,ht10,hq,ht42,if_true,if_false,B2];try rfl,rfl⟩
 refine Z1 ?_;refine A2 [2,5,46] ?_
 refine A3 (fun ht46=>?_) (fun ht46=>?_)
 ·refine Z65 ?_;refine A5 ?_;refine Ss ?_;refine Z5 ?_;exact A8 (B9 (B8 jA jS) A6) ⟨by simp only [Hh,ht6,ht10,hq,ht42,ht46,if_true,if_false,B2];rw [show (Ca s).2=4 by simpa using ht46];rfl,rfl⟩
 refine Z17 ?_;refine Z65 ?_;refine Ss ?_;exact A8 (B9 (B8 jA jS) A6) ⟨by simp only [Hh,ht6,ht10,hq,ht42,ht46,if_true,if_false,B2];try rfl,rfl⟩

def blanks:Str:=[32,9,10]
/-- What stands behind blanks and notes. -/
def Gg:Str→Bool→Str
 | [],_=>[]
 | c::r,false=>if blanks.contains c then Gg r false else if c==35 then Gg r true else c::r
 | c::r,true=>if c==10 then Gg r false else Gg r true
def runN (s of:Str):Nat:=s.length-(Lib.trimLeftS s of).length
theorem Zs (s of:Str):Ps s of=(runN s of:Int):=by
 have:=Tc s of
 unfold Ps runN
 omega
theorem Zt (s of:Str):runN s of≤s.length:=Nat.sub_le _ _
theorem tx (s of:Str):s.drop (runN s of)=Lib.trimLeftS s of:=by
 unfold runN Lib.trimLeftS
 have h:∀l:Str,l.drop (l.length-(l.dropWhile (of.contains ·)).length)=l.dropWhile (of.contains ·):=by
  intro l
  have e:=jt (p:=(of.contains ·)) (l:=l)
  have hl:l.length-(l.dropWhile (of.contains ·)).length=(l.takeWhile (of.contains ·)).length:=by
   have:=congrArg List.length e
   simp only [Ap] at this
   omega
  rw [hl]
  conv=>lhs;rw [←e]
  rw [List.drop_left']
  rw [e]
 exact h s
theorem tz (s of:Str):s.take (runN s of)=s.takeWhile (of.contains ·):=by
 have e:=jt (p:=(of.contains ·)) (l:=s)
 have hl:runN s of=(s.takeWhile (of.contains ·)).length:=by
  unfold runN Lib.trimLeftS
  have:=congrArg List.length e
  simp only [Ap] at this
  omega
 rw [hl]
 conv=>lhs;rw [←e]
 rw [List.take_left']
 rw [e]
theorem R4:∀s:Str,Gg (Lib.trimLeftS s blanks) false=Gg s false
 | []=>rfl
 | c::r=>by
  unfold Lib.trimLeftS
  rw [Qn]
  by_cases h:blanks.contains c=true
  ·rw [if_pos h,Gg,if_pos h]
   exact R4 r
  rw [if_neg h]
theorem Xf (of:Str):∀(s:Str) (c:UInt8) (t:Str),Lib.trimLeftS s of=c::t→of.contains c=false
 | [],c,t,h=>by cases h
 | b::r,c,t,h=>by
  unfold Lib.trimLeftS at h
  rw [Qn] at h
  split at h
  ·exact Xf of r c t h
  rename_i hb
  injection h with h1 h2
  subst h1
  simpa using hb
def Ip:Str→Str
 | []=>[]
 | c::r=>if c==10 then r else Ip r
theorem ABu (s:Str):(Lib.cut s [10]).2.1=Ip s:=by
 unfold Lib.cut
 induction s with
 | nil=>rfl
 | cons c r ih =>
  have hg:=Lib.index_ge r [10]
  rw [Ip]
  unfold Lib.index
  by_cases hc:c=10
  ·subst hc
   simp [List.isPrefixOf]
  have h1:([10]:Str).isPrefixOf (c::r)=false:=by simp [List.isPrefixOf,Ne.symm hc]
  have h2:(c==10)=false:=by simpa using hc
  rw [h1,h2]
  simp only [B2,if_false]
  by_cases hi:Lib.index r [10] = -1
  ·rw [hi] at ih ⊢
   simpa using ih
  have h3:(Lib.index r [10] == -1)=false:=by simpa using hi
  rw [h3]
  simp only [B2,if_false]
  rw [if_pos (by omega)] at ih ⊢
  have e:(Lib.index r [10]+1).toNat=(Lib.index r [10]).toNat+1:=by omega
  rw [e]
  rw [←ih]
  show (c::r).drop _=_
  rw [show (Lib.index r [10]).toNat+1+([10]:Str).length=((Lib.index r [10]).toNat+([10]:Str).length)+1 by omega,ey]
theorem Xg:∀t:Str,Gg t true=Gg (Ip t) false
 | []=>rfl
 | c::r=>by
  rw [Gg,Ip]
  split
  ·rfl
  exact Xg r
theorem Ue:∀t:Str,(Ip t).length≤t.length
 | []=>Ae _
 | c::r=>by
  rw [Ip]
  split
  ·simp
  have:=Ue r;simp only [Bh];omega
def gapM (s:Str):Nat:=s.length-(Gg s false).length
theorem nv {d:Str} (h:((d==[])==false)=true):d≠[]:=by rintro rfl;simp at h
theorem Zu:∀c∈blanks,c.toNat<128:=by decide
/-- The gap is at its end. -/
theorem yf {x s:Str} (hx:Gg x false=Gg s false) (h:((Lib.trimLeftS x blanks==[]) || ((((Lib.trimLeftS x blanks).headD 0).toNat:Int) != 35))=true):Gg s false=Lib.trimLeftS x blanks:=by
 rw [←hx,←R4]
 cases ht:Lib.trimLeftS x blanks with
 | nil=>rfl
 | cons c t =>
  rw [ht] at h
  have hb:=Xf blanks x c t ht
  have hc:(c==35)=false:=by
   simp at h
   rw [beq_eq_false_iff_ne]
   rintro rfl
   exact h rfl
  rw [Gg,hb,hc]
  rfl
theorem ABv {x s:Str} (hx:Gg x false=Gg s false) (h:((Lib.trimLeftS x blanks==[]) || ((((Lib.trimLeftS x blanks).headD 0).toNat:Int) != 35))=false):
  Gg (Lib.cut (Lib.trimLeftS x blanks) [10]).2.1 false=Gg s false∧(Lib.cut (Lib.trimLeftS x blanks) [10]).2.1.length<x.length:=by
 have hl:=Tc x blanks
 rw [ABu,←hx,←R4 x]
 cases ht:Lib.trimLeftS x blanks with
 | nil=>rw [ht] at h;simp at h
 | cons c t =>
  rw [ht] at h hl
  have hc:c=35:=by
   simp at h
   exact Yv.1 (by have:(35:UInt8).toNat=35:=rfl;omega)
  subst hc
  have ha:=Ue t
  refine ⟨?_,?_⟩
  ·rw [Ip,Gg]
   have e1:blanks.contains 35=false:=by decide
   rw [e1]
   exact (Xg t).symm
  rw [Ip]
  simp only [Bh] at hl
  show (Ip t).length<_
  omega
theorem AEs (s:Str) (hs:s.length≤1048576) (Hp:List AObj):AFun Tryz.prog 154 [Ad s] Hp (A4 (gapM s)):=by
 refine Ah [.tmp 2] [0] Tryz.func154 Tryz.ntmps154 (fun d=>?_)
 refine Z46 ?_;refine sj ?_
 refine D7 (α:=Str) (fun x=>⟨27,A7 0 (Ad s) (A7 3 (Ad x) (fun _=>.any)),Hp,[],[],none⟩) (fun x=>Gg x false=Gg s false∧x.length≤s.length) (fun x=>x.length) (s) (by simp) (Lp _) rfl (fun x hx=>?_)
 refine Jv ?_;refine E5 ?_
 have hx2:=hx.2
 have htl:=Tc x blanks
 refine Z0 ?_;refine A9 Tryz.call81 (c81 x blanks (by omega) (by decide) Zu _) ?_
 refine A5 (h:=Q.scutL (runN x blanks) (fun _=>Zt _ _) (fun _=>Ae _) (ha:=fun _=>Zs x blanks)) (hr:=?_)
 rw [tx]
 refine sg ?_;refine Z32 ?_;refine Ci ?_
 refine Ci (h:=Tz 0 ((Lib.trimLeftS x blanks).headD 0) (fun hB=>Xc (nv hB))) (hr:=?_)
 refine U6 ?_;refine A2 [0,3,15] ?_
 refine A3 (fun ht15=>?_) (fun ht15=>?_)
 ·have he:=yf hx.1 ht15
  refine Z19 ?_;refine Z57 ?_;refine Bz ?_;refine K.blR ?_;refine K.lpR ?_;exact A8 (Aj A6) ⟨by rw [show ((s.length:Int)-(Lib.trimLeftS x blanks).length)=(gapM s:Int) by unfold gapM;rw [he];omega],rfl⟩
 have he:=ABv hx.1 ht15
 refine Z6 ?_;refine Z77 ?_;refine A9 Tryz.call163 (AEk (Lib.trimLeftS x blanks) [10] (by omega) _) ?_;refine Z63 ?_;refine A2 [0,3] ?_;refine Lv ?_;exact Bp _ ⟨he.1,by omega⟩ he.2 (Ea rfl)

def Dn (s of:Str):Str:=s.take (runN s of)
theorem I6 (s of:Str):(Dn s of).length≤s.length:=by unfold Dn;simp;omega
def P0 (s:Str):Int×Str×Int×Int:=
 if Gd (Dn s tails) then (2,Dn s tails,(Dn s tails).length,0) else if !E2 (Dn s tails) then (0,[],0,3) else (1,Dn s tails,(Dn s tails).length,0)
abbrev u4 (r:Int×Str×Int×Int):AV:=.tup [A4 r.1,Ad r.2.1,A4 r.2.2.1,A4 r.2.2.2]
theorem cd:∀c∈tails,c.toNat<128:=by decide
theorem Wq:∀c∈letters,c.toNat<128:=by decide
theorem AGa (s:Str) (hs:s.length≤1048576) (Hp:List AObj):AFun Tryz.prog 199 [Ad s] Hp (u4 (P0 s)):=by
 refine Ah [.tmp 2,.tmp 3,.tmp 4,.tmp 5] [0] Tryz.func199 Tryz.ntmps199 (fun d=>?_)
 refine sm ?_;refine Z1 ?_;refine A9 Tryz.call81 (c81 s tails hs (by decide) cd _) ?_
 refine A5 (h:=Jr (runN s tails) (fun _=>Av _) (fun _=>Zt _ _) (hb:=fun _=>Zs s tails)) (hr:=?_)
 refine A5 ?_;refine A2 [6] ?_;refine Z83 ?_
 refine A9 Tryz.call82 (c82 (Dn s tails) (by have:=I6 s tails;omega) _) ?_
 refine A5 ?_;refine A2 [6,11] ?_
 refine A3 (fun ht11=>?_) (fun ht11=>?_)
 ·refine E5 ?_
  have hwl:=I6 s tails
  refine Z0 ?_;refine Z63 ?_;refine Z52 ?_;refine Z5 ?_;exact A8 (Js A6 A6 A6 A6) ⟨by simp only [P0,ht11,if_true,if_false,B2];try rfl,rfl⟩
 refine Z2 ?_
 refine A9 Tryz.call40 (c40 (Dn s tails) (by have:=I6 s tails;omega) _) ?_
 refine Z0 ?_;refine A2 [6,17] ?_
 refine A3 (fun ht17=>?_) (fun ht17=>?_)
 ·refine Z19 ?_;refine Z52 ?_;refine Z5 ?_;exact AE3
 refine Z17 ?_;refine E5 ?_
 have hwl:=I6 s tails
 refine Z0 ?_;refine Z63 ?_;refine Z52 ?_;exact AE3

def Zv (s:Str):Int×Str×Int×Int:=(3,Dn s digs,(Dn s digs).length,(Hh (Dn s digs)).2)
theorem AGb (s:Str) (hs:s.length≤1048576) (Hp:List AObj):AFun Tryz.prog 200 [Ad s] Hp (u4 (Zv s)):=by
 refine Ah [.tmp 2,.tmp 3,.tmp 4,.tmp 5] [0] Tryz.func200 Tryz.ntmps200 (fun d=>?_)
 refine sm ?_;refine Z1 ?_;refine A9 Tryz.call81 (c81 s digs hs (by decide) Oz _) ?_
 refine A5 (h:=Jr (runN s digs) (fun _=>Av _) (fun _=>Zt _ _) (hb:=fun _=>Zs s digs)) (hr:=?_)
 refine A5 ?_;refine A2 [6] ?_;refine Z2 ?_
 refine A9 Tryz.call252 (ABt (Dn s digs) (by have:=I6 s digs;omega) _) ?_
 refine n9 ?_;refine A2 [6,8] ?_;refine Z19 ?_;refine Z74 ?_;refine Z52 ?_;exact A8 (Js A6 A6 A6 A6) ⟨rfl,rfl⟩

/-- Behind a mark: how many bytes up to the one that AB3, it too. -/
def Da:Str→Option Nat
 | []=>none
 | [c]=>if c==39 then some 1 else none
 | c::d::t=>if c==39 then (if d==39 then (Da t).map (·+2) else some 1) else (Da (d::t)).map (·+1)
theorem Sa {c:UInt8} (h:¬(c==39)=true) (r:Str):Da (c::r)=(Da r).map (·+1):=by
 cases r with
 | nil=>simp [Da,h]
 | cons d t=>rw [Da,if_neg h]
theorem Uf (r:Str):Da (39::r)=match r with
   | []=>some 1
   | d::t=>if d==39 then (Da t).map (·+2) else some 1:=by
 cases r with
 | nil=>rfl
 | cons d t=>rw [Da];simp
def Ki (s:Str):Int×Str×Int×Int:=
 match Da (s.drop 1) with
 | none=>(0,[],0,7)
 | some n=>if (Hh (s.take (n+1))).2 != 0 then (0,[],0,3) else (4,(Hh (s.take (n+1))).1.s,((n+1:Nat):Int),0)
theorem Uh:∀l:Str,Lib.indexByte l 39 = -1→Da l=none
 | [],_=>by rw [Da]
 | c::r,h=>by
  rw [Lib.indexByte] at h
  split at h
  ·omega
  rename_i hc
  rw [Sa hc]
  split at h
  ·rename_i hi
   rw [Uh r (by simpa using hi)]
   rfl
  have:=Lib.indexByte_ge r 39;omega
theorem ce:∀(l:Str) (k:Nat),Lib.indexByte l 39=(k:Int)→k<l.length∧Da l=(Da (l.drop k)).map (·+k)∧l[k]? = some 39
 | [],k,h=>by rw [Lib.indexByte] at h;omega
 | c::r,k,h=>by
  rw [Lib.indexByte] at h
  split at h
  ·rename_i hc
   have:k=0:=by omega
   subst this
   refine ⟨by simp,?_,by simpa using hc⟩
   rw [Tm]
   cases Da (c::r)<;>simp
  rename_i hc
  split at h
  ·omega
  have hg:=Lib.indexByte_ge r 39
  rename_i hi
  have hi':Lib.indexByte r 39 ≠ -1:=by simpa using hi
  obtain ⟨m,rfl⟩:∃m,k=m+1:=⟨k-1,by omega⟩
  obtain ⟨h1,h2,h3⟩:=ce r m (by omega)
  refine ⟨by simpa using h1,?_,by simpa using h3⟩
  rw [Sa hc,ey,h2]
  cases Da (r.drop m)<;>simp [Kc]
theorem Lz {s:Str} {n:Nat} {c:UInt8} (h:s[n]? = some c):s.drop n=c::s.drop (n+1):=by
 obtain ⟨hlt,he⟩:=Ab.1 h
 rw [Ha hlt,he]
theorem Pt {s:Str} {n:Nat} (h:n<s.length):s[n]? = some (s.getD n 0):=by
 rw [Cz,Aa h];rfl
theorem u5 {s:Str} {x k:Nat} (h:(decide (((x:Int)+((k:Int)+1))<s.length)==true)=true):x+(k+1)<s.length:=by
 have:=of_decide_eq_true (by simpa using h:decide (((x:Int)+((k:Int)+1))<s.length)=true)
 omega
/-- What a round of the search for the mark that AB3 comes to. -/
theorem h9 {s:Str} {x k:Nat} (h1:1≤x) (hx:Da (s.drop 1)=(Da (s.drop x)).map (·+(x-1))) (hk:Lib.indexByte (s.drop x) 39=(k:Int)):
  x+(k+1)≤s.length ∧
   ((decide (((x:Int)+((k:Int)+1))<s.length)&&(((s.getD (x+(k+1)) 0).toNat:Int)==39))=true→x+(k+1)+1≤s.length∧Da (s.drop 1)=(Da (s.drop (x+(k+1)+1))).map (·+(x+(k+1)+1-1))) ∧
   ((decide (((x:Int)+((k:Int)+1))<s.length)&&(((s.getD (x+(k+1)) 0).toNat:Int)==39))=false→Da (s.drop 1)=some (x+k)):=by
 obtain ⟨g1,g2,g3⟩:=ce _ k hk
 rw [Hb] at g1
 rw [Fj] at g3
 have e0:(s.drop x).drop k=39::s.drop (x+(k+1)):=by rw [Yi,Lz g3,Kc]
 rw [e0] at g2
 refine ⟨by omega,fun h=>?_,fun h=>?_⟩
 ·simp only [Ao,decide_eq_true_eq,beq_iff_eq] at h
  have hlt:x+(k+1)<s.length:=by omega
  have hc:s.getD (x+(k+1)) 0=39:=Yv.1 (by have:(39:UInt8).toNat=39:=rfl;omega)
  have hd:=Lz (Pt hlt)
  rw [hc] at hd
  refine ⟨by omega,?_⟩
  rw [hx,g2,hd,Uf]
  simp only [beq_self_eq_true,if_true]
  cases Da (s.drop (x+(k+1)+1)) with
  | none=>rfl
  | some m=>simp;omega
 rw [hx,g2,Uf]
 cases hd:s.drop (x+(k+1)) with
 | nil=>simp;omega
 | cons d t =>
  have hlt:x+(k+1)<s.length:=by
   have:=congrArg List.length hd
   simp at this;omega
  have hg:=Lz (Pt hlt)
  rw [hd] at hg
  injection hg with hg1 hg2
  have hne:(d==39)=false:=by
   rw [hg1,beq_eq_false_iff_ne]
   intro e
   rw [e] at h
   simp at h
   omega
  simp [hne];omega
theorem AGc (s:Str) (h0:1≤s.length) (hs:s.length≤1048576) (Hp:List AObj):AFun Tryz.prog 201 [Ad s] Hp (u4 (Ki s)):=by
 refine Ah [.tmp 2,.tmp 3,.tmp 4,.tmp 5] [0] Tryz.func201 Tryz.ntmps201 (fun d=>?_)
 refine sm ?_;refine Z2 ?_;refine A2 [0,6] ?_
 refine D7 (α:=Nat) (fun x=>⟨44,A7 0 (Ad s) (A7 6 (A4 (x:Nat)) (fun _=>.any)),Hp,[],[],none⟩) (fun x=>1≤x∧x≤s.length∧Da (s.drop 1)=(Da (s.drop x)).map (·+(x-1))) (fun x=>s.length-x) (1) ⟨Ae _,h0,by cases Da (s.drop 1)<;>rfl⟩ (Lp _) rfl (fun x hx=>?_)
 refine Z92 ?_
 refine A5 (h:=Q.scutL x (fun _=>hx.2.1) (fun _=>Ae _)) (hr:=?_)
 refine A9 Tryz.call253 (AFx (s.drop x) 39 _) ?_;refine A5 ?_;refine A2 [0,6,7] ?_;refine Z29 ?_;refine A2 [0,6,7,15] ?_
 refine A3 (fun ht15=>?_) (fun ht15=>?_)
 ·have hk:Lib.indexByte (s.drop x) 39 = -1:=by have:=Lib.indexByte_ge (s.drop x) 39;simp at ht15;omega
  have hcq:Da (s.drop 1)=none:=by rw [hx.2.2,Uh _ hk];rfl
  refine Z19 ?_;refine Z52 ?_;refine Bz ?_;refine K.blR ?_;refine K.lpR ?_;exact A8 (Js A6 A6 A6 A6) ⟨by simp only [Ki,hcq],rfl⟩
 obtain ⟨k0,hk⟩:=er (show 0≤Lib.indexByte (s.drop x) 39 by simp at ht15;omega)
 rw [hk]
 refine bt ?_
 have hst:=h9 hx.1 hx.2.2 hk
 refine Z63 ?_;refine A2 [0,6] ?_;refine Z55 ?_;refine A5 ?_;refine Z10 ?_
 refine Ci (h:=Tz (x+(k0+1)) (s.getD (x+(k0+1)) 0) (fun hB=>Pt (u5 hB))) (hr:=?_)
 refine U6 ?_;refine A2 [0,6,29] ?_
 refine A3 (fun ht29=>?_) (fun ht29=>?_)
 ·have hon:=hst.2.1 ht29
  refine Z13 ?_;refine A2 [0,6] ?_;refine Z70 ?_;refine K.blE ?_;exact Bp ((x+(k0+1))+1) ⟨by omega,hon.1,hon.2⟩ (by omega) (Ea rfl)
 have hcq:=hst.2.2 ht29
 refine Wk ?_
 refine A5 (h:=Jr (x+(k0+1)) (fun _=>Av _) (fun _=>hst.1)) (hr:=?_)
 refine A9 Tryz.call252 (ABt (s.take (x+(k0+1))) (by simp;omega) _) ?_
 refine n9 ?_;refine A2 [6,8,9] ?_;refine Z29 ?_;refine A2 [6,8,40] ?_
 refine A3 (fun ht40=>?_) (fun ht40=>?_)
 ·refine Z19 ?_;refine Z52 ?_;refine Bz ?_;refine K.blR ?_;refine K.lpR ?_;exact A8 (Js A6 A6 A6 A6) ⟨by simp only [Ki,hcq,show x+k0+1=x+(k0+1) by omega];rw [if_pos ht40],rfl⟩
 refine Z6 ?_;refine Eb [0,1,0,0,11,31,63] 5 Al (by kernel_rfl) ?_;refine Z12 ?_;refine Z39 ?_;refine Gl ?_;refine Z0 ?_;refine Z52 ?_;refine K.blR ?_;refine K.lpR ?_;exact A8 (Js A6 A6 A6 A6) ⟨by simp only [Ki,hcq,show x+k0+1=x+(k0+1) by omega];rw [if_neg (by rw [ht40];simp)];rfl,rfl⟩

def kg:Str:=[60,61,32,62,61,32,33,61]
def ki:Str:=[40,41,44,59,61,60,62,43,45,42,47,37,38,58]
def Ui (s:Str):Int×Str×Int×Int:=
 if (decide ((1:Int)<s.length)&&Lib.contains kg (s.take 2))&&(((s.getD 1 0).toNat:Int)==61) then (5,s.take 2,2,0)
 else if Lib.contains ki (s.take 1) then (5,s.take 1,1,0) else (0,[],0,7)
theorem nw {s:Str} {b c:Bool} (h:(((decide ((1:Int)<s.length)&&b)&&c)==true)=true):1<s.length:=by
 revert h
 cases hd:decide ((1:Int)<s.length) with
 | true=>intro _;have:=of_decide_eq_true hd;omega
 | false=>intro h;simp at h
theorem Uj {s:Str} {b:Bool} (h:((decide ((1:Int)<s.length)&&b)==true)=true):1<s.length:=nw (c:=true) (by rw [Ti];exact h)
theorem i6 {s:Str} (h:(decide ((1:Int)<s.length)==true)=true):2≤s.length:=Uj (b:=true) (by rw [Ti];exact h)
theorem AGd (s:Str) (h0:1≤s.length) (Hp:List AObj):AFun Tryz.prog 202 [Ad s] Hp (u4 (Ui s)):=by
 refine Ah [.tmp 2,.tmp 3,.tmp 4,.tmp 5] [0] Tryz.func202 Tryz.ntmps202 (fun d=>?_)
 refine sm ?_;refine Z55 ?_;refine Ci ?_
 refine Ci (h:=Jr 2 (fun _=>Av _) (fun hB=>i6 hB)) (hr:=?_)
 refine Cd Tryz.call131 (fun hB=>nl kg (s.take 2) (by decide) _) ?_;refine bw ?_
 refine Ci (h:=Tz 1 (s.getD 1 0) (fun hB=>Pt (Uj hB))) (hr:=?_)
 refine U6 ?_;refine A2 [0,18] ?_
 refine A3 (fun ht18=>?_) (fun ht18=>?_)
 ·have h2:2≤s.length:=by revert ht18;cases hd:decide ((1:Int)<s.length) with
   | true=>intro _;have:=of_decide_eq_true hd;omega
   | false=>intro h;simp at h
  refine Eb [0,1,0,7,15,31] 3 Al (by kernel_rfl) ?_;refine An ?_
  refine An (h:=Jr 2 (fun _=>Av _) (fun _=>h2)) (hr:=?_)
  refine An ?_;refine Gl ?_;refine Z28 ?_;refine Z52 ?_;refine Bz ?_;exact A8 (Js A6 A6 A6 A6) ⟨by simp only [Ui,ht18,if_true,if_false,B2];try rfl,rfl⟩
 refine bx ?_
 refine A5 (h:=Jr 1 (fun _=>Av _) (fun _=>h0)) (hr:=?_)
 refine A9 Tryz.call131 (nl ki (s.take 1) (by decide) _) ?_;refine A2 [0,23] ?_
 refine A3 (fun ht23=>?_) (fun ht23=>?_)
 ·refine Eb [0,1,0,7,15,31] 3 Al (by kernel_rfl) ?_;refine An ?_
  refine An (h:=Jr 1 (fun _=>Av _) (fun _=>h0)) (hr:=?_)
  refine An ?_;refine Gl ?_;refine Z28 ?_;refine Z52 ?_;refine Bz ?_;exact AE4
 refine Z6 ?_;refine Z19 ?_;refine Z52 ?_;exact AE4

def C7 (s:Str):Int×Str×Int×Int:=
 if decide (0<Ps (s.take 1) letters) then P0 s else if decide (0<Ps (s.take 1) digs) then Zv s else if ((s.getD 0 0).toNat:Int)==39 then Ki s else Ui s
theorem AGe (s:Str) (h0:1≤s.length) (hs:s.length≤1048576) (Hp:List AObj):AFun Tryz.prog 155 [Ad s] Hp (u4 (C7 s)):=by
 refine Ah [.tmp 2,.tmp 3,.tmp 4,.tmp 5] [0] Tryz.func155 Tryz.ntmps155 (fun d=>?_)
 refine sm ?_;refine Z83 ?_
 refine A5 (h:=Jr 1 (fun _=>Av _) (fun _=>h0)) (hr:=?_)
 refine A9 Tryz.call81 (c81 (s.take 1) letters (by simp;omega) (by decide) Wq _) ?_
 refine Z0 ?_;refine A2 [0,6] ?_
 refine A3 (fun ht6=>?_) (fun ht6=>?_)
 ·refine Z2 ?_;refine A9 Tryz.call199 (AGa s hs _) ?_;refine Z74 ?_;refine Z74 ?_;refine Z52 ?_;refine Z5 ?_;exact A8 (Js A6 A6 A6 A6) ⟨by simp only [C7,ht6,if_true,if_false,B2],rfl⟩
 refine Z2 ?_
 refine A5 (h:=Jr 1 (fun _=>Av _) (fun _=>h0)) (hr:=?_)
 refine A9 Tryz.call81 (c81 (s.take 1) digs (by simp;omega) (by decide) Oz _) ?_
 refine Z0 ?_;refine A2 [0,17] ?_
 refine A3 (fun ht17=>?_) (fun ht17=>?_)
 ·refine Z2 ?_;refine A9 Tryz.call200 (AGb s hs _) ?_;refine Z74 ?_;refine Z74 ?_;refine Z52 ?_;refine Z5 ?_;exact A8 (Js A6 A6 A6 A6) ⟨by simp only [C7,ht6,ht17,if_true,if_false,B2],rfl⟩
 refine Z2 ?_
 refine A5 (h:=Tz 0 (s.getD 0 0) (fun _=>Pt h0)) (hr:=?_)
 refine Z0 ?_;refine A2 [0,28] ?_
 refine A3 (fun ht28=>?_) (fun ht28=>?_)
 ·refine Z2 ?_;refine A9 Tryz.call201 (AGc s h0 hs _) ?_;refine Z74 ?_;refine Z74 ?_;refine Z52 ?_;refine Z5 ?_;exact AE5
 refine Z17 ?_;refine Z2 ?_;refine A9 Tryz.call202 (AGd s h0 _) ?_;refine Z74 ?_;refine Z74 ?_;refine Z52 ?_;exact AE5

structure Tok where
 kind:Int
 text:Str
 at_:Nat
 deriving DecidableEq
abbrev Jy (t:Tok):AV:=.agg [.v (.int .i64 t.kind),.v (sv t.text),.v (.int .i64 (t.at_:Int))]
abbrev kj (l:List Tok):AV:=.slice false 3 (l.map Jy)
theorem km {c:UInt8} {of:Str} (h:decide (0<Ps ([c]:Str) of)=true):of.contains c=true:=by
 have:=of_decide_eq_true h
 unfold Ps Lib.trimLeftS at this
 rw [Qn] at this
 cases hc:of.contains c with
 | true=>rfl
 | false=>rw [hc] at this;simp at this
theorem Uk {c:UInt8} {r of:Str} (h:of.contains c=true):1≤(Dn (c::r) of).length:=by
 unfold Dn
 rw [tz,List.takeWhile_cons,h]
 simp
theorem Wr:∀c:UInt8,letters.contains c=true→tails.contains c=true:=by
 have h:((List.range 256).all fun n => !letters.contains (UInt8.ofNat n) || tails.contains (UInt8.ofNat n))=true:=by kernel_rfl
 intro c hc
 have:=At.1 h c.toNat (Np.2 c.toNat_lt)
 rw [show UInt8.ofNat c.toNat=c by simp,hc] at this
 simpa using this
theorem Ul:∀(l:Str) (n:Nat),Da l=some n→1≤n∧n≤l.length
 | [],n,h=>by cases h
 | [c],n,h=>by
  rw [Da] at h
  split at h
  ·injection h with h;subst h;simp
  cases h
 | c::d::t,n,h=>by
  rw [Da] at h
  split at h
  ·split at h
   ·rw [Dq] at h
    obtain ⟨m,hm,rfl⟩:=h
    have:=Ul t m hm
    simp only [Bh];omega
   injection h with h;subst h;simp
  rw [Dq] at h
  obtain ⟨m,hm,rfl⟩:=h
  have:=Ul (d::t) m hm
  simp only [Bh] at this ⊢;omega
theorem kn {s:Str} (h0:1≤s.length) (h:(C7 s).2.2.2=0):∃n:Nat,(C7 s).2.2.1=(n:Int)∧1≤n∧n≤s.length:=by
 cases s with
 | nil=>simp at h0
 | cons c r =>
  unfold C7 at h ⊢
  split at h
  ·rename_i h1
   rw [if_pos h1]
   have hc:=Wr c (km h1)
   have hw:=Uk (r:=r) hc
   have hl:=I6 (c::r) tails
   unfold P0 at h ⊢
   split at h
   ·rename_i h2;rw [if_pos h2];exact ⟨_,rfl,hw,hl⟩
   rename_i h2
   rw [if_neg h2]
   split at h
   ·exact sq
   rename_i h3;rw [if_neg h3];exact ⟨_,rfl,hw,hl⟩
  rename_i h1
  rw [if_neg h1]
  split at h
  ·rename_i h2
   rw [if_pos h2]
   exact ⟨_,rfl,Uk (r:=r) (km h2),I6 _ _⟩
  rename_i h2
  rw [if_neg h2]
  split at h
  ·rename_i h3
   rw [if_pos h3]
   unfold Ki at h ⊢
   split at h
   ·exact sq
   rename_i n hn
   split at h
   ·exact sq
   rename_i h4
   simp only [if_neg h4]
   have:=Ul _ n hn
   simp at this
   exact ⟨n+1,rfl,by omega,by simp only [Bh];omega⟩
  rename_i h3
  rw [if_neg h3]
  unfold Ui at h ⊢
  split at h
  ·rename_i h4
   rw [if_pos h4]
   refine ⟨2,rfl,by omega,?_⟩
   simp only [Ao,decide_eq_true_eq] at h4
   have:=h4.1.1
   omega
  rename_i h4
  rw [if_neg h4]
  split at h
  ·rename_i h5;rw [if_pos h5];exact ⟨1,rfl,by omega,h0⟩
  exact sq
/-- The words from a place on, up to one that is wrong. -/
def I7:Nat→Nat→Str→List (Tok×Int)
 | 0,_,_=>[]
 | f+1,k,s=>if s==[] then [] else
  (⟨(C7 s).1,(C7 s).2.1,k⟩,(C7 s).2.2.2)::(if (C7 s).2.2.2==0 then I7 f (k+(C7 s).2.2.1.toNat+gapM (s.drop (C7 s).2.2.1.toNat)) ((s.drop (C7 s).2.2.1.toNat).drop (gapM (s.drop (C7 s).2.2.1.toNat))) else [])
def C5 (s:Str):List (Tok×Int):=I7 (s.length+1) (gapM s) (s.drop (gapM s))
theorem i7 (s:Str):gapM s≤s.length:=Nat.sub_le _ _
end Go.SX.Nb
namespace Go.SX
variable [GI:GlobInv]
open Classical
@[simp] theorem AGf {n o k m c:Nat}:Low n (.sl o k m c)↔o<n:=⟨fun h=>by cases h;assumption,fun h=>.sl o k m c h⟩
/-- The cells of elements, one behind the other. -/
abbrev Mc (xs:List AV):List AV:=xs.flatMap AV.cells
theorem P1 (x:AV) (r:List AV):Mc (x::r)=x.cells++Mc r:=by simp [Mc]
theorem R5 {k:Nat}:∀{xs:List AV},(∀x∈xs,x.cells.length=k)→(Mc xs).length=xs.length*k
 | [],_=>by simp
 | x::r,h=>by
  rw [P1,Ap,h x K6,R5 (fun y hy=>h y (T0 _ hy)),Bh,El]
  omega
theorem R6 {k:Nat}:∀{xs:List AV},(∀x∈xs,x.cells.length=k)→∀{i j:Nat} {x y:AV},xs[i]? = some x→x.cells[j]? = some y→(Mc xs)[i*k+j]? = some y
 | [],_,i,j,x,y,h,_=>by simp at h
 | a::r,hk,0,j,x,y,h,h2=>by
  simp at h
  subst h
  rw [P1,Nat.zero_mul,B5,Cg (Ab.1 h2).1]
  exact h2
 | a::r,hk,i+1,j,x,y,h,h2=>by
  rw [Ol] at h
  have ha:=hk a K6
  have hh:=R6 (fun y hy=>hk y (T0 _ hy)) h h2
  rw [P1,Ck (by rw [ha,El];omega),ha]
  rw [show (i+1)*k+j-k=i*k+j by rw [El];omega]
  exact hh
section
variable {P:Program} {d:Nat} {st:St} {dst:Option Tmp} {ty:TypeId} {pos:String} {aft:Array Edge} {gd:Option (Nat×Bool)}
/-- The address of an element. -/
theorem OpV.indexAddrSl {t e:TypeId} {x i:Operand} {o k n c m:Nat} {q:IntKind} (hu:P.underlying t=some (.slice e)) (hsz:∀w,(sizeOf e).run P w=.ok k w) (hm:m<n)
  (hx:st.ev x=.sl o k n c) (hi:st.ev i=.v (.int q (m:Int))):OpV P d ⟨dst,.indexAddr t x i,ty,pos,aft,gd⟩ st (.ptr o (m*k)):=
 C2 (by intro c h;cases h) fun G a w h=>by
  have hr:=hx ▸ h.eval x
  have hi':=Co h hi
  generalize hv:a.eval x=u at hr
  cases hr with
  | sl l o k n c ho =>
   have hlt':(m:Int)<n:=by omega
   refine ⟨.pointer (some ((⟨G.blk o,0,none⟩:Addr).add (m*k))),by simp [execOp,Instr.indexAt,asIntOf,hi',hv,run_underlying hu,hm,hlt',hsz],?_⟩
   rw [Cb rfl,B5]
   exact .ptr _ o _ ho
/-- An empty slice, over an object of its own. -/
theorem AOp.buildObj0 {t e:TypeId} {k s n:Nat} (hu:P.underlying t=some (.slice e)) (hsz:∀w,(sizeOf e).run P w=.ok k w) (hn:st.own.length=n) (hs:s<st.sz):
  AOp P d ⟨some s,.buildSlice t 0 #[],ty,pos,aft,gd⟩ st (·=({ st with own:=st.own++[.cells e []] }:St).set s (.sl (st.up.length+n) k 0 0)):=by
 intro G a w h Q'
 obtain ⟨G',h1,T,hb,hlt⟩:=L2 h e [] #[] rfl (fun j y u h1 _=>by simp at h1)
 have hlen:(st.up++st.own).length=st.up.length+n:=by rw [Ap,hn]
 rw [hlen] at hb hlt
 have hrun:(execOp a.eval (⟨some s,.buildSlice t 0 #[],ty,pos,aft,gd⟩:Oper)).run P w=.ok (.value (.slice (some ⟨w.heap.size,0,none⟩) 0 0)) (w.alloc (.cells #[] e)):=by
  have hfl:∀f:Nat→Option (Nat×Nat),Instr.fill f ((Array.range 0).map fun _=>(default:Value)) []=some #[]:=fun f=>by simp [Instr.fill]
  simp [execOp,Instr.buildSlice,run_underlying hu,hsz,newRow,hfl]
 refine Ch (by intro c h;cases h) hrun ⟨G',_,h1.put (s:=s) (y:=.sl (st.up.length+n) k 0 0) hs ?_,T.keep d,rfl,rfl,rfl,rfl⟩
 rw [←hb]
 exact .sl _ _ _ _ _ hlt
/-- What is appended to an empty slice lies in a new object of ours; of its spare cells nothing is known. -/
theorem AOp.appendObj {t e:TypeId} {i:TypeInfo} {z:Value} {k by' s o n:Nat} {xr x:Operand} {o2:Bool} {ys:List AV}
  (hu:P.underlying t=some (.slice e)) (hi:P.info? e=some i) (hz:i.zero=some z) (hsz:i.size=k) (hby:i.bytes=by') (hzk:z.cells.size=k) (hk:0<k)
  (hb:st.ev xr=.sl o k 0 0) (hx:I1 (st.ev x) o2 k ys) (hne:ys≠[]) (hn:st.own.length=n) (hs:s<st.sz) (hl:ys.length*by'≤140737488355328) (hl2:ys.length≤4611686018427387904):
  AOp P d ⟨some s,.call ⟨.builtin .append,#[xr,x],#[t,t]⟩,ty,pos,aft,gd⟩ st (fun st'=>∃c,ys.length≤c∧st'=({ st with own:=st.own++[.cells e (Mc ys++List.replicate ((c-ys.length)*k) .any)] }:St).set s (.sl (st.up.length+n) k ys.length c)):=by
 subst hsz
 subst hby
 intro G a w h Q'
 have hrb:=hb ▸ h.eval xr
 have hrx:=h.eval x
 have hm:ys.length≠0:=fun e=>hne (Qp e)
 generalize hvb:a.eval xr=vb at hrb
 cases hrb with
 | sl l o k n' c ho =>
  rcases I2 hx hrx with ⟨_,e0⟩|⟨ad2,c2,f2,hvx,hc2,F2,_⟩
  ·exact absurd e0 hne
  have hge:=Hf w (0+ys.length) 0 e
  have hv:=run_append_grow (P:=P) w t ty e i z hu hi hz ⟨G.blk o,0,none⟩ 0 0 [] (by simp) (by simp) ad2 ys.length c2 (C6 i.size ys.length f2) (B1 _ _ _) (F2.vals hk) (by omega) (by omega) (growslice_fits (by omega) (by rw [B5];exact hl))
  rw [B5] at hv hge
  let c':=grownCap w ys.length 0 e
  have hfl:(Mc ys).length=ys.length*i.size:=R5 F2.k
  have hd':StRel d G st a w.drew:=h.drew (w.drawn+1)
  obtain ⟨G',h1,T,hbk,hlt⟩:=L2 hd' e (Mc ys++List.replicate ((c'-ys.length)*i.size) .any) (([]:List Value).toArray++(C6 i.size ys.length f2).toArray++Builtin.zeroCells z.cells (c'-ys.length)) (by
    simp only [Jl,Hd,B1,ff _ hzk,Ap,List.length_replicate,hfl,Cm]
    omega) (fun j y u hy hu'=>by
    by_cases hj:j<ys.length*i.size
    ·rw [Cg (by rw [hfl];exact hj)] at hy
     have hq:j / i.size<ys.length:=by rw [Nat.div_lt_iff_lt_mul hk];exact hj
     have hjm:j % i.size<i.size:=Nat.mod_lt _ hk
     have hx0:ys[j / i.size]? = some (ys[j / i.size]):=Aa hq
     have hcl:=F2.k _ (Cl hq)
     have hy0:(ys[j / i.size]).cells[j % i.size]? = some ((ys[j / i.size]).cells[j % i.size]'(by omega)):=Aa _
     have e1:j / i.size*i.size+j % i.size=j:=by have:=Nat.div_add_mod j i.size;rw [Pi] at this;exact this
     have hfg:=R6 F2.k hx0 hy0
     rw [e1,hy] at hfg
     injection hfg with hfg
     have hval:(C6 i.size ys.length f2)[j]? = some (f2 (j / i.size) (j % i.size)):=Jb hj
     rw [Jk (by simp only [Jl,Hd,B1,Cm];omega)] at hu'
     have e2:u=f2 (j / i.size) (j % i.size):=by
      have:(([]:List Value).toArray++(C6 i.size ys.length f2).toArray)[j]? = (C6 i.size ys.length f2)[j]? := by simp
      rw [this,hval] at hu'
      injection hu' with hu'
      exact hu'.symm
     rw [e2,hfg]
     exact (Jg G w (w.drawn+1)).rep (F2.rep _ _ _ _ hx0 hy0)
    rw [Ck (by rw [hfl];omega)] at hy
    rw [fe] at hy
    split at hy
    ·injection hy with hy;subst hy;exact .any _ _
    cases hy)
  have hlen:(st.up++st.own).length=st.up.length+n:=by rw [Ap,hn]
  rw [hlen] at hbk hlt
  have hrun:(execOp a.eval (⟨some s,.call ⟨.builtin .append,#[xr,x],#[t,t]⟩,ty,pos,aft,gd⟩:Oper)).run P w=.ok (.value (.slice (some ⟨w.heap.size,0,none⟩) ys.length c')) (w.drew.alloc (.cells (([]:List Value).toArray++(C6 i.size ys.length f2).toArray++Builtin.zeroCells z.cells (c'-ys.length)) e)):=by
   simp only [execOp,resolve,invoke,builtin,Sem.run_bind,Sem.run_pure,Result.andThen_ok,Pe,Bt,Eu,hvb,hvx,hv]
   rfl
  have K0:=(Jg G w (w.drawn+1)).keep d
  refine Ch (by intro c h;cases h) hrun ⟨G',_,h1.put (s:=s) (y:=.sl (st.up.length+n) i.size ys.length c') hs ?_,K0.trans (T.keep d),rfl,rfl,rfl,c',hge,rfl⟩
  have hsz':w.drew.heap.size=w.heap.size:=rfl
  rw [←hsz',←hbk]
  exact .sl _ _ _ _ _ hlt

/-- The elements are written no more: the object goes, and the slice is one of known elements. -/
theorem StRel.freeze {G:Gh} {a:Act} {w:World} (h:StRel d G st a w) {r i k c:Nat} {t:TypeId} {cs xs:List AV} (hr:st.fr r=.sl (st.up.length+i) k xs.length c) (ho:st.own[i]? = some (.cells t cs)) (hnc:xs.length≤c)
  (hcs:cs.take (xs.length*k)=Mc xs) (hk:∀x∈xs,x.cells.length=k) (h1:∀x∈xs,∀y∈x.cells,y.one=true) (hst:∀x∈xs,∀y∈x.cells,y.strip=y):
  ∃G',StRel d G' { st with fr:=A7 r (.slice false k xs) st.fr,own:=st.own.set i .gone } a w∧Keep d G w G' w:=by
 let G':Gh:={ G with tag:=fun b q=>if G.tag b q=.obj (st.up.length+i) then .fix else G.tag b q }
 have hto:(st.up++st.own)[st.up.length+i]? = some (.cells t cs):=by rw [Ec];exact ho
 have hol:st.up.length+i<(st.up++st.own).length:=(Ab.1 hto).1
 have htag:∀b q,G.tag b q≠.obj (st.up.length+i)→G'.tag b q=G.tag b q:=fun b q hb=>by simp only [G'];rw [if_neg hb]
 have htagO:∀b q,G.tag b q=.obj (st.up.length+i)→G'.tag b q=.fix:=fun b q hb=>by simp only [G'];rw [if_pos hb]
 have hfix:∀b q,G.tag b q=.fix→G'.tag b q=.fix:=fun b q hb=>by rw [htag b q (by rw [hb];simp)];exact hb
 have htail:∀b q L,G.tag b q=.tail L→G'.tag b q=.tail L:=fun b q L hb=>by rw [htag b q (by rw [hb];simp)];exact hb
 have hrep:∀{l:Option Loc} {y:AV} {u:Value},Rep G w l y u→Rep G' w l y u:=fun hy =>
  hy.mono (G':=G') (fun b q e=>⟨hfix b q e,rfl⟩) (Ae _) (fun _ _=>rfl) (fun L _ b q e=>htail b q L e)
 have hst':Still G w G' w:=fun b hb=>⟨rfl,hb.1,fun q=>by
  rcases hb.2.1 q with e|e
  ·exact .inl (hfix b q e)
  exact .inr (by rw [htag b q (by rw [e];simp)];exact e),hb.2.2⟩
 obtain ⟨vs,q1,q2,q3,q4⟩:=h.heap.obj _ _ hto
 refine ⟨G',⟨h.size,fun s=>?_,⟨fun j x hx=>?_,?_,h.heap.inj⟩,h.defs,fun q hq=>?_,h.defsNodup,h.defsGe,⟨fun b q hb=>h.tags.ex b q (fun e=>?_),fun b q j hb=>?_,fun b q L hb=>?_,h.tags.globKeep hst'⟩,h.rnd,h.low,h.top⟩,
  ⟨fun b q e=>⟨hfix b q e,rfl⟩,fun b q e s _ ht=>htail b q _ ht,Ae _,fun _ _=>rfl,rfl,rfl,rfl,Ae _,hst'⟩⟩
 ·show Rep G' w _ (A7 r (.slice false k xs) st.fr s) _
  unfold A7
  by_cases hs:s=r
  ·subst hs
   rw [if_pos rfl]
   have hsl:=h.slots s
   rw [hr] at hsl
   generalize a.tmps.getD s undef=v at hsl
   cases hsl with
   | sl l o k n c ho' =>
    refine .slice _ false k xs ⟨G.blk (st.up.length+i),0,none⟩ _ c (fun q j=>vs.getD (q*k+j) undef) rfl rfl hnc hk h1 (fun q x j y hx hy=>?_) (fun q x j y hx hy=>?_) (fun e=>by cases e)
    all_goals
     have hfg:=R6 hk hx hy
     have hlt:q*k+j<xs.length*k:=by
      have:=(Ab.1 hfg).1
      rw [R5 hk] at this;exact this
     rw [←hcs,List.getElem?_take_of_lt hlt] at hfg
     have hcl:=(Ab.1 hfg).1
    ·refine ⟨htagO _ _ (by simpa using q4 _ hcl),?_⟩
     simp only [B5]
     simp [World.cell?,q1,show q*k+j<vs.size by omega]
    have hu:=q3 _ y (vs[q*k+j]'(by omega)) hfg (Ds (by omega))
    have e1:vs.getD (q*k+j) undef=vs[q*k+j]'(by omega):=by simp [show q*k+j<vs.size by omega]
    rw [e1]
    have:=hrep (hu.strip (l':=none))
    rw [hst x (Ar hx) y (Ar hy)] at this
    exact this
  rw [if_neg hs]
  exact hrep (h.slots s)
 ·have hx':(st.up++st.own.set i .gone)[j]? = some x:=hx
  rw [←Bv,Kr] at hx'
  by_cases hj:st.up.length+i=j
  ·rw [if_pos hj,if_pos hol] at hx'
   injection hx' with hx'
   subst hx'
   subst hj
   exact ⟨vs,t,(0,0),q1,fun q hq=>htagO _ _ (q4 q (by omega))⟩
  rw [if_neg hj] at hx'
  exact (h.heap.obj j x hx').free (fun e=>hj e.symm) htag rfl rfl
 ·show G.n=(st.up++st.own.set i .gone).length
  have:=h.heap.n
  simpa using this
 ·show (st.up++st.own.set i .gone)[q]? = _
  have h2:=h.defsAt q hq
  rw [←Bv,Kr]
  by_cases hj:st.up.length+i=q
  ·subst hj;rw [hto] at h2;cases h2
  rw [if_neg hj];exact h2
 ·simp only [G'] at hb
  split at hb
  ·rename_i e';rw [e] at e';cases e'
  exact hb e
 ·simp only [G'] at hb
  split at hb
  ·cases hb
  exact h.tags.obj b q j hb
 simp only [G'] at hb
 split at hb
 ·cases hb
 exact h.tags.tail b q L hb
end
section
variable {P:Program} {d:Nat} {ops:Array Oper}
theorem ARun.turnSt {l:List Oper} {st st':St} {Q:St→Prop} (h:∀(G:Gh) (a:Act) (w:World),StRel d G st a w→∃G',StRel d G' st' a w∧Keep d G w G' w) (e1:st'.up.length=st.up.length) (e2:st'.rnd=st.rnd) (e3:st'.sz=st.sz) (hr:ARun P d ops l st' Q):ARun P d ops l st Q:=by
 intro G a w hrel idx hidx
 obtain ⟨G',h1,k⟩:=h G a w hrel
 have:=hr G' a w h1 idx hidx
 rw [Em hrel k e2] at this
 exact Ct (fun e a' w' hp=>⟨hp.1,hp.2.next k e1 e2 e3⟩) _ _ _ this
variable {sz:Nat} {fr:Nat→AV} {up own own':List AObj} {dfs:List Nat} {rnd:Option Nat} {Q:St→Prop} {rest:List Oper} {s:Nat} {ty:TypeId} {pos:String} {aft:Array Edge}
theorem R.indexAddrSl {t e:TypeId} {x i:Operand} {o k n c:Nat} {q:IntKind} {z:Int} (m:Nat) (ht:P.underlying t=some (.slice e)) (hsz:∀w,(Go.sizeOf e).run P w=.ok k w) (hm:m<n) (hr:ARun P d ops rest ⟨sz,A7 s (.ptr o (m*k)) fr,up,own,dfs,rnd⟩ Q)
  (hx:Ax fr x=.sl o k n c:=by exact sL0) (hi:Ax fr i=.v (.int q z):=by exact sL0) (hz:z=(m:Int):=by first|rfl|omega) (hs:Nat.blt s sz=true:=by rfl):
  ARun P d ops (⟨some s,.indexAddr t x i,ty,pos,aft,none⟩::rest) ⟨sz,fr,up,own,dfs,rnd⟩ Q:=
 Ts rfl rfl hs (OpV.indexAddrSl ht hsz hm hx (by subst hz;exact hi)) hr
theorem R.buildObj0 {t e:TypeId} {k n:Nat} (ht:P.underlying t=some (.slice e)) (hsz:∀w,(Go.sizeOf e).run P w=.ok k w) (hr:ARun P d ops rest ⟨sz,A7 s (.sl (oid up.length n) k 0 0) fr,up,own',dfs,rnd⟩ Q)
  (hn:own.length=n:=by rfl) (ho:own++[.cells e []]=own':=by rfl) (hs:Nat.blt s sz=true:=by rfl):
  ARun P d ops (⟨some s,.buildSlice t 0 #[],ty,pos,aft,none⟩::rest) ⟨sz,fr,up,own,dfs,rnd⟩ Q:=by
 subst ho
 exact AAr rfl (AOp.buildObj0 (st:=⟨sz,fr,up,own,dfs,rnd⟩) ht hsz hn (by simpa using hs)) hr
theorem R.appendObj {t e:TypeId} {i:TypeInfo} {z:Value} {k o n:Nat} {xr x:Operand} {o2:Bool} {y:AV} {ys:List AV} (hu:P.underlying t=some (.slice e)) (hi:P.info? e=some i) (hne:ys≠[]) (hl:ys.length*i.bytes≤140737488355328) (hl2:ys.length≤4611686018427387904)
  (hr:∀c,ys.length≤c→ARun P d ops rest ⟨sz,A7 s (.sl (oid up.length n) k ys.length c) fr,up,own++[.cells e (Mc ys++List.replicate ((c-ys.length)*k) .any)],dfs,rnd⟩ Q)
  (hz:i.zero=some z:=by rfl) (hsz:i.size=k:=by rfl) (hzk:z.cells.size=k:=by rfl) (hk:0<k:=by decide) (hb:Ax fr xr=.sl o k 0 0:=by exact sL0)
  (hx:Ax fr x=y:=by exact sL0) (hx':I1 y o2 k ys:=by first|exact .inl rfl|exact .inr ⟨rfl,rfl⟩) (hn:own.length=n:=by rfl) (hs:Nat.blt s sz=true:=by rfl):
  ARun P d ops (⟨some s,.call ⟨.builtin .append,#[xr,x],#[t,t]⟩,ty,pos,aft,none⟩::rest) ⟨sz,fr,up,own,dfs,rnd⟩ Q:=by
 subst hx
 refine Tp rfl (AOp.appendObj (st:=⟨sz,fr,up,own,dfs,rnd⟩) hu hi hz hsz rfl hzk hk hb hx' hne hn (by simpa using hs) hl hl2) (fun s' hs'=>?_)
 obtain ⟨c,hc,rfl⟩:=hs'
 exact hr c hc
/-- The elements of the slice in slot r, over object i of ours, are written no more. -/
theorem R.freeze {l:List Oper} (r i:Nat) {k n c:Nat} {t:TypeId} {cs:List AV} (xs:List AV) (hnc:n≤c) (hn:n=xs.length) (hcs:cs.take (n*k)=Mc xs) (hk:∀x∈xs,x.cells.length=k) (h1:∀x∈xs,∀y∈x.cells,y.one=true) (hst:∀x∈xs,∀y∈x.cells,y.strip=y)
  (hr:ARun P d ops l ⟨sz,A7 r (.slice false k xs) fr,up,own',dfs,rnd⟩ Q) (hf:fr r=.sl (oid up.length i) k n c:=by exact sL0) (ho:own[i]? = some (.cells t cs):=by rfl) (hset:own.set i .gone=own':=by rfl):
  ARun P d ops l ⟨sz,fr,up,own,dfs,rnd⟩ Q:=by
 subst hset
 subst hn
 exact ARun.turnSt (fun G a w h=>h.freeze (st:=⟨sz,fr,up,own,dfs,rnd⟩) hf ho hnc hcs hk h1 hst) rfl rfl rfl hr
end
end Go.SX
namespace Go.SX
variable [GI:GlobInv]
open Classical
variable {P:Program} {d:Nat} {l0:List Oper} {kd:Nat} {ops:Array Oper} {rest:List Oper} {sz:Nat} {fr:Nat→AV} {up own:List AObj} {dfs:List Nat} {rnd:Option Nat} {Q:St→Prop} {s:Nat} {ty:TypeId} {pos:String} {aft:Array Edge} {E:List Oper→(Nat→AV)→Prop}
theorem R.nilTmp {l:List Oper} (s k:Nat) (o:Bool) (hr:ARun P d ops l ⟨sz,A7 s (.slice o k []) fr,up,own,dfs,rnd⟩ Q) (h:fr s=.nil:=by exact sL0):
  ARun P d ops l ⟨sz,fr,up,own,dfs,rnd⟩ Q:=
 ARun.le (st':=⟨sz,A7 s (.slice o k []) fr,up,own,dfs,rnd⟩) (To (s:=⟨sz,fr,up,own,dfs,rnd⟩) fun i=>by
  show Le (fr i) (A7 s (.slice o k []) fr i)
  unfold A7
  by_cases hi:i=s
  ·subst hi;rw [if_pos rfl,h];exact .nil _ _
  rw [if_neg hi];exact .refl _) hr
/-! A slice without room behind its end: whoever appends to it gets a new one. -/
theorem i8 (k:Nat) (xs:List AV):(AV.full k xs).strip=.full k xs:=rfl
theorem ia (k:Nat) (xs:List AV):(AV.full k xs).cells=[.full k xs]:=rfl
theorem u6 (k:Nat) (xs:List AV):(AV.full k xs).one=true:=rfl
attribute [go_sem] i8 ia u6
section
variable {KP:List PanicEntry→St→Prop} {up own:(Nat→Bool)→List AObj} {S:List SegY} {l:List Oper} {T F:List Nat}
/-- The p-th of those that turn the heap: a store into an object of whoever waits. -/
theorem Y.storeUp {t t':TypeId} {p x:Operand} {o off k pn:Nat} {y:AV} {ys cs cs':List AV} (hsz:∀w,(Go.sizeOf t).run P w=.ok k w)
  (hU:∀B:Nat→Bool,B pn=false→(up B)[o]? = some (.cells t' cs)∧up (upd B pn)=(up B).set o (.cells t' cs')∧own (upd B pn)=own B∧∀y∈ys,Low (up B).length y)
  (h:ChainY P d l0 sz up own dfs rnd KP E S l fr)
  (hp:Ax fr p=.ptr o off:=by exact sL0) (hx:Ax fr x=y:=by exact sL0) (hc:y.cells=ys:=by exact sL0) (hk:ys.length=k:=by rfl)
  (h1:ys.all AV.one=true:=by exact sL2) (hfit:off+k≤cs.length:=by exact sL1) (hput:Bu cs off ys=cs':=by exact sL0):
  ChainY P d l0 sz up own dfs rnd KP E (.s [] (some pn) T F::S) (⟨none,.store t p x,ty,pos,aft,none⟩::l) fr:=by
 subst hput
 subst hc
 refine ⟨_,l,[],rfl,⟨rfl,rfl,fun B f _ _ hB hf=>.of ?_⟩,h⟩
 obtain ⟨a1,a2,a3,a4⟩:=hU B (hB pn rfl)
 have e:Ax f p=.ptr o off:=by rw [agr hf (by simp [Op.operands])];exact hp
 have ex:Ax f x=y:=by rw [agr hf (by simp [Op.operands])];exact hx
 refine AOp.eqTo (AOp.storeUp (st:=⟨sz,f,up B,own B,dfs,rnd⟩) hsz e a1 ex hk h1 hfit a4) ?_
 show _=St.mk sz f (up (upd B pn)) (own (upd B pn)) dfs rnd
 rw [a2,a3]
end
end Go.SX
namespace Go.SX
def R7:=@R.nilTmp
end Go.SX
