/- On the way (part 4). -/
import Derived.Below
import Derived.Test.YtofbdcbjpdpllaaGreatDoorProg
import Derived.KernelRfl
import Derived.Shelf.Strconv.Itoa4
import Derived.Shelf.Strings.SplitShaped
import Derived.Shelf.Strings.SlTrimAscii
import Derived.Shelf.Strings.OnBuilder
import Derived.Shelf.Strings.Replace
import Derived.Shelf.Small.Strs
import Derived.Shelf.Strings.Prefix
import Derived.Shelf.Strconv.ErrVarParseInt
import Derived.Shelf.Bits.Mul64
import Derived.Shelf.Strings.Builder1
import Derived.Shelf.Strings.Cut
import Derived.Lib.SplitLaws
import Derived.LaidEql
import Derived.Stop.Asserts
import Derived.RowKitTokens
import Derived.WalkKit
import Derived.Lib.AtoiErrMem
import Derived.Lib.Strings
import Derived.BigCall
import Derived.Lib.ParseIntB
import Derived.Test.YtofbdcbjpdpllaaGreatDoorInvertComesCardSaidPart3
set_option linter.all false
namespace Go.SX
variable [GI:GlobInv]
open Classical Go.RowKit
section
variable {P:Program} {g:FuncId} {Hp:List AObj}

/-- What is known of package-level variables, of a world alone. -/
def Io (w:World):Prop:=∀x∈GI.blocks,∃o,w.heap[x.1]? = some o∧x.2 o

theorem Wj {G:Gh} {w:World} {xs:List Value} {vs:Array Value} (hn:vs.size=(xs.map AV.v).length) (h:∀(i:Nat) (y:AV) (u:Value),(xs.map AV.v)[i]? = some y→vs[i]? = some u→∃l,Rep G w l y u):vs=xs.toArray:=by
 apply kw
 ·simpa using hn
 intro i h1 h2
 have hi:i<xs.length:=by simpa using h2
 obtain ⟨l,hr⟩:=h i (.v xs[i]) vs[i] (by simp [hi]) (Ec h1)
 have:=Kx hr
 simpa using this

theorem Fg {G:Gh} {w w':World} (hT:TagOK G w) (hb:Below w.heap.size w w') {b o:Nat} (h:G.tag b o≠.free):w'.cell? ⟨b,o,none⟩=w.cell? ⟨b,o,none⟩∧w'.frozen? ⟨b,o,none⟩=w.frozen? ⟨b,o,none⟩:=by
 obtain ⟨u,hu⟩:=hT.ex b o h
 have hlt:b<w.heap.size:=World.block_lt_of_cell? _ _ hu
 have:=hb.block b hlt
 exact ⟨Ds this,Cx this⟩

theorem S6 {G:Gh} {w w':World} (hT:TagOK G w) (hb:Below w.heap.size w w'):Turn G w G w':=
 ⟨fun b o h=>⟨h,(Fg hT hb (by rw [h];simp)).1⟩,fun _ _ _ h=>h,fun _ _ _ h=>h,An _,fun _ _=>rfl,hb.os,hb.tape,hb.output,hb.size,Jb (fun b hv=>hb.block b hv.1) hb.size (fun _ _ _=>.inl rfl) (fun _ hi=>.inl ⟨hi,rfl⟩)⟩

theorem be {G:Gh} {H:List AObj} {w w':World} (hH:HeapRel G H w) (hT:TagOK G w) (hb:Below w.heap.size w w'):HeapRel G H w'∧TagOK G w':=by
 have T:=S6 hT hb
 refine ⟨⟨fun i x hx=>?_,hH.n,hH.inj⟩,⟨fun b o h=>?_,fun b o i h=>?_,fun b o L h=>?_,hT.globKeep T.old⟩⟩
 ·have hi:i<G.n:=by rw [hH.n];exact (Ae.1 hx).1
  exact T.objRel hi (hb.block _ (L3 hH i hi)) (hH.obj i x hx) (fun b h=>hb.block b h.lt)
 ·rw [(Fg hT hb h).1];exact hT.ex b o h
 ·rw [(Fg hT hb (by rw [h];simp)).2];exact hT.obj b o i h
 rw [(Fg hT hb (by rw [h];simp)).2];exact hT.tail b o L h

/-- A function of plain values that hands back a plain value. -/
theorem AFun.lib {xs:List Value} {r:AV} {v:Value} (hr:∀G w,Rep G w none r v) (h:∀w,Io w→Calls P g xs.toArray w (fun e w'=>e=.returned v∧Below w.heap.size w w')):AFun P g (xs.map .v) Hp r:=by
 intro d G w vs hn hv hH hT hTop
 have hvs:=Wj hn (fun i y u a b=>⟨_,hv i y u a b⟩)
 subst hvs
 refine (callsIn_wide.2 (h w (fun x hx=>let ⟨_,u,a,b⟩:=hT.glob x hx;⟨u,a,b⟩))).mono ?_
 rintro e w' ⟨rfl,hb⟩
 obtain ⟨h1,h2⟩:=be hH hT hb
 exact ⟨v,G,r,Hp,rfl,(hr G w').lift,h1,h2,(S6 hT hb).keep _,rfl,rfl,rfl⟩


/-- A function of plain values that hands back a new slice of plain values. -/
theorem AFun.libSlice {xs ys:List Value} {t:TypeId} (hone:∀y∈ys,y.oneCell'=true) (h:∀w,Io w→Calls P g xs.toArray w (fun e w'=>e=.returned (.slice (some ⟨w.heap.size,0,none⟩) ys.length ys.length)∧w'=w.alloc (.cells ys.toArray t))):
  AFun P g (xs.map .v) Hp (.slice false 1 (ys.map .v)):=by
 intro d G w vs hn hv hH hT hTop
 have hvs:=Wj hn (fun i y u a b=>⟨_,hv i y u a b⟩)
 subst hvs
 refine (callsIn_wide.2 (h w (fun x hx=>let ⟨_,u,a,b⟩:=hT.glob x hx;⟨u,a,b⟩))).mono ?_
 rintro e w' ⟨rfl,rfl⟩
 have hst:StRel (d+1) G ⟨0,fun _=>.any,Hp,[],[],none⟩ { tmps:=#[],defers:=[] } w:=
  ⟨rfl,fun s=>.any _ _,by simpa using hH,(by rw [Ie hTop];rfl),(fun o ho=>by simp at ho),Nm,(fun o ho=>by simp at ho),hT,(fun l hl=>by cases hl),Rt hH,Qz hTop⟩
 obtain ⟨G',g1,T,g2⟩:=Ow hst t ys.toArray
 refine ⟨_,G',_,Hp,rfl,?_,by simpa using g1.heap,g1.tags,T.keep _,rfl,rfl,rfl⟩
 refine .slice _ false 1 _ _ _ _ (fun i j=>ys.toArray.getD i undef) rfl (by simp) (An _) (fun x hx=>?_) (fun x hx y hy=>?_) (fun i x j y hx hy=>?_) (fun i x j y hx hy=>?_) (fun h=>by cases h)
 ·obtain ⟨z,_,rfl⟩:=Dd.1 hx
  rfl
 ·obtain ⟨z,hz,rfl⟩:=Dd.1 hx
  have:y=.v z:=by simpa [AV.cells] using hy
  subst this
  exact hone z hz
 all_goals
  rw [Ce,Dp] at hx
  obtain ⟨z,hz,rfl⟩:=hx
  have hlt:i<ys.length:=(Ae.1 hz).1
  have hj:j=0:=by
   match j,hy with
   | 0,_=>rfl
   | j+1,hy=>simp [AV.cells] at hy
  subst hj
 ·refine ⟨by simpa using g2 i (by simpa using hlt),?_⟩
  rw [World.cell?_alloc_new]
  simp [hlt]
 have:y=.v z:=by simpa [AV.cells] using hy.symm
 subst this
 have e:ys.toArray.getD i undef=z:=by
  have:=Al hlt
  rw [this] at hz
  injection hz with hz
  simp [hlt,hz]
 rw [e]
 exact .v _ _
/-- A function that hands back a plain value and, behind an interface value, a new record of plain values. -/
theorem AFun.libErr {xs cs:List Value} {n:Value} {T te:TypeId} (hone:∀y∈cs,y.oneCell'=true) (h:∀w,Io w→Calls P g xs.toArray w (fun e w'=>∃N,e=.returned (.tuple #[n,.iface T (.pointer (some ⟨N,0,none⟩))])∧w.heap.size≤N∧w'.heap[N]? = some (.cells cs.toArray te (0,0))∧Below w.heap.size w w')):
  AFun P g (xs.map .v) Hp (.tup [.v n,.iface T (.ro (cs.map .v))]):=by
 intro d G w vs hn hv hH hT hTop
 have hvs:=Wj hn (fun i y u a b=>⟨_,hv i y u a b⟩)
 subst hvs
 refine (callsIn_wide.2 (h w (fun x hx=>let ⟨_,u,a,b⟩:=hT.glob x hx;⟨u,a,b⟩))).mono ?_
 rintro e w' ⟨N,rfl,hN,hcell,hb⟩
 have hfree:∀o,G.tag N o=.free:=fun o=>En hT _ o hN
 let G':Gh:={ G with tag:=fun b o=>if b=N∧o<cs.length then .fix else G.tag b o }
 have hne:∀b o,G.tag b o≠.free→¬(b=N∧o<cs.length):=fun b o hb hc=>by rw [hc.1] at hb;exact hb (hfree o)
 have hnew:∀o,o<cs.length→w'.cell? ⟨N,o,none⟩=cs[o]? := fun o ho=>by simp [World.cell?,hcell,ho]
 have T1:Turn G w G' w':=by
  refine ⟨fun b o h=>⟨?_,(Fg hT hb (by rw [h];simp)).1⟩,fun b o L h=>?_,fun b o i h=>?_,An _,fun _ _=>rfl,hb.os,hb.tape,hb.output,hb.size,
   Jb (fun b hv=>hb.block b hv.1) hb.size (fun b o hlt=>.inl ?_) (fun _ hi=>.inl ⟨hi,rfl⟩)⟩
  ·simp only [G'];rw [if_neg (hne b o (by rw [h];simp))];exact h
  ·simp only [G'];rw [if_neg (hne b o (by rw [h];simp))];exact h
  ·simp only [G'];rw [if_neg (hne b o (by rw [h];simp))];exact h
  simp only [G'];rw [if_neg (by omega)]
 have hH':HeapRel G' Hp w':=⟨fun i x hx=>by
  have hi:i<G.n:=by rw [hH.n];exact (Ae.1 hx).1
  exact T1.objRel hi (hb.block _ (L3 hH i hi)) (hH.obj i x hx) (fun b h=>hb.block b h.lt),hH.n,hH.inj⟩
 have hT':TagOK G' w':=by
  refine ⟨fun b o h=>?_,fun b o i h=>?_,fun b o L h=>?_,hT.globKeep T1.old⟩
  ·simp only [G'] at h
   split at h
   ·rename_i hc;obtain ⟨rfl,ho⟩:=hc;exact ⟨_,(hnew o ho).trans (Al ho)⟩
   rw [(Fg hT hb h).1];exact hT.ex b o h
  ·simp only [G'] at h
   split at h
   ·cases h
   rw [(Fg hT hb (by rw [h];simp)).2];exact hT.obj b o i h
  simp only [G'] at h
  split at h
  ·cases h
  rw [(Fg hT hb (by rw [h];simp)).2];exact hT.tail b o L h
 refine ⟨_,G',_,Hp,rfl,?_,hH',hT',T1.keep _,rfl,rfl,rfl⟩
 refine .tup _ _ _ rfl (fun i y u hy hu=>?_)
 match i with
 | 0=>simp at hy hu;subst hy;subst hu;exact .v _ _
 | 1 =>
  simp at hy hu;subst hy;subst hu
  refine .iface _ _ _ _ (.ro _ _ ⟨N,0,none⟩ (fun j=>cs.getD j undef) rfl (fun y hy=>?_) (fun j y hy=>?_) (fun j y hy=>?_))
  ·obtain ⟨z,hz,rfl⟩:=Dd.1 hy
   exact hone z hz
  all_goals
   rw [Ce,Dp] at hy
   obtain ⟨z,hz,rfl⟩:=hy
   have hlt:j<cs.length:=(Ae.1 hz).1
   have e:cs.getD j undef=z:=by rw [Ch,hz];rfl
  ·refine ⟨by simp [G',hlt],?_⟩
   rw [Bu,hnew j hlt,hz,e]
  rw [e];exact .v _ _
 | i+2=>simp at hy
theorem TagOK.globIn {G:Gh} {w:World} (h:TagOK G w):Io w:=fun x hx=>(h.glob x hx).2
/-- A package-level variable of which something is known. -/
theorem R.loadGlob {d:Nat} {ops:Array Oper} {rest:List Oper} {sz:Nat} {fr:Nat→AV} {up own:List AObj} {dfs:List Nat} {rnd:Option Nat} {Q:St→Prop} {s:Nat} {ty:TypeId} {pos:String} {aft:Array Edge} {t:TypeId} {gl:Nat} {v:Value}
  (hagg:∀w,(isAgg t).run P w=.ok false w) (hv:∀w,Io w→w.cell? ⟨gl,0,none⟩=some v) (hr:ARun P d ops rest ⟨sz,Ao s (.v v) fr,up,own,dfs,rnd⟩ Q) (hs:Nat.blt s sz=true:=by rfl):
  ARun P d ops (⟨some s,.load t (.global gl),ty,pos,aft,none⟩::rest) ⟨sz,fr,up,own,dfs,rnd⟩ Q:=by
 refine ARun.v rfl rfl (by simpa using hs) (C8 (by intro c h;cases h) fun G a w h=>⟨v,?_,.v _ _⟩) hr
 have hc:=hv w h.tags.globIn
 have e:a.eval (.global gl)=.pointer (some ⟨gl,0,none⟩):=rfl
 simp [execOp,e,Instr.loadAt,Instr.sureAddr,loadVar,hagg,hc]
end
end Go.SX
namespace Go.SX
def J2:=@AFun.lib
end Go.SX
namespace Go.SX.Nb
open Go Go.SX Go.Proofs
set_option maxRecDepth 4000

/-- Where strconv.ErrRange points. -/
class ErrAt where
 b:Addr
 bd:Nat:=0
 bl:List Deferred:=[]
/-- The package-level variables of which something is known: bytealg.MaxLen is a number; strconv.ErrRange is an error of errors.New's make; the table of powers of ten. -/
def Ul [E:ErrAt]:List (Nat×(Obj→Prop)):=[(0,fun o=>∃m t f,o=.cells #[.int .i64 m] t f),(1,fun o=>∃t f,o=.cells #[.iface 347 (.pointer (some E.b))] t f),(4,fun o=>∃t f,o=.cells (Lib.pow10Tab.map fun z=>Value.int .u64 z).toArray t f)]
instance globInv [E:ErrAt]:GlobInv:={ blocks:=Ul,bd:=E.bd,bl:=E.bl }
variable [ErrAt]

abbrev Str:=List UInt8
structure Col where
 name:Str
 kind:Int
 deriving DecidableEq
structure Val where
 kind:Int
 n:Int
 s:Str
 deriving DecidableEq
structure Row where
 key:Int
 l:List Val
 deriving DecidableEq
abbrev Ah (s:Str):AV:=.v (sv s)
abbrev A6 (n:Int):AV:=.v (.int .i64 n)
abbrev mf (n:Int):AV:=.v (.int .u64 n)
abbrev B8 (b:Bool):AV:=.v (.bool b)
abbrev U6 (c:Col):AV:=.agg [.v (sv c.name),.v (.int .i64 c.kind)]
abbrev Gq (c:List Col):AV:=.slice false 2 (c.map U6)
abbrev Bq (v:Val):AV:=.agg [.v (.int .i64 v.kind),.v (.int .i64 v.n),.v (sv v.s)]
abbrev Jk (l:List Val):AV:=.slice false 3 (l.map Bq)
abbrev Um (l:List Str):AV:=.slice false 1 (l.map Ah)
theorem Cu {α β:Type} {f:α→β} {l:List α} {i:Nat} (h:i<l.length):(l.map f)[i]? = some (f l[i]):=by simp [h]
theorem Aw:Tryz.prog.follows .mixedOrders=true:=by kernel_rfl
theorem Wk:Tryz.prog.eqGuardType Tryz.prog.depth 23=false:=by kernel_rfl
theorem I6 (k n k' n':Int) (s s':List UInt8) (w:World):(Op.equal 23 (.agg #[.int .i64 k,.int .i64 n,.string ⟨s.toArray⟩]) (.agg #[.int .i64 k',.int .i64 n',.string ⟨s'.toArray⟩])).run Tryz.prog w=.ok (k==k'&&n==n'&&s==s') w:=by
 have h1:Tryz.prog.stoodInHeld 23=false:=by kernel_rfl
 show (Op.equalIn (9999+1) _ _ _).run _ _=_
 rw [Op.equalIn]
 generalize hd:(9999:Nat)=d
 obtain ⟨d,rfl⟩:∃e,d=e+1:=⟨9998,hd.symm⟩
 clear hd
 simp [run_underlying Tryz.underlying23,h1,part,tt _ _ _ _ _ _ Tryz.underlying3,tt _ _ _ _ _ _ Tryz.underlying2,wt _ _ _ _ _ Tryz.underlying9,Tryz.isAgg3,Tryz.isAgg2,Tryz.isAgg9]
 by_cases e1:k=k'<;>by_cases e2:n=n'<;>by_cases e3:s=s'<;>simp [e1,e2,e3]
end Go.SX.Nb
namespace Go.Proofs
open Go Go.Shelf
def Tryz.ren144:Ren where
 f:=fun x=>match x with|144=>131|143=>168|219=>215|217=>263|225=>264|224=>265|267=>266|266=>298|314=>299|n=>n
 t:=fun x=>match x with|9=>9|4=>4|3=>3|5=>5|46=>34|146=>302|51=>301|n=>n
 g:=fun x=>match x with|1=>0|n=>n
theorem Tryz.lays144:Lays.n144 Tryz.prog Tryz.ren144 where
 mixed:=by kernel_rfl
 f143:=Tryz.func168
 f144:=Tryz.func131
 f217:=Tryz.func263
 f219:=Tryz.func215
 f224:=Tryz.func265
 f225:=Tryz.func264
 f266:=Tryz.func298
 f267:=Tryz.func266
 f314:=Tryz.func299
 t3:=Tryz.underlying3
 a3:=Tryz.isAgg3
 z3:=Tryz.sizeOf3
 v3:=Tryz.zeroValue3
 t4:=Tryz.underlying4
 a4:=Tryz.isAgg4
 z4:=Tryz.sizeOf4
 v4:=Tryz.zeroValue4
 t5:=Tryz.underlying5
 a5:=Tryz.isAgg5
 z5:=Tryz.sizeOf5
 v5:=Tryz.zeroValue5
 t9:=Tryz.underlying9
 a9:=Tryz.isAgg9
 z9:=Tryz.sizeOf9
 v9:=Tryz.zeroValue9
 t46:=Tryz.underlying34
 a46:=Tryz.isAgg34
 z46:=Tryz.sizeOf34
 v46:=Tryz.zeroValue34
 t51:=Tryz.underlying301
 a51:=Tryz.isAgg301
 z51:=Tryz.sizeOf301
 v51:=Tryz.zeroValue301
 t146:=Tryz.underlying302
 a146:=Tryz.isAgg302
 z146:=Tryz.sizeOf302
 v146:=Tryz.zeroValue302
 g1:=by kernel_rfl
def Tryz.ren145:Ren where
 f:=fun x=>match x with|145=>163|220=>211|219=>215|217=>263|225=>264|224=>265|267=>266|266=>298|314=>299|n=>n
 t:=fun x=>match x with|9=>9|4=>4|59=>208|3=>3|5=>5|46=>34|146=>302|51=>301|n=>n
 g:=fun x=>match x with|1=>0|n=>n
theorem Tryz.lays145:Lays.n145 Tryz.prog Tryz.ren145 where
 mixed:=by kernel_rfl
 f145:=Tryz.func163
 f217:=Tryz.func263
 f219:=Tryz.func215
 f220:=Tryz.func211
 f224:=Tryz.func265
 f225:=Tryz.func264
 f266:=Tryz.func298
 f267:=Tryz.func266
 f314:=Tryz.func299
 t3:=Tryz.underlying3
 a3:=Tryz.isAgg3
 z3:=Tryz.sizeOf3
 v3:=Tryz.zeroValue3
 t4:=Tryz.underlying4
 a4:=Tryz.isAgg4
 z4:=Tryz.sizeOf4
 v4:=Tryz.zeroValue4
 t5:=Tryz.underlying5
 a5:=Tryz.isAgg5
 z5:=Tryz.sizeOf5
 v5:=Tryz.zeroValue5
 t9:=Tryz.underlying9
 a9:=Tryz.isAgg9
 z9:=Tryz.sizeOf9
 v9:=Tryz.zeroValue9
 t46:=Tryz.underlying34
 a46:=Tryz.isAgg34
 z46:=Tryz.sizeOf34
 v46:=Tryz.zeroValue34
 t51:=Tryz.underlying301
 a51:=Tryz.isAgg301
 z51:=Tryz.sizeOf301
 v51:=Tryz.zeroValue301
 t59:=Tryz.underlying208
 a59:=Tryz.isAgg208
 z59:=Tryz.sizeOf208
 v59:=Tryz.zeroValue208
 t146:=Tryz.underlying302
 a146:=Tryz.isAgg302
 z146:=Tryz.sizeOf302
 v146:=Tryz.zeroValue302
 g1:=by kernel_rfl
def Tryz.ren146:Ren where
 f:=fun x=>match x with|146=>122|221=>162|268=>209|138=>210|143=>168|195=>259|197=>213|218=>260|219=>215|260=>261|217=>263|225=>264|224=>265|267=>266|266=>298|314=>299|n=>n
 t:=fun x=>match x with|9=>9|31=>45|3=>3|4=>4|0=>0|105=>247|21=>21|5=>5|46=>34|119=>296|139=>299|138=>298|146=>302|51=>301|n=>n
 g:=fun x=>match x with|1=>0|3=>2|4=>3|n=>n
theorem Tryz.lays146:Lays.n146 Tryz.prog Tryz.ren146 where
 mixed:=by kernel_rfl
 f138:=Tryz.func210
 f143:=Tryz.func168
 f146:=Tryz.func122
 f195:=Tryz.func259
 f197:=Tryz.func213
 f217:=Tryz.func263
 f218:=Tryz.func260
 f219:=Tryz.func215
 f221:=Tryz.func162
 f224:=Tryz.func265
 f225:=Tryz.func264
 f260:=Tryz.func261
 f266:=Tryz.func298
 f267:=Tryz.func266
 f268:=Tryz.func209
 f314:=Tryz.func299
 t0:=Tryz.underlying0
 a0:=Tryz.isAgg0
 z0:=Tryz.sizeOf0
 v0:=Tryz.zeroValue0
 t3:=Tryz.underlying3
 a3:=Tryz.isAgg3
 z3:=Tryz.sizeOf3
 v3:=Tryz.zeroValue3
 t4:=Tryz.underlying4
 a4:=Tryz.isAgg4
 z4:=Tryz.sizeOf4
 v4:=Tryz.zeroValue4
 t5:=Tryz.underlying5
 a5:=Tryz.isAgg5
 z5:=Tryz.sizeOf5
 v5:=Tryz.zeroValue5
 t9:=Tryz.underlying9
 a9:=Tryz.isAgg9
 z9:=Tryz.sizeOf9
 v9:=Tryz.zeroValue9
 t21:=Tryz.underlying21
 a21:=Tryz.isAgg21
 z21:=Tryz.sizeOf21
 v21:=Tryz.zeroValue21
 t31:=Tryz.underlying45
 a31:=Tryz.isAgg45
 z31:=Tryz.sizeOf45
 v31:=Tryz.zeroValue45
 t46:=Tryz.underlying34
 a46:=Tryz.isAgg34
 z46:=Tryz.sizeOf34
 v46:=Tryz.zeroValue34
 t51:=Tryz.underlying301
 a51:=Tryz.isAgg301
 z51:=Tryz.sizeOf301
 v51:=Tryz.zeroValue301
 t105:=Tryz.underlying247
 a105:=Tryz.isAgg247
 z105:=Tryz.sizeOf247
 v105:=Tryz.zeroValue247
 t119:=Tryz.underlying296
 a119:=Tryz.isAgg296
 z119:=Tryz.sizeOf296
 t138:=Tryz.underlying298
 a138:=Tryz.isAgg298
 z138:=Tryz.sizeOf298
 v138:=Tryz.zeroValue298
 t139:=Tryz.underlying299
 a139:=Tryz.isAgg299
 z139:=Tryz.sizeOf299
 v139:=Tryz.zeroValue299
 t146:=Tryz.underlying302
 a146:=Tryz.isAgg302
 z146:=Tryz.sizeOf302
 v146:=Tryz.zeroValue302
 g1:=by kernel_rfl
 g3:=by kernel_rfl
 g4:=by kernel_rfl
def Tryz.ren161:Ren where
 f:=fun x=>match x with|161=>130|231=>164|227=>165|233=>166|235=>167|228=>212|197=>213|151=>214|260=>261|152=>262|137=>253|119=>297|224=>265|225=>264|217=>263|266=>298|n=>n
 t:=fun x=>match x with|9=>9|4=>4|3=>3|5=>5|117=>213|116=>212|0=>0|124=>216|105=>247|21=>21|119=>296|46=>34|139=>299|138=>298|n=>n
 g:=fun x=>match x with|3=>2|4=>3|n=>n
theorem Tryz.lays161:Lays.n161 Tryz.prog Tryz.ren161 where
 mixed:=by kernel_rfl
 f119:=Tryz.func297
 f137:=Tryz.func253
 f151:=Tryz.func214
 f152:=Tryz.func262
 f161:=Tryz.func130
 f197:=Tryz.func213
 f217:=Tryz.func263
 f224:=Tryz.func265
 f225:=Tryz.func264
 f227:=Tryz.func165
 f228:=Tryz.func212
 f231:=Tryz.func164
 f233:=Tryz.func166
 f235:=Tryz.func167
 f260:=Tryz.func261
 f266:=Tryz.func298
 t0:=Tryz.underlying0
 a0:=Tryz.isAgg0
 z0:=Tryz.sizeOf0
 v0:=Tryz.zeroValue0
 t3:=Tryz.underlying3
 a3:=Tryz.isAgg3
 z3:=Tryz.sizeOf3
 v3:=Tryz.zeroValue3
 t4:=Tryz.underlying4
 a4:=Tryz.isAgg4
 z4:=Tryz.sizeOf4
 v4:=Tryz.zeroValue4
 t5:=Tryz.underlying5
 a5:=Tryz.isAgg5
 z5:=Tryz.sizeOf5
 v5:=Tryz.zeroValue5
 t9:=Tryz.underlying9
 a9:=Tryz.isAgg9
 z9:=Tryz.sizeOf9
 v9:=Tryz.zeroValue9
 t21:=Tryz.underlying21
 a21:=Tryz.isAgg21
 z21:=Tryz.sizeOf21
 v21:=Tryz.zeroValue21
 t46:=Tryz.underlying34
 a46:=Tryz.isAgg34
 z46:=Tryz.sizeOf34
 v46:=Tryz.zeroValue34
 t105:=Tryz.underlying247
 a105:=Tryz.isAgg247
 z105:=Tryz.sizeOf247
 v105:=Tryz.zeroValue247
 t116:=Tryz.underlying212
 a116:=Tryz.isAgg212
 z116:=Tryz.sizeOf212
 t117:=Tryz.underlying213
 a117:=Tryz.isAgg213
 z117:=Tryz.sizeOf213
 v117:=Tryz.zeroValue213
 t119:=Tryz.underlying296
 a119:=Tryz.isAgg296
 z119:=Tryz.sizeOf296
 t124:=Tryz.underlying216
 a124:=Tryz.isAgg216
 z124:=Tryz.sizeOf216
 v124:=Tryz.zeroValue216
 t138:=Tryz.underlying298
 a138:=Tryz.isAgg298
 z138:=Tryz.sizeOf298
 v138:=Tryz.zeroValue298
 t139:=Tryz.underlying299
 a139:=Tryz.isAgg299
 z139:=Tryz.sizeOf299
 v139:=Tryz.zeroValue299
 g3:=by kernel_rfl
 g4:=by kernel_rfl
def Tryz.ren99:Ren where
 f:=fun x=>match x with|99=>288|206=>315|n=>n
 t:=fun x=>match x with|9=>9|4=>4|3=>3|n=>n
 g:=fun x=>x
theorem Tryz.lays99:Lays.n99 Tryz.prog Tryz.ren99 where
 mixed:=by kernel_rfl
 f99:=Tryz.func288
 f206:=Tryz.func315
 t3:=Tryz.underlying3
 a3:=Tryz.isAgg3
 z3:=Tryz.sizeOf3
 v3:=Tryz.zeroValue3
 t4:=Tryz.underlying4
 a4:=Tryz.isAgg4
 z4:=Tryz.sizeOf4
 v4:=Tryz.zeroValue4
 t9:=Tryz.underlying9
 a9:=Tryz.isAgg9
 z9:=Tryz.sizeOf9
 v9:=Tryz.zeroValue9
def Tryz.ren100:Ren where
 f:=fun x=>match x with|100=>289|207=>316|n=>n
 t:=fun x=>match x with|9=>9|4=>4|3=>3|n=>n
 g:=fun x=>x
theorem Tryz.lays100:Lays.n100 Tryz.prog Tryz.ren100 where
 mixed:=by kernel_rfl
 f100:=Tryz.func289
 f207:=Tryz.func316
 t3:=Tryz.underlying3
 a3:=Tryz.isAgg3
 z3:=Tryz.sizeOf3
 v3:=Tryz.zeroValue3
 t4:=Tryz.underlying4
 a4:=Tryz.isAgg4
 z4:=Tryz.sizeOf4
 v4:=Tryz.zeroValue4
 t9:=Tryz.underlying9
 a9:=Tryz.isAgg9
 z9:=Tryz.sizeOf9
 v9:=Tryz.zeroValue9
def Tryz.ren101:Ren where
 f:=fun x=>match x with|101=>277|208=>306|206=>315|n=>n
 t:=fun x=>match x with|9=>9|4=>4|3=>3|n=>n
 g:=fun x=>x
theorem Tryz.lays101:Lays.n101 Tryz.prog Tryz.ren101 where
 mixed:=by kernel_rfl
 f101:=Tryz.func277
 f206:=Tryz.func315
 f208:=Tryz.func306
 t3:=Tryz.underlying3
 a3:=Tryz.isAgg3
 z3:=Tryz.sizeOf3
 v3:=Tryz.zeroValue3
 t4:=Tryz.underlying4
 a4:=Tryz.isAgg4
 z4:=Tryz.sizeOf4
 v4:=Tryz.zeroValue4
 t9:=Tryz.underlying9
 a9:=Tryz.isAgg9
 z9:=Tryz.sizeOf9
 v9:=Tryz.zeroValue9
def Tryz.ren160:Ren where
 f:=fun x=>match x with|160=>278|232=>307|231=>164|227=>165|234=>308|233=>166|236=>309|235=>167|228=>212|271=>328|151=>214|197=>213|120=>340|152=>262|260=>261|137=>253|119=>297|224=>265|225=>264|217=>263|266=>298|n=>n
 t:=fun x=>match x with|9=>9|4=>4|3=>3|5=>5|117=>213|116=>212|0=>0|124=>216|21=>21|105=>247|46=>34|119=>296|139=>299|138=>298|n=>n
 g:=fun x=>match x with|3=>2|4=>3|n=>n
theorem Tryz.lays160:Lays.n160 Tryz.prog Tryz.ren160 where
 mixed:=by kernel_rfl
 f119:=Tryz.func297
 f120:=Tryz.func340
 f137:=Tryz.func253
 f151:=Tryz.func214
 f152:=Tryz.func262
 f160:=Tryz.func278
 f197:=Tryz.func213
 f217:=Tryz.func263
 f224:=Tryz.func265
 f225:=Tryz.func264
 f227:=Tryz.func165
 f228:=Tryz.func212
 f231:=Tryz.func164
 f232:=Tryz.func307
 f233:=Tryz.func166
 f234:=Tryz.func308
 f235:=Tryz.func167
 f236:=Tryz.func309
 f260:=Tryz.func261
 f266:=Tryz.func298
 f271:=Tryz.func328
 t0:=Tryz.underlying0
 a0:=Tryz.isAgg0
 z0:=Tryz.sizeOf0
 v0:=Tryz.zeroValue0
 t3:=Tryz.underlying3
 a3:=Tryz.isAgg3
 z3:=Tryz.sizeOf3
 v3:=Tryz.zeroValue3
 t4:=Tryz.underlying4
 a4:=Tryz.isAgg4
 z4:=Tryz.sizeOf4
 v4:=Tryz.zeroValue4
 t5:=Tryz.underlying5
 a5:=Tryz.isAgg5
 z5:=Tryz.sizeOf5
 v5:=Tryz.zeroValue5
 t9:=Tryz.underlying9
 a9:=Tryz.isAgg9
 z9:=Tryz.sizeOf9
 v9:=Tryz.zeroValue9
 t21:=Tryz.underlying21
 a21:=Tryz.isAgg21
 z21:=Tryz.sizeOf21
 v21:=Tryz.zeroValue21
 t46:=Tryz.underlying34
 a46:=Tryz.isAgg34
 z46:=Tryz.sizeOf34
 v46:=Tryz.zeroValue34
 t105:=Tryz.underlying247
 a105:=Tryz.isAgg247
 z105:=Tryz.sizeOf247
 v105:=Tryz.zeroValue247
 t116:=Tryz.underlying212
 a116:=Tryz.isAgg212
 z116:=Tryz.sizeOf212
 t117:=Tryz.underlying213
 a117:=Tryz.isAgg213
 z117:=Tryz.sizeOf213
 v117:=Tryz.zeroValue213
 t119:=Tryz.underlying296
 a119:=Tryz.isAgg296
 z119:=Tryz.sizeOf296
 t124:=Tryz.underlying216
 a124:=Tryz.isAgg216
 z124:=Tryz.sizeOf216
 v124:=Tryz.zeroValue216
 t138:=Tryz.underlying298
 a138:=Tryz.isAgg298
 z138:=Tryz.sizeOf298
 v138:=Tryz.zeroValue298
 t139:=Tryz.underlying299
 a139:=Tryz.isAgg299
 z139:=Tryz.sizeOf299
 v139:=Tryz.zeroValue299
 g3:=by kernel_rfl
 g4:=by kernel_rfl
def Tryz.ren155:Ren where
 f:=fun x=>match x with|155=>161|154=>208|138=>210|165=>258|143=>168|166=>119|197=>213|169=>75|195=>259|218=>260|240=>159|241=>296|219=>215|260=>261|276=>206|277=>323|217=>263|225=>264|224=>265|267=>266|266=>298|314=>299|n=>n
 t:=fun x=>match x with|9=>9|3=>3|4=>4|72=>118|0=>0|76=>176|105=>247|21=>21|5=>5|70=>115|20=>20|37=>116|75=>175|127=>180|164=>242|46=>34|119=>296|139=>299|138=>298|146=>302|51=>301|80=>123|n=>n
 g:=fun x=>match x with|1=>0|3=>2|4=>3|n=>n
theorem Tryz.lays155:Lays.n155 Tryz.prog Tryz.ren155 where
 mixed:=by kernel_rfl
 f138:=Tryz.func210
 f143:=Tryz.func168
 f154:=Tryz.func208
 f155:=Tryz.func161
 f165:=Tryz.func258
 f166:=Tryz.func119
 f169:=Tryz.func75
 f195:=Tryz.func259
 f197:=Tryz.func213
 f217:=Tryz.func263
 f218:=Tryz.func260
 f219:=Tryz.func215
 f224:=Tryz.func265
 f225:=Tryz.func264
 f240:=Tryz.func159
 f241:=Tryz.func296
 f260:=Tryz.func261
 f266:=Tryz.func298
 f267:=Tryz.func266
 f276:=Tryz.func206
 f277:=Tryz.func323
 f314:=Tryz.func299
 t0:=Tryz.underlying0
 a0:=Tryz.isAgg0
 z0:=Tryz.sizeOf0
 v0:=Tryz.zeroValue0
 t3:=Tryz.underlying3
 a3:=Tryz.isAgg3
 z3:=Tryz.sizeOf3
 v3:=Tryz.zeroValue3
 t4:=Tryz.underlying4
 a4:=Tryz.isAgg4
 z4:=Tryz.sizeOf4
 v4:=Tryz.zeroValue4
 t5:=Tryz.underlying5
 a5:=Tryz.isAgg5
 z5:=Tryz.sizeOf5
 v5:=Tryz.zeroValue5
 t9:=Tryz.underlying9
 a9:=Tryz.isAgg9
 z9:=Tryz.sizeOf9
 v9:=Tryz.zeroValue9
 t20:=Tryz.underlying20
 a20:=Tryz.isAgg20
 z20:=Tryz.sizeOf20
 v20:=Tryz.zeroValue20
 t21:=Tryz.underlying21
 a21:=Tryz.isAgg21
 z21:=Tryz.sizeOf21
 v21:=Tryz.zeroValue21
 t37:=Tryz.underlying116
 a37:=Tryz.isAgg116
 z37:=Tryz.sizeOf116
 v37:=Tryz.zeroValue116
 t46:=Tryz.underlying34
 a46:=Tryz.isAgg34
 z46:=Tryz.sizeOf34
 v46:=Tryz.zeroValue34
 t51:=Tryz.underlying301
 a51:=Tryz.isAgg301
 z51:=Tryz.sizeOf301
 v51:=Tryz.zeroValue301
 t70:=Tryz.underlying115
 a70:=Tryz.isAgg115
 z70:=Tryz.sizeOf115
 v70:=Tryz.zeroValue115
 t72:=Tryz.underlying118
 a72:=Tryz.isAgg118
 z72:=Tryz.sizeOf118
 v72:=Tryz.zeroValue118
 t75:=Tryz.underlying175
 a75:=Tryz.isAgg175
 z75:=Tryz.sizeOf175
 v75:=Tryz.zeroValue175
 t76:=Tryz.underlying176
 a76:=Tryz.isAgg176
 z76:=Tryz.sizeOf176
 v76:=Tryz.zeroValue176
 t105:=Tryz.underlying247
 a105:=Tryz.isAgg247
 z105:=Tryz.sizeOf247
 v105:=Tryz.zeroValue247
 t119:=Tryz.underlying296
 a119:=Tryz.isAgg296
 z119:=Tryz.sizeOf296
 t127:=Tryz.underlying180
 a127:=Tryz.isAgg180
 z127:=Tryz.sizeOf180
 v127:=Tryz.zeroValue180
 t138:=Tryz.underlying298
 a138:=Tryz.isAgg298
 z138:=Tryz.sizeOf298
 v138:=Tryz.zeroValue298
 t139:=Tryz.underlying299
 a139:=Tryz.isAgg299
 z139:=Tryz.sizeOf299
 v139:=Tryz.zeroValue299
 t146:=Tryz.underlying302
 a146:=Tryz.isAgg302
 z146:=Tryz.sizeOf302
 v146:=Tryz.zeroValue302
 t164:=Tryz.underlying242
 a164:=Tryz.isAgg242
 z164:=Tryz.sizeOf242
 v164:=Tryz.zeroValue242
 g1:=by kernel_rfl
 g3:=by kernel_rfl
 g4:=by kernel_rfl
def Tryz.ren174:Ren where
 f:=fun x=>match x with|174=>279|247=>310|245=>311|287=>329|279=>330|280=>331|281=>332|282=>333|321=>341|322=>342|316=>343|171=>345|205=>344|243=>347|246=>257|283=>292|284=>293|285=>294|286=>295|129=>319|317=>318|318=>320|319=>321|320=>322|337=>335|338=>336|n=>n
 t:=fun x=>match x with|9=>9|3=>3|2=>2|75=>175|85=>284|4=>4|167=>321|5=>5|53=>233|175=>322|46=>34|168=>324|37=>116|0=>0|210=>343|21=>21|127=>180|145=>349|143=>347|171=>291|173=>294|212=>315|51=>301|20=>20|213=>316|232=>345|233=>346|80=>123|n=>n
 g:=fun x=>match x with|15=>5|16=>1|17=>4|18=>6|19=>7|n=>n
theorem Tryz.lays174:LaysC.n174 Tryz.prog Tryz.ren174 where
 mixed:=by kernel_rfl
 f129:=Tryz.func319
 f171:=Tryz.func345
 f174:=Tryz.func279
 f205:=Tryz.func344
 f243:=Tryz.func347
 f245:=Tryz.func311
 f246:=Tryz.func257
 f247:=Tryz.func310
 f279:=Tryz.func330
 f280:=Tryz.func331
 f281:=Tryz.func332
 f282:=Tryz.func333
 f283:=Tryz.func292
 f284:=Tryz.func293
 f285:=Tryz.func294
 f286:=Tryz.func295
 f287:=Tryz.func329
 f316:=Tryz.func343
 f317:=Tryz.func318
 f318:=Tryz.func320
 f319:=Tryz.func321
 f320:=Tryz.func322
 f321:=Tryz.func341
 f322:=Tryz.func342
 f337:=Tryz.func335
 f338:=Tryz.func336
 t0:=Tryz.underlying0
 a0:=Tryz.isAgg0
 z0:=Tryz.sizeOf0
 v0:=Tryz.zeroValue0
 t2:=Tryz.underlying2
 a2:=Tryz.isAgg2
 z2:=Tryz.sizeOf2
 v2:=Tryz.zeroValue2
 t3:=Tryz.underlying3
 a3:=Tryz.isAgg3
 z3:=Tryz.sizeOf3
 v3:=Tryz.zeroValue3
 t4:=Tryz.underlying4
 a4:=Tryz.isAgg4
 z4:=Tryz.sizeOf4
 v4:=Tryz.zeroValue4
 t5:=Tryz.underlying5
 a5:=Tryz.isAgg5
 z5:=Tryz.sizeOf5
 v5:=Tryz.zeroValue5
 t9:=Tryz.underlying9
 a9:=Tryz.isAgg9
 z9:=Tryz.sizeOf9
 v9:=Tryz.zeroValue9
 t20:=Tryz.underlying20
 a20:=Tryz.isAgg20
 z20:=Tryz.sizeOf20
 v20:=Tryz.zeroValue20
 t21:=Tryz.underlying21
 a21:=Tryz.isAgg21
 z21:=Tryz.sizeOf21
 v21:=Tryz.zeroValue21
 t37:=Tryz.underlying116
 a37:=Tryz.isAgg116
 z37:=Tryz.sizeOf116
 v37:=Tryz.zeroValue116
 t46:=Tryz.underlying34
 a46:=Tryz.isAgg34
 z46:=Tryz.sizeOf34
 v46:=Tryz.zeroValue34
 t51:=Tryz.underlying301
 a51:=Tryz.isAgg301
 z51:=Tryz.sizeOf301
 v51:=Tryz.zeroValue301
 t53:=Tryz.underlying233
 a53:=Tryz.isAgg233
 z53:=Tryz.sizeOf233
 v53:=Tryz.zeroValue233
 t75:=Tryz.underlying175
 a75:=Tryz.isAgg175
 z75:=Tryz.sizeOf175
 v75:=Tryz.zeroValue175
 t85:=Tryz.underlying284
 a85:=Tryz.isAgg284
 z85:=Tryz.sizeOf284
 v85:=Tryz.zeroValue284
 t127:=Tryz.underlying180
 a127:=Tryz.isAgg180
 z127:=Tryz.sizeOf180
 v127:=Tryz.zeroValue180
 t143:=Tryz.underlying347
 a143:=Tryz.isAgg347
 z143:=Tryz.sizeOf347
 v143:=Tryz.zeroValue347
 t145:=Tryz.underlying349
 a145:=Tryz.isAgg349
 z145:=Tryz.sizeOf349
 v145:=Tryz.zeroValue349
 t167:=Tryz.underlying321
 a167:=Tryz.isAgg321
 z167:=Tryz.sizeOf321
 v167:=Tryz.zeroValue321
 t168:=Tryz.underlying324
 a168:=Tryz.isAgg324
 z168:=Tryz.sizeOf324
 v168:=Tryz.zeroValue324
 t171:=Tryz.underlying291
 a171:=Tryz.isAgg291
 z171:=Tryz.sizeOf291
 v171:=Tryz.zeroValue291
 t173:=Tryz.underlying294
 a173:=Tryz.isAgg294
 z173:=Tryz.sizeOf294
 v173:=Tryz.zeroValue294
 t175:=Tryz.underlying322
 a175:=Tryz.isAgg322
 z175:=Tryz.sizeOf322
 v175:=Tryz.zeroValue322
 t210:=Tryz.underlying343
 a210:=Tryz.isAgg343
 z210:=Tryz.sizeOf343
 v210:=Tryz.zeroValue343
 t212:=Tryz.underlying315
 a212:=Tryz.isAgg315
 z212:=Tryz.sizeOf315
 v212:=Tryz.zeroValue315
 t213:=Tryz.underlying316
 a213:=Tryz.isAgg316
 z213:=Tryz.sizeOf316
 t232:=Tryz.underlying345
 a232:=Tryz.isAgg345
 z232:=Tryz.sizeOf345
 v232:=Tryz.zeroValue345
 t233:=Tryz.underlying346
 a233:=Tryz.isAgg346
 z233:=Tryz.sizeOf346
 v233:=Tryz.zeroValue346
 g15:=by kernel_rfl
 g16:=by kernel_rfl
 g17:=by kernel_rfl
 g18:=by kernel_rfl
 g19:=by kernel_rfl
 t80:=Tryz.underlying123
 a80:=Tryz.isAgg123
 z80:=Tryz.sizeOf123
 v80:=Tryz.zeroValue123
 i0:=by kernel_rfl
 i2:=by kernel_rfl
 i3:=by kernel_rfl
 i4:=by kernel_rfl
 i5:=by kernel_rfl
 i9:=by kernel_rfl
 i20:=by kernel_rfl
 i21:=by kernel_rfl
 i37:=by kernel_rfl
 i46:=by kernel_rfl
 i51:=by kernel_rfl
 i53:=by kernel_rfl
 i75:=by kernel_rfl
 i80:=by kernel_rfl
 i85:=by kernel_rfl
 i127:=by kernel_rfl
 i143:=by kernel_rfl
 i145:=by kernel_rfl
 i167:=by kernel_rfl
 i168:=by kernel_rfl
 i171:=by kernel_rfl
 i173:=by kernel_rfl
 i175:=by kernel_rfl
 i210:=by kernel_rfl
 i212:=by kernel_rfl
 i232:=by kernel_rfl
 i233:=by kernel_rfl
 m15:=by kernel_rfl
 m16:=by kernel_rfl
 m17:=by kernel_rfl
 m18:=by kernel_rfl
 m19:=by kernel_rfl
 c0:=by kernel_rfl
 c2:=by kernel_rfl
 c3:=by kernel_rfl
 c4:=by kernel_rfl
 c5:=by kernel_rfl
 c9:=by kernel_rfl
 c20:=by kernel_rfl
 c21:=by kernel_rfl
 c37:=by kernel_rfl
 c46:=by kernel_rfl
 c51:=by kernel_rfl
 c53:=by kernel_rfl
 c75:=by kernel_rfl
 c80:=by kernel_rfl
 c85:=by kernel_rfl
 c127:=by kernel_rfl
 c143:=by kernel_rfl
 c145:=by kernel_rfl
 c167:=by kernel_rfl
 c168:=by kernel_rfl
 c171:=by kernel_rfl
 c173:=by kernel_rfl
 c175:=by kernel_rfl
 c210:=by kernel_rfl
 c212:=by kernel_rfl
 c213:=by kernel_rfl
 c232:=by kernel_rfl
 c233:=by kernel_rfl
def Tryz.ren173:Ren where
 f:=fun x=>match x with|173=>207|246=>257|283=>292|284=>293|285=>294|286=>295|129=>319|317=>318|318=>320|319=>321|320=>322|337=>335|338=>336|n=>n
 t:=fun x=>match x with|2=>2|3=>3|9=>9|4=>4|171=>291|0=>0|53=>233|37=>116|5=>5|173=>294|212=>315|51=>301|20=>20|213=>316|46=>34|232=>345|233=>346|n=>n
 g:=fun x=>match x with|17=>4|18=>6|19=>7|n=>n
theorem Tryz.lays173:LaysM.n173 Tryz.prog Tryz.ren173 where
 mixed:=by kernel_rfl
 f129:=Tryz.func319
 f173:=Tryz.func207
 f246:=Tryz.func257
 f283:=Tryz.func292
 f284:=Tryz.func293
 f285:=Tryz.func294
 f286:=Tryz.func295
 f317:=Tryz.func318
 f318:=Tryz.func320
 f319:=Tryz.func321
 f320:=Tryz.func322
 f337:=Tryz.func335
 f338:=Tryz.func336
 t0:=Tryz.underlying0
 a0:=Tryz.isAgg0
 z0:=Tryz.sizeOf0
 v0:=Tryz.zeroValue0
 t2:=Tryz.underlying2
 a2:=Tryz.isAgg2
 z2:=Tryz.sizeOf2
 v2:=Tryz.zeroValue2
 t3:=Tryz.underlying3
 a3:=Tryz.isAgg3
 z3:=Tryz.sizeOf3
 v3:=Tryz.zeroValue3
 t4:=Tryz.underlying4
 a4:=Tryz.isAgg4
 z4:=Tryz.sizeOf4
 v4:=Tryz.zeroValue4
 t5:=Tryz.underlying5
 a5:=Tryz.isAgg5
 z5:=Tryz.sizeOf5
 v5:=Tryz.zeroValue5
 t9:=Tryz.underlying9
 a9:=Tryz.isAgg9
 z9:=Tryz.sizeOf9
 v9:=Tryz.zeroValue9
 t20:=Tryz.underlying20
 a20:=Tryz.isAgg20
 z20:=Tryz.sizeOf20
 v20:=Tryz.zeroValue20
 t37:=Tryz.underlying116
 a37:=Tryz.isAgg116
 z37:=Tryz.sizeOf116
 v37:=Tryz.zeroValue116
 t46:=Tryz.underlying34
 a46:=Tryz.isAgg34
 z46:=Tryz.sizeOf34
 v46:=Tryz.zeroValue34
 t51:=Tryz.underlying301
 a51:=Tryz.isAgg301
 z51:=Tryz.sizeOf301
 v51:=Tryz.zeroValue301
 t53:=Tryz.underlying233
 a53:=Tryz.isAgg233
 z53:=Tryz.sizeOf233
 v53:=Tryz.zeroValue233
 t171:=Tryz.underlying291
 a171:=Tryz.isAgg291
 z171:=Tryz.sizeOf291
 v171:=Tryz.zeroValue291
 t173:=Tryz.underlying294
 a173:=Tryz.isAgg294
 z173:=Tryz.sizeOf294
 v173:=Tryz.zeroValue294
 t212:=Tryz.underlying315
 a212:=Tryz.isAgg315
 z212:=Tryz.sizeOf315
 v212:=Tryz.zeroValue315
 t213:=Tryz.underlying316
 a213:=Tryz.isAgg316
 z213:=Tryz.sizeOf316
 t232:=Tryz.underlying345
 a232:=Tryz.isAgg345
 z232:=Tryz.sizeOf345
 v232:=Tryz.zeroValue345
 t233:=Tryz.underlying346
 a233:=Tryz.isAgg346
 z233:=Tryz.sizeOf346
 v233:=Tryz.zeroValue346
 g17:=by kernel_rfl
 g18:=by kernel_rfl
 g19:=by kernel_rfl
 i0:=by kernel_rfl
 i2:=by kernel_rfl
 i3:=by kernel_rfl
 i4:=by kernel_rfl
 i5:=by kernel_rfl
 i9:=by kernel_rfl
 i20:=by kernel_rfl
 i37:=by kernel_rfl
 i46:=by kernel_rfl
 i51:=by kernel_rfl
 i53:=by kernel_rfl
 i171:=by kernel_rfl
 i173:=by kernel_rfl
 i212:=by kernel_rfl
 i232:=by kernel_rfl
 i233:=by kernel_rfl
 m17:=by kernel_rfl
 m18:=by kernel_rfl
 m19:=by kernel_rfl
def Tryz.ren137:Ren where
 f:=fun x=>match x with|137=>253|217=>263|266=>298|n=>n
 t:=fun x=>match x with|9=>9|5=>5|3=>3|n=>n
 g:=fun x=>x
theorem Tryz.lays137:Lays.n137 Tryz.prog Tryz.ren137 where
 mixed:=by kernel_rfl
 f137:=Tryz.func253
 f217:=Tryz.func263
 f266:=Tryz.func298
 t3:=Tryz.underlying3
 a3:=Tryz.isAgg3
 z3:=Tryz.sizeOf3
 v3:=Tryz.zeroValue3
 t5:=Tryz.underlying5
 a5:=Tryz.isAgg5
 z5:=Tryz.sizeOf5
 v5:=Tryz.zeroValue5
 t9:=Tryz.underlying9
 a9:=Tryz.isAgg9
 z9:=Tryz.sizeOf9
 v9:=Tryz.zeroValue9
def Tryz.ren170:Ren where
 f:=fun x=>match x with|170=>74|n=>n
 t:=fun x=>match x with|70=>115|3=>3|0=>0|72=>118|37=>116|5=>5|n=>n
 g:=fun x=>x
theorem Tryz.lays170:Lays.n170 Tryz.prog Tryz.ren170 where
 mixed:=by kernel_rfl
 f170:=Tryz.func74
 t0:=Tryz.underlying0
 a0:=Tryz.isAgg0
 z0:=Tryz.sizeOf0
 v0:=Tryz.zeroValue0
 t3:=Tryz.underlying3
 a3:=Tryz.isAgg3
 z3:=Tryz.sizeOf3
 v3:=Tryz.zeroValue3
 t37:=Tryz.underlying116
 a37:=Tryz.isAgg116
 z37:=Tryz.sizeOf116
 v37:=Tryz.zeroValue116
 t70:=Tryz.underlying115
 a70:=Tryz.isAgg115
 z70:=Tryz.sizeOf115
 v70:=Tryz.zeroValue115
 t72:=Tryz.underlying118
 a72:=Tryz.isAgg118
 z72:=Tryz.sizeOf118
 v72:=Tryz.zeroValue118
def Tryz.ren264:Ren where
 f:=fun x=>match x with|264=>304|n=>n
 t:=fun x=>match x with|53=>233|46=>34|n=>n
 g:=fun x=>x
theorem Tryz.lays264:Lays.n264 Tryz.prog Tryz.ren264 where
 mixed:=by kernel_rfl
 f264:=Tryz.func304
 t46:=Tryz.underlying34
 a46:=Tryz.isAgg34
 z46:=Tryz.sizeOf34
 v46:=Tryz.zeroValue34
 t53:=Tryz.underlying233
 a53:=Tryz.isAgg233
 z53:=Tryz.sizeOf233
 v53:=Tryz.zeroValue233
def Tryz.ren106:Ren where
 f:=fun x=>match x with|106=>272|213=>303|265=>327|n=>n
 t:=fun x=>match x with|9=>9|3=>3|n=>n
 g:=fun x=>x
theorem Tryz.lays106:Lays.n106 Tryz.prog Tryz.ren106 where
 mixed:=by kernel_rfl
 f106:=Tryz.func272
 f213:=Tryz.func303
 f265:=Tryz.func327
 t3:=Tryz.underlying3
 a3:=Tryz.isAgg3
 z3:=Tryz.sizeOf3
 v3:=Tryz.zeroValue3
 t9:=Tryz.underlying9
 a9:=Tryz.isAgg9
 z9:=Tryz.sizeOf9
 v9:=Tryz.zeroValue9

theorem Tryz.lays166:Lays.n166 Tryz.prog Tryz.ren155:={ Tryz.lays155 with }
end Go.Proofs
namespace Go.SX.Nb
open Go Go.SX Go.Proofs Go.RowKit
variable [ErrAt]
set_option maxRecDepth 4000
theorem Lw {w:World} (h:Io w):∃m,w.cell? ⟨0,0,none⟩=some (.int .i64 m):=by
 obtain ⟨_,a,m,t,f,rfl⟩:=h (0,fun o=>∃m t f,o=.cells #[.int .i64 m] t f) (by simp [GlobInv.blocks,Ul])
 exact ⟨m,by simp [World.cell?,a]⟩
theorem Q3 {w:World} (h:Io w):w.cell? ⟨1,0,none⟩=some (.iface 347 (.pointer (some ErrAt.b))):=by
 obtain ⟨_,a,t,f,rfl⟩:=h (1,fun o=>∃t f,o=.cells #[.iface 347 (.pointer (some ErrAt.b))] t f) (by simp [GlobInv.blocks,Ul])
 simp [World.cell?,a]
theorem mg {w:World} (h:Io w):Lib.TabIs Tryz.prog w "internal/strconv.uint64pow10" .u64 Lib.pow10Tab:=by
 obtain ⟨_,a,t,f,rfl⟩:=h (4,fun o=>∃t f,o=.cells (Lib.pow10Tab.map fun z=>Value.int .u64 z).toArray t f) (by simp [GlobInv.blocks,Ul])
 have hg:Tryz.prog.globalNamed "internal/strconv.uint64pow10" = some 4:=by kernel_rfl
 simp only at a
 simp [Lib.TabIs,World.var?,hg,a]
theorem Y3 (w:World) (n:Nat):Below w.heap.size w (w.drewN n):=⟨rfl,rfl,rfl,An _,fun _ _=>rfl⟩
theorem ip (s t:Str) (hs:s.length<4294967281) (Hp:List AObj):AFun Tryz.prog 131 [Ah s,Ah t] Hp (B8 (Lib.contains s t)):=by
 refine J2 (xs:=[sv s,sv t]) (v:=.bool (Lib.contains s t)) (fun G w=>.v _ _) (fun w hg=>?_)
 obtain ⟨m,hm⟩:=Lw hg
 refine (Any.strings_Contains Tryz.lays144 ⟨s.toArray⟩ ⟨t.toArray⟩ m w (by simpa [ByteArray.size] using hs) hm).mono ?_
 rintro e w' ⟨rfl,rfl⟩
 exact ii
theorem yn (s t:Str) (hs:s.length<4294967281) (Hp:List AObj):AFun Tryz.prog 163 [Ah s,Ah t] Hp (.tup [Ah (Lib.cut s t).1,Ah (Lib.cut s t).2.1,B8 (Lib.cut s t).2.2]):=by
 refine J2 (xs:=[sv s,sv t]) (v:=.tuple #[sv (Lib.cut s t).1,sv (Lib.cut s t).2.1,.bool (Lib.cut s t).2.2]) (fun G w=>K3 rfl (fun i y u hy hu=>?_)) (fun w hg=>?_)
 ·match i with
  | 0=>simp at hy hu;subst hy;subst hu;exact .v _ _
  | 1=>simp at hy hu;subst hy;subst hu;exact .v _ _
  | 2=>simp at hy hu;subst hy;subst hu;exact .v _ _
  | i+3=>simp at hy
 obtain ⟨m,hm⟩:=Lw hg
 refine (Any.strings_Cut Tryz.lays145 ⟨s.toArray⟩ ⟨t.toArray⟩ m w (by simpa [ByteArray.size] using hs) hm).mono ?_
 rintro e w' ⟨rfl,n,rfl⟩
 exact ⟨rfl,Y3 _ _⟩
theorem AA8 (s t:Str) (ht:t.length<4294967281) (ha:∀c∈t,c.toNat<128) (Hp:List AObj):AFun Tryz.prog 130 [Ah s,Ah t] Hp (Ah (Lib.trimLeftS s t)):=by
 refine J2 (xs:=[sv s,sv t]) (v:=sv (Lib.trimLeftS s t)) (fun G w=>.v _ _) (fun w hg=>?_)
 refine (Any.strings_TrimLeft_laid Tryz.lays161 (by kernel_rfl) ⟨s.toArray⟩ ⟨t.toArray⟩ w (by simpa [ByteArray.size] using ht) (fun j b hj=>ha b (B3 hj))).mono ?_
 rintro e w' ⟨rfl,hb⟩
 exact ⟨rfl,hb⟩
/-- The pieces of a split. -/
def Mz (s t:Str):List Str:=(Lib.splitB ⟨t.toArray⟩ 0 (Lib.countB ⟨s.toArray⟩ ⟨t.toArray⟩) ⟨s.toArray⟩).map (·.data.toList)
theorem yp (s t:Str) (hs:s.length<4294967281) (ht:1≤t.length) (Hp:List AObj):AFun Tryz.prog 122 [Ah s,Ah t] Hp (Um (Mz s t)):=by
 have:=AFun.libSlice (P:=Tryz.prog) (g:=122) (Hp:=Hp) (xs:=[sv s,sv t]) (ys:=(Mz s t).map sv) (t:=9) (by intro y hy;obtain ⟨z,_,rfl⟩:=Dd.1 hy;rfl) (fun w hg=>by
  obtain ⟨m,hm⟩:=Lw hg
  refine (Any.strings_Split Tryz.lays146 (by kernel_rfl) ⟨s.toArray⟩ ⟨t.toArray⟩ m w (by simpa [ByteArray.size] using hs) hm (by simpa [ByteArray.size] using ht)).mono ?_
  rintro e w' ⟨rfl,rfl⟩
  have hl:((Mz s t).map sv).length=Lib.countB ⟨s.toArray⟩ ⟨t.toArray⟩+1:=by
   rw [Bp]
   unfold Mz
   rw [Bp]
   exact Lib.splitB_all _ (by simpa [ByteArray.size] using ht) _ _ _ rfl
  refine ⟨by rw [hl],?_⟩
  unfold Mz
  rw [Id]
  rfl)
 rw [Id] at this
 exact this
end Go.SX.Nb
namespace Go.Proofs
open Go Go.RowKit Go.Extern.Stop Go.Stop Go.Extern
theorem Tryz.isTypeOf (v:Value) (w:World):(Extern.ReflectliteType.typeOf #[.iface 347 v]).run Tryz.prog w=.ok (.iface 328 (.agg #[.pointer (some ⟨8,347,none⟩)])) w:=by kernel_rfl
def Tryz.cmpOf:Array Value→Sem Value:=Extern.ReflectliteType.method fun t=>do Extern.Rtype.noPackHeld "Comparable" t;pure (.bool (←typeInfo t).comparable)
theorem Tryz.isComparable (w:World):(Tryz.cmpOf #[.agg #[.pointer (some ⟨8,347,none⟩)]]).run Tryz.prog w=.ok (.bool true) w:=by kernel_rfl
theorem Tryz.isMethodComparable (v:Value) (w:World):(Go.method 480 328 v "Comparable").run Tryz.prog w=.ok (374,v) w:=by kernel_rfl
theorem Tryz.isComp:(Tryz.prog.info? 347).map (·.comparable)=some true:=by kernel_rfl
theorem Tryz.isSize:(Tryz.prog.info? 349).map (·.size)=some 1:=by kernel_rfl
theorem Tryz.noIsW (v:Value) (xT:TypeId) (w:World):(Instr.typeAssert (.iface 324 v) xT 330 true).run Tryz.prog w=.ok (.tuple #[.nilIface,.bool false]) w:=run_typeAssert_lacksB Tryz.underlying330 (by kernel_rfl) (by kernel_rfl) v xT w
theorem Tryz.hasUnwrapW (v:Value) (xT:TypeId) (w:World):(Instr.typeAssert (.iface 324 v) xT 333 true).run Tryz.prog w=.ok (.tuple #[.iface 324 v,.bool true]) w:=run_typeAssert_hasB Tryz.underlying333 (by kernel_rfl) v xT w
theorem Tryz.methodUnwrap (v:Value) (w:World):(Go.method 480 324 v "Unwrap").run Tryz.prog w=.ok (370,v) w:=by kernel_rfl
namespace Tryz
theorem is_nil (b:Addr) (w:World):
  Calls Tryz.prog 280 #[.nilIface,.iface 347 (.pointer (some b))] w fun e w'=>e=.returned (.bool false)∧w'=w:=by
 have hn:=run_eql_iface_nil_left (P:=Tryz.prog) w 347 (.pointer (some b)) Tryz.underlying175
 go_enter Tryz.func280,Tryz.ntmps280
 go_wp2
 go_ret
 exact ⟨rfl,rfl⟩
set_option maxRecDepth 100000 in
theorem is_range (pb po:Nat) (b:Addr) (w:World) (h1:w.cell? ⟨pb,po+2,none⟩=some (.iface 347 (.pointer (some b)))):
  Calls Tryz.prog 280 #[.iface 324 (.pointer (some ⟨pb,po,none⟩)),.iface 347 (.pointer (some b))] w fun e w'=>e=.returned (.bool true)∧w'=w:=by
 obtain ⟨i,hi,hcmp⟩:=Option.map_eq_some_iff.1 Tryz.isComp
 obtain ⟨j,hj,hjs⟩:=Option.map_eq_some_iff.1 Tryz.isSize
 have h8:=@run_callFunc_extern Tryz.prog 312 _ Extern.ReflectliteType.typeOf Tryz.func312 (by kernel_rfl) (by kernel_rfl) (by kernel_rfl) (by kernel_rfl)
 have h32:=@run_callFunc_extern Tryz.prog 374 _ Tryz.cmpOf Tryz.func374 (by kernel_rfl) (by kernel_rfl) (by kernel_rfl) (by kernel_rfl)
 have tT:=Tryz.isTypeOf
 have cT:=Tryz.isComparable
 have mR:=Tryz.isMethodComparable
 have nW:=Tryz.noIsW
 have uW:=Tryz.hasUnwrapW
 have mU:=Tryz.methodUnwrap
 have heq:=run_eql_iface_ptr_same (P:=Tryz.prog) w b Tryz.underlying175 Tryz.underlying347 hi hcmp hj
 have hty:=run_eql_iface_types (P:=Tryz.prog) 324 347 (.pointer (some ⟨pb,po,none⟩)) (.pointer (some b)) Tryz.underlying175 (by decide) w
 go_enter Tryz.func280,Tryz.ntmps280
 go_wp2
 refine wp_loop_rounds 2 ?_
 rw [rounds_succ]
 go_wp2
 rw [rounds_succ]
 go_wp2
 go_ret
 exact ⟨rfl,rfl⟩
end Tryz
end Go.Proofs
namespace Go.SX.Nb
open Go Go.SX Go.Proofs Go.RowKit Go.Sort
variable [ErrAt]
set_option maxRecDepth 4000
theorem AA9 (s t:Str) (Hp:List AObj):AFun Tryz.prog 288 [Ah s,Ah t] Hp (B8 (Lib.hasPrefix s t)):=by
 refine J2 (xs:=[sv s,sv t]) (v:=.bool (Lib.hasPrefix s t)) (fun G w=>.v _ _) (fun w hg=>?_)
 refine (Any.strings_HasPrefix Tryz.lays99 ⟨s.toArray⟩ ⟨t.toArray⟩ w).mono ?_
 rintro e w' ⟨rfl,rfl⟩
 exact ii
theorem AAa (s t:Str) (hs:s.length≤9223372036854775807) (Hp:List AObj):AFun Tryz.prog 289 [Ah s,Ah t] Hp (B8 (Lib.hasSuffix s t)):=by
 refine J2 (xs:=[sv s,sv t]) (v:=.bool (Lib.hasSuffix s t)) (fun G w=>.v _ _) (fun w hg=>?_)
 refine (Any.strings_HasSuffix Tryz.lays100 ⟨s.toArray⟩ ⟨t.toArray⟩ w (by simpa [ByteArray.size] using hs)).mono ?_
 rintro e w' ⟨rfl,rfl⟩
 exact ii
theorem AAb (s:Str) (c:UInt8) (Hp:List AObj):AFun Tryz.prog 253 [Ah s,.v (.int .u8 (c.toNat:Int))] Hp (A6 (Lib.indexByte s c)):=by
 refine J2 (xs:=[sv s,.int .u8 (c.toNat:Int)]) (v:=.int .i64 (Lib.indexByte s c)) (fun G w=>.v _ _) (fun w hg=>?_)
 refine (Any.strings_IndexByte Tryz.lays137 ⟨s.toArray⟩ (c.toNat:Int) w).mono ?_
 rintro e w' ⟨rfl,rfl⟩
 exact ⟨by simp,Below.refl _ _⟩
theorem AAc:Builder.Extra Tryz.prog Tryz.ren155:={ sizeBuilder:=by kernel_rfl,liesBuilder:=by kernel_rfl,t5:=Tryz.underlying5,a5:=Tryz.isAgg5,z5:=Tryz.sizeOf5,v5:=Tryz.zeroValue5,infoByte:=by kernel_rfl,cellsByte:=by kernel_rfl,sizeByte:=by kernel_rfl,neB5:=by decide }
theorem yq (s o n:Str) (hs:s.length<4294967281) (ho:1≤o.length) (hl:s.length+Lib.countB ⟨s.toArray⟩ ⟨o.toArray⟩*n.length≤140737488355328) (Hp:List AObj):AFun Tryz.prog 161 [Ah s,Ah o,Ah n] Hp (Ah (Lib.replaceAll s o n)):=by
 refine J2 (xs:=[sv s,sv o,sv n]) (v:=sv (Lib.replaceAll s o n)) (fun G w=>.v _ _) (fun w hg=>?_)
 obtain ⟨m,hm⟩:=Lw hg
 refine (Any.strings_ReplaceAll Tryz.lays155 AAc ⟨s.toArray⟩ ⟨o.toArray⟩ ⟨n.toArray⟩ m w (by simpa [ByteArray.size] using hs) hm (by simpa [ByteArray.size] using ho) (by simpa [ByteArray.size] using hl)).mono ?_
 rintro e w' ⟨rfl,hb⟩
 exact ⟨rfl,hb⟩
theorem bf (w:World) (k:Nat) (os:Array Obj):Below w.heap.size w (grow (w.drewN k) os):=by
 refine ⟨rfl,rfl,rfl,by simp [grow],fun b hb=>?_⟩
 show ((w.drewN k).heap++os)[b]? = w.heap[b]?
 rw [Kg (by exact hb)]
 rfl
theorem AAd (n:Int) (h0 : -9223372036854775808≤n) (h1:n≤9223372036854775807) (Hp:List AObj):AFun Tryz.prog 207 [.v (.int .i64 n),A6 10] Hp (Ah (Lib.itoa n)):=by
 refine J2 (xs:=[.int .i64 n,.int .i64 10]) (v:=sv (Lib.itoa n)) (fun G w=>.v _ _) (fun w hg=>?_)
 refine (Any.strconv_FormatInt_10 Tryz.lays173 n h0 h1 w (mg hg)).mono ?_
 rintro e w' ⟨rfl,k,os,rfl⟩
 exact ⟨rfl,bf _ _ _⟩
end Go.SX.Nb
namespace Go.SX.Nb
open Go Go.SX Go.Proofs Go.RowKit
variable [ErrAt]
set_option maxRecDepth 4000
def digs:Str:=[48,49,50,51,52,53,54,55,56,57]
def Kk (s:Str):Str:=Lib.trimPrefix s [45]
def Ga (s:Str):Bool:=(Kk s==[]) || !(Lib.trimS (Kk s) digs==[]) || (((Kk s).headD 0==48)&&decide (1<s.length))
def Bo (s:Str):Int×Int:=if Ga s then (0,6) else match Lib.parseIntB 64 s with|.ok v=>(v,0)|.range=>(0,4)|_=>(0,0)
def ql {α:Type}:Lib.NumEnd α→Bool|.ok _=>false|.range=>false|_=>true
theorem Wl {p:UInt8→Bool}:∀{l:Str},l.dropWhile p=[]↔∀b∈l,p b=true
 | []=>by simp
 | b::r=>by
  rw [On]
  by_cases h:p b=true
  ·rw [if_pos h,Wl]
   simp [h]
  rw [if_neg h]
  simp [h]
theorem mh {p:UInt8→Bool}:∀{l:Str} {b:UInt8},b∈l→p b=false→b∈l.dropWhile p
 | x::r,b,h,hb=>by
  rw [On]
  by_cases hx:p x=true
  ·rw [if_pos hx]
   rcases By.1 h with rfl|h
   ·rw [hb] at hx;cases hx
   exact mh h hb
  rw [if_neg hx];exact h
theorem Un {l cs:Str}:Lib.trimS l cs=[]↔∀b∈l,cs.contains b=true:=by
 unfold Lib.trimS Lib.trimLeftS Lib.trimRightS
 rw [Wl]
 constructor
 ·intro h b hb
  cases hc:cs.contains b with
  | true=>rfl
  | false =>
   have:=h b (Qv.2 (mh (p:=(cs.contains ·)) (Qv.2 hb) hc))
   rw [hc] at this;exact this
 intro h b hb
 exact h b (Qv.1 ((Zz (cs.contains ·)).subset (Qv.1 hb)))
theorem Mc (c:UInt8):digs.contains c=(decide (48≤c.toNat)&&decide (c.toNat≤57)):=by
 have h:((List.range 256).all fun n=>digs.contains (UInt8.ofNat n)==(decide (48≤(UInt8.ofNat n).toNat)&&decide ((UInt8.ofNat n).toNat≤57)))=true:=by kernel_rfl
 have:=B2.1 h c.toNat (Jy.2 c.toNat_lt)
 simpa using this
theorem Uo (M:Nat):∀(l:Str) (acc:Nat),(∀b∈l,digs.contains b=true)→ql (Lib.parseUintM M acc l)=false
 | [],acc,_=>by rw [Lib.parseUintM];rfl
 | c::r,acc,h=>by
  have hc:=h c (by simp)
  rw [Mc] at hc
  simp only [Ak,decide_eq_true_eq] at hc
  rw [Lib.parseUintM,if_pos hc]
  split
  ·rfl
  split
  ·rfl
  exact Uo M r _ (fun b hb=>h b (by simp [hb]))
theorem Q4 (s:Str):(s.head? ≠ some 45∧Kk s=s)∨∃r,s=45::r∧Kk s=r:=by
 unfold Kk Lib.trimPrefix Lib.hasPrefix
 cases s with
 | nil=>exact .inl ⟨by simp,rfl⟩
 | cons c r =>
  by_cases hc:c=45
  ·subst hc;exact .inr ⟨r,rfl,by simp [List.isPrefixOf]⟩
  refine .inl ⟨by simpa using hc,?_⟩
  rw [if_neg]
  simp [List.isPrefixOf,Ne.symm hc]
theorem Lc {s:Str} (h:Ga s=false):ql (Lib.parseIntB 64 s)=false:=by
 unfold Ga at h
 simp only [F7,Ja,beq_iff_eq,beq_eq_false_iff_ne] at h
 obtain ⟨⟨h1,h2⟩,_⟩:=h
 rw [Un] at h2
 have key:∀l:Str,l≠[]→(∀b∈l,digs.contains b=true)→ql (Lib.parseUintB 64 l)=false:=fun l hl ha=>by
  unfold Lib.parseUintB
  rw [if_neg hl]
  exact Uo _ l 0 ha
 rcases Q4 s with ⟨h3,h4⟩|⟨r,rfl,h4⟩
 ·rw [h4] at h1 h2
  cases s with
  | nil=>exact absurd rfl h1
  | cons c r =>
   have hcd:=h2 c (by simp)
   rw [Mc] at hcd
   simp only [Ak,decide_eq_true_eq] at hcd
   have e1:¬(c.toNat=43∨c.toNat=45):=by omega
   have:=key (c::r) (by simp) h2
   simp only [Lib.parseIntB,if_neg e1]
   revert this
   cases Lib.parseUintB 64 (c::r) with
   | range=>intro _;rfl
   | ok u=>intro _;simp only;split<;>(try split)<;>rfl
   | _=>intro h;cases h
 rw [h4] at h1 h2
 have:=key r h1 h2
 have e1:((45:UInt8).toNat=43∨(45:UInt8).toNat=45):=.inr rfl
 simp only [Lib.parseIntB,if_pos e1]
 revert this
 cases Lib.parseUintB 64 r with
 | range=>intro _;rfl
 | ok u=>intro _;simp only;split<;>(try split)<;>rfl
 | _=>intro h;cases h
end Go.SX.Nb
namespace Go.SX.Nb
open Go Go.SX Go.Proofs
variable [ErrAt]
set_option maxRecDepth 4000
def K7 (c:UInt8):Bool:=decide ((97:Int)≤c.toNat)&&decide ((c.toNat:Int)≤122)
def uz (c:UInt8):Bool:=decide ((48:Int)≤c.toNat)&&decide ((c.toNat:Int)≤57)
def words:List Str:=[[97,100,100],[100,114,111,112],[114,101,110,97,109,101],[115,112,108,105,116],[109,101,114,103,101],[114,101,116,121,112,101],[105,110,116,111],[116,111],[98,97,99,107],[97,110,100],[111,114],[110,111,116],[116,114,117,101],[102,97,108,115,101],[110,117,108,108],[105,110,116],[116,101,120,116],[98,111,111,108],[115,101,108,101,99,116],[119,104,101,114,101],[102,114,111,109],[108,105,109,105,116]]
def P6 (s:Str):Bool:=words.any (·==s)
theorem Gj {α:Type} {l:List α} {x:Nat} {p:α→Prop} (hlt:x<l.length) (h:∀(j:Nat) (y:α),j<x→l[j]? = some y→p y) (hx:p l[x]):∀(j:Nat) (y:α),j<x+1→l[j]? = some y→p y:=by
 intro j y hj hy
 rcases Bf j x with h'|h'
 ·exact h j y h' hy
 have:j=x:=by omega
 subst this
 rw [Al hlt] at hy
 injection hy with hy
 subst hy
 exact hx
theorem Nv {α:Type} {l:List α} {x:Nat} {p:α→Prop} (hge:l.length≤x) (h:∀(j:Nat) (y:α),j<x→l[j]? = some y→p y):∀(j:Nat) (y:α),l[j]? = some y→p y:=
 fun j y hy=>h j y (by have:=(Ae.1 hy).1;omega) hy
def S7 (c:UInt8):Bool:=K7 c || uz c || c==95
def J3 (s:Str):Bool:=match s with
 | []=>false
 | c::_=>decide (s.length≤16)&&K7 c && !P6 s&&s.all S7
theorem Up {s:Str} (h:s≠[]):s[0]? = some (s.headD 0):=by cases s with
 | nil=>exact absurd rfl h
 | cons c r=>rfl
def Ez (nm:Str) (c:List Col):Int:=match c.findIdx? (fun y=>y.name==nm) with|some i=>i|none => -1
theorem S8 {nm:List UInt8} {c:List Col} {x:Nat} (h:x<c.length) (h1:c[x].name=nm) (h2:∀(j:Nat) (y:Col),j<x→c[j]? = some y→¬(y.name=nm)):Ez nm c=x:=by
 have:c.findIdx? (fun y=>y.name==nm)=some x:=by
  rw [Ri]
  exact ⟨h,by simpa using h1,fun j hj=>by simpa using h2 j c[j] hj (Al _)⟩
 simp [Ez,this]
theorem bg {nm:List UInt8} {c:List Col} (h:∀(j:Nat) (y:Col),c[j]? = some y→¬(y.name=nm)):Ez nm c = -1:=by
 have:c.findIdx? (fun y=>y.name==nm)=none:=by
  rw [Rh]
  intro y hy
  obtain ⟨j,hj⟩:=Cf hy
  simpa using h j y hj
 simp [Ez,this]
structure OkCols (c:List Col):Prop where
 len:c.length≤1048576
 names:∀y∈c,y.name.length≤1048576
def Y4 (c:List Col) (x:Nat) (y:Col):Bool := !(((!J3 y.name || decide (y.kind<1)) || decide ((3:Int)<y.kind)) || (Ez y.name c != (x:Int)))
def S9 (c:List Col):Bool:=c.zipIdx.all fun x=>Y4 c x.2 x.1
theorem Sa {c:List Col}:S9 c=true↔∀(j:Nat) (y:Col),c[j]? = some y→Y4 c j y=true:=by
 unfold S9
 rw [B2]
 constructor
 ·intro h j y hj
  exact xy
 rintro h ⟨y,j⟩ hx
 rw [Iw] at hx
 exact h j y hx
theorem bh {α:Type} {l:List α} {x:Nat} {p:Nat→α→Prop} (hlt:x<l.length) (h:∀(j:Nat) (y:α),j<x→l[j]? = some y→p j y) (hx:p x l[x]):∀(j:Nat) (y:α),j<x+1→l[j]? = some y→p j y:=by
 intro j y hj hy
 rcases Bf j x with h'|h'
 ·exact h j y h' hy
 have:j=x:=by omega
 subst this
 rw [Al hlt] at hy
 injection hy with hy
 subst hy
 exact hx
theorem iq {α:Type} {l:List α} {x:Nat} {p:Nat→α→Prop} (hge:l.length≤x) (h:∀(j:Nat) (y:α),j<x→l[j]? = some y→p j y):∀(j:Nat) (y:α),l[j]? = some y→p j y:=
 fun j y hy=>h j y (by have:=(Ae.1 hy).1;omega) hy
def C9 (v:Val):Bool:=if v.kind==0 then v.n==0&&v.s==[] else if v.kind==1 then v.s==[] else if v.kind==2 then v.n==0&&decide ((v.s.length:Int)≤200) else v.kind==3&&v.s==[]&&decide (0≤v.n)&&decide (v.n≤1)
theorem v6 (e:Bool) (n:Int):(e&&(n==0 || n==1))=(e&&decide (0≤n)&&decide (n≤1)):=by
 cases e
 ·rfl
 rw [Rf]
 simp
 omega
theorem c37 (v:Val) (Hp:List AObj):AFun Tryz.prog 37 [Bq v] Hp (B8 (C9 v)):=by
 refine Aq [.tmp 2] [0] Tryz.func37 Tryz.ntmps37 (fun d=>?_)
 refine Ey ?_;refine R.box ?_;refine A7 ?_;refine A2 [1] ?_;refine Z32 ?_;refine A2 [1,4] ?_;refine Z88 ?_;refine A2 [1,4,5] ?_
 refine A4 (fun ht5=>?_) (fun ht5=>?_)
 ·refine ui ?_
  refine A7 (h:=L5 Wk (I6 v.kind v.n 0 0 v.s [])) (hr:=?_)
  refine A7 ?_;refine Z4 ?_;refine Z5 ?_;exact A5 (Ap A3) ⟨by simp [C9,ht5],rfl⟩
 refine Z1 ?_;refine A2 [1,4,10] ?_
 refine A4 (fun ht10=>?_) (fun ht10=>?_)
 ·refine Z17 ?_;refine Z4 ?_;refine Z5 ?_;exact A5 (Ap A3) ⟨by simp [C9,ht5,ht10],rfl⟩
 refine Z1 ?_;refine A2 [1,4,15] ?_
 refine A4 (fun ht15=>?_) (fun ht15=>?_)
 ·refine Z17 ?_;refine Xw ?_;refine Z4 ?_;refine Z5 ?_;exact A5 (Ap A3) ⟨by simp [C9,ht5,ht10,ht15],rfl⟩
 refine Z1 ?_;refine A2 [1,26] ?_
 refine A4 (fun ht26=>?_) (fun ht26=>?_)
 ·refine Z17 ?_;refine Z45 ?_;refine Xw ?_;refine Z4 ?_;refine Z5 ?_;exact A5 (Ap A3) ⟨by simp [C9,ht5,ht10,ht15,ht26];rw [v6],rfl⟩
 refine Z22 ?_;refine Z57 ?_;exact A5 (Ap A3) ⟨by simp [C9,ht5,ht10,ht15,ht26],rfl⟩

def Ld (c:List Col):Bool:=decide ((50:Int)<c.length) || c.any fun y=>decide ((100:Int)<y.name.length)
theorem bi {α:Type} {c:List α} {p:Nat→α→Bool}:(c.zipIdx.all fun x=>p x.2 x.1)=true↔∀(j:Nat) (y:α),c[j]? = some y→p j y=true:=by
 rw [B2]
 constructor
 ·intro h j y hj
  exact xy
 rintro h ⟨y,j⟩ hx
 rw [Iw] at hx
 exact h j y hx
theorem AAe (y:Col) (nm:Str) (Hp:List AObj):AFun Tryz.prog 105 [U6 y,.ro [Ah nm]] Hp (B8 (y.name==nm)):=by
 refine Aq [.tmp 3] [0,1] Tryz.func105 Tryz.ntmps105 (fun d=>?_)
 refine Z1 ?_;refine A2 [1,2] ?_;refine Z17 ?_;refine A7 ?_;refine A2 [3] ?_;refine Hi ?_;exact A5 (Ap A3)

theorem AAf (c:List Col) (hc:OkCols c) (nm:Str) (Hp:List AObj):AFun Tryz.prog 104 [Gq c,.fn (.func 105) [] [.ro [Ah nm]]] Hp (A6 (Ez nm c)):=by
 refine Aq [.tmp 4] [0,1] Tryz.func104 Tryz.ntmps104 (fun d=>?_)
 refine Z70 ?_;refine Z39 ?_;refine A2 [0,1,7,8] ?_
 refine Ff (α:=Nat) (fun x=>⟨19,Ao 0 (Gq c) (Ao 1 (.fn (.func 105) [] [.ro [Ah nm]]) (Ao 7 (A6 c.length) (Ao 8 (A6 (x:Nat)) (fun _=>.any)))),Hp,[],[],none⟩) (fun x=>x≤c.length∧∀(j:Nat) (y:Col),j<x→c[j]? = some y→¬(y.name=nm)) (fun x=>c.length-x) (0) (by simp) (E9 (by simp)) rfl (fun x hx=>?_)
 refine Z3 ?_;refine A2 [0,1,7,8,9] ?_
 refine Gp (fun ht9=>?_) (fun ht9=>?_)
 ·have hlt:x<c.length:=by simpa using ht9
  have hcl:=hc.len
  refine Z27 ?_;refine Z1 ?_;refine A2 [0,1,5,7,8] ?_;refine Z14 ?_
  refine A7 (h:=Ax (x) (U6 c[x]) (fun _=>Cu hlt)) (hr:=?_)
  refine A7 ?_;refine R.callV Tryz.call105 (AAe c[x] nm _) ?_;refine A2 [0,1,5,7,8,16] ?_
  refine A4 (fun ht16=>?_) (fun ht16=>?_)
  ·refine Z1 ?_;refine Z29 ?_;refine We ?_;exact A5 (Ap A3) ⟨by rw [S8 hlt (by simpa using ht16) hx.2],rfl⟩
  refine U2 ?_;refine A2 [0,1,7,8] ?_;exact Ct (x+1) ⟨hlt,Gj hlt hx.2 (by simpa using ht16)⟩ (by omega) (Im rfl)
 refine Z58 ?_;refine Z94 ?_;exact A5 (Ap A3) ⟨by rw [bg (Nv (by simp at ht9;omega) hx.2)],rfl⟩

theorem c58 (c:List Col) (hc:OkCols c) (nm:Str) (Hp:List AObj):AFun Tryz.prog 58 [Gq c,Ah nm] Hp (A6 (Ez nm c)):=by
 refine Aq [.tmp 4] [0,1] Tryz.func58 Tryz.ntmps58 (fun d=>?_)
 refine Z1 ?_;refine P5 ?_;refine Z3 ?_;refine H2 ?_;refine Ac Tryz.call104 (AAf c hc nm _) ?_;refine A7 ?_;exact qb

def Nw (s of:Str):Int:=(s.length:Int)-(Lib.trimLeftS s of).length
theorem R5 (s of:Str):(Lib.trimLeftS s of).length≤s.length:=by
 unfold Lib.trimLeftS
 exact (Zz _).length_le
def K8:Str:=[32,97,100,100,32,100,114,111,112,32,114,101,110,97,109,101,32,115,112,108,105,116,32,109,101,114,103,101,32,114,101,116,121,112,101,32,105,110,116,111,32,116,111,32,98,97,99,107,32,97,110,100,32,111,114,32,110,111,116,32,116,114,117,101,32,102,97,108,115,101,32,110,117,108,108,32,105,110,116,32,116,101,120,116,32,98,111,111,108,32,115,101,108,101,99,116,32,119,104,101,114,101,32,102,114,111,109,32,108,105,109,105,116,32]
def letters:Str:=[97,98,99,100,101,102,103,104,105,106,107,108,109,110,111,112,113,114,115,116,117,118,119,120,121,122]
def tails:Str:=[97,98,99,100,101,102,103,104,105,106,107,108,109,110,111,112,113,114,115,116,117,118,119,120,121,122,48,49,50,51,52,53,54,55,56,57,95]
theorem c81 (s of:Str) (hs:s.length≤1048576) (ho:of.length≤1048576) (ha:∀c∈of,c.toNat<128) (Hp:List AObj):AFun Tryz.prog 81 [Ah s,Ah of] Hp (A6 (Nw s of)):=by
 refine Aq [.tmp 4] [0,1] Tryz.func81 Tryz.ntmps81 (fun d=>?_)
 refine Z70 ?_;refine Z17 ?_;refine Ac Tryz.call130 (AA8 s of (by omega) ha _) ?_;refine A7 ?_
 have htl:=R5 s of
 refine Z0 ?_;exact qb

def Fm (s:Str):Bool:=(!(s==[]) && !Lib.contains s [32])&&Lib.contains K8 ([32]++s++[32])
theorem c82 (s:Str) (hs:s.length≤1048576) (Hp:List AObj):AFun Tryz.prog 82 [Ah s] Hp (B8 (Fm s)):=by
 refine Aq [.tmp 2] [0] Tryz.func82 Tryz.ntmps82 (fun d=>?_)
 refine Z76 ?_;refine Z14 ?_;refine C4 ?_;refine Co Tryz.call131 (fun hB=>ip s [32] (by omega) _) ?_;refine Z35 ?_;refine Z12 ?_;refine C4 ?_;refine Co Tryz.call131 (fun hB=>ip K8 ([32]++s++[32]) (by decide) _) ?_;refine Z0 ?_;exact Z86

theorem v7 {s:Str} {b c:Bool} (h:(((!(s==[])&&b)&&c)==true)=true):1≤s.length:=by
 cases s with
 | nil=>simp at h
 | cons x r=>simp
def Dx (s:Str):Bool:=((((!(s==[])&&decide ((s.length:Int)≤16))&&(Nw s tails==(s.length:Int)))&&(Nw (s.take 1) letters==1)) && !Fm s)
theorem c40 (s:Str) (hs:s.length≤1048576) (Hp:List AObj):AFun Tryz.prog 40 [Ah s] Hp (B8 (Dx s)):=by
 refine Aq [.tmp 2] [0] Tryz.func40 Tryz.ntmps40 (fun d=>?_)
 refine Z76 ?_;refine Z14 ?_;refine Z56 ?_;refine C4 ?_;refine Co Tryz.call81 (fun hB=>c81 s tails hs (by decide) (by decide) _) ?_;refine Z56 ?_;refine C4 ?_
 refine C4 (h:=Ii 1 (fun _=>Bk _) (fun hB=>v7 hB)) (hr:=?_)
 refine Co Tryz.call81 (fun hB=>c81 (s.take 1) letters (by simp;omega) (by decide) (by decide) _) ?_
 refine Z35 ?_;refine C4 ?_;refine Co Tryz.call82 (fun hB=>c82 s hs _) ?_;refine Z35 ?_;exact Z86

end Go.SX.Nb
namespace Go.SX.Nb
open Go Go.SX Go.Proofs Go.RowKit
variable [ErrAt]
set_option maxRecDepth 4000
theorem AAg (s t:Str) (Hp:List AObj):AFun Tryz.prog 277 [Ah s,Ah t] Hp (Ah (Lib.trimPrefix s t)):=by
 refine J2 (xs:=[sv s,sv t]) (v:=sv (Lib.trimPrefix s t)) (fun G w=>.v _ _) (fun w hg=>?_)
 refine (Any.strings_TrimPrefix Tryz.lays101 ⟨s.toArray⟩ ⟨t.toArray⟩ w).mono ?_
 rintro e w' ⟨rfl,rfl⟩
 exact ii
theorem AAh (s t:Str) (hs:s.length≤9223372036854775807) (ht:t.length<4294967281) (ha:∀c∈t,c.toNat<128) (Hp:List AObj):AFun Tryz.prog 278 [Ah s,Ah t] Hp (Ah (Lib.trimS s t)):=by
 refine J2 (xs:=[sv s,sv t]) (v:=sv (Lib.trimS s t)) (fun G w=>.v _ _) (fun w hg=>?_)
 refine (Any.strings_Trim_laid Tryz.lays160 (by kernel_rfl) ⟨s.toArray⟩ ⟨t.toArray⟩ w (by simpa [ByteArray.size] using hs) (by simpa [ByteArray.size] using ht) (fun j b hj=>ha b (B3 hj))).mono ?_
 rintro e w' ⟨rfl,hb⟩
 exact ⟨rfl,hb⟩
theorem qm (s:Str) (hs:s.length≤1048576) (v:Int) (h:Lib.parseIntB 64 s=.ok v) (Hp:List AObj):AFun Tryz.prog 279 [Ah s,A6 10,A6 64] Hp (.tup [A6 v,.v .nilIface]):=by
 refine J2 (xs:=[sv s,.int .i64 10,.int .i64 64]) (v:=.tuple #[.int .i64 v,.nilIface]) (fun G w=>K3 rfl (fun i y u hy hu=>?_)) (fun w hg=>?_)
 ·match i with
  | 0=>simp at hy hu;subst hy;subst hu;exact .v _ _
  | 1=>simp at hy hu;subst hy;subst hu;exact .v _ _
  | i+2=>simp at hy
 refine (Any.strconv_ParseInt_10_at64_ok Tryz.lays174 ⟨s.toArray⟩ (by simp [ByteArray.size];omega) v h w).mono ?_
 rintro e w' ⟨rfl,rfl|⟨t,rfl⟩⟩
 ·exact ii
 exact ⟨rfl,Lib.bytesWorld_below _ _ _⟩
def P7 (s:Str):AV:=.iface 324 (.ro [.v (sv [80,97,114,115,101,73,110,116]),.v (sv s),.v (.iface 347 (.pointer (some ErrAt.b)))])
theorem bj (s:Str) (hs:s.length≤1048576) (h:Lib.parseIntB 64 s=.range) (Hp:List AObj):AFun Tryz.prog 279 [Ah s,A6 10,A6 64] Hp (.tup [A6 (Lib.intSat 64 s),P7 s]):=by
 refine AFun.libErr (xs:=[sv s,.int .i64 10,.int .i64 64]) (n:=.int .i64 (Lib.intSat 64 s)) (cs:=[sv [80,97,114,115,101,73,110,116],sv s,.iface 347 (.pointer (some ErrAt.b))]) (te:=343) (fun y hy=>?_) (fun w hg=>?_)
 ·simp only [By,Ha,or_false] at hy
  rcases hy with rfl|rfl|rfl<;>rfl
 refine (Any.strconv_ParseInt_10_at64_range Tryz.lays174 ⟨s.toArray⟩ (by simp [ByteArray.size];omega) h (.iface 347 (.pointer (some ErrAt.b))) w (Q3 hg) (.inr ⟨_,_,rfl⟩)).mono ?_
 rintro e w' ⟨N,rfl,h1,h2,h3⟩
 exact ⟨N,rfl,h1,h2,h3⟩
theorem mi (Hp:List AObj):AFun Tryz.prog 280 [.v .nilIface,.v (.iface 347 (.pointer (some ErrAt.b)))] Hp (B8 false):=by
 refine J2 (xs:=[.nilIface,.iface 347 (.pointer (some ErrAt.b))]) (v:=.bool false) (fun G w=>.v _ _) (fun w hg=>?_)
 refine (Tryz.is_nil _ w).mono ?_
 rintro e w' ⟨rfl,rfl⟩
 exact ii
theorem bk (s:Str) (Hp:List AObj):AFun Tryz.prog 280 [P7 s,.v (.iface 347 (.pointer (some ErrAt.b)))] Hp (B8 true):=by
 intro d G w vs hn hv hH hT _
 have hsz:vs.size=2:=hn
 have h0:=hv 0 (P7 s) vs[0] rfl (Ec (by omega))
 have h1:=Kx (hv 1 (.v (.iface 347 (.pointer (some ErrAt.b)))) vs[1] rfl (Ec (by omega)))
 have hvs:vs=#[vs[0],vs[1]]:=by
  apply kw
  ·exact hsz
  intro i hi1 hi2
  match i with
  | 0=>rfl
  | 1=>rfl
  | i+2=>omega
 unfold P7 at h0
 generalize vs[0]=u0 at h0 hvs
 cases h0 with
 | iface _ _ _ u h =>
  cases h with
  | ro _ _ ad f hs h1' hf hr =>
   obtain ⟨ab,ao,asp⟩:=ad
   simp only at hs
   subst hs
   have hc:=(hf 2 _ rfl).2
   have he:=Kx (hr 2 _ rfl)
   rw [he] at hc
   rw [hvs,h1]
   refine (callsIn_wide.2 (Tryz.is_range ab ao ErrAt.b w hc)).mono ?_
   rintro e w' ⟨rfl,rfl⟩
   exact ⟨_,G,_,Hp,rfl,.v _ _,hH,hT,Fu _ _ _,rfl,rfl,rfl⟩
end Go.SX.Nb
namespace Go.SX.Nb
open Go Go.SX Go.Proofs
variable [ErrAt]
set_option maxRecDepth 4000
def Y5:Str:=[32,105,110,116,32,116,101,120,116,32,98,111,111,108]
def kindNames:List Str:=[[],[105,110,116],[116,101,120,116],[98,111,111,108]]
theorem ir:Mz Y5 [32]=kindNames:=by kernel_rfl
def I9 (k:Int):Str:=if k<1∨3<k then [] else kindNames.getD k.toNat []
theorem c76 (k:Int) (Hp:List AObj):AFun Tryz.prog 76 [A6 k] Hp (Ah (I9 k)):=by
 refine Aq [.tmp 2] [0] Tryz.func76 Tryz.ntmps76 (fun d=>?_)
 refine Z76 ?_;refine Z39 ?_;refine b7 ?_;refine A2 [0,8] ?_
 refine A4 (fun ht8=>?_) (fun ht8=>?_)
 ·refine Z57 ?_;refine Cp ?_;exact A5 (Ap A3) ⟨by rw [show I9 k=[] from if_pos (by simpa using ht8)],rfl⟩
 refine Z9 ?_;refine Ey ?_
 have hk:1≤k∧k≤3:=by simp at ht8;omega
 have hget:(kindNames.map Ah)[k.toNat]? = some (Ah (kindNames.getD k.toNat [])):=by
  have hlt:k.toNat<kindNames.length:=by show k.toNat<4;omega
  rw [Ce,Al hlt,Ch,Al hlt]
  rfl
 refine Ac Tryz.call122 (ir ▸ yp Y5 [32] (by decide) (by decide) _) ?_;refine A7 ?_
 refine A7 (h:=Ax (k.toNat) (Ah (kindNames.getD k.toNat [])) (fun _=>hget)) (hr:=?_)
 refine Z0 ?_;refine Z4 ?_;exact A5 (Ap A3) ⟨by rw [show I9 k=kindNames.getD k.toNat [] from if_neg (by omega)],rfl⟩

def Lx (s of:Str):Bool:=(!(s==[]) && !Lib.contains s [32])&&Lib.contains of ([32]++s++[32])
theorem yr (s of:Str) (hs:s.length≤1048576) (ho:of.length≤1048576) (Hp:List AObj):AFun Tryz.prog 125 [Ah s,Ah of] Hp (B8 (Lx s of)):=by
 refine Aq [.tmp 4] [0,1] Tryz.func125 Tryz.ntmps125 (fun d=>?_)
 refine Z70 ?_;refine Z14 ?_;refine C4 ?_;refine Co Tryz.call131 (fun hB=>ip s [32] (by omega) _) ?_;refine Z35 ?_;refine Z45 ?_;refine Co Tryz.call131 (fun hB=>ip of ([32]++s++[32]) (by omega) _) ?_;refine Z0 ?_;exact qb

def Uq:Str:=[108,101,110,58,49,32,115,116,114,58,49,32,110,117,109,58,49,32,105,115,110,117,108,108,58,49,32,110,118,108,58,50,32,108,101,102,116,58,50,32,114,105,103,104,116,58,50,32,105,102,58,51]
def arityList:List (Str×UInt8):=[([108,101,110],49),([115,116,114],49),([110,117,109],49),([105,115,110,117,108,108],49),([110,118,108],50),([108,101,102,116],50),([114,105,103,104,116],50),([105,102],51)]
def He (p:Str×UInt8):Str:=p.1++[58,p.2]
theorem bm:Mz Uq [32]=arityList.map He:=by kernel_rfl
theorem mj {p:Str×UInt8} (hp:p∈arityList):Lib.cut (He p) [58]=(p.1,[p.2],true):=by
 have h:(arityList.all fun p=>decide (Lib.cut (He p) [58]=(p.1,[p.2],true)))=true:=by kernel_rfl
 exact of_decide_eq_true (B2.1 h p hp)
def v8 (p:Str×UInt8):Int:=IntKind.i64.wrap (IntKind.u8.wrap ((p.2.toNat:Int)-48))
def Bx (nm:Str):Int:=match arityList.find? (fun p=>p.1==nm) with|some p=>v8 p|none => -1
theorem Wm {α:Type} {p:α→Bool} {l:List α} {x:Nat} (h:x<l.length) (hp:p l[x]=true) (h2:∀(j:Nat) (y:α),j<x→l[j]? = some y→p y=false):l.find? p=some l[x]:=by
 rw [l8]
 exact ⟨hp,x,h,rfl,fun j hj=>by simpa using h2 j l[j] hj (Al _)⟩
theorem P8 {α:Type} {p:α→Bool} {l:List α} (h:∀(j:Nat) (y:α),l[j]? = some y→p y=false):l.find? p=none:=by
 rw [Jw]
 intro y hy
 obtain ⟨j,hj⟩:=Cf hy
 simpa using h j y hj
theorem P9:arityList.length=8:=rfl
theorem iu {p:Str×UInt8} (hp:p∈arityList):(He p).length<4294967281:=by
 have h:(arityList.all fun p=>decide ((He p).length<4294967281))=true:=by kernel_rfl
 exact of_decide_eq_true (B2.1 h p hp)
theorem vd (nm:Str) (Hp:List AObj):AFun Tryz.prog 126 [Ah nm] Hp (A6 (Bx nm)):=by
 refine Aq [.tmp 2] [0] Tryz.func126 Tryz.ntmps126 (fun d=>?_)
 refine Z76 ?_;refine Z96 ?_;refine Ac Tryz.call122 (bm ▸ yp Uq [32] (by decide) (by decide) _) ?_;refine Z0 ?_;refine A2 [0,8,9,10] ?_
 refine Ff (α:=Nat) (fun x=>⟨28,Ao 0 (Ah nm) (Ao 8 (Um (arityList.map He)) (Ao 9 (A6 8) (Ao 10 (A6 (x:Nat)) (fun _=>.any)))),Hp,[],[],none⟩) (fun x=>x≤8∧∀(j:Nat) (y:Str×UInt8),j<x→arityList[j]? = some y→(y.1==nm)=false) (fun x=>8-x) (0) (by simp) (Ov _) rfl (fun x hx=>?_)
 refine Z3 ?_;refine A2 [0,8,9,10,11] ?_
 refine Gp (fun ht11=>?_) (fun ht11=>?_)
 ·have hlt:x<arityList.length:=by rw [P9];simp at ht11;omega
  have hal:=P9
  have hget:((arityList.map He).map Ah)[x]? = some (Ah (He arityList[x])):=by rw [Id];exact Cu hlt
  refine b6 ?_
  refine A7 (h:=Ax (x) (Ah (He arityList[x])) (fun _=>hget)) (hr:=?_)
  refine Z0 ?_;refine A2 [0,4,8,9,10] ?_;refine Z3 ?_;refine Ac Tryz.call163 ((mj (Db hlt)) ▸ yn (He arityList[x]) [58] (iu (Db hlt)) _) ?_;refine Z64 ?_;refine Z24 ?_;refine A2 [0,5,6,8,9,10] ?_;refine Z14 ?_;refine A2 [0,6,8,9,10,22] ?_
  refine A4 (fun ht22=>?_) (fun ht22=>?_)
  ·refine Z3 ?_
   refine A7 (h:=Rx 0 arityList[x].2 (fun _=>rfl)) (hr:=?_)
   refine A7 (h:=Q.sub) (hr:=?_)
   refine Z0 ?_;refine Z4 ?_;refine We ?_;exact A5 (Ap A3) ⟨by rw [Bx,Wm hlt ht22 hx.2];rfl,rfl⟩
  refine U2 ?_;refine A2 [0,8,9,10] ?_;exact Ct (x+1) ⟨by omega,Gj hlt hx.2 ht22⟩ (by omega) (Im rfl)
 have hal:=P9
 refine Z58 ?_;refine Z57 ?_;exact A5 (Ap A3) ⟨by rw [Bx,P8 (Nv (by simp at ht11;omega) hx.2)],rfl⟩

def bn (s:Str):Int:=match Lib.parseIntB 64 s with|.ok v=>v|_=>Lib.intSat 64 s
def U7 (s:Str):Bool:=match Lib.parseIntB 64 s with|.ok _=>false|_=>true
def U8 (s:Str):AV:=bif U7 s then P7 s else .v .nilIface
theorem bo (s:Str):(U8 s).strip=U8 s:=by unfold U8;cases U7 s<;>rfl
attribute [go_sem] bo
theorem AAi (s:Str) (hs:s.length≤1048576) (h:ql (Lib.parseIntB 64 s)=false) (Hp:List AObj):AFun Tryz.prog 279 [Ah s,A6 10,A6 64] Hp (.tup [A6 (bn s),U8 s]):=by
 cases hp:Lib.parseIntB 64 s with
 | ok v =>
  have:=qm s hs v hp Hp
  rwa [show v=bn s by unfold bn;rw [hp],show AV.v .nilIface=U8 s by unfold U8 U7;rw [hp];rfl] at this
 | range =>
  have:=bj s hs hp Hp
  rwa [show Lib.intSat 64 s=bn s by unfold bn;rw [hp],show P7 s=U8 s by unfold U8 U7;rw [hp];rfl] at this
 | _=>rw [hp] at h;cases h
theorem AAj (s:Str) (Hp:List AObj):AFun Tryz.prog 280 [U8 s,.v (.iface 347 (.pointer (some ErrAt.b)))] Hp (B8 (U7 s)):=by
 unfold U8
 cases U7 s
 ·exact mi Hp
 exact bk s Hp
theorem ml (s t:Str):(Lib.trimPrefix s t).length≤s.length:=by
 unfold Lib.trimPrefix;split<;>simp
theorem iv {d:Str} {b:Bool} (h:(((d==[]) || b)==false)=true):d≠[]:=by rintro rfl;simp at h
theorem N0:∀c∈digs,c.toNat<128:=by decide
theorem Sb (s:Str):((((Lib.trimPrefix s [45]==[]) || (Lib.trimS (Lib.trimPrefix s [45]) digs != [])) || ((((Lib.trimPrefix s [45]).headD 0).toNat:Int)==48&&decide ((1:Int)<s.length))))=Ga s:=by
 unfold Ga Kk
 have e1:((((Lib.trimPrefix s [45]).headD 0).toNat:Int)==48)=((Lib.trimPrefix s [45]).headD 0==48):=by
  rw [Bool.eq_iff_iff]
  simp only [beq_iff_eq]
  constructor
  ·intro h
   exact UInt8.toNat_inj.1 (by have:(48:UInt8).toNat=48:=rfl;omega)
  intro h;rw [h];rfl
 have e2:decide ((1:Int)<s.length)=decide (1<s.length):=by rw [decide_eq_decide];omega
 rw [e1,e2]
 rfl
theorem iw {s:Str} (hb:Ga s=false) (h:U7 s=true):Bo s=(0,4):=by
 unfold Bo
 rw [hb]
 have:=Lc hb
 unfold U7 at h
 revert h this
 cases Lib.parseIntB 64 s with
 | ok v=>intro h;cases h
 | range=>intro _ _;rfl
 | _=>intro _ h;cases h
theorem ve {s:Str} (hb:Ga s=false) (h:U7 s=false):Bo s=(bn s,0):=by
 unfold Bo bn
 rw [hb]
 unfold U7 at h
 revert h
 cases Lib.parseIntB 64 s with
 | ok v=>intro h;rfl
 | _=>intro h;cases h
theorem mm (s:Str):s.take (min s.length 200)=s.take 200:=by
 rcases Nat.le_total s.length 200 with h|h
 ·rw [Nat.min_eq_left h,List.take_of_length_le (Nat.le_refl _),List.take_of_length_le h]
 rw [Nat.min_eq_right h]
theorem yt (s:Str) (hs:s.length≤1048576) (Hp:List AObj):AFun Tryz.prog 224 [Ah s] Hp (.tup [A6 (Bo s).1,A6 (Bo s).2]):=by
 refine ACall.body [.tmp 2,.tmp 3] [0] Tryz.func224 Tryz.ntmps224 (fun d=>?_)
 refine Z1 ?_;refine R.fin [0] ?_;refine Z3 ?_;refine R.call Tryz.call277 (AAg s [45] _) ?_;refine R.go ?_;refine R.fin [0,4] ?_;refine Z39 ?_;refine G.go ?_
 refine G.call Tryz.call278 (fun hB=>AAh (Lib.trimPrefix s [45]) digs (by have:=ml s [45];omega) (by decide) N0 _) ?_
 refine Z35 ?_;refine G.go ?_
 refine G.go (h:=Q.sindex 0 ((Lib.trimPrefix s [45]).headD 0) (fun hB=>Up (iv hB))) (hr:=?_)
 refine Z45 ?_;refine b7 ?_;refine R.fin [0,25] ?_
 refine W.cond (fun ht25=>?_) (fun ht25=>?_)
 ·have hb:Ga s=true:=by rw [←Sb];exact ht25
  refine Z1 ?_;refine Z20 ?_;refine K.thR ?_;exact K.fin (V.two V.tmp V.tmp) ⟨by rw [Bo,hb];rfl,rfl⟩
 have hb:Ga s=false:=by rw [←Sb];exact ht25
 refine Z75 ?_;refine R.call Tryz.call279 (AAi s hs (Lc hb) _) ?_;refine Qq ?_;refine R.fin [5,6] ?_;refine Z37 ?_;refine R.loadGlob Tryz.isAgg175 (fun w hg=>Q3 hg) ?_;refine R.call Tryz.call280 (AAj s _) ?_;refine R.fin [5,33] ?_
 refine W.cond (fun ht33=>?_) (fun ht33=>?_)
 ·refine Z1 ?_;refine Z20 ?_;refine K.thR ?_;exact K.fin (V.two V.tmp V.tmp) ⟨by rw [iw hb ht33],rfl⟩
 refine U4 ?_;refine Z20 ?_;exact K.fin (V.two V.tmp V.tmp) ⟨by rw [ve hb ht33],rfl⟩

theorem yu (n:Int) (h0 : -9223372036854775808≤n) (h1:n≤9223372036854775807) (Hp:List AObj):AFun Tryz.prog 160 [A6 n] Hp (Ah (Lib.itoa n)):=by
 refine ACall.body [.tmp 2] [0] Tryz.func160 Tryz.ntmps160 (fun d=>?_)
 refine Z76 ?_;refine Z3 ?_;refine R.call Tryz.call207 (AAd n h0 h1 _) ?_;refine R.go ?_;exact Z86

theorem c86 (Hp:List AObj):AFun Tryz.prog 86 [] Hp (Bq ⟨0,0,[]⟩):=by
 refine ACall.body [.cell 0 23] [] Tryz.func86 Tryz.ntmps86 (fun d=>?_)
 refine Z26 ?_;refine R.fin [0] ?_;refine Z50 ?_;refine Jj ?_;refine R.fin [0] ?_;refine AW.ret ?_;exact K.fin (V.one (V.cellN jA jS))

theorem vf (n:Int) (Hp:List AObj):AFun Tryz.prog 221 [A6 n] Hp (Bq ⟨1,n,[]⟩):=by
 refine ACall.body [.cell 2 23] [0] Tryz.func221 Tryz.ntmps221 (fun d=>?_)
 refine Z52 ?_;refine ui ?_;exact un

theorem c88 (b:Bool) (Hp:List AObj):AFun Tryz.prog 88 [B8 b] Hp (Bq ⟨3,if b then 1 else 0,[]⟩):=by
 refine ACall.body [.cell 2 23] [0] Tryz.func88 Tryz.ntmps88 (fun d=>?_)
 refine Z52 ?_;refine Z50 ?_;refine qh ?_;refine Z37 ?_;refine R.fin [2,3,5] ?_
 refine W.cond (fun ht5=>?_) (fun ht5=>?_)
 ·refine Z97 ?_;refine Jj ?_;refine R.fin [2,3] ?_;refine K.thN ?_;refine Z3 ?_;exact xd
 refine Z75 ?_;exact xd

theorem ix (s:Str) (Hp:List AObj):AFun Tryz.prog 223 [Ah s] Hp (Bq ⟨2,0,s.take 200⟩):=by
 refine ACall.body [.cell 2 23] [0] Tryz.func223 Tryz.ntmps223 (fun d=>?_)
 refine Z52 ?_;refine Z14 ?_;refine R.minI ?_
 refine R.go (h:=Q.scutH (min s.length 200) (fun _=>Nat.zero_le _) (fun _=>Nat.min_le_left _ _) (hb:=fun _=>by split<;>omega)) (hr:=?_)
 refine ij ?_;refine Z10 ?_;exact K.fin (V.one (V.cellN jA jS)) ⟨by rw [mm],rfl⟩

theorem bp {p s:Str} (h:p.isPrefixOf s=true):p.length≤s.length:=(List.isPrefixOf_iff_prefix.1 h).length_le
theorem bq (s o:Str) (h:0≤Lib.index s o):(Lib.index s o).toNat+o.length≤s.length:=by
 induction s with
 | nil =>
  unfold Lib.index at h ⊢
  split at h
  ·rename_i he
   rw [if_pos he]
   cases o with
   | nil=>simp
   | cons a b=>simp at he
  omega
 | cons b l ih =>
  unfold Lib.index at h ⊢
  split at h
  ·rename_i hp
   rw [if_pos hp]
   have:=bp hp
   simpa using this
  rename_i hp
  rw [if_neg hp]
  split at h
  ·omega
  rename_i hi
  rw [if_neg hi]
  have hg:=Lib.index_ge l o
  have hi':Lib.index l o ≠ -1:=by simpa using hi
  have:=ih (by omega)
  simp only [Ay]
  omega
def dt:Val:=⟨0,0,[]⟩
def C7 (b:Bool):Val:=⟨3,if b then 1 else 0,[]⟩
def qn (n:Int):Prop := -9223372036854775808≤n∧n≤9223372036854775807
def Fh (v:Val):Str:=
 if !C9 v then [] else if v.kind==1 then Lib.itoa v.n else if v.kind==2 then [39]++Lib.replaceAll v.s [39] [39,39]++[39]
 else if v.kind==0 then [110,117,108,108] else if v.n==1 then [116,114,117,101] else [102,97,108,115,101]
theorem iy {v:Val} (h:C9 v=true) (h2:(v.kind==2)=true):v.s.length≤200:=by
 have e:v.kind=2:=by simpa using h2
 unfold C9 at h
 rw [e] at h
 simp at h
 omega
theorem Y6 (s o:Str) (ho:1≤o.length):Lib.countB ⟨s.toArray⟩ ⟨o.toArray⟩≤s.length:=Lib.countB_le ⟨o.toArray⟩ (by simpa [ByteArray.size] using ho) s.length ⟨s.toArray⟩ (by simp [ByteArray.size])
theorem Q5 (o n:Str) (B:Nat) (hn:n.length≤B*o.length) (hB:1≤B):∀(k:Nat) (s:Str),(Lib.replaceK o n k s).length≤B*s.length
 | 0,s=>by rw [Lib.replaceK];exact Qx _ hB
 | k+1,s=>by
  rw [Lib.replaceK]
  split
  ·exact Qx _ hB
  rename_i h
  have ih:=Q5 o n B hn hB k (s.drop ((Lib.index s o).toNat+o.length))
  have hx:(Lib.index s o).toNat+o.length≤s.length:=by
   have hg:=Lib.index_ge s o
   have hi:Lib.index s o ≠ -1:=by simpa using h
   exact bq s o (by omega)
  simp only [As,Fd,Ic] at ih ⊢
  have h1:min (Lib.index s o).toNat s.length≤B*(Lib.index s o).toNat:=Jz (Nat.min_le_left _ _) (Qx _ hB)
  have h2:B*s.length=B*(Lib.index s o).toNat+B*o.length+B*(s.length-((Lib.index s o).toNat+o.length)):=by
   rw [←Nat.mul_add,←Nat.mul_add];congr 1;omega
  omega
theorem U9 (s o n:Str) (B:Nat) (hn:n.length≤B*o.length) (hB:1≤B):(Lib.replaceAll s o n).length≤B*s.length:=by
 unfold Lib.replaceAll Lib.replace
 split
 ·exact Qx _ hB
 exact Q5 o n B hn hB _ s
theorem yw (v:Val) (hn:qn v.n) (Hp:List AObj):AFun Tryz.prog 120 [Bq v] Hp (Ah (Fh v)):=by
 refine Aq [.tmp 2] [0] Tryz.func120 Tryz.ntmps120 (fun d=>?_)
 refine Z93 ?_;refine Wi ?_;refine Ac Tryz.call37 (c37 v _) ?_;refine Z0 ?_;refine A2 [1,3] ?_
 refine A4 (fun ht3=>?_) (fun ht3=>?_)
 ·refine Z57 ?_;refine Z5 ?_;exact A5 (Ap A3) ⟨by simp only [Fh,ht3,if_true],rfl⟩
 have hp:C9 v=true:=by simpa using ht3
 refine Z17 ?_;refine A2 [1,7] ?_
 refine A4 (fun ht7=>?_) (fun ht7=>?_)
 ·refine Z1 ?_;refine Ac Tryz.call160 (yu v.n hn.1 hn.2 _) ?_;refine A7 ?_;refine Z4 ?_;refine Z5 ?_;exact A5 (Ap A3) ⟨by simp only [Fh,hp,ht7,Ib,Bs,if_false,if_true];try rfl,rfl⟩
 refine Z17 ?_;refine A2 [1,14] ?_
 refine A4 (fun ht14=>?_) (fun ht14=>?_)
 ·refine Z1 ?_
  have hl:=iy hp ht14
  have hrl:=U9 v.s [39] [39,39] 2 (by decide) (by decide)
  refine Ac Tryz.call161 (yq v.s [39] [39,39] (by omega) (by decide) (by have:=Y6 v.s [39] (by decide);simp;omega) _) ?_
  refine Z24 ?_;refine Z4 ?_;refine Z5 ?_;exact A5 (Ap A3) ⟨by simp only [Fh,hp,ht7,ht14,Ib,Bs,if_false,if_true];try rfl,rfl⟩
 refine Z17 ?_;refine A2 [1,23] ?_
 refine A4 (fun ht23=>?_) (fun ht23=>?_)
 ·refine Z57 ?_;refine Z5 ?_;exact A5 (Ap A3) ⟨by simp only [Fh,hp,ht7,ht14,ht23,Ib,Bs,if_false,if_true];try rfl,rfl⟩
 refine Z17 ?_;refine A2 [27] ?_
 refine A4 (fun ht27=>?_) (fun ht27=>?_)
 ·refine Z57 ?_;refine Z5 ?_;exact xz
 refine Z22 ?_;refine Z57 ?_;exact xz

def mn (s:Str):Str:=Lib.replaceAll ((s.take (s.length-1)).drop 1) [39,39] [39]
def Sc (s:Str):Val:=⟨2,0,(mn s).take 200⟩
def Y7 (s:Str):Val×Int:=if !(Fh (Sc s)==s) then (dt,7) else (Sc s,0)
theorem AAk (s:Str) (h2:2≤s.length) (hs:s.length≤1048576) (Hp:List AObj):AFun Tryz.prog 290 [Ah s] Hp (.tup [Bq (Y7 s).1,A6 (Y7 s).2]):=by
 refine Aq [.cell 2 23,.tmp 3] [0] Tryz.func290 Tryz.ntmps290 (fun d=>?_)
 refine Xz ?_;refine A2 [0,2] ?_;refine Z17 ?_
 refine A7 (h:=Q.scutLH 1 (s.length-1) (fun _=>show 1≤s.length-1 by omega) (fun _=>show s.length-1≤s.length by omega)) (hr:=?_)
 refine Ac Tryz.call161 (yq ((s.take (s.length-1)).drop 1) [39,39] [39] (by simp;omega) (by decide) (by have:=Y6 ((s.take (s.length-1)).drop 1) [39,39] (by decide);simp at this ⊢;omega) _) ?_
 refine A7 ?_;refine A2 [0,2,4] ?_;refine Z3 ?_;refine Ac Tryz.call223 (ix (mn s) _) ?_;refine Z21 ?_;refine A2 [0,2,5] ?_;refine Z37 ?_
 refine Ac Tryz.call120 (yw (Sc s) ⟨by show (-9223372036854775808:Int)≤0;decide,by show (0:Int)≤9223372036854775807;decide⟩ _) ?_
 refine Z0 ?_;refine A2 [2,5,17] ?_
 refine A4 (fun ht17=>?_) (fun ht17=>?_)
 ·refine Z50 ?_;refine Z51 ?_;refine Cp ?_;exact y6
 refine Z75 ?_;refine Z51 ?_;exact y6

def Ur (s:Str):Bool:=(decide ((1:Int)<s.length)&&Lib.hasPrefix s [39])&&Lib.hasSuffix s [39]
def Gr (s:Str):Val×Int:=
 if s==[110,117,108,108] then (dt,0) else if (s==[116,114,117,101]) || (s==[102,97,108,115,101]) then (C7 (s==[116,114,117,101]),0)
 else if Ur s then Y7 s else if (Bo s).2==0 then (⟨1,(Bo s).1,[]⟩,0) else if (Bo s).2==4 then (dt,4) else (dt,7)
theorem mo {s:Str} (h:Ur s=true):2≤s.length:=by
 unfold Ur at h
 simp only [Ak,decide_eq_true_eq] at h
 omega
theorem vg (s:Str) (hs:s.length≤1048576) (Hp:List AObj):AFun Tryz.prog 252 [Ah s] Hp (.tup [Bq (Gr s).1,A6 (Gr s).2]):=by
 refine Aq [.cell 2 23,.tmp 3] [0] Tryz.func252 Tryz.ntmps252 (fun d=>?_)
 refine Xz ?_;refine A2 [0,2] ?_;refine U3 ?_;refine A2 [0,2,6] ?_
 refine A4 (fun ht6=>?_) (fun ht6=>?_)
 ·refine uo ?_;refine Xx ?_;exact A5 (Ab (Ai jA jS) A3) ⟨by simp only [Gr,ht6,if_true,if_false,Bs];try rfl,rfl⟩
 refine Z14 ?_;refine Z12 ?_;refine Z0 ?_;refine A2 [0,2,10] ?_
 refine A4 (fun ht10=>?_) (fun ht10=>?_)
 ·refine Z1 ?_;refine Ac Tryz.call88 (c88 (s==[116,114,117,101]) _) ?_;refine Xx ?_;exact A5 (Ab (Ai jA jS) A3) ⟨by simp only [Gr,ht6,ht10,if_true,if_false,Bs];try rfl,rfl⟩
 refine Z17 ?_;refine C4 ?_;refine Co Tryz.call288 (fun hB=>AA9 s [39] _) ?_;refine Y0 ?_;refine Co Tryz.call289 (fun hB=>AAa s [39] (by omega) _) ?_;refine Z0 ?_;refine A2 [0,2,20] ?_
 refine A4 (fun ht20=>?_) (fun ht20=>?_)
 ·have hq:Ur s=true:=ht20
  refine Z3 ?_;refine Ac Tryz.call290 (AAk s (mo hq) hs _) ?_;refine Z0 ?_;refine Xx ?_;exact A5 (Ab (Ai jA jS) A3) ⟨by simp only [Gr,ht6,ht10,hq,if_true,if_false,Bs];try rfl,rfl⟩
 have hq:Ur s=false:=ht20
 refine Z22 ?_;refine Z3 ?_;refine Ac Tryz.call224 (yt s hs _) ?_;refine Qq ?_;refine A2 [2,4,5] ?_;refine Z37 ?_;refine A2 [2,4,5,41] ?_;refine Z88 ?_;refine A2 [2,4,5,41,42] ?_
 refine A4 (fun ht42=>?_) (fun ht42=>?_)
 ·refine Z3 ?_;refine Ac Tryz.call221 (vf (Bo s).1 _) ?_;refine Xx ?_;exact A5 (Ab (Ai jA jS) A3) ⟨by simp only [Gr,ht6,ht10,hq,ht42,if_true,if_false,Bs];try rfl,rfl⟩
 refine Z1 ?_;refine A2 [2,5,46] ?_
 refine A4 (fun ht46=>?_) (fun ht46=>?_)
 ·refine Z50 ?_;refine ib ?_;exact A5 (Ab (Ai jA jS) A3) ⟨by simp only [Gr,ht6,ht10,hq,ht42,ht46,if_true,if_false,Bs];rw [show (Bo s).2=4 by simpa using ht46];rfl,rfl⟩
 refine Z22 ?_;refine Z50 ?_;refine Z51 ?_;exact A5 (Ab (Ai jA jS) A3) ⟨by simp only [Gr,ht6,ht10,hq,ht42,ht46,if_true,if_false,Bs];try rfl,rfl⟩

def blanks:Str:=[32,9,10]
/-- What stands behind blanks and notes. -/
def Fp:Str→Bool→Str
 | [],_=>[]
 | c::r,false=>if blanks.contains c then Fp r false else if c==35 then Fp r true else c::r
 | c::r,true=>if c==10 then Fp r false else Fp r true
def runN (s of:Str):Nat:=s.length-(Lib.trimLeftS s of).length
theorem Wn (s of:Str):Nw s of=(runN s of:Int):=by
 have:=R5 s of
 unfold Nw runN
 omega
theorem Wo (s of:Str):runN s of≤s.length:=Nat.sub_le _ _
theorem mp (s of:Str):s.drop (runN s of)=Lib.trimLeftS s of:=by
 unfold runN Lib.trimLeftS
 have h:∀l:Str,l.drop (l.length-(l.dropWhile (of.contains ·)).length)=l.dropWhile (of.contains ·):=by
  intro l
  have e:=dg (p:=(of.contains ·)) (l:=l)
  have hl:l.length-(l.dropWhile (of.contains ·)).length=(l.takeWhile (of.contains ·)).length:=by
   have:=congrArg List.length e
   simp only [As] at this
   omega
  rw [hl]
  conv=>lhs;rw [←e]
  rw [List.drop_left']
  rw [e]
 exact h s
theorem mq (s of:Str):s.take (runN s of)=s.takeWhile (of.contains ·):=by
 have e:=dg (p:=(of.contains ·)) (l:=s)
 have hl:runN s of=(s.takeWhile (of.contains ·)).length:=by
  unfold runN Lib.trimLeftS
  have:=congrArg List.length e
  simp only [As] at this
  omega
 rw [hl]
 conv=>lhs;rw [←e]
 rw [List.take_left']
 rw [e]
theorem Pa:∀s:Str,Fp (Lib.trimLeftS s blanks) false=Fp s false
 | []=>rfl
 | c::r=>by
  unfold Lib.trimLeftS
  rw [On]
  by_cases h:blanks.contains c=true
  ·rw [if_pos h,Fp,if_pos h]
   exact Pa r
  rw [if_neg h]
theorem Us (of:Str):∀(s:Str) (c:UInt8) (t:Str),Lib.trimLeftS s of=c::t→of.contains c=false
 | [],c,t,h=>by cases h
 | b::r,c,t,h=>by
  unfold Lib.trimLeftS at h
  rw [On] at h
  split at h
  ·exact Us of r c t h
  rename_i hb
  injection h with h1 h2
  subst h1
  simpa using hb
def Hf:Str→Str
 | []=>[]
 | c::r=>if c==10 then r else Hf r
theorem vh (s:Str):(Lib.cut s [10]).2.1=Hf s:=by
 unfold Lib.cut
 induction s with
 | nil=>rfl
 | cons c r ih =>
  have hg:=Lib.index_ge r [10]
  rw [Hf]
  unfold Lib.index
  by_cases hc:c=10
  ·subst hc
   simp [List.isPrefixOf]
  have h1:([10]:Str).isPrefixOf (c::r)=false:=by simp [List.isPrefixOf,Ne.symm hc]
  have h2:(c==10)=false:=by simpa using hc
  rw [h1,h2]
  simp only [Bs,if_false]
  by_cases hi:Lib.index r [10] = -1
  ·rw [hi] at ih ⊢
   simpa using ih
  have h3:(Lib.index r [10] == -1)=false:=by simpa using hi
  rw [h3]
  simp only [Bs,if_false]
  rw [if_pos (by omega)] at ih ⊢
  have e:(Lib.index r [10]+1).toNat=(Lib.index r [10]).toNat+1:=by omega
  rw [e]
  rw [←ih]
  show (c::r).drop _=_
  rw [show (Lib.index r [10]).toNat+1+([10]:Str).length=((Lib.index r [10]).toNat+([10]:Str).length)+1 by omega,ae]
theorem Ut:∀t:Str,Fp t true=Fp (Hf t) false
 | []=>rfl
 | c::r=>by
  rw [Fp,Hf]
  split
  ·rfl
  exact Ut r
theorem Se:∀t:Str,(Hf t).length≤t.length
 | []=>An _
 | c::r=>by
  rw [Hf]
  split
  ·simp
  have:=Se r;simp only [Ay];omega
def gapM (s:Str):Nat:=s.length-(Fp s false).length
theorem iz {d:Str} (h:((d==[])==false)=true):d≠[]:=by rintro rfl;simp at h
theorem Wp:∀c∈blanks,c.toNat<128:=by decide
/-- The gap is at its end. -/
theorem qo {x s:Str} (hx:Fp x false=Fp s false) (h:((Lib.trimLeftS x blanks==[]) || ((((Lib.trimLeftS x blanks).headD 0).toNat:Int) != 35))=true):Fp s false=Lib.trimLeftS x blanks:=by
 rw [←hx,←Pa]
 cases ht:Lib.trimLeftS x blanks with
 | nil=>rfl
 | cons c t =>
  rw [ht] at h
  have hb:=Us blanks x c t ht
  have hc:(c==35)=false:=by
   simp at h
   rw [beq_eq_false_iff_ne]
   rintro rfl
   exact h rfl
  rw [Fp,hb,hc]
  rfl
theorem vi {x s:Str} (hx:Fp x false=Fp s false) (h:((Lib.trimLeftS x blanks==[]) || ((((Lib.trimLeftS x blanks).headD 0).toNat:Int) != 35))=false):
  Fp (Lib.cut (Lib.trimLeftS x blanks) [10]).2.1 false=Fp s false∧(Lib.cut (Lib.trimLeftS x blanks) [10]).2.1.length<x.length:=by
 have hl:=R5 x blanks
 rw [vh,←hx,←Pa x]
 cases ht:Lib.trimLeftS x blanks with
 | nil=>rw [ht] at h;simp at h
 | cons c t =>
  rw [ht] at h hl
  have hc:c=35:=by
   simp at h
   exact No.1 (by have:(35:UInt8).toNat=35:=rfl;omega)
  subst hc
  have ha:=Se t
  refine ⟨?_,?_⟩
  ·rw [Hf,Fp]
   have e1:blanks.contains 35=false:=by decide
   rw [e1]
   exact (Ut t).symm
  rw [Hf]
  simp only [Ay] at hl
  show (Hf t).length<_
  omega
theorem yx (s:Str) (hs:s.length≤1048576) (Hp:List AObj):AFun Tryz.prog 154 [Ah s] Hp (A6 (gapM s)):=by
 refine Aq [.tmp 2] [0] Tryz.func154 Tryz.ntmps154 (fun d=>?_)
 refine Z76 ?_;refine Z1 ?_;refine P5 ?_
 refine Ff (α:=Str) (fun x=>⟨27,Ao 0 (Ah s) (Ao 3 (Ah x) (fun _=>.any)),Hp,[],[],none⟩) (fun x=>Fp x false=Fp s false∧x.length≤s.length) (fun x=>x.length) (s) (by simp) (Ov _) rfl (fun x hx=>?_)
 refine I5 ?_;refine Ey ?_
 have hx2:=hx.2
 have htl:=R5 x blanks
 refine Z0 ?_;refine Ac Tryz.call81 (c81 x blanks (by omega) (by decide) Wp _) ?_
 refine A7 (h:=Q.scutL (runN x blanks) (fun _=>Wo _ _) (fun _=>An _) (ha:=fun _=>Wn x blanks)) (hr:=?_)
 rw [mp]
 refine A7 ?_;refine P5 ?_;refine Z39 ?_;refine C4 ?_
 refine C4 (h:=Rx 0 ((Lib.trimLeftS x blanks).headD 0) (fun hB=>Up (iz hB))) (hr:=?_)
 refine Z63 ?_;refine A2 [0,3,15] ?_
 refine A4 (fun ht15=>?_) (fun ht15=>?_)
 ·have he:=qo hx.1 ht15
  refine Z17 ?_;refine Z0 ?_;refine Z4 ?_;refine Cp ?_;refine Xy ?_;exact A5 (Ap A3) ⟨by rw [show ((s.length:Int)-(Lib.trimLeftS x blanks).length)=(gapM s:Int) by unfold gapM;rw [he];omega],rfl⟩
 have he:=vi hx.1 ht15
 refine Z9 ?_;refine Z97 ?_;refine Ac Tryz.call163 (yn (Lib.trimLeftS x blanks) [10] (by omega) _) ?_;refine Qq ?_;refine P5 ?_;refine Jc ?_;exact Ct _ ⟨he.1,by omega⟩ he.2 (Im rfl)

def D3 (s of:Str):Str:=s.take (runN s of)
theorem H6 (s of:Str):(D3 s of).length≤s.length:=by unfold D3;simp;omega
def N1 (s:Str):Int×Str×Int×Int:=
 if Fm (D3 s tails) then (2,D3 s tails,(D3 s tails).length,0) else if !Dx (D3 s tails) then (0,[],0,3) else (1,D3 s tails,(D3 s tails).length,0)
abbrev mr (r:Int×Str×Int×Int):AV:=.tup [A6 r.1,Ah r.2.1,A6 r.2.2.1,A6 r.2.2.2]
theorem Y8:∀c∈tails,c.toNat<128:=by decide
theorem Ua:∀c∈letters,c.toNat<128:=by decide
theorem AAl (s:Str) (hs:s.length≤1048576) (Hp:List AObj):AFun Tryz.prog 199 [Ah s] Hp (mr (N1 s)):=by
 refine Aq [.tmp 2,.tmp 3,.tmp 4,.tmp 5] [0] Tryz.func199 Tryz.ntmps199 (fun d=>?_)
 refine ma ?_;refine Z1 ?_;refine Ac Tryz.call81 (c81 s tails hs (by decide) Y8 _) ?_
 refine A7 (h:=Ii (runN s tails) (fun _=>Bk _) (fun _=>Wo _ _) (hb:=fun _=>Wn s tails)) (hr:=?_)
 refine A7 ?_;refine A2 [6] ?_;refine Wi ?_
 refine Ac Tryz.call82 (c82 (D3 s tails) (by have:=H6 s tails;omega) _) ?_
 refine A7 ?_;refine A2 [6,11] ?_
 refine A4 (fun ht11=>?_) (fun ht11=>?_)
 ·refine Ey ?_
  have hwl:=H6 s tails
  refine Z64 ?_;refine Z24 ?_;refine Z48 ?_;refine Z5 ?_;exact A5 (Ik A3 A3 A3 A3) ⟨by simp only [N1,ht11,if_true,if_false,Bs];try rfl,rfl⟩
 refine Z3 ?_
 refine Ac Tryz.call40 (c40 (D3 s tails) (by have:=H6 s tails;omega) _) ?_
 refine Z0 ?_;refine A2 [6,17] ?_
 refine A4 (fun ht17=>?_) (fun ht17=>?_)
 ·refine Z17 ?_;refine Z48 ?_;refine Z5 ?_;exact y7
 refine Z22 ?_;refine Ey ?_
 have hwl:=H6 s tails
 refine Z64 ?_;refine Z24 ?_;refine Z48 ?_;exact y7

def Wq (s:Str):Int×Str×Int×Int:=(3,D3 s digs,(D3 s digs).length,(Gr (D3 s digs)).2)
theorem AAm (s:Str) (hs:s.length≤1048576) (Hp:List AObj):AFun Tryz.prog 200 [Ah s] Hp (mr (Wq s)):=by
 refine Aq [.tmp 2,.tmp 3,.tmp 4,.tmp 5] [0] Tryz.func200 Tryz.ntmps200 (fun d=>?_)
 refine ma ?_;refine Z1 ?_;refine Ac Tryz.call81 (c81 s digs hs (by decide) N0 _) ?_
 refine A7 (h:=Ii (runN s digs) (fun _=>Bk _) (fun _=>Wo _ _) (hb:=fun _=>Wn s digs)) (hr:=?_)
 refine A7 ?_;refine A2 [6] ?_;refine Z3 ?_
 refine Ac Tryz.call252 (vg (D3 s digs) (by have:=H6 s digs;omega) _) ?_
 refine Z82 ?_;refine A2 [6,8] ?_;refine Z17 ?_;refine Z64 ?_;refine Z48 ?_;exact A5 (Ik A3 A3 A3 A3) ⟨rfl,rfl⟩

/-- Behind a mark: how many bytes up to the one that closes, it too. -/
def Cv:Str→Option Nat
 | []=>none
 | [c]=>if c==39 then some 1 else none
 | c::d::t=>if c==39 then (if d==39 then (Cv t).map (·+2) else some 1) else (Cv (d::t)).map (·+1)
theorem Q6 {c:UInt8} (h:¬(c==39)=true) (r:Str):Cv (c::r)=(Cv r).map (·+1):=by
 cases r with
 | nil=>simp [Cv,h]
 | cons d t=>rw [Cv,if_neg h]
theorem Sf (r:Str):Cv (39::r)=match r with
   | []=>some 1
   | d::t=>if d==39 then (Cv t).map (·+2) else some 1:=by
 cases r with
 | nil=>rfl
 | cons d t=>rw [Cv];simp
def J4 (s:Str):Int×Str×Int×Int:=
 match Cv (s.drop 1) with
 | none=>(0,[],0,7)
 | some n=>if (Gr (s.take (n+1))).2 != 0 then (0,[],0,3) else (4,(Gr (s.take (n+1))).1.s,((n+1:Nat):Int),0)
theorem Sg:∀l:Str,Lib.indexByte l 39 = -1→Cv l=none
 | [],_=>by rw [Cv]
 | c::r,h=>by
  rw [Lib.indexByte] at h
  split at h
  ·omega
  rename_i hc
  rw [Q6 hc]
  split at h
  ·rename_i hi
   rw [Sg r (by simpa using hi)]
   rfl
  have:=Lib.indexByte_ge r 39;omega
theorem Y9:∀(l:Str) (k:Nat),Lib.indexByte l 39=(k:Int)→k<l.length∧Cv l=(Cv (l.drop k)).map (·+k)∧l[k]? = some 39
 | [],k,h=>by rw [Lib.indexByte] at h;omega
 | c::r,k,h=>by
  rw [Lib.indexByte] at h
  split at h
  ·rename_i hc
   have:k=0:=by omega
   subst this
   refine ⟨by simp,?_,by simpa using hc⟩
   rw [Vp]
   cases Cv (c::r)<;>simp
  rename_i hc
  split at h
  ·omega
  have hg:=Lib.indexByte_ge r 39
  rename_i hi
  have hi':Lib.indexByte r 39 ≠ -1:=by simpa using hi
  obtain ⟨m,rfl⟩:∃m,k=m+1:=⟨k-1,by omega⟩
  obtain ⟨h1,h2,h3⟩:=Y9 r m (by omega)
  refine ⟨by simpa using h1,?_,by simpa using h3⟩
  rw [Q6 hc,ae,h2]
  cases Cv (r.drop m)<;>simp [Iy]
theorem K9 {s:Str} {n:Nat} {c:UInt8} (h:s[n]? = some c):s.drop n=c::s.drop (n+1):=by
 obtain ⟨hlt,he⟩:=Ae.1 h
 rw [Kr hlt,he]
theorem Nx {s:Str} {n:Nat} (h:n<s.length):s[n]? = some (s.getD n 0):=by
 rw [Ch,Al h];rfl
theorem ms {s:Str} {x k:Nat} (h:(decide (((x:Int)+((k:Int)+1))<s.length)==true)=true):x+(k+1)<s.length:=by
 have:=of_decide_eq_true (by simpa using h:decide (((x:Int)+((k:Int)+1))<s.length)=true)
 omega
/-- What a round of the search for the mark that closes tz to. -/
theorem br {s:Str} {x k:Nat} (h1:1≤x) (hx:Cv (s.drop 1)=(Cv (s.drop x)).map (·+(x-1))) (hk:Lib.indexByte (s.drop x) 39=(k:Int)):
  x+(k+1)≤s.length ∧
   ((decide (((x:Int)+((k:Int)+1))<s.length)&&(((s.getD (x+(k+1)) 0).toNat:Int)==39))=true→x+(k+1)+1≤s.length∧Cv (s.drop 1)=(Cv (s.drop (x+(k+1)+1))).map (·+(x+(k+1)+1-1))) ∧
   ((decide (((x:Int)+((k:Int)+1))<s.length)&&(((s.getD (x+(k+1)) 0).toNat:Int)==39))=false→Cv (s.drop 1)=some (x+k)):=by
 obtain ⟨g1,g2,g3⟩:=Y9 _ k hk
 rw [Fd] at g1
 rw [F8] at g3
 have e0:(s.drop x).drop k=39::s.drop (x+(k+1)):=by rw [Vo,K9 g3,Iy]
 rw [e0] at g2
 refine ⟨by omega,fun h=>?_,fun h=>?_⟩
 ·simp only [Ak,decide_eq_true_eq,beq_iff_eq] at h
  have hlt:x+(k+1)<s.length:=by omega
  have hc:s.getD (x+(k+1)) 0=39:=No.1 (by have:(39:UInt8).toNat=39:=rfl;omega)
  have hd:=K9 (Nx hlt)
  rw [hc] at hd
  refine ⟨by omega,?_⟩
  rw [hx,g2,hd,Sf]
  simp only [beq_self_eq_true,if_true]
  cases Cv (s.drop (x+(k+1)+1)) with
  | none=>rfl
  | some m=>simp;omega
 rw [hx,g2,Sf]
 cases hd:s.drop (x+(k+1)) with
 | nil=>simp;omega
 | cons d t =>
  have hlt:x+(k+1)<s.length:=by
   have:=congrArg List.length hd
   simp at this;omega
  have hg:=K9 (Nx hlt)
  rw [hd] at hg
  injection hg with hg1 hg2
  have hne:(d==39)=false:=by
   rw [hg1,beq_eq_false_iff_ne]
   intro e
   rw [e] at h
   simp at h
   omega
  simp [hne];omega
theorem AAn (s:Str) (h0:1≤s.length) (hs:s.length≤1048576) (Hp:List AObj):AFun Tryz.prog 201 [Ah s] Hp (mr (J4 s)):=by
 refine Aq [.tmp 2,.tmp 3,.tmp 4,.tmp 5] [0] Tryz.func201 Tryz.ntmps201 (fun d=>?_)
 refine ma ?_;refine Z3 ?_;refine A2 [0,6] ?_
 refine Ff (α:=Nat) (fun x=>⟨44,Ao 0 (Ah s) (Ao 6 (A6 (x:Nat)) (fun _=>.any)),Hp,[],[],none⟩) (fun x=>1≤x∧x≤s.length∧Cv (s.drop 1)=(Cv (s.drop x)).map (·+(x-1))) (fun x=>s.length-x) (1) ⟨An _,h0,by cases Cv (s.drop 1)<;>rfl⟩ (Ov _) rfl (fun x hx=>?_)
 refine Z88 ?_
 refine A7 (h:=Q.scutL x (fun _=>hx.2.1) (fun _=>An _)) (hr:=?_)
 refine Ac Tryz.call253 (AAb (s.drop x) 39 _) ?_;refine A7 ?_;refine A2 [0,6,7] ?_;refine Z32 ?_;refine A2 [0,6,7,15] ?_
 refine A4 (fun ht15=>?_) (fun ht15=>?_)
 ·have hk:Lib.indexByte (s.drop x) 39 = -1:=by have:=Lib.indexByte_ge (s.drop x) 39;simp at ht15;omega
  have hcq:Cv (s.drop 1)=none:=by rw [hx.2.2,Sg _ hk];rfl
  refine Z17 ?_;refine Z48 ?_;refine Cp ?_;refine Xy ?_;exact A5 (Ik A3 A3 A3 A3) ⟨by simp only [J4,hcq],rfl⟩
 obtain ⟨k0,hk⟩:=Zw (show 0≤Lib.indexByte (s.drop x) 39 by simp at ht15;omega)
 rw [hk]
 refine Z9 ?_;refine Ey ?_
 have hst:=br hx.1 hx.2.2 hk
 refine Qq ?_;refine A2 [0,6] ?_;refine Z60 ?_;refine A7 ?_;refine Z12 ?_
 refine C4 (h:=Rx (x+(k0+1)) (s.getD (x+(k0+1)) 0) (fun hB=>Nx (ms hB))) (hr:=?_)
 refine Z63 ?_;refine A2 [0,6,29] ?_
 refine A4 (fun ht29=>?_) (fun ht29=>?_)
 ·have hon:=hst.2.1 ht29
  refine Z14 ?_;refine A2 [0,6] ?_;refine Z95 ?_;refine K.blE ?_;exact Ct ((x+(k0+1))+1) ⟨by omega,hon.1,hon.2⟩ (by omega) (Im rfl)
 have hcq:=hst.2.2 ht29
 refine S4 ?_
 refine A7 (h:=Ii (x+(k0+1)) (fun _=>Bk _) (fun _=>hst.1)) (hr:=?_)
 refine Ac Tryz.call252 (vg (s.take (x+(k0+1))) (by simp;omega) _) ?_
 refine Z82 ?_;refine A2 [6,8,9] ?_;refine Z32 ?_;refine A2 [6,8,40] ?_
 refine A4 (fun ht40=>?_) (fun ht40=>?_)
 ·refine Z17 ?_;refine Z48 ?_;refine Cp ?_;refine Xy ?_;exact A5 (Ik A3 A3 A3 A3) ⟨by simp only [J4,hcq,show x+k0+1=x+(k0+1) by omega];rw [if_pos ht40],rfl⟩
 refine Z9 ?_;refine Er [0,1,0,0,11,31,63] 5 Aw (by kernel_rfl) ?_;refine Wf ?_;refine Dw ?_;refine Z0 ?_;refine Z48 ?_;refine Xy ?_;exact A5 (Ik A3 A3 A3 A3) ⟨by simp only [J4,hcq,show x+k0+1=x+(k0+1) by omega];rw [if_neg (by rw [ht40];simp)];rfl,rfl⟩

def du:Str:=[60,61,32,62,61,32,33,61]
def dv:Str:=[40,41,44,59,61,60,62,43,45,42,47,37,38,58]
def Sh (s:Str):Int×Str×Int×Int:=
 if (decide ((1:Int)<s.length)&&Lib.contains du (s.take 2))&&(((s.getD 1 0).toNat:Int)==61) then (5,s.take 2,2,0)
 else if Lib.contains dv (s.take 1) then (5,s.take 1,1,0) else (0,[],0,7)
theorem j1 {s:Str} {b c:Bool} (h:(((decide ((1:Int)<s.length)&&b)&&c)==true)=true):1<s.length:=by
 revert h
 cases hd:decide ((1:Int)<s.length) with
 | true=>intro _;have:=of_decide_eq_true hd;omega
 | false=>intro h;simp at h
theorem Si {s:Str} {b:Bool} (h:((decide ((1:Int)<s.length)&&b)==true)=true):1<s.length:=j1 (c:=true) (by rw [Vl];exact h)
theorem bt {s:Str} (h:(decide ((1:Int)<s.length)==true)=true):2≤s.length:=Si (b:=true) (by rw [Vl];exact h)
theorem AAo (s:Str) (h0:1≤s.length) (Hp:List AObj):AFun Tryz.prog 202 [Ah s] Hp (mr (Sh s)):=by
 refine Aq [.tmp 2,.tmp 3,.tmp 4,.tmp 5] [0] Tryz.func202 Tryz.ntmps202 (fun d=>?_)
 refine ma ?_;refine Z60 ?_;refine C4 ?_
 refine C4 (h:=Ii 2 (fun _=>Bk _) (fun hB=>bt hB)) (hr:=?_)
 refine Co Tryz.call131 (fun hB=>ip du (s.take 2) (by decide) _) ?_;refine Y0 ?_
 refine C4 (h:=Rx 1 (s.getD 1 0) (fun hB=>Nx (Si hB))) (hr:=?_)
 refine Z63 ?_;refine A2 [0,18] ?_
 refine A4 (fun ht18=>?_) (fun ht18=>?_)
 ·have h2:2≤s.length:=by revert ht18;cases hd:decide ((1:Int)<s.length) with
   | true=>intro _;have:=of_decide_eq_true hd;omega
   | false=>intro h;simp at h
  refine Er [0,1,0,7,15,31] 3 Aw (by kernel_rfl) ?_;refine B4 ?_
  refine B4 (h:=Ii 2 (fun _=>Bk _) (fun _=>h2)) (hr:=?_)
  refine B4 ?_;refine Dw ?_;refine Z24 ?_;refine Z48 ?_;refine Cp ?_;exact A5 (Ik A3 A3 A3 A3) ⟨by simp only [Sh,ht18,if_true,if_false,Bs];try rfl,rfl⟩
 refine Wg ?_
 refine A7 (h:=Ii 1 (fun _=>Bk _) (fun _=>h0)) (hr:=?_)
 refine Ac Tryz.call131 (ip dv (s.take 1) (by decide) _) ?_;refine A2 [0,23] ?_
 refine A4 (fun ht23=>?_) (fun ht23=>?_)
 ·refine Er [0,1,0,7,15,31] 3 Aw (by kernel_rfl) ?_;refine B4 ?_
  refine B4 (h:=Ii 1 (fun _=>Bk _) (fun _=>h0)) (hr:=?_)
  refine B4 ?_;refine Dw ?_;refine Z24 ?_;refine Z48 ?_;refine Cp ?_;exact y8
 refine Z9 ?_;refine Z17 ?_;refine Z48 ?_;exact y8

def C3 (s:Str):Int×Str×Int×Int:=
 if decide (0<Nw (s.take 1) letters) then N1 s else if decide (0<Nw (s.take 1) digs) then Wq s else if ((s.getD 0 0).toNat:Int)==39 then J4 s else Sh s
theorem AAp (s:Str) (h0:1≤s.length) (hs:s.length≤1048576) (Hp:List AObj):AFun Tryz.prog 155 [Ah s] Hp (mr (C3 s)):=by
 refine Aq [.tmp 2,.tmp 3,.tmp 4,.tmp 5] [0] Tryz.func155 Tryz.ntmps155 (fun d=>?_)
 refine ma ?_;refine Wi ?_
 refine A7 (h:=Ii 1 (fun _=>Bk _) (fun _=>h0)) (hr:=?_)
 refine Ac Tryz.call81 (c81 (s.take 1) letters (by simp;omega) (by decide) Ua _) ?_
 refine Z0 ?_;refine A2 [0,6] ?_
 refine A4 (fun ht6=>?_) (fun ht6=>?_)
 ·refine Z3 ?_;refine Ac Tryz.call199 (AAl s hs _) ?_;refine Z64 ?_;refine Z64 ?_;refine Z48 ?_;refine Z5 ?_;exact A5 (Ik A3 A3 A3 A3) ⟨by simp only [C3,ht6,if_true,if_false,Bs],rfl⟩
 refine Z3 ?_
 refine A7 (h:=Ii 1 (fun _=>Bk _) (fun _=>h0)) (hr:=?_)
 refine Ac Tryz.call81 (c81 (s.take 1) digs (by simp;omega) (by decide) N0 _) ?_
 refine Z0 ?_;refine A2 [0,17] ?_
 refine A4 (fun ht17=>?_) (fun ht17=>?_)
 ·refine Z3 ?_;refine Ac Tryz.call200 (AAm s hs _) ?_;refine Z64 ?_;refine Z64 ?_;refine Z48 ?_;refine Z5 ?_;exact A5 (Ik A3 A3 A3 A3) ⟨by simp only [C3,ht6,ht17,if_true,if_false,Bs],rfl⟩
 refine Z3 ?_
 refine A7 (h:=Rx 0 (s.getD 0 0) (fun _=>Nx h0)) (hr:=?_)
 refine Z0 ?_;refine A2 [0,28] ?_
 refine A4 (fun ht28=>?_) (fun ht28=>?_)
 ·refine Z3 ?_;refine Ac Tryz.call201 (AAn s h0 hs _) ?_;refine Z64 ?_;refine Z64 ?_;refine Z48 ?_;refine Z5 ?_;exact y9
 refine Z22 ?_;refine Z3 ?_;refine Ac Tryz.call202 (AAo s h0 _) ?_;refine Z64 ?_;refine Z64 ?_;refine Z48 ?_;exact y9

structure Tok where
 kind:Int
 text:Str
 at_:Nat
 deriving DecidableEq
abbrev Iu (t:Tok):AV:=.agg [.v (.int .i64 t.kind),.v (sv t.text),.v (.int .i64 (t.at_:Int))]
abbrev mt (l:List Tok):AV:=.slice false 3 (l.map Iu)
theorem dw {c:UInt8} {of:Str} (h:decide (0<Nw ([c]:Str) of)=true):of.contains c=true:=by
 have:=of_decide_eq_true h
 unfold Nw Lib.trimLeftS at this
 rw [On] at this
 cases hc:of.contains c with
 | true=>rfl
 | false=>rw [hc] at this;simp at this
theorem Sj {c:UInt8} {r of:Str} (h:of.contains c=true):1≤(D3 (c::r) of).length:=by
 unfold D3
 rw [mq,List.takeWhile_cons,h]
 simp
theorem Ub:∀c:UInt8,letters.contains c=true→tails.contains c=true:=by
 have h:((List.range 256).all fun n => !letters.contains (UInt8.ofNat n) || tails.contains (UInt8.ofNat n))=true:=by kernel_rfl
 intro c hc
 have:=B2.1 h c.toNat (Jy.2 c.toNat_lt)
 rw [show UInt8.ofNat c.toNat=c by simp,hc] at this
 simpa using this
theorem Sk:∀(l:Str) (n:Nat),Cv l=some n→1≤n∧n≤l.length
 | [],n,h=>by cases h
 | [c],n,h=>by
  rw [Cv] at h
  split at h
  ·injection h with h;subst h;simp
  cases h
 | c::d::t,n,h=>by
  rw [Cv] at h
  split at h
  ·split at h
   ·rw [Dp] at h
    obtain ⟨m,hm,rfl⟩:=h
    have:=Sk t m hm
    simp only [Ay];omega
   injection h with h;subst h;simp
  rw [Dp] at h
  obtain ⟨m,hm,rfl⟩:=h
  have:=Sk (d::t) m hm
  simp only [Ay] at this ⊢;omega
theorem dx {s:Str} (h0:1≤s.length) (h:(C3 s).2.2.2=0):∃n:Nat,(C3 s).2.2.1=(n:Int)∧1≤n∧n≤s.length:=by
 cases s with
 | nil=>simp at h0
 | cons c r =>
  unfold C3 at h ⊢
  split at h
  ·rename_i h1
   rw [if_pos h1]
   have hc:=Ub c (dw h1)
   have hw:=Sj (r:=r) hc
   have hl:=H6 (c::r) tails
   unfold N1 at h ⊢
   split at h
   ·rename_i h2;rw [if_pos h2];exact ⟨_,rfl,hw,hl⟩
   rename_i h2
   rw [if_neg h2]
   split at h
   ·exact mc
   rename_i h3;rw [if_neg h3];exact ⟨_,rfl,hw,hl⟩
  rename_i h1
  rw [if_neg h1]
  split at h
  ·rename_i h2
   rw [if_pos h2]
   exact ⟨_,rfl,Sj (r:=r) (dw h2),H6 _ _⟩
  rename_i h2
  rw [if_neg h2]
  split at h
  ·rename_i h3
   rw [if_pos h3]
   unfold J4 at h ⊢
   split at h
   ·exact mc
   rename_i n hn
   split at h
   ·exact mc
   rename_i h4
   simp only [if_neg h4]
   have:=Sk _ n hn
   simp at this
   exact ⟨n+1,rfl,by omega,by simp only [Ay];omega⟩
  rename_i h3
  rw [if_neg h3]
  unfold Sh at h ⊢
  split at h
  ·rename_i h4
   rw [if_pos h4]
   refine ⟨2,rfl,by omega,?_⟩
   simp only [Ak,decide_eq_true_eq] at h4
   have:=h4.1.1
   omega
  rename_i h4
  rw [if_neg h4]
  split at h
  ·rename_i h5;rw [if_pos h5];exact ⟨1,rfl,by omega,h0⟩
  exact mc
/-- The words from a place on, up to one that is wrong. -/
def H7:Nat→Nat→Str→List (Tok×Int)
 | 0,_,_=>[]
 | f+1,k,s=>if s==[] then [] else
  (⟨(C3 s).1,(C3 s).2.1,k⟩,(C3 s).2.2.2)::(if (C3 s).2.2.2==0 then H7 f (k+(C3 s).2.2.1.toNat+gapM (s.drop (C3 s).2.2.1.toNat)) ((s.drop (C3 s).2.2.1.toNat).drop (gapM (s.drop (C3 s).2.2.1.toNat))) else [])
def C0 (s:Str):List (Tok×Int):=H7 (s.length+1) (gapM s) (s.drop (gapM s))
theorem bu (s:Str):gapM s≤s.length:=Nat.sub_le _ _
end Go.SX.Nb
namespace Go.SX
variable [GI:GlobInv]
open Classical
section
variable {P:Program} {d:Nat} {st:St} {dst:Option Tmp} {ty:TypeId} {pos:String} {aft:Array Edge} {gd:Option (Nat×Bool)}
end
section
variable {P:Program} {d:Nat} {ops:Array Oper}
variable {sz:Nat} {fr:Nat→AV} {up own own':List AObj} {dfs:List Nat} {rnd:Option Nat} {Q:St→Prop} {rest:List Oper} {s:Nat} {ty:TypeId} {pos:String} {aft:Array Edge}
end
end Go.SX
namespace Go.SX
variable [GI:GlobInv]
open Classical
variable {P:Program} {d:Nat} {l0:List Oper} {kd:Nat} {ops:Array Oper} {rest:List Oper} {sz:Nat} {fr:Nat→AV} {up own:List AObj} {dfs:List Nat} {rnd:Option Nat} {Q:St→Prop} {s:Nat} {ty:TypeId} {pos:String} {aft:Array Edge} {E:List Oper→(Nat→AV)→Prop}
/-! A slice without room behind its end: whoever appends to it gets a new one. -/
theorem bv (k:Nat) (xs:List AV):(AV.full k xs).strip=.full k xs:=rfl
theorem bw (k:Nat) (xs:List AV):(AV.full k xs).cells=[.full k xs]:=rfl
theorem mu (k:Nat) (xs:List AV):(AV.full k xs).one=true:=rfl
attribute [go_sem] bv bw mu
section
variable {KP:List PanicEntry→St→Prop} {up own:(Nat→Bool)→List AObj} {S:List SegY} {l:List Oper} {T F:List Nat}
/-- The p-th of those that turn the heap: a store into an object of whoever waits. -/
theorem Y.storeUp {t t':TypeId} {p x:Operand} {o off k pn:Nat} {y:AV} {ys cs cs':List AV} (hsz:∀w,(Go.sizeOf t).run P w=.ok k w)
  (hU:∀B:Nat→Bool,B pn=false→(up B)[o]? = some (.cells t' cs)∧up (upd B pn)=(up B).set o (.cells t' cs')∧own (upd B pn)=own B∧∀y∈ys,Low (up B).length y)
  (h:ChainY P d l0 sz up own dfs rnd KP E S l fr)
  (hp:Be fr p=.ptr o off:=by exact sL0) (hx:Be fr x=y:=by exact sL0) (hc:y.cells=ys:=by exact sL0) (hk:ys.length=k:=by rfl)
  (h1:ys.all AV.one=true:=by exact sL2) (hfit:off+k≤cs.length:=by exact sL1) (hput:Bz cs off ys=cs':=by exact sL0):
  ChainY P d l0 sz up own dfs rnd KP E (.s [] (some pn) T F::S) (⟨none,.store t p x,ty,pos,aft,none⟩::l) fr:=by
 subst hput
 subst hc
 refine ⟨_,l,[],rfl,⟨rfl,rfl,fun B f _ _ hB hf=>.of ?_⟩,h⟩
 obtain ⟨a1,a2,a3,a4⟩:=hU B (hB pn rfl)
 have e:Be f p=.ptr o off:=by rw [agr hf (by simp [Op.operands])];exact hp
 have ex:Be f x=y:=by rw [agr hf (by simp [Op.operands])];exact hx
 refine AOp.eqTo (AOp.storeUp (st:=⟨sz,f,up B,own B,dfs,rnd⟩) hsz e a1 ex hk h1 hfit a4) ?_
 show _=St.mk sz f (up (upd B pn)) (own (upd B pn)) dfs rnd
 rw [a2,a3]
end
end Go.SX
