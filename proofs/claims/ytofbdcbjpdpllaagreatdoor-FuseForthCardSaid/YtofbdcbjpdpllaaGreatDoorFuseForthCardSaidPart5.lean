/- On the way (part 5). -/
import Derived.Below
import Derived.Test.YtofbdcbjpdpllaaGreatDoorProg
import Derived.KernelRfl
import Derived.Shelf.Strconv.Itoa4
import Derived.Shelf.Strings.SplitShaped
import Derived.Shelf.Strings.SlTrimAscii
import Derived.Shelf.Strings.OnBuilder
import Derived.Shelf.Strings.Replace
import Derived.Shelf.Small.Strs
import Derived.Shelf.Strings.Prefix
import Derived.Shelf.Strconv.ErrVarParseInt
import Derived.Shelf.Bits.Mul64
import Derived.Shelf.Strings.Builder1
import Derived.Shelf.Strings.Cut
import Derived.Lib.SplitLaws
import Derived.LaidEql
import Derived.Stop.Asserts
import Derived.RowKitTokens
import Derived.WalkKit
import Derived.Lib.AtoiErrMem
import Derived.Lib.Strings
import Derived.BigCall
import Derived.Lib.ParseIntB
import Derived.Test.YtofbdcbjpdpllaaGreatDoorFuseForthCardSaidPart4
set_option linter.all false
namespace Go.SX
variable [GI:GlobInv]
open Classical Go.RowKit
section
variable {P:Program} {g:FuncId} {Hp:List AObj}

/-- What is known of package-level variables, of a world alone. -/
def Mb (w:World):Prop:=∀x∈GI.blocks,∃o,w.heap[x.1]? = some o∧x.2 o

theorem gq {G:Gh} {w:World} {xs:List Value} {vs:Array Value} (hn:vs.size=(xs.map AV.v).length) (h:∀(i:Nat) (y:AV) (u:Value),(xs.map AV.v)[i]? = some y→vs[i]? = some u→∃l,Rep G w l y u):vs=xs.toArray:=by
 apply AA7
 ·simpa using hn
 intro i h1 h2
 have hi:i<xs.length:=by simpa using h2
 obtain ⟨l,hr⟩:=h i (.v xs[i]) vs[i] (by simp [hi]) (F9 h1)
 have:=P6 hr
 simpa using this

theorem I5 {G:Gh} {w w':World} (hT:TagOK G w) (hb:Below w.heap.size w w') {b o:Nat} (h:G.tag b o≠.free):w'.cell? ⟨b,o,none⟩=w.cell? ⟨b,o,none⟩∧w'.frozen? ⟨b,o,none⟩=w.frozen? ⟨b,o,none⟩:=by
 obtain ⟨u,hu⟩:=hT.ex b o h
 have hlt:b<w.heap.size:=World.block_lt_of_cell? _ _ hu
 have:=hb.block b hlt
 exact ⟨Fm this,Eh this⟩

theorem Xn {G:Gh} {w w':World} (hT:TagOK G w) (hb:Below w.heap.size w w'):Turn G w G w':=
 ⟨fun b o h=>⟨h,(I5 hT hb (by rw [h];simp)).1⟩,fun _ _ _ h=>h,fun _ _ _ h=>h,Ak _,fun _ _=>rfl,hb.os,hb.tape,hb.output,hb.size,M3 (fun b hv=>hb.block b hv.1) hb.size (fun _ _ _=>.inl rfl) (fun _ hi=>.inl ⟨hi,rfl⟩)⟩

theorem pc {G:Gh} {H:List AObj} {w w':World} (hH:HeapRel G H w) (hT:TagOK G w) (hb:Below w.heap.size w w'):HeapRel G H w'∧TagOK G w':=by
 have T:=Xn hT hb
 refine ⟨⟨fun i x hx=>?_,hH.n,hH.inj⟩,⟨fun b o h=>?_,fun b o i h=>?_,fun b o L h=>?_,hT.globKeep T.old⟩⟩
 ·have hi:i<G.n:=by rw [hH.n];exact (Ad.1 hx).1
  exact T.objRel hi (hb.block _ (Pc hH i hi)) (hH.obj i x hx) (fun b h=>hb.block b h.lt)
 ·rw [(I5 hT hb h).1];exact hT.ex b o h
 ·rw [(I5 hT hb (by rw [h];simp)).2];exact hT.obj b o i h
 rw [(I5 hT hb (by rw [h];simp)).2];exact hT.tail b o L h

/-- A function of plain values that hands back a plain value. -/
theorem AFun.lib {xs:List Value} {r:AV} {v:Value} (hr:∀G w,Rep G w none r v) (h:∀w,Mb w→Calls P g xs.toArray w (fun e w'=>e=.returned v∧Below w.heap.size w w')):AFun P g (xs.map .v) Hp r:=by
 intro d G w vs hn hv hH hT hTop
 have hvs:=gq hn (fun i y u a b=>⟨_,hv i y u a b⟩)
 subst hvs
 refine (callsIn_wide.2 (h w (fun x hx=>let ⟨_,u,a,b⟩:=hT.glob x hx;⟨u,a,b⟩))).mono ?_
 rintro e w' ⟨rfl,hb⟩
 obtain ⟨h1,h2⟩:=pc hH hT hb
 exact ⟨v,G,r,Hp,rfl,(hr G w').lift,h1,h2,(Xn hT hb).keep _,rfl,rfl,rfl⟩


/-- A function of plain values that hands back a new slice of plain values. -/
theorem AFun.libSlice {xs ys:List Value} {t:TypeId} (hone:∀y∈ys,y.oneCell'=true) (h:∀w,Mb w→Calls P g xs.toArray w (fun e w'=>e=.returned (.slice (some ⟨w.heap.size,0,none⟩) ys.length ys.length)∧w'=w.alloc (.cells ys.toArray t))):
  AFun P g (xs.map .v) Hp (.slice false 1 (ys.map .v)):=by
 intro d G w vs hn hv hH hT hTop
 have hvs:=gq hn (fun i y u a b=>⟨_,hv i y u a b⟩)
 subst hvs
 refine (callsIn_wide.2 (h w (fun x hx=>let ⟨_,u,a,b⟩:=hT.glob x hx;⟨u,a,b⟩))).mono ?_
 rintro e w' ⟨rfl,rfl⟩
 have hst:StRel (d+1) G ⟨0,fun _=>.any,Hp,[],[],none⟩ { tmps:=#[],defers:=[] } w:=
  ⟨rfl,fun s=>.any _ _,by simpa using hH,(by rw [Hd hTop];rfl),(fun o ho=>by simp at ho),Mt,(fun o ho=>by simp at ho),hT,(fun l hl=>by cases hl),X5 hH,O1 hTop⟩
 obtain ⟨G',g1,T,g2⟩:=Tw hst t ys.toArray
 refine ⟨_,G',_,Hp,rfl,?_,by simpa using g1.heap,g1.tags,T.keep _,rfl,rfl,rfl⟩
 refine .slice _ false 1 _ _ _ _ (fun i j=>ys.toArray.getD i undef) rfl (by simp) (Ak _) (fun x hx=>?_) (fun x hx y hy=>?_) (fun i x j y hx hy=>?_) (fun i x j y hx hy=>?_) (fun h=>by cases h)
 ·obtain ⟨z,_,rfl⟩:=Cr.1 hx
  rfl
 ·obtain ⟨z,hz,rfl⟩:=Cr.1 hx
  have:y=.v z:=by simpa [AV.cells] using hy
  subst this
  exact hone z hz
 all_goals
  rw [Cf,F6] at hx
  obtain ⟨z,hz,rfl⟩:=hx
  have hlt:i<ys.length:=(Ad.1 hz).1
  have hj:j=0:=by
   match j,hy with
   | 0,_=>rfl
   | j+1,hy=>simp [AV.cells] at hy
  subst hj
 ·refine ⟨by simpa using g2 i (by simpa using hlt),?_⟩
  rw [World.cell?_alloc_new]
  simp [hlt]
 have:y=.v z:=by simpa [AV.cells] using hy.symm
 subst this
 have e:ys.toArray.getD i undef=z:=by
  have:=Ab hlt
  rw [this] at hz
  injection hz with hz
  simp [hlt,hz]
 rw [e]
 exact .v _ _
/-- A function that hands back a plain value and, behind an interface value, a new record of plain values. -/
theorem AFun.libErr {xs cs:List Value} {n:Value} {T te:TypeId} (hone:∀y∈cs,y.oneCell'=true) (h:∀w,Mb w→Calls P g xs.toArray w (fun e w'=>∃N,e=.returned (.tuple #[n,.iface T (.pointer (some ⟨N,0,none⟩))])∧w.heap.size≤N∧w'.heap[N]? = some (.cells cs.toArray te (0,0))∧Below w.heap.size w w')):
  AFun P g (xs.map .v) Hp (.tup [.v n,.iface T (.ro (cs.map .v))]):=by
 intro d G w vs hn hv hH hT hTop
 have hvs:=gq hn (fun i y u a b=>⟨_,hv i y u a b⟩)
 subst hvs
 refine (callsIn_wide.2 (h w (fun x hx=>let ⟨_,u,a,b⟩:=hT.glob x hx;⟨u,a,b⟩))).mono ?_
 rintro e w' ⟨N,rfl,hN,hcell,hb⟩
 have hfree:∀o,G.tag N o=.free:=fun o=>Ge hT _ o hN
 let G':Gh:={ G with tag:=fun b o=>if b=N∧o<cs.length then .fix else G.tag b o }
 have hne:∀b o,G.tag b o≠.free→¬(b=N∧o<cs.length):=fun b o hb hc=>by rw [hc.1] at hb;exact hb (hfree o)
 have hnew:∀o,o<cs.length→w'.cell? ⟨N,o,none⟩=cs[o]? := fun o ho=>by simp [World.cell?,hcell,ho]
 have T1:Turn G w G' w':=by
  refine ⟨fun b o h=>⟨?_,(I5 hT hb (by rw [h];simp)).1⟩,fun b o L h=>?_,fun b o i h=>?_,Ak _,fun _ _=>rfl,hb.os,hb.tape,hb.output,hb.size,
   M3 (fun b hv=>hb.block b hv.1) hb.size (fun b o hlt=>.inl ?_) (fun _ hi=>.inl ⟨hi,rfl⟩)⟩
  ·simp only [G'];rw [if_neg (hne b o (by rw [h];simp))];exact h
  ·simp only [G'];rw [if_neg (hne b o (by rw [h];simp))];exact h
  ·simp only [G'];rw [if_neg (hne b o (by rw [h];simp))];exact h
  simp only [G'];rw [if_neg (by omega)]
 have hH':HeapRel G' Hp w':=⟨fun i x hx=>by
  have hi:i<G.n:=by rw [hH.n];exact (Ad.1 hx).1
  exact T1.objRel hi (hb.block _ (Pc hH i hi)) (hH.obj i x hx) (fun b h=>hb.block b h.lt),hH.n,hH.inj⟩
 have hT':TagOK G' w':=by
  refine ⟨fun b o h=>?_,fun b o i h=>?_,fun b o L h=>?_,hT.globKeep T1.old⟩
  ·simp only [G'] at h
   split at h
   ·rename_i hc;obtain ⟨rfl,ho⟩:=hc;exact ⟨_,(hnew o ho).trans (Ab ho)⟩
   rw [(I5 hT hb h).1];exact hT.ex b o h
  ·simp only [G'] at h
   split at h
   ·cases h
   rw [(I5 hT hb (by rw [h];simp)).2];exact hT.obj b o i h
  simp only [G'] at h
  split at h
  ·cases h
  rw [(I5 hT hb (by rw [h];simp)).2];exact hT.tail b o L h
 refine ⟨_,G',_,Hp,rfl,?_,hH',hT',T1.keep _,rfl,rfl,rfl⟩
 refine .tup _ _ _ rfl (fun i y u hy hu=>?_)
 match i with
 | 0=>simp at hy hu;subst hy;subst hu;exact .v _ _
 | 1 =>
  simp at hy hu;subst hy;subst hu
  refine .iface _ _ _ _ (.ro _ _ ⟨N,0,none⟩ (fun j=>cs.getD j undef) rfl (fun y hy=>?_) (fun j y hy=>?_) (fun j y hy=>?_))
  ·obtain ⟨z,hz,rfl⟩:=Cr.1 hy
   exact hone z hz
  all_goals
   rw [Cf,F6] at hy
   obtain ⟨z,hz,rfl⟩:=hy
   have hlt:j<cs.length:=(Ad.1 hz).1
   have e:cs.getD j undef=z:=by rw [C9,hz];rfl
  ·refine ⟨by simp [G',hlt],?_⟩
   rw [C0,hnew j hlt,hz,e]
  rw [e];exact .v _ _
 | i+2=>simp at hy
theorem TagOK.globIn {G:Gh} {w:World} (h:TagOK G w):Mb w:=fun x hx=>(h.glob x hx).2
/-- A package-level variable of which something is known. -/
theorem R.loadGlob {d:Nat} {ops:Array Oper} {rest:List Oper} {sz:Nat} {fr:Nat→AV} {up own:List AObj} {dfs:List Nat} {rnd:Option Nat} {Q:St→Prop} {s:Nat} {ty:TypeId} {pos:String} {aft:Array Edge} {t:TypeId} {gl:Nat} {v:Value}
  (hagg:∀w,(isAgg t).run P w=.ok false w) (hv:∀w,Mb w→w.cell? ⟨gl,0,none⟩=some v) (hr:ARun P d ops rest ⟨sz,A7 s (.v v) fr,up,own,dfs,rnd⟩ Q) (hs:Nat.blt s sz=true:=by rfl):
  ARun P d ops (⟨some s,.load t (.global gl),ty,pos,aft,none⟩::rest) ⟨sz,fr,up,own,dfs,rnd⟩ Q:=by
 refine ARun.v rfl rfl (by simpa using hs) (Cx (by intro c h;cases h) fun G a w h=>⟨v,?_,.v _ _⟩) hr
 have hc:=hv w h.tags.globIn
 have e:a.eval (.global gl)=.pointer (some ⟨gl,0,none⟩):=rfl
 simp [execOp,e,Instr.loadAt,Instr.sureAddr,loadVar,hagg,hc]
end
end Go.SX
namespace Go.SX
def Mz:=@AFun.lib
end Go.SX
namespace Go.SX.Nb
open Go Go.SX Go.Proofs
set_option maxRecDepth 4000

/-- Where strconv.ErrRange points. -/
class ErrAt where
 b:Addr
 bd:Nat:=0
 bl:List Deferred:=[]
/-- The package-level variables of which something is known: bytealg.MaxLen is a number; strconv.ErrRange is an error of errors.New's make; the table of powers of ten. -/
def bn [E:ErrAt]:List (Nat×(Obj→Prop)):=[(0,fun o=>∃m t f,o=.cells #[.int .i64 m] t f),(1,fun o=>∃t f,o=.cells #[.iface 347 (.pointer (some E.b))] t f),(4,fun o=>∃t f,o=.cells (Lib.pow10Tab.map fun z=>Value.int .u64 z).toArray t f)]
instance globInv [E:ErrAt]:GlobInv:={ blocks:=bn,bd:=E.bd,bl:=E.bl }
variable [ErrAt]

abbrev Str:=List UInt8
structure Col where
 name:Str
 kind:Int
 deriving DecidableEq
structure Val where
 kind:Int
 n:Int
 s:Str
 deriving DecidableEq
structure Row where
 key:Int
 l:List Val
 deriving DecidableEq
abbrev Ae (s:Str):AV:=.v (sv s)
abbrev A5 (n:Int):AV:=.v (.int .i64 n)
abbrev ABt (n:Int):AV:=.v (.int .u64 n)
abbrev Bk (b:Bool):AV:=.v (.bool b)
abbrev Bq (c:Col):AV:=.agg [.v (sv c.name),.v (.int .i64 c.kind)]
abbrev Am (c:List Col):AV:=.slice false 2 (c.map Bq)
abbrev C3 (v:Val):AV:=.agg [.v (.int .i64 v.kind),.v (.int .i64 v.n),.v (sv v.s)]
abbrev Cv (l:List Val):AV:=.slice false 3 (l.map C3)
abbrev Gq (l:List Str):AV:=.slice false 1 (l.map Ae)
theorem Ax {α β:Type} {f:α→β} {l:List α} {i:Nat} (h:i<l.length):(l.map f)[i]? = some (f l[i]):=by simp [h]
theorem An:Tryz.prog.follows .mixedOrders=true:=by kernel_rfl
theorem Xo:Tryz.prog.eqGuardType Tryz.prog.depth 23=false:=by kernel_rfl
theorem Jl (k n k' n':Int) (s s':List UInt8) (w:World):(Op.equal 23 (.agg #[.int .i64 k,.int .i64 n,.string ⟨s.toArray⟩]) (.agg #[.int .i64 k',.int .i64 n',.string ⟨s'.toArray⟩])).run Tryz.prog w=.ok (k==k'&&n==n'&&s==s') w:=by
 have h1:Tryz.prog.stoodInHeld 23=false:=by kernel_rfl
 show (Op.equalIn (9999+1) _ _ _).run _ _=_
 rw [Op.equalIn]
 generalize hd:(9999:Nat)=d
 obtain ⟨d,rfl⟩:∃e,d=e+1:=⟨9998,hd.symm⟩
 clear hd
 simp [run_underlying Tryz.underlying23,h1,part,AIg _ _ _ _ _ _ Tryz.underlying3,AIg _ _ _ _ _ _ Tryz.underlying2,AL0 _ _ _ _ _ Tryz.underlying9,Tryz.isAgg3,Tryz.isAgg2,Tryz.isAgg9]
 by_cases e1:k=k'<;>by_cases e2:n=n'<;>by_cases e3:s=s'<;>simp [e1,e2,e3]
end Go.SX.Nb
namespace Go.Proofs
open Go Go.Shelf
def Tryz.ren144:Ren where
 f:=fun x=>match x with|144=>131|143=>168|219=>215|217=>263|225=>264|224=>265|267=>266|266=>298|314=>299|n=>n
 t:=fun x=>match x with|9=>9|4=>4|3=>3|5=>5|46=>34|146=>302|51=>301|n=>n
 g:=fun x=>match x with|1=>0|n=>n
theorem Tryz.lays144:Lays.n144 Tryz.prog Tryz.ren144 where
 mixed:=by kernel_rfl
 f143:=Tryz.func168
 f144:=Tryz.func131
 f217:=Tryz.func263
 f219:=Tryz.func215
 f224:=Tryz.func265
 f225:=Tryz.func264
 f266:=Tryz.func298
 f267:=Tryz.func266
 f314:=Tryz.func299
 t3:=Tryz.underlying3
 a3:=Tryz.isAgg3
 z3:=Tryz.sizeOf3
 v3:=Tryz.zeroValue3
 t4:=Tryz.underlying4
 a4:=Tryz.isAgg4
 z4:=Tryz.sizeOf4
 v4:=Tryz.zeroValue4
 t5:=Tryz.underlying5
 a5:=Tryz.isAgg5
 z5:=Tryz.sizeOf5
 v5:=Tryz.zeroValue5
 t9:=Tryz.underlying9
 a9:=Tryz.isAgg9
 z9:=Tryz.sizeOf9
 v9:=Tryz.zeroValue9
 t46:=Tryz.underlying34
 a46:=Tryz.isAgg34
 z46:=Tryz.sizeOf34
 v46:=Tryz.zeroValue34
 t51:=Tryz.underlying301
 a51:=Tryz.isAgg301
 z51:=Tryz.sizeOf301
 v51:=Tryz.zeroValue301
 t146:=Tryz.underlying302
 a146:=Tryz.isAgg302
 z146:=Tryz.sizeOf302
 v146:=Tryz.zeroValue302
 g1:=by kernel_rfl
def Tryz.ren145:Ren where
 f:=fun x=>match x with|145=>163|220=>211|219=>215|217=>263|225=>264|224=>265|267=>266|266=>298|314=>299|n=>n
 t:=fun x=>match x with|9=>9|4=>4|59=>208|3=>3|5=>5|46=>34|146=>302|51=>301|n=>n
 g:=fun x=>match x with|1=>0|n=>n
theorem Tryz.lays145:Lays.n145 Tryz.prog Tryz.ren145 where
 mixed:=by kernel_rfl
 f145:=Tryz.func163
 f217:=Tryz.func263
 f219:=Tryz.func215
 f220:=Tryz.func211
 f224:=Tryz.func265
 f225:=Tryz.func264
 f266:=Tryz.func298
 f267:=Tryz.func266
 f314:=Tryz.func299
 t3:=Tryz.underlying3
 a3:=Tryz.isAgg3
 z3:=Tryz.sizeOf3
 v3:=Tryz.zeroValue3
 t4:=Tryz.underlying4
 a4:=Tryz.isAgg4
 z4:=Tryz.sizeOf4
 v4:=Tryz.zeroValue4
 t5:=Tryz.underlying5
 a5:=Tryz.isAgg5
 z5:=Tryz.sizeOf5
 v5:=Tryz.zeroValue5
 t9:=Tryz.underlying9
 a9:=Tryz.isAgg9
 z9:=Tryz.sizeOf9
 v9:=Tryz.zeroValue9
 t46:=Tryz.underlying34
 a46:=Tryz.isAgg34
 z46:=Tryz.sizeOf34
 v46:=Tryz.zeroValue34
 t51:=Tryz.underlying301
 a51:=Tryz.isAgg301
 z51:=Tryz.sizeOf301
 v51:=Tryz.zeroValue301
 t59:=Tryz.underlying208
 a59:=Tryz.isAgg208
 z59:=Tryz.sizeOf208
 v59:=Tryz.zeroValue208
 t146:=Tryz.underlying302
 a146:=Tryz.isAgg302
 z146:=Tryz.sizeOf302
 v146:=Tryz.zeroValue302
 g1:=by kernel_rfl
def Tryz.ren146:Ren where
 f:=fun x=>match x with|146=>122|221=>162|268=>209|138=>210|143=>168|195=>259|197=>213|218=>260|219=>215|260=>261|217=>263|225=>264|224=>265|267=>266|266=>298|314=>299|n=>n
 t:=fun x=>match x with|9=>9|31=>45|3=>3|4=>4|0=>0|105=>247|21=>21|5=>5|46=>34|119=>296|139=>299|138=>298|146=>302|51=>301|n=>n
 g:=fun x=>match x with|1=>0|3=>2|4=>3|n=>n
theorem Tryz.lays146:Lays.n146 Tryz.prog Tryz.ren146 where
 mixed:=by kernel_rfl
 f138:=Tryz.func210
 f143:=Tryz.func168
 f146:=Tryz.func122
 f195:=Tryz.func259
 f197:=Tryz.func213
 f217:=Tryz.func263
 f218:=Tryz.func260
 f219:=Tryz.func215
 f221:=Tryz.func162
 f224:=Tryz.func265
 f225:=Tryz.func264
 f260:=Tryz.func261
 f266:=Tryz.func298
 f267:=Tryz.func266
 f268:=Tryz.func209
 f314:=Tryz.func299
 t0:=Tryz.underlying0
 a0:=Tryz.isAgg0
 z0:=Tryz.sizeOf0
 v0:=Tryz.zeroValue0
 t3:=Tryz.underlying3
 a3:=Tryz.isAgg3
 z3:=Tryz.sizeOf3
 v3:=Tryz.zeroValue3
 t4:=Tryz.underlying4
 a4:=Tryz.isAgg4
 z4:=Tryz.sizeOf4
 v4:=Tryz.zeroValue4
 t5:=Tryz.underlying5
 a5:=Tryz.isAgg5
 z5:=Tryz.sizeOf5
 v5:=Tryz.zeroValue5
 t9:=Tryz.underlying9
 a9:=Tryz.isAgg9
 z9:=Tryz.sizeOf9
 v9:=Tryz.zeroValue9
 t21:=Tryz.underlying21
 a21:=Tryz.isAgg21
 z21:=Tryz.sizeOf21
 v21:=Tryz.zeroValue21
 t31:=Tryz.underlying45
 a31:=Tryz.isAgg45
 z31:=Tryz.sizeOf45
 v31:=Tryz.zeroValue45
 t46:=Tryz.underlying34
 a46:=Tryz.isAgg34
 z46:=Tryz.sizeOf34
 v46:=Tryz.zeroValue34
 t51:=Tryz.underlying301
 a51:=Tryz.isAgg301
 z51:=Tryz.sizeOf301
 v51:=Tryz.zeroValue301
 t105:=Tryz.underlying247
 a105:=Tryz.isAgg247
 z105:=Tryz.sizeOf247
 v105:=Tryz.zeroValue247
 t119:=Tryz.underlying296
 a119:=Tryz.isAgg296
 z119:=Tryz.sizeOf296
 t138:=Tryz.underlying298
 a138:=Tryz.isAgg298
 z138:=Tryz.sizeOf298
 v138:=Tryz.zeroValue298
 t139:=Tryz.underlying299
 a139:=Tryz.isAgg299
 z139:=Tryz.sizeOf299
 v139:=Tryz.zeroValue299
 t146:=Tryz.underlying302
 a146:=Tryz.isAgg302
 z146:=Tryz.sizeOf302
 v146:=Tryz.zeroValue302
 g1:=by kernel_rfl
 g3:=by kernel_rfl
 g4:=by kernel_rfl
def Tryz.ren161:Ren where
 f:=fun x=>match x with|161=>130|231=>164|227=>165|233=>166|235=>167|228=>212|197=>213|151=>214|260=>261|152=>262|137=>253|119=>297|224=>265|225=>264|217=>263|266=>298|n=>n
 t:=fun x=>match x with|9=>9|4=>4|3=>3|5=>5|117=>213|116=>212|0=>0|124=>216|105=>247|21=>21|119=>296|46=>34|139=>299|138=>298|n=>n
 g:=fun x=>match x with|3=>2|4=>3|n=>n
theorem Tryz.lays161:Lays.n161 Tryz.prog Tryz.ren161 where
 mixed:=by kernel_rfl
 f119:=Tryz.func297
 f137:=Tryz.func253
 f151:=Tryz.func214
 f152:=Tryz.func262
 f161:=Tryz.func130
 f197:=Tryz.func213
 f217:=Tryz.func263
 f224:=Tryz.func265
 f225:=Tryz.func264
 f227:=Tryz.func165
 f228:=Tryz.func212
 f231:=Tryz.func164
 f233:=Tryz.func166
 f235:=Tryz.func167
 f260:=Tryz.func261
 f266:=Tryz.func298
 t0:=Tryz.underlying0
 a0:=Tryz.isAgg0
 z0:=Tryz.sizeOf0
 v0:=Tryz.zeroValue0
 t3:=Tryz.underlying3
 a3:=Tryz.isAgg3
 z3:=Tryz.sizeOf3
 v3:=Tryz.zeroValue3
 t4:=Tryz.underlying4
 a4:=Tryz.isAgg4
 z4:=Tryz.sizeOf4
 v4:=Tryz.zeroValue4
 t5:=Tryz.underlying5
 a5:=Tryz.isAgg5
 z5:=Tryz.sizeOf5
 v5:=Tryz.zeroValue5
 t9:=Tryz.underlying9
 a9:=Tryz.isAgg9
 z9:=Tryz.sizeOf9
 v9:=Tryz.zeroValue9
 t21:=Tryz.underlying21
 a21:=Tryz.isAgg21
 z21:=Tryz.sizeOf21
 v21:=Tryz.zeroValue21
 t46:=Tryz.underlying34
 a46:=Tryz.isAgg34
 z46:=Tryz.sizeOf34
 v46:=Tryz.zeroValue34
 t105:=Tryz.underlying247
 a105:=Tryz.isAgg247
 z105:=Tryz.sizeOf247
 v105:=Tryz.zeroValue247
 t116:=Tryz.underlying212
 a116:=Tryz.isAgg212
 z116:=Tryz.sizeOf212
 t117:=Tryz.underlying213
 a117:=Tryz.isAgg213
 z117:=Tryz.sizeOf213
 v117:=Tryz.zeroValue213
 t119:=Tryz.underlying296
 a119:=Tryz.isAgg296
 z119:=Tryz.sizeOf296
 t124:=Tryz.underlying216
 a124:=Tryz.isAgg216
 z124:=Tryz.sizeOf216
 v124:=Tryz.zeroValue216
 t138:=Tryz.underlying298
 a138:=Tryz.isAgg298
 z138:=Tryz.sizeOf298
 v138:=Tryz.zeroValue298
 t139:=Tryz.underlying299
 a139:=Tryz.isAgg299
 z139:=Tryz.sizeOf299
 v139:=Tryz.zeroValue299
 g3:=by kernel_rfl
 g4:=by kernel_rfl
def Tryz.ren99:Ren where
 f:=fun x=>match x with|99=>288|206=>315|n=>n
 t:=fun x=>match x with|9=>9|4=>4|3=>3|n=>n
 g:=fun x=>x
theorem Tryz.lays99:Lays.n99 Tryz.prog Tryz.ren99 where
 mixed:=by kernel_rfl
 f99:=Tryz.func288
 f206:=Tryz.func315
 t3:=Tryz.underlying3
 a3:=Tryz.isAgg3
 z3:=Tryz.sizeOf3
 v3:=Tryz.zeroValue3
 t4:=Tryz.underlying4
 a4:=Tryz.isAgg4
 z4:=Tryz.sizeOf4
 v4:=Tryz.zeroValue4
 t9:=Tryz.underlying9
 a9:=Tryz.isAgg9
 z9:=Tryz.sizeOf9
 v9:=Tryz.zeroValue9
def Tryz.ren100:Ren where
 f:=fun x=>match x with|100=>289|207=>316|n=>n
 t:=fun x=>match x with|9=>9|4=>4|3=>3|n=>n
 g:=fun x=>x
theorem Tryz.lays100:Lays.n100 Tryz.prog Tryz.ren100 where
 mixed:=by kernel_rfl
 f100:=Tryz.func289
 f207:=Tryz.func316
 t3:=Tryz.underlying3
 a3:=Tryz.isAgg3
 z3:=Tryz.sizeOf3
 v3:=Tryz.zeroValue3
 t4:=Tryz.underlying4
 a4:=Tryz.isAgg4
 z4:=Tryz.sizeOf4
 v4:=Tryz.zeroValue4
 t9:=Tryz.underlying9
 a9:=Tryz.isAgg9
 z9:=Tryz.sizeOf9
 v9:=Tryz.zeroValue9
def Tryz.ren101:Ren where
 f:=fun x=>match x with|101=>277|208=>306|206=>315|n=>n
 t:=fun x=>match x with|9=>9|4=>4|3=>3|n=>n
 g:=fun x=>x
theorem Tryz.lays101:Lays.n101 Tryz.prog Tryz.ren101 where
 mixed:=by kernel_rfl
 f101:=Tryz.func277
 f206:=Tryz.func315
 f208:=Tryz.func306
 t3:=Tryz.underlying3
 a3:=Tryz.isAgg3
 z3:=Tryz.sizeOf3
 v3:=Tryz.zeroValue3
 t4:=Tryz.underlying4
 a4:=Tryz.isAgg4
 z4:=Tryz.sizeOf4
 v4:=Tryz.zeroValue4
 t9:=Tryz.underlying9
 a9:=Tryz.isAgg9
 z9:=Tryz.sizeOf9
 v9:=Tryz.zeroValue9
def Tryz.ren160:Ren where
 f:=fun x=>match x with|160=>278|232=>307|231=>164|227=>165|234=>308|233=>166|236=>309|235=>167|228=>212|271=>328|151=>214|197=>213|120=>340|152=>262|260=>261|137=>253|119=>297|224=>265|225=>264|217=>263|266=>298|n=>n
 t:=fun x=>match x with|9=>9|4=>4|3=>3|5=>5|117=>213|116=>212|0=>0|124=>216|21=>21|105=>247|46=>34|119=>296|139=>299|138=>298|n=>n
 g:=fun x=>match x with|3=>2|4=>3|n=>n
theorem Tryz.lays160:Lays.n160 Tryz.prog Tryz.ren160 where
 mixed:=by kernel_rfl
 f119:=Tryz.func297
 f120:=Tryz.func340
 f137:=Tryz.func253
 f151:=Tryz.func214
 f152:=Tryz.func262
 f160:=Tryz.func278
 f197:=Tryz.func213
 f217:=Tryz.func263
 f224:=Tryz.func265
 f225:=Tryz.func264
 f227:=Tryz.func165
 f228:=Tryz.func212
 f231:=Tryz.func164
 f232:=Tryz.func307
 f233:=Tryz.func166
 f234:=Tryz.func308
 f235:=Tryz.func167
 f236:=Tryz.func309
 f260:=Tryz.func261
 f266:=Tryz.func298
 f271:=Tryz.func328
 t0:=Tryz.underlying0
 a0:=Tryz.isAgg0
 z0:=Tryz.sizeOf0
 v0:=Tryz.zeroValue0
 t3:=Tryz.underlying3
 a3:=Tryz.isAgg3
 z3:=Tryz.sizeOf3
 v3:=Tryz.zeroValue3
 t4:=Tryz.underlying4
 a4:=Tryz.isAgg4
 z4:=Tryz.sizeOf4
 v4:=Tryz.zeroValue4
 t5:=Tryz.underlying5
 a5:=Tryz.isAgg5
 z5:=Tryz.sizeOf5
 v5:=Tryz.zeroValue5
 t9:=Tryz.underlying9
 a9:=Tryz.isAgg9
 z9:=Tryz.sizeOf9
 v9:=Tryz.zeroValue9
 t21:=Tryz.underlying21
 a21:=Tryz.isAgg21
 z21:=Tryz.sizeOf21
 v21:=Tryz.zeroValue21
 t46:=Tryz.underlying34
 a46:=Tryz.isAgg34
 z46:=Tryz.sizeOf34
 v46:=Tryz.zeroValue34
 t105:=Tryz.underlying247
 a105:=Tryz.isAgg247
 z105:=Tryz.sizeOf247
 v105:=Tryz.zeroValue247
 t116:=Tryz.underlying212
 a116:=Tryz.isAgg212
 z116:=Tryz.sizeOf212
 t117:=Tryz.underlying213
 a117:=Tryz.isAgg213
 z117:=Tryz.sizeOf213
 v117:=Tryz.zeroValue213
 t119:=Tryz.underlying296
 a119:=Tryz.isAgg296
 z119:=Tryz.sizeOf296
 t124:=Tryz.underlying216
 a124:=Tryz.isAgg216
 z124:=Tryz.sizeOf216
 v124:=Tryz.zeroValue216
 t138:=Tryz.underlying298
 a138:=Tryz.isAgg298
 z138:=Tryz.sizeOf298
 v138:=Tryz.zeroValue298
 t139:=Tryz.underlying299
 a139:=Tryz.isAgg299
 z139:=Tryz.sizeOf299
 v139:=Tryz.zeroValue299
 g3:=by kernel_rfl
 g4:=by kernel_rfl
def Tryz.ren155:Ren where
 f:=fun x=>match x with|155=>161|154=>208|138=>210|165=>258|143=>168|166=>119|197=>213|169=>75|195=>259|218=>260|240=>159|241=>296|219=>215|260=>261|276=>206|277=>323|217=>263|225=>264|224=>265|267=>266|266=>298|314=>299|n=>n
 t:=fun x=>match x with|9=>9|3=>3|4=>4|72=>118|0=>0|76=>176|105=>247|21=>21|5=>5|70=>115|20=>20|37=>116|75=>175|127=>180|164=>242|46=>34|119=>296|139=>299|138=>298|146=>302|51=>301|80=>123|n=>n
 g:=fun x=>match x with|1=>0|3=>2|4=>3|n=>n
theorem Tryz.lays155:Lays.n155 Tryz.prog Tryz.ren155 where
 mixed:=by kernel_rfl
 f138:=Tryz.func210
 f143:=Tryz.func168
 f154:=Tryz.func208
 f155:=Tryz.func161
 f165:=Tryz.func258
 f166:=Tryz.func119
 f169:=Tryz.func75
 f195:=Tryz.func259
 f197:=Tryz.func213
 f217:=Tryz.func263
 f218:=Tryz.func260
 f219:=Tryz.func215
 f224:=Tryz.func265
 f225:=Tryz.func264
 f240:=Tryz.func159
 f241:=Tryz.func296
 f260:=Tryz.func261
 f266:=Tryz.func298
 f267:=Tryz.func266
 f276:=Tryz.func206
 f277:=Tryz.func323
 f314:=Tryz.func299
 t0:=Tryz.underlying0
 a0:=Tryz.isAgg0
 z0:=Tryz.sizeOf0
 v0:=Tryz.zeroValue0
 t3:=Tryz.underlying3
 a3:=Tryz.isAgg3
 z3:=Tryz.sizeOf3
 v3:=Tryz.zeroValue3
 t4:=Tryz.underlying4
 a4:=Tryz.isAgg4
 z4:=Tryz.sizeOf4
 v4:=Tryz.zeroValue4
 t5:=Tryz.underlying5
 a5:=Tryz.isAgg5
 z5:=Tryz.sizeOf5
 v5:=Tryz.zeroValue5
 t9:=Tryz.underlying9
 a9:=Tryz.isAgg9
 z9:=Tryz.sizeOf9
 v9:=Tryz.zeroValue9
 t20:=Tryz.underlying20
 a20:=Tryz.isAgg20
 z20:=Tryz.sizeOf20
 v20:=Tryz.zeroValue20
 t21:=Tryz.underlying21
 a21:=Tryz.isAgg21
 z21:=Tryz.sizeOf21
 v21:=Tryz.zeroValue21
 t37:=Tryz.underlying116
 a37:=Tryz.isAgg116
 z37:=Tryz.sizeOf116
 v37:=Tryz.zeroValue116
 t46:=Tryz.underlying34
 a46:=Tryz.isAgg34
 z46:=Tryz.sizeOf34
 v46:=Tryz.zeroValue34
 t51:=Tryz.underlying301
 a51:=Tryz.isAgg301
 z51:=Tryz.sizeOf301
 v51:=Tryz.zeroValue301
 t70:=Tryz.underlying115
 a70:=Tryz.isAgg115
 z70:=Tryz.sizeOf115
 v70:=Tryz.zeroValue115
 t72:=Tryz.underlying118
 a72:=Tryz.isAgg118
 z72:=Tryz.sizeOf118
 v72:=Tryz.zeroValue118
 t75:=Tryz.underlying175
 a75:=Tryz.isAgg175
 z75:=Tryz.sizeOf175
 v75:=Tryz.zeroValue175
 t76:=Tryz.underlying176
 a76:=Tryz.isAgg176
 z76:=Tryz.sizeOf176
 v76:=Tryz.zeroValue176
 t105:=Tryz.underlying247
 a105:=Tryz.isAgg247
 z105:=Tryz.sizeOf247
 v105:=Tryz.zeroValue247
 t119:=Tryz.underlying296
 a119:=Tryz.isAgg296
 z119:=Tryz.sizeOf296
 t127:=Tryz.underlying180
 a127:=Tryz.isAgg180
 z127:=Tryz.sizeOf180
 v127:=Tryz.zeroValue180
 t138:=Tryz.underlying298
 a138:=Tryz.isAgg298
 z138:=Tryz.sizeOf298
 v138:=Tryz.zeroValue298
 t139:=Tryz.underlying299
 a139:=Tryz.isAgg299
 z139:=Tryz.sizeOf299
 v139:=Tryz.zeroValue299
 t146:=Tryz.underlying302
 a146:=Tryz.isAgg302
 z146:=Tryz.sizeOf302
 v146:=Tryz.zeroValue302
 t164:=Tryz.underlying242
 a164:=Tryz.isAgg242
 z164:=Tryz.sizeOf242
 v164:=Tryz.zeroValue242
 g1:=by kernel_rfl
 g3:=by kernel_rfl
 g4:=by kernel_rfl
def Tryz.ren174:Ren where
 f:=fun x=>match x with|174=>279|247=>310|245=>311|287=>329|279=>330|280=>331|281=>332|282=>333|321=>341|322=>342|316=>343|171=>345|205=>344|243=>347|246=>257|283=>292|284=>293|285=>294|286=>295|129=>319|317=>318|318=>320|319=>321|320=>322|337=>335|338=>336|n=>n
 t:=fun x=>match x with|9=>9|3=>3|2=>2|75=>175|85=>284|4=>4|167=>321|5=>5|53=>233|175=>322|46=>34|168=>324|37=>116|0=>0|210=>343|21=>21|127=>180|145=>349|143=>347|171=>291|173=>294|212=>315|51=>301|20=>20|213=>316|232=>345|233=>346|80=>123|n=>n
 g:=fun x=>match x with|15=>5|16=>1|17=>4|18=>6|19=>7|n=>n
theorem Tryz.lays174:LaysC.n174 Tryz.prog Tryz.ren174 where
 mixed:=by kernel_rfl
 f129:=Tryz.func319
 f171:=Tryz.func345
 f174:=Tryz.func279
 f205:=Tryz.func344
 f243:=Tryz.func347
 f245:=Tryz.func311
 f246:=Tryz.func257
 f247:=Tryz.func310
 f279:=Tryz.func330
 f280:=Tryz.func331
 f281:=Tryz.func332
 f282:=Tryz.func333
 f283:=Tryz.func292
 f284:=Tryz.func293
 f285:=Tryz.func294
 f286:=Tryz.func295
 f287:=Tryz.func329
 f316:=Tryz.func343
 f317:=Tryz.func318
 f318:=Tryz.func320
 f319:=Tryz.func321
 f320:=Tryz.func322
 f321:=Tryz.func341
 f322:=Tryz.func342
 f337:=Tryz.func335
 f338:=Tryz.func336
 t0:=Tryz.underlying0
 a0:=Tryz.isAgg0
 z0:=Tryz.sizeOf0
 v0:=Tryz.zeroValue0
 t2:=Tryz.underlying2
 a2:=Tryz.isAgg2
 z2:=Tryz.sizeOf2
 v2:=Tryz.zeroValue2
 t3:=Tryz.underlying3
 a3:=Tryz.isAgg3
 z3:=Tryz.sizeOf3
 v3:=Tryz.zeroValue3
 t4:=Tryz.underlying4
 a4:=Tryz.isAgg4
 z4:=Tryz.sizeOf4
 v4:=Tryz.zeroValue4
 t5:=Tryz.underlying5
 a5:=Tryz.isAgg5
 z5:=Tryz.sizeOf5
 v5:=Tryz.zeroValue5
 t9:=Tryz.underlying9
 a9:=Tryz.isAgg9
 z9:=Tryz.sizeOf9
 v9:=Tryz.zeroValue9
 t20:=Tryz.underlying20
 a20:=Tryz.isAgg20
 z20:=Tryz.sizeOf20
 v20:=Tryz.zeroValue20
 t21:=Tryz.underlying21
 a21:=Tryz.isAgg21
 z21:=Tryz.sizeOf21
 v21:=Tryz.zeroValue21
 t37:=Tryz.underlying116
 a37:=Tryz.isAgg116
 z37:=Tryz.sizeOf116
 v37:=Tryz.zeroValue116
 t46:=Tryz.underlying34
 a46:=Tryz.isAgg34
 z46:=Tryz.sizeOf34
 v46:=Tryz.zeroValue34
 t51:=Tryz.underlying301
 a51:=Tryz.isAgg301
 z51:=Tryz.sizeOf301
 v51:=Tryz.zeroValue301
 t53:=Tryz.underlying233
 a53:=Tryz.isAgg233
 z53:=Tryz.sizeOf233
 v53:=Tryz.zeroValue233
 t75:=Tryz.underlying175
 a75:=Tryz.isAgg175
 z75:=Tryz.sizeOf175
 v75:=Tryz.zeroValue175
 t85:=Tryz.underlying284
 a85:=Tryz.isAgg284
 z85:=Tryz.sizeOf284
 v85:=Tryz.zeroValue284
 t127:=Tryz.underlying180
 a127:=Tryz.isAgg180
 z127:=Tryz.sizeOf180
 v127:=Tryz.zeroValue180
 t143:=Tryz.underlying347
 a143:=Tryz.isAgg347
 z143:=Tryz.sizeOf347
 v143:=Tryz.zeroValue347
 t145:=Tryz.underlying349
 a145:=Tryz.isAgg349
 z145:=Tryz.sizeOf349
 v145:=Tryz.zeroValue349
 t167:=Tryz.underlying321
 a167:=Tryz.isAgg321
 z167:=Tryz.sizeOf321
 v167:=Tryz.zeroValue321
 t168:=Tryz.underlying324
 a168:=Tryz.isAgg324
 z168:=Tryz.sizeOf324
 v168:=Tryz.zeroValue324
 t171:=Tryz.underlying291
 a171:=Tryz.isAgg291
 z171:=Tryz.sizeOf291
 v171:=Tryz.zeroValue291
 t173:=Tryz.underlying294
 a173:=Tryz.isAgg294
 z173:=Tryz.sizeOf294
 v173:=Tryz.zeroValue294
 t175:=Tryz.underlying322
 a175:=Tryz.isAgg322
 z175:=Tryz.sizeOf322
 v175:=Tryz.zeroValue322
 t210:=Tryz.underlying343
 a210:=Tryz.isAgg343
 z210:=Tryz.sizeOf343
 v210:=Tryz.zeroValue343
 t212:=Tryz.underlying315
 a212:=Tryz.isAgg315
 z212:=Tryz.sizeOf315
 v212:=Tryz.zeroValue315
 t213:=Tryz.underlying316
 a213:=Tryz.isAgg316
 z213:=Tryz.sizeOf316
 t232:=Tryz.underlying345
 a232:=Tryz.isAgg345
 z232:=Tryz.sizeOf345
 v232:=Tryz.zeroValue345
 t233:=Tryz.underlying346
 a233:=Tryz.isAgg346
 z233:=Tryz.sizeOf346
 v233:=Tryz.zeroValue346
 g15:=by kernel_rfl
 g16:=by kernel_rfl
 g17:=by kernel_rfl
 g18:=by kernel_rfl
 g19:=by kernel_rfl
 t80:=Tryz.underlying123
 a80:=Tryz.isAgg123
 z80:=Tryz.sizeOf123
 v80:=Tryz.zeroValue123
 i0:=by kernel_rfl
 i2:=by kernel_rfl
 i3:=by kernel_rfl
 i4:=by kernel_rfl
 i5:=by kernel_rfl
 i9:=by kernel_rfl
 i20:=by kernel_rfl
 i21:=by kernel_rfl
 i37:=by kernel_rfl
 i46:=by kernel_rfl
 i51:=by kernel_rfl
 i53:=by kernel_rfl
 i75:=by kernel_rfl
 i80:=by kernel_rfl
 i85:=by kernel_rfl
 i127:=by kernel_rfl
 i143:=by kernel_rfl
 i145:=by kernel_rfl
 i167:=by kernel_rfl
 i168:=by kernel_rfl
 i171:=by kernel_rfl
 i173:=by kernel_rfl
 i175:=by kernel_rfl
 i210:=by kernel_rfl
 i212:=by kernel_rfl
 i232:=by kernel_rfl
 i233:=by kernel_rfl
 m15:=by kernel_rfl
 m16:=by kernel_rfl
 m17:=by kernel_rfl
 m18:=by kernel_rfl
 m19:=by kernel_rfl
 c0:=by kernel_rfl
 c2:=by kernel_rfl
 c3:=by kernel_rfl
 c4:=by kernel_rfl
 c5:=by kernel_rfl
 c9:=by kernel_rfl
 c20:=by kernel_rfl
 c21:=by kernel_rfl
 c37:=by kernel_rfl
 c46:=by kernel_rfl
 c51:=by kernel_rfl
 c53:=by kernel_rfl
 c75:=by kernel_rfl
 c80:=by kernel_rfl
 c85:=by kernel_rfl
 c127:=by kernel_rfl
 c143:=by kernel_rfl
 c145:=by kernel_rfl
 c167:=by kernel_rfl
 c168:=by kernel_rfl
 c171:=by kernel_rfl
 c173:=by kernel_rfl
 c175:=by kernel_rfl
 c210:=by kernel_rfl
 c212:=by kernel_rfl
 c213:=by kernel_rfl
 c232:=by kernel_rfl
 c233:=by kernel_rfl
def Tryz.ren173:Ren where
 f:=fun x=>match x with|173=>207|246=>257|283=>292|284=>293|285=>294|286=>295|129=>319|317=>318|318=>320|319=>321|320=>322|337=>335|338=>336|n=>n
 t:=fun x=>match x with|2=>2|3=>3|9=>9|4=>4|171=>291|0=>0|53=>233|37=>116|5=>5|173=>294|212=>315|51=>301|20=>20|213=>316|46=>34|232=>345|233=>346|n=>n
 g:=fun x=>match x with|17=>4|18=>6|19=>7|n=>n
theorem Tryz.lays173:LaysM.n173 Tryz.prog Tryz.ren173 where
 mixed:=by kernel_rfl
 f129:=Tryz.func319
 f173:=Tryz.func207
 f246:=Tryz.func257
 f283:=Tryz.func292
 f284:=Tryz.func293
 f285:=Tryz.func294
 f286:=Tryz.func295
 f317:=Tryz.func318
 f318:=Tryz.func320
 f319:=Tryz.func321
 f320:=Tryz.func322
 f337:=Tryz.func335
 f338:=Tryz.func336
 t0:=Tryz.underlying0
 a0:=Tryz.isAgg0
 z0:=Tryz.sizeOf0
 v0:=Tryz.zeroValue0
 t2:=Tryz.underlying2
 a2:=Tryz.isAgg2
 z2:=Tryz.sizeOf2
 v2:=Tryz.zeroValue2
 t3:=Tryz.underlying3
 a3:=Tryz.isAgg3
 z3:=Tryz.sizeOf3
 v3:=Tryz.zeroValue3
 t4:=Tryz.underlying4
 a4:=Tryz.isAgg4
 z4:=Tryz.sizeOf4
 v4:=Tryz.zeroValue4
 t5:=Tryz.underlying5
 a5:=Tryz.isAgg5
 z5:=Tryz.sizeOf5
 v5:=Tryz.zeroValue5
 t9:=Tryz.underlying9
 a9:=Tryz.isAgg9
 z9:=Tryz.sizeOf9
 v9:=Tryz.zeroValue9
 t20:=Tryz.underlying20
 a20:=Tryz.isAgg20
 z20:=Tryz.sizeOf20
 v20:=Tryz.zeroValue20
 t37:=Tryz.underlying116
 a37:=Tryz.isAgg116
 z37:=Tryz.sizeOf116
 v37:=Tryz.zeroValue116
 t46:=Tryz.underlying34
 a46:=Tryz.isAgg34
 z46:=Tryz.sizeOf34
 v46:=Tryz.zeroValue34
 t51:=Tryz.underlying301
 a51:=Tryz.isAgg301
 z51:=Tryz.sizeOf301
 v51:=Tryz.zeroValue301
 t53:=Tryz.underlying233
 a53:=Tryz.isAgg233
 z53:=Tryz.sizeOf233
 v53:=Tryz.zeroValue233
 t171:=Tryz.underlying291
 a171:=Tryz.isAgg291
 z171:=Tryz.sizeOf291
 v171:=Tryz.zeroValue291
 t173:=Tryz.underlying294
 a173:=Tryz.isAgg294
 z173:=Tryz.sizeOf294
 v173:=Tryz.zeroValue294
 t212:=Tryz.underlying315
 a212:=Tryz.isAgg315
 z212:=Tryz.sizeOf315
 v212:=Tryz.zeroValue315
 t213:=Tryz.underlying316
 a213:=Tryz.isAgg316
 z213:=Tryz.sizeOf316
 t232:=Tryz.underlying345
 a232:=Tryz.isAgg345
 z232:=Tryz.sizeOf345
 v232:=Tryz.zeroValue345
 t233:=Tryz.underlying346
 a233:=Tryz.isAgg346
 z233:=Tryz.sizeOf346
 v233:=Tryz.zeroValue346
 g17:=by kernel_rfl
 g18:=by kernel_rfl
 g19:=by kernel_rfl
 i0:=by kernel_rfl
 i2:=by kernel_rfl
 i3:=by kernel_rfl
 i4:=by kernel_rfl
 i5:=by kernel_rfl
 i9:=by kernel_rfl
 i20:=by kernel_rfl
 i37:=by kernel_rfl
 i46:=by kernel_rfl
 i51:=by kernel_rfl
 i53:=by kernel_rfl
 i171:=by kernel_rfl
 i173:=by kernel_rfl
 i212:=by kernel_rfl
 i232:=by kernel_rfl
 i233:=by kernel_rfl
 m17:=by kernel_rfl
 m18:=by kernel_rfl
 m19:=by kernel_rfl
def Tryz.ren137:Ren where
 f:=fun x=>match x with|137=>253|217=>263|266=>298|n=>n
 t:=fun x=>match x with|9=>9|5=>5|3=>3|n=>n
 g:=fun x=>x
theorem Tryz.lays137:Lays.n137 Tryz.prog Tryz.ren137 where
 mixed:=by kernel_rfl
 f137:=Tryz.func253
 f217:=Tryz.func263
 f266:=Tryz.func298
 t3:=Tryz.underlying3
 a3:=Tryz.isAgg3
 z3:=Tryz.sizeOf3
 v3:=Tryz.zeroValue3
 t5:=Tryz.underlying5
 a5:=Tryz.isAgg5
 z5:=Tryz.sizeOf5
 v5:=Tryz.zeroValue5
 t9:=Tryz.underlying9
 a9:=Tryz.isAgg9
 z9:=Tryz.sizeOf9
 v9:=Tryz.zeroValue9
def Tryz.ren170:Ren where
 f:=fun x=>match x with|170=>74|n=>n
 t:=fun x=>match x with|70=>115|3=>3|0=>0|72=>118|37=>116|5=>5|n=>n
 g:=fun x=>x
theorem Tryz.lays170:Lays.n170 Tryz.prog Tryz.ren170 where
 mixed:=by kernel_rfl
 f170:=Tryz.func74
 t0:=Tryz.underlying0
 a0:=Tryz.isAgg0
 z0:=Tryz.sizeOf0
 v0:=Tryz.zeroValue0
 t3:=Tryz.underlying3
 a3:=Tryz.isAgg3
 z3:=Tryz.sizeOf3
 v3:=Tryz.zeroValue3
 t37:=Tryz.underlying116
 a37:=Tryz.isAgg116
 z37:=Tryz.sizeOf116
 v37:=Tryz.zeroValue116
 t70:=Tryz.underlying115
 a70:=Tryz.isAgg115
 z70:=Tryz.sizeOf115
 v70:=Tryz.zeroValue115
 t72:=Tryz.underlying118
 a72:=Tryz.isAgg118
 z72:=Tryz.sizeOf118
 v72:=Tryz.zeroValue118
def Tryz.ren264:Ren where
 f:=fun x=>match x with|264=>304|n=>n
 t:=fun x=>match x with|53=>233|46=>34|n=>n
 g:=fun x=>x
theorem Tryz.lays264:Lays.n264 Tryz.prog Tryz.ren264 where
 mixed:=by kernel_rfl
 f264:=Tryz.func304
 t46:=Tryz.underlying34
 a46:=Tryz.isAgg34
 z46:=Tryz.sizeOf34
 v46:=Tryz.zeroValue34
 t53:=Tryz.underlying233
 a53:=Tryz.isAgg233
 z53:=Tryz.sizeOf233
 v53:=Tryz.zeroValue233
def Tryz.ren106:Ren where
 f:=fun x=>match x with|106=>272|213=>303|265=>327|n=>n
 t:=fun x=>match x with|9=>9|3=>3|n=>n
 g:=fun x=>x
theorem Tryz.lays106:Lays.n106 Tryz.prog Tryz.ren106 where
 mixed:=by kernel_rfl
 f106:=Tryz.func272
 f213:=Tryz.func303
 f265:=Tryz.func327
 t3:=Tryz.underlying3
 a3:=Tryz.isAgg3
 z3:=Tryz.sizeOf3
 v3:=Tryz.zeroValue3
 t9:=Tryz.underlying9
 a9:=Tryz.isAgg9
 z9:=Tryz.sizeOf9
 v9:=Tryz.zeroValue9

theorem Tryz.lays166:Lays.n166 Tryz.prog Tryz.ren155:={ Tryz.lays155 with }
end Go.Proofs
namespace Go.SX.Nb
open Go Go.SX Go.Proofs Go.RowKit
variable [ErrAt]
set_option maxRecDepth 4000
theorem Qi {w:World} (h:Mb w):∃m,w.cell? ⟨0,0,none⟩=some (.int .i64 m):=by
 obtain ⟨_,a,m,t,f,rfl⟩:=h (0,fun o=>∃m t f,o=.cells #[.int .i64 m] t f) (by simp [GlobInv.blocks,bn])
 exact ⟨m,by simp [World.cell?,a]⟩
theorem Va {w:World} (h:Mb w):w.cell? ⟨1,0,none⟩=some (.iface 347 (.pointer (some ErrAt.b))):=by
 obtain ⟨_,a,t,f,rfl⟩:=h (1,fun o=>∃t f,o=.cells #[.iface 347 (.pointer (some ErrAt.b))] t f) (by simp [GlobInv.blocks,bn])
 simp [World.cell?,a]
theorem ABu {w:World} (h:Mb w):Lib.TabIs Tryz.prog w "internal/strconv.uint64pow10" .u64 Lib.pow10Tab:=by
 obtain ⟨_,a,t,f,rfl⟩:=h (4,fun o=>∃t f,o=.cells (Lib.pow10Tab.map fun z=>Value.int .u64 z).toArray t f) (by simp [GlobInv.blocks,bn])
 have hg:Tryz.prog.globalNamed "internal/strconv.uint64pow10" = some 4:=by kernel_rfl
 simp only at a
 simp [Lib.TabIs,World.var?,hg,a]
theorem kb (w:World) (n:Nat):Below w.heap.size w (w.drewN n):=⟨rfl,rfl,rfl,Ak _,fun _ _=>rfl⟩
theorem xe (s t:Str) (hs:s.length<4294967281) (Hp:List AObj):AFun Tryz.prog 131 [Ae s,Ae t] Hp (Bk (Lib.contains s t)):=by
 refine Mz (xs:=[sv s,sv t]) (v:=.bool (Lib.contains s t)) (fun G w=>.v _ _) (fun w hg=>?_)
 obtain ⟨m,hm⟩:=Qi hg
 refine (Any.strings_Contains Tryz.lays144 ⟨s.toArray⟩ ⟨t.toArray⟩ m w (by simpa [ByteArray.size] using hs) hm).mono ?_
 rintro e w' ⟨rfl,rfl⟩
 exact xa
theorem ANk (s t:Str) (hs:s.length<4294967281) (Hp:List AObj):AFun Tryz.prog 163 [Ae s,Ae t] Hp (.tup [Ae (Lib.cut s t).1,Ae (Lib.cut s t).2.1,Bk (Lib.cut s t).2.2]):=by
 refine Mz (xs:=[sv s,sv t]) (v:=.tuple #[sv (Lib.cut s t).1,sv (Lib.cut s t).2.1,.bool (Lib.cut s t).2.2]) (fun G w=>O4 rfl (fun i y u hy hu=>?_)) (fun w hg=>?_)
 ·match i with
  | 0=>simp at hy hu;subst hy;subst hu;exact .v _ _
  | 1=>simp at hy hu;subst hy;subst hu;exact .v _ _
  | 2=>simp at hy hu;subst hy;subst hu;exact .v _ _
  | i+3=>simp at hy
 obtain ⟨m,hm⟩:=Qi hg
 refine (Any.strings_Cut Tryz.lays145 ⟨s.toArray⟩ ⟨t.toArray⟩ m w (by simpa [ByteArray.size] using hs) hm).mono ?_
 rintro e w' ⟨rfl,n,rfl⟩
 exact ⟨rfl,kb _ _⟩
theorem AP5 (s t:Str) (ht:t.length<4294967281) (ha:∀c∈t,c.toNat<128) (Hp:List AObj):AFun Tryz.prog 130 [Ae s,Ae t] Hp (Ae (Lib.trimLeftS s t)):=by
 refine Mz (xs:=[sv s,sv t]) (v:=sv (Lib.trimLeftS s t)) (fun G w=>.v _ _) (fun w hg=>?_)
 refine (Any.strings_TrimLeft_laid Tryz.lays161 (by kernel_rfl) ⟨s.toArray⟩ ⟨t.toArray⟩ w (by simpa [ByteArray.size] using ht) (fun j b hj=>ha b (B0 hj))).mono ?_
 rintro e w' ⟨rfl,hb⟩
 exact ⟨rfl,hb⟩
/-- The pieces of a split. -/
def Po (s t:Str):List Str:=(Lib.splitB ⟨t.toArray⟩ 0 (Lib.countB ⟨s.toArray⟩ ⟨t.toArray⟩) ⟨s.toArray⟩).map (·.data.toList)
theorem AJa (s t:Str) (hs:s.length<4294967281) (ht:1≤t.length) (Hp:List AObj):AFun Tryz.prog 122 [Ae s,Ae t] Hp (Gq (Po s t)):=by
 have:=AFun.libSlice (P:=Tryz.prog) (g:=122) (Hp:=Hp) (xs:=[sv s,sv t]) (ys:=(Po s t).map sv) (t:=9) (by intro y hy;obtain ⟨z,_,rfl⟩:=Cr.1 hy;rfl) (fun w hg=>by
  obtain ⟨m,hm⟩:=Qi hg
  refine (Any.strings_Split Tryz.lays146 (by kernel_rfl) ⟨s.toArray⟩ ⟨t.toArray⟩ m w (by simpa [ByteArray.size] using hs) hm (by simpa [ByteArray.size] using ht)).mono ?_
  rintro e w' ⟨rfl,rfl⟩
  have hl:((Po s t).map sv).length=Lib.countB ⟨s.toArray⟩ ⟨t.toArray⟩+1:=by
   rw [Aj]
   unfold Po
   rw [Aj]
   exact Lib.splitB_all _ (by simpa [ByteArray.size] using ht) _ _ _ rfl
  refine ⟨by rw [hl],?_⟩
  unfold Po
  rw [Kq]
  rfl)
 rw [Kq] at this
 exact this
end Go.SX.Nb
namespace Go.Proofs
open Go Go.RowKit Go.Extern.Stop Go.Stop Go.Extern
theorem Tryz.isTypeOf (v:Value) (w:World):(Extern.ReflectliteType.typeOf #[.iface 347 v]).run Tryz.prog w=.ok (.iface 328 (.agg #[.pointer (some ⟨8,347,none⟩)])) w:=by kernel_rfl
def Tryz.cmpOf:Array Value→Sem Value:=Extern.ReflectliteType.method fun t=>do Extern.Rtype.noPackHeld "Comparable" t;pure (.bool (←typeInfo t).comparable)
theorem Tryz.isComparable (w:World):(Tryz.cmpOf #[.agg #[.pointer (some ⟨8,347,none⟩)]]).run Tryz.prog w=.ok (.bool true) w:=by kernel_rfl
theorem Tryz.isMethodComparable (v:Value) (w:World):(Go.method 480 328 v "Comparable").run Tryz.prog w=.ok (374,v) w:=by kernel_rfl
theorem Tryz.isComp:(Tryz.prog.info? 347).map (·.comparable)=some true:=by kernel_rfl
theorem Tryz.isSize:(Tryz.prog.info? 349).map (·.size)=some 1:=by kernel_rfl
theorem Tryz.noIsW (v:Value) (xT:TypeId) (w:World):(Instr.typeAssert (.iface 324 v) xT 330 true).run Tryz.prog w=.ok (.tuple #[.nilIface,.bool false]) w:=run_typeAssert_lacksB Tryz.underlying330 (by kernel_rfl) (by kernel_rfl) v xT w
theorem Tryz.hasUnwrapW (v:Value) (xT:TypeId) (w:World):(Instr.typeAssert (.iface 324 v) xT 333 true).run Tryz.prog w=.ok (.tuple #[.iface 324 v,.bool true]) w:=run_typeAssert_hasB Tryz.underlying333 (by kernel_rfl) v xT w
theorem Tryz.methodUnwrap (v:Value) (w:World):(Go.method 480 324 v "Unwrap").run Tryz.prog w=.ok (370,v) w:=by kernel_rfl
namespace Tryz
theorem is_nil (b:Addr) (w:World):
  Calls Tryz.prog 280 #[.nilIface,.iface 347 (.pointer (some b))] w fun e w'=>e=.returned (.bool false)∧w'=w:=by
 have hn:=run_eql_iface_nil_left (P:=Tryz.prog) w 347 (.pointer (some b)) Tryz.underlying175
 go_enter Tryz.func280,Tryz.ntmps280
 go_wp2
 go_ret
 exact ⟨rfl,rfl⟩
set_option maxRecDepth 100000 in
theorem is_range (pb po:Nat) (b:Addr) (w:World) (h1:w.cell? ⟨pb,po+2,none⟩=some (.iface 347 (.pointer (some b)))):
  Calls Tryz.prog 280 #[.iface 324 (.pointer (some ⟨pb,po,none⟩)),.iface 347 (.pointer (some b))] w fun e w'=>e=.returned (.bool true)∧w'=w:=by
 obtain ⟨i,hi,hcmp⟩:=Option.map_eq_some_iff.1 Tryz.isComp
 obtain ⟨j,hj,hjs⟩:=Option.map_eq_some_iff.1 Tryz.isSize
 have h8:=@run_callFunc_extern Tryz.prog 312 _ Extern.ReflectliteType.typeOf Tryz.func312 (by kernel_rfl) (by kernel_rfl) (by kernel_rfl) (by kernel_rfl)
 have h32:=@run_callFunc_extern Tryz.prog 374 _ Tryz.cmpOf Tryz.func374 (by kernel_rfl) (by kernel_rfl) (by kernel_rfl) (by kernel_rfl)
 have tT:=Tryz.isTypeOf
 have cT:=Tryz.isComparable
 have mR:=Tryz.isMethodComparable
 have nW:=Tryz.noIsW
 have uW:=Tryz.hasUnwrapW
 have mU:=Tryz.methodUnwrap
 have heq:=run_eql_iface_ptr_same (P:=Tryz.prog) w b Tryz.underlying175 Tryz.underlying347 hi hcmp hj
 have hty:=run_eql_iface_types (P:=Tryz.prog) 324 347 (.pointer (some ⟨pb,po,none⟩)) (.pointer (some b)) Tryz.underlying175 (by decide) w
 go_enter Tryz.func280,Tryz.ntmps280
 go_wp2
 refine wp_loop_rounds 2 ?_
 rw [rounds_succ]
 go_wp2
 rw [rounds_succ]
 go_wp2
 go_ret
 exact ⟨rfl,rfl⟩
end Tryz
end Go.Proofs
namespace Go.SX.Nb
open Go Go.SX Go.Proofs Go.RowKit Go.Sort
variable [ErrAt]
set_option maxRecDepth 4000
theorem AP6 (s t:Str) (Hp:List AObj):AFun Tryz.prog 288 [Ae s,Ae t] Hp (Bk (Lib.hasPrefix s t)):=by
 refine Mz (xs:=[sv s,sv t]) (v:=.bool (Lib.hasPrefix s t)) (fun G w=>.v _ _) (fun w hg=>?_)
 refine (Any.strings_HasPrefix Tryz.lays99 ⟨s.toArray⟩ ⟨t.toArray⟩ w).mono ?_
 rintro e w' ⟨rfl,rfl⟩
 exact xa
theorem AP7 (s t:Str) (hs:s.length≤9223372036854775807) (Hp:List AObj):AFun Tryz.prog 289 [Ae s,Ae t] Hp (Bk (Lib.hasSuffix s t)):=by
 refine Mz (xs:=[sv s,sv t]) (v:=.bool (Lib.hasSuffix s t)) (fun G w=>.v _ _) (fun w hg=>?_)
 refine (Any.strings_HasSuffix Tryz.lays100 ⟨s.toArray⟩ ⟨t.toArray⟩ w (by simpa [ByteArray.size] using hs)).mono ?_
 rintro e w' ⟨rfl,rfl⟩
 exact xa
theorem AP8 (s:Str) (c:UInt8) (Hp:List AObj):AFun Tryz.prog 253 [Ae s,.v (.int .u8 (c.toNat:Int))] Hp (A5 (Lib.indexByte s c)):=by
 refine Mz (xs:=[sv s,.int .u8 (c.toNat:Int)]) (v:=.int .i64 (Lib.indexByte s c)) (fun G w=>.v _ _) (fun w hg=>?_)
 refine (Any.strings_IndexByte Tryz.lays137 ⟨s.toArray⟩ (c.toNat:Int) w).mono ?_
 rintro e w' ⟨rfl,rfl⟩
 exact ⟨by simp,Below.refl _ _⟩
theorem AP9:Builder.Extra Tryz.prog Tryz.ren155:={ sizeBuilder:=by kernel_rfl,liesBuilder:=by kernel_rfl,t5:=Tryz.underlying5,a5:=Tryz.isAgg5,z5:=Tryz.sizeOf5,v5:=Tryz.zeroValue5,infoByte:=by kernel_rfl,cellsByte:=by kernel_rfl,sizeByte:=by kernel_rfl,neB5:=by decide }
theorem ANl (s o n:Str) (hs:s.length<4294967281) (ho:1≤o.length) (hl:s.length+Lib.countB ⟨s.toArray⟩ ⟨o.toArray⟩*n.length≤140737488355328) (Hp:List AObj):AFun Tryz.prog 161 [Ae s,Ae o,Ae n] Hp (Ae (Lib.replaceAll s o n)):=by
 refine Mz (xs:=[sv s,sv o,sv n]) (v:=sv (Lib.replaceAll s o n)) (fun G w=>.v _ _) (fun w hg=>?_)
 obtain ⟨m,hm⟩:=Qi hg
 refine (Any.strings_ReplaceAll Tryz.lays155 AP9 ⟨s.toArray⟩ ⟨o.toArray⟩ ⟨n.toArray⟩ m w (by simpa [ByteArray.size] using hs) hm (by simpa [ByteArray.size] using ho) (by simpa [ByteArray.size] using hl)).mono ?_
 rintro e w' ⟨rfl,hb⟩
 exact ⟨rfl,hb⟩
theorem pg (w:World) (k:Nat) (os:Array Obj):Below w.heap.size w (grow (w.drewN k) os):=by
 refine ⟨rfl,rfl,rfl,by simp [grow],fun b hb=>?_⟩
 show ((w.drewN k).heap++os)[b]? = w.heap[b]?
 rw [M0 (by exact hb)]
 rfl
theorem APa (n:Int) (h0 : -9223372036854775808≤n) (h1:n≤9223372036854775807) (Hp:List AObj):AFun Tryz.prog 207 [.v (.int .i64 n),A5 10] Hp (Ae (Lib.itoa n)):=by
 refine Mz (xs:=[.int .i64 n,.int .i64 10]) (v:=sv (Lib.itoa n)) (fun G w=>.v _ _) (fun w hg=>?_)
 refine (Any.strconv_FormatInt_10 Tryz.lays173 n h0 h1 w (ABu hg)).mono ?_
 rintro e w' ⟨rfl,k,os,rfl⟩
 exact ⟨rfl,pg _ _ _⟩
end Go.SX.Nb
namespace Go.SX.Nb
open Go Go.SX Go.Proofs Go.RowKit
variable [ErrAt]
set_option maxRecDepth 4000
def digs:Str:=[48,49,50,51,52,53,54,55,56,57]
def Vb (s:Str):Str:=Lib.trimPrefix s [45]
def Mc (s:Str):Bool:=(Vb s==[]) || !(Lib.trimS (Vb s) digs==[]) || (((Vb s).headD 0==48)&&decide (1<s.length))
def D5 (s:Str):Int×Int:=if Mc s then (0,6) else match Lib.parseIntB 64 s with|.ok v=>(v,0)|.range=>(0,4)|_=>(0,0)
def AFw {α:Type}:Lib.NumEnd α→Bool|.ok _=>false|.range=>false|_=>true
theorem ABv {p:UInt8→Bool}:∀{l:Str},l.dropWhile p=[]↔∀b∈l,p b=true
 | []=>by simp
 | b::r=>by
  rw [Ts]
  by_cases h:p b=true
  ·rw [if_pos h,ABv]
   simp [h]
  rw [if_neg h]
  simp [h]
theorem ABw {p:UInt8→Bool}:∀{l:Str} {b:UInt8},b∈l→p b=false→b∈l.dropWhile p
 | x::r,b,h,hb=>by
  rw [Ts]
  by_cases hx:p x=true
  ·rw [if_pos hx]
   rcases B5.1 h with rfl|h
   ·rw [hb] at hx;cases hx
   exact ABw h hb
  rw [if_neg hx];exact h
theorem bo {l cs:Str}:Lib.trimS l cs=[]↔∀b∈l,cs.contains b=true:=by
 unfold Lib.trimS Lib.trimLeftS Lib.trimRightS
 rw [ABv]
 constructor
 ·intro h b hb
  cases hc:cs.contains b with
  | true=>rfl
  | false =>
   have:=h b (Wg.2 (ABw (p:=(cs.contains ·)) (Wg.2 hb) hc))
   rw [hc] at this;exact this
 intro h b hb
 exact h b (Wg.1 ((nd (cs.contains ·)).subset (Wg.1 hb)))
theorem R2 (c:UInt8):digs.contains c=(decide (48≤c.toNat)&&decide (c.toNat≤57)):=by
 have h:((List.range 256).all fun n=>digs.contains (UInt8.ofNat n)==(decide (48≤(UInt8.ofNat n).toNat)&&decide ((UInt8.ofNat n).toNat≤57)))=true:=by kernel_rfl
 have:=B2.1 h c.toNat (Qa.2 c.toNat_lt)
 simpa using this
theorem bq (M:Nat):∀(l:Str) (acc:Nat),(∀b∈l,digs.contains b=true)→AFw (Lib.parseUintM M acc l)=false
 | [],acc,_=>by rw [Lib.parseUintM];rfl
 | c::r,acc,h=>by
  have hc:=h c (by simp)
  rw [R2] at hc
  simp only [As,decide_eq_true_eq] at hc
  rw [Lib.parseUintM,if_pos hc]
  split
  ·rfl
  split
  ·rfl
  exact bq M r _ (fun b hb=>h b (by simp [hb]))
theorem Vc (s:Str):(s.head? ≠ some 45∧Vb s=s)∨∃r,s=45::r∧Vb s=r:=by
 unfold Vb Lib.trimPrefix Lib.hasPrefix
 cases s with
 | nil=>exact .inl ⟨by simp,rfl⟩
 | cons c r =>
  by_cases hc:c=45
  ·subst hc;exact .inr ⟨r,rfl,by simp [List.isPrefixOf]⟩
  refine .inl ⟨by simpa using hc,?_⟩
  rw [if_neg]
  simp [List.isPrefixOf,Ne.symm hc]
theorem Pp {s:Str} (h:Mc s=false):AFw (Lib.parseIntB 64 s)=false:=by
 unfold Mc at h
 simp only [Ej,Dh,beq_iff_eq,beq_eq_false_iff_ne] at h
 obtain ⟨⟨h1,h2⟩,_⟩:=h
 rw [bo] at h2
 have key:∀l:Str,l≠[]→(∀b∈l,digs.contains b=true)→AFw (Lib.parseUintB 64 l)=false:=fun l hl ha=>by
  unfold Lib.parseUintB
  rw [if_neg hl]
  exact bq _ l 0 ha
 rcases Vc s with ⟨h3,h4⟩|⟨r,rfl,h4⟩
 ·rw [h4] at h1 h2
  cases s with
  | nil=>exact absurd rfl h1
  | cons c r =>
   have hcd:=h2 c (by simp)
   rw [R2] at hcd
   simp only [As,decide_eq_true_eq] at hcd
   have e1:¬(c.toNat=43∨c.toNat=45):=by omega
   have:=key (c::r) (by simp) h2
   simp only [Lib.parseIntB,if_neg e1]
   revert this
   cases Lib.parseUintB 64 (c::r) with
   | range=>intro _;rfl
   | ok u=>intro _;simp only;split<;>(try split)<;>rfl
   | _=>intro h;cases h
 rw [h4] at h1 h2
 have:=key r h1 h2
 have e1:((45:UInt8).toNat=43∨(45:UInt8).toNat=45):=.inr rfl
 simp only [Lib.parseIntB,if_pos e1]
 revert this
 cases Lib.parseUintB 64 r with
 | range=>intro _;rfl
 | ok u=>intro _;simp only;split<;>(try split)<;>rfl
 | _=>intro h;cases h
end Go.SX.Nb
namespace Go.SX.Nb
open Go Go.SX Go.Proofs
variable [ErrAt]
set_option maxRecDepth 4000
def Ia (c:UInt8):Bool:=decide ((97:Int)≤c.toNat)&&decide ((c.toNat:Int)≤122)
def U5 (c:UInt8):Bool:=decide ((48:Int)≤c.toNat)&&decide ((c.toNat:Int)≤57)
theorem c97 (c:UInt8) (Hp:List AObj):AFun Tryz.prog 97 [.v (.int .u8 (c.toNat:Int))] Hp (.v (.bool (Ia c))):=by
 refine Af [.tmp 2] [0] Tryz.func97 Tryz.ntmps97 (fun d=>?_)
 refine Z43 ?_;refine jy ?_;exact ow

theorem c99 (c:UInt8) (Hp:List AObj):AFun Tryz.prog 99 [.v (.int .u8 (c.toNat:Int))] Hp (.v (.bool (U5 c))):=by
 refine Af [.tmp 2] [0] Tryz.func99 Tryz.ntmps99 (fun d=>?_)
 refine Z43 ?_;refine jy ?_;exact ow

def words:List Str:=[[97,100,100],[100,114,111,112],[114,101,110,97,109,101],[115,112,108,105,116],[109,101,114,103,101],[114,101,116,121,112,101],[105,110,116,111],[116,111],[98,97,99,107],[97,110,100],[111,114],[110,111,116],[116,114,117,101],[102,97,108,115,101],[110,117,108,108],[105,110,116],[116,101,120,116],[98,111,111,108],[115,101,108,101,99,116],[119,104,101,114,101],[102,114,111,109],[108,105,109,105,116]]
def Kd (s:Str):Bool:=words.any (·==s)
theorem br:words.length=22:=rfl
theorem AJb {α:Type} {p:α→Bool} {l:List α} {i:Nat} (h:i<l.length) (hp:p l[i]=true):l.any p=true:=by
 rw [K7];exact ⟨l[i],B1 h,hp⟩
theorem ABx {α:Type} {p:α→Bool} {l:List α} (h:∀(j:Nat) (y:α),l[j]? = some y→p y=false):l.any p=false:=by
 rw [L4]
 intro x hx
 obtain ⟨j,hj⟩:=Cm hx
 simp [h j x hj]
theorem Cc {α:Type} {l:List α} {x:Nat} {p:α→Prop} (hlt:x<l.length) (h:∀(j:Nat) (y:α),j<x→l[j]? = some y→p y) (hx:p l[x]):∀(j:Nat) (y:α),j<x+1→l[j]? = some y→p y:=by
 intro j y hj hy
 rcases Bv j x with h'|h'
 ·exact h j y h' hy
 have:j=x:=by omega
 subst this
 rw [Ab hlt] at hy
 injection hy with hy
 subst hy
 exact hx
theorem Ng {α:Type} {l:List α} {x:Nat} {p:α→Prop} (hge:l.length≤x) (h:∀(j:Nat) (y:α),j<x→l[j]? = some y→p y):∀(j:Nat) (y:α),l[j]? = some y→p y:=
 fun j y hy=>h j y (by have:=(Ad.1 hy).1;omega) hy
theorem c98 (s:Str) (Hp:List AObj):AFun Tryz.prog 98 [Ae s] Hp (Bk (Kd s)):=by
 refine Af [.tmp 2] [0] Tryz.func98 Tryz.ntmps98 (fun d=>?_)
 refine Z43 ?_;refine jt ?_;refine L1 ?_;refine Ln ?_;refine Z32 ?_;refine al ?_
 refine B7 (α:=Nat) (fun x=>⟨18,A7 0 (Ae s) (A7 3 (.slice true 1 (words.map Ae)) (A7 4 (A5 (x:Nat)) (fun _=>.any))),Hp,[],[],none⟩) (fun x=>x≤words.length∧∀(j:Nat) (y:Str),j<x→words[j]? = some y→(y==s)=false) (fun x=>words.length-x) (0) (by simp) (G8 _) rfl (fun x hx=>?_)
 refine Z60 ?_;refine A2 [0,3,4,9] ?_
 refine A3 (fun ht9=>?_) (fun ht9=>?_)
 ·have hlt:x<words.length:=by simpa using ht9
  have hwl:=br
  refine Su ?_
  refine A4 (h:=Ac (x) (Ae words[x]) (fun _=>Ax hlt)) (hr:=?_)
  refine Z22 ?_;refine A2 [0,3,4,17] ?_
  refine A3 (fun ht17=>?_) (fun ht17=>?_)
  ·refine gg ?_;exact A8 (Ah A6) ⟨by rw [show Kd s=true from AJb hlt ht17],rfl⟩
  refine Z81 ?_;refine al ?_;exact Bb (x+1) ⟨hlt,Cc hlt hx.2 ht17⟩ (by have:=br;omega) (Cg rfl)
 refine ol ?_;exact A8 (Ah A6) ⟨by rw [show Kd s=false from ABx (Ng (by simp at ht9;omega) hx.2)],rfl⟩

def Nh (c:UInt8):Bool:=Ia c || U5 c || c==95
def Md (s:Str):Bool:=match s with
 | []=>false
 | c::_=>decide (s.length≤16)&&Ia c && !Kd s&&s.all Nh
theorem ABy {α:Type} {p:α→Bool} {l:List α} {i:Nat} (h:i<l.length) (hp:p l[i]=false):l.all p=false:=by
 rw [Rc];exact ⟨l[i],B1 h,by simp [hp]⟩
theorem AJc {α:Type} {p:α→Bool} {l:List α} (h:∀(j:Nat) (y:α),l[j]? = some y→p y=true):l.all p=true:=by
 rw [B2]
 intro x hx
 obtain ⟨j,hj⟩:=Cm hx
 exact h j x hj
theorem nn {s:Str} {b:Bool} (h:((((s.length:Int)==0) || b)==false)=true):s≠[]:=by rintro rfl;simp at h
theorem U6 {s:Str} (h:s≠[]):s[0]? = some (s.headD 0):=by cases s with
 | nil=>exact absurd rfl h
 | cons c r=>rfl
theorem Xp (s:Str):Md s=(!((s.length:Int)==0 || decide ((16:Int)<s.length) || !Ia (s.headD 0) || Kd s)&&s.all Nh):=by
 cases s with
 | nil=>rfl
 | cons c r =>
  have h1:(((c::r).length:Int)==0)=false:=by simp;omega
  have h2:decide ((c::r).length≤16) = !decide ((16:Int)<(c::r).length):=by
   by_cases h:(c::r).length≤16
   ·have:¬((16:Int)<(c::r).length):=by omega
    simp only [h,this,decide_true,decide_false,Tq]
   have:((16:Int)<(c::r).length):=by omega
   simp only [h,this,decide_true,decide_false,Il]
  simp only [Md,h1,h2,List.headD_cons,Bool.not_or,Bool.not_not,B4]
theorem AFx {c:UInt8} (h:((!Ia c && !U5 c)&&((c.toNat:Int) != 95))=false):Nh c=true:=by
 unfold Nh
 have e:((c.toNat:Int) != 95) = !(c==95):=by
  by_cases hc:c=95
  ·subst hc;rfl
  have:c.toNat≠95:=fun h=>hc (Sj.1 h)
  have:(c.toNat:Int)≠95:=by omega
  rw [bne_iff_ne.2 this,beq_eq_false_iff_ne.2 hc];rfl
 rw [e] at h
 revert h
 cases Ia c<;>cases U5 c<;>cases (c==95)<;>simp
theorem AFy {c:UInt8} (h:((!Ia c && !U5 c)&&((c.toNat:Int) != 95))=true):Nh c=false:=by
 unfold Nh
 have e:((c.toNat:Int) != 95) = !(c==95):=by
  by_cases hc:c=95
  ·subst hc;rfl
  have:c.toNat≠95:=fun h=>hc (Sj.1 h)
  have:(c.toNat:Int)≠95:=by omega
  rw [bne_iff_ne.2 this,beq_eq_false_iff_ne.2 hc];rfl
 rw [e] at h
 revert h
 cases Ia c<;>cases U5 c<;>cases (c==95)<;>simp
theorem c52 (s:Str) (hs:s.length≤1048576) (Hp:List AObj):AFun Tryz.prog 52 [Ae s] Hp (Bk (Md s)):=by
 refine Af [.tmp 2] [0] Tryz.func52 Tryz.ntmps52 (fun d=>?_)
 refine Z43 ?_;refine Z60 ?_;refine Z99 ?_;refine Bi ?_
 refine Bi (h:=O6 0 (s.headD 0) (fun hB=>U6 (nn hB))) (hr:=?_)
 refine Bt Tryz.call97 (fun hB=>c97 (s.headD 0) _) ?_;refine Bi ?_;refine Qx ?_;refine Bt Tryz.call98 (fun hB=>c98 s _) ?_;refine A4 ?_;refine A2 [0,21] ?_
 refine A3 (fun ht21=>?_) (fun ht21=>?_)
 ·refine Z25 ?_;refine C4 ?_;exact A8 (Ah A6) ⟨by rw [Xp,ht21];rfl,rfl⟩
 refine AB9 ?_
 refine B7 (α:=Nat) (fun x=>⟨46,A7 0 (Ae s) (A7 3 (A5 (x:Nat)) (fun _=>.any)),Hp,[],[],none⟩) (fun x=>x≤s.length∧∀(j:Nat) (y:UInt8),j<x→s[j]? = some y→Nh y=true) (fun x=>s.length-x) (0) (by simp) (G8 _) rfl (fun x hx=>?_)
 refine Z60 ?_;refine A2 [0,3,25] ?_
 refine A3 (fun ht25=>?_) (fun ht25=>?_)
 ·have hlt:x<s.length:=by simpa using ht25
  refine Su ?_
  refine A4 (h:=O6 x s[x] (fun _=>Ab hlt)) (hr:=?_)
  refine Aa Tryz.call97 (c97 s[x] _) ?_;refine Z47 ?_
  refine Bi (h:=O6 x s[x] (fun _=>Ab hlt)) (hr:=?_)
  refine Bt Tryz.call99 (fun hB=>c99 s[x] _) ?_;refine Bi ?_;refine Z47 ?_
  refine Bi (h:=O6 x s[x] (fun _=>Ab hlt)) (hr:=?_)
  refine Qu ?_;refine A2 [0,3,45] ?_
  refine A3 (fun ht45=>?_) (fun ht45=>?_)
  ·refine gg ?_;exact A8 (Ah A6) ⟨by rw [Xp,ht21,ABy hlt (AFy ht45)];rfl,rfl⟩
  refine wq ?_;exact Bb (x+1) ⟨hlt,Cc hlt hx.2 (AFx ht45)⟩ (by omega) (Cg rfl)
 refine ol ?_;exact A8 (Ah A6) ⟨by rw [Xp,ht21,AJc (Ng (by simp at ht25;omega) hx.2)];rfl,rfl⟩

def B6 (nm:Str) (c:List Col):Int:=match c.findIdx? (fun y=>y.name==nm) with|some i=>i|none => -1
theorem Xq {nm:List UInt8} {c:List Col} {x:Nat} (h:x<c.length) (h1:c[x].name=nm) (h2:∀(j:Nat) (y:Col),j<x→c[j]? = some y→¬(y.name=nm)):B6 nm c=x:=by
 have:c.findIdx? (fun y=>y.name==nm)=some x:=by
  rw [L7]
  exact ⟨h,by simpa using h1,fun j hj=>by simpa using h2 j c[j] hj (Ab _)⟩
 simp [B6,this]
theorem ph {nm:List UInt8} {c:List Col} (h:∀(j:Nat) (y:Col),c[j]? = some y→¬(y.name=nm)):B6 nm c = -1:=by
 have:c.findIdx? (fun y=>y.name==nm)=none:=by
  rw [P1]
  intro y hy
  obtain ⟨j,hj⟩:=Cm hy
  simpa using h j y hj
 simp [B6,this]
structure OkCols (c:List Col):Prop where
 len:c.length≤1048576
 names:∀y∈c,y.name.length≤1048576
theorem c25 (c:List Col) (hc:OkCols c) (nm:Str) (Hp:List AObj):AFun Tryz.prog 25 [Am c,Ae nm] Hp (A5 (B6 nm c)):=by
 refine Af [.tmp 4] [0,1] Tryz.func25 Tryz.ntmps25 (fun d=>?_)
 refine Z61 ?_;refine Z32 ?_;refine A2 [0,1,5] ?_
 refine B7 (α:=Nat) (fun x=>⟨20,A7 0 (Am c) (A7 1 (Ae nm) (A7 5 (A5 (x:Nat)) (fun _=>.any))),Hp,[],[],none⟩) (fun x=>x≤c.length∧∀(j:Nat) (y:Col),j<x→c[j]? = some y→¬(y.name=nm)) (fun x=>c.length-x) (0) (by simp) (G8 _) rfl (fun x hx=>?_)
 refine Z60 ?_;refine A2 [0,1,5,9] ?_
 refine A3 (fun ht9=>?_) (fun ht9=>?_)
 ·have hlt:x<c.length:=by simpa using ht9
  have hcl:=hc.len
  refine Su ?_
  refine A4 (h:=Ac (x) (Bq c[x]) (fun _=>Ax hlt)) (hr:=?_)
  refine Z89 ?_;refine A2 [0,1,5,18] ?_
  refine A3 (fun ht18=>?_) (fun ht18=>?_)
  ·refine AB6 ?_;refine Z45 ?_;exact A8 (Ah A6) ⟨by rw [Xq hlt (by simpa using ht18) hx.2],rfl⟩
  refine Z81 ?_;refine A2 [0,1,5] ?_;exact Bb (x+1) ⟨hlt,Cc hlt hx.2 (by simpa using ht18)⟩ (by omega) (Cg rfl)
 refine Z55 ?_;exact ALc

def Sv (c:List Col) (x:Nat) (y:Col):Bool := !(((!Md y.name || decide (y.kind<1)) || decide ((3:Int)<y.kind)) || (B6 y.name c != (x:Int)))
def Hw (c:List Col):Bool:=c.zipIdx.all fun x=>Sv c x.2 x.1
theorem colsM_true {c:List Col}:Hw c=true↔∀(j:Nat) (y:Col),c[j]? = some y→Sv c j y=true:=by
 unfold Hw
 rw [B2]
 constructor
 ·intro h j y hj
  exact AMt
 rintro h ⟨y,j⟩ hx
 rw [Ms] at hx
 exact h j y hx
theorem Ke {α:Type} {l:List α} {x:Nat} {p:Nat→α→Prop} (hlt:x<l.length) (h:∀(j:Nat) (y:α),j<x→l[j]? = some y→p j y) (hx:p x l[x]):∀(j:Nat) (y:α),j<x+1→l[j]? = some y→p j y:=by
 intro j y hj hy
 rcases Bv j x with h'|h'
 ·exact h j y h' hy
 have:j=x:=by omega
 subst this
 rw [Ab hlt] at hy
 injection hy with hy
 subst hy
 exact hx
theorem Lx {α:Type} {l:List α} {x:Nat} {p:Nat→α→Prop} (hge:l.length≤x) (h:∀(j:Nat) (y:α),j<x→l[j]? = some y→p j y):∀(j:Nat) (y:α),l[j]? = some y→p j y:=
 fun j y hy=>h j y (by have:=(Ad.1 hy).1;omega) hy
theorem c60 (c:List Col) (hc:OkCols c) (Hp:List AObj):AFun Tryz.prog 60 [Am c] Hp (Bk (Hw c)):=by
 refine Af [.tmp 2] [0] Tryz.func60 Tryz.ntmps60 (fun d=>?_)
 refine k8 ?_;refine Ln ?_
 refine B7 (α:=Nat) (fun x=>⟨44,A7 0 (Am c) (A7 3 (A5 (x:Nat)) (fun _=>.any)),Hp,[],[],none⟩) (fun x=>x≤c.length∧∀(j:Nat) (y:Col),j<x→c[j]? = some y→Sv c j y=true) (fun x=>c.length-x) (0) (by simp) (G8 _) rfl (fun x hx=>?_)
 refine Z60 ?_;refine A2 [0,3,7] ?_
 refine A3 (fun ht7=>?_) (fun ht7=>?_)
 ·have hlt:x<c.length:=by simpa using ht7
  have hcl:=hc.len
  refine Su ?_
  refine A4 (h:=Ac (x) (Bq c[x]) (fun _=>Ax hlt)) (hr:=?_)
  refine Z0 ?_;refine Aa Tryz.call52 (c52 c[x].name (hc.names _ (B1 hlt)) _) ?_;refine Z47 ?_
  refine Bi (h:=Ac (x) (Bq c[x]) (fun _=>Ax hlt)) (hr:=?_)
  refine Xm ?_
  refine Bi (h:=Ac (x) (Bq c[x]) (fun _=>Ax hlt)) (hr:=?_)
  refine Z99 ?_;refine Z39 ?_
  refine Bi (h:=Ac (x) (Bq c[x]) (fun _=>Ax hlt)) (hr:=?_)
  refine Z7 ?_;refine Bt Tryz.call25 (fun hB=>c25 c hc c[x].name _) ?_;refine Qw ?_;refine A2 [0,3,43] ?_
  refine A3 (fun ht43=>?_) (fun ht43=>?_)
  ·refine gg ?_
   exact A8 (Ah A6) ⟨by rw [show Hw c=false from Ik.2 fun h=>by have:=colsM_true.1 h x c[x] (Ab hlt);unfold Sv at this;rw [ht43] at this;cases this],rfl⟩
  refine wq ?_;exact Bb (x+1) ⟨hlt,Ke hlt hx.2 (by unfold Sv;rw [ht43];rfl)⟩ (by omega) (Cg rfl)
 refine ol ?_;exact A8 (Ah A6) ⟨by rw [colsM_true.2 (Lx (by simp at ht7;omega) hx.2)],rfl⟩

def Ct (c:List Col):Bool:=decide ((c.length:Int)≤12)&&Hw c
theorem c24 (c:List Col) (hc:OkCols c) (Hp:List AObj):AFun Tryz.prog 24 [Am c] Hp (Bk (Ct c)):=by
 refine Af [.tmp 2] [0] Tryz.func24 Tryz.ntmps24 (fun d=>?_)
 refine Z43 ?_;refine oi ?_;refine Bt Tryz.call60 (fun hB=>c60 c hc _) ?_;refine Z49 ?_;exact A8 (Ah A6) ⟨by unfold Ct;simp,rfl⟩

def E2 (v:Val):Bool:=if v.kind==0 then v.n==0&&v.s==[] else if v.kind==1 then v.s==[] else if v.kind==2 then v.n==0&&decide ((v.s.length:Int)≤200) else v.kind==3&&v.s==[]&&decide (0≤v.n)&&decide (v.n≤1)
theorem APb (v:Val) (Hp:List AObj):AFun Tryz.prog 146 [C3 v] Hp (Bk (E2 v)):=by
 refine Af [.tmp 2] [0] Tryz.func146 Tryz.ntmps146 (fun d=>?_)
 refine wx ?_;refine A4 ?_;refine A2 [1] ?_;refine Z36 ?_;refine A2 [1,5] ?_
 refine A3 (fun ht5=>?_) (fun ht5=>?_)
 ·refine Z27 ?_;refine Z39 ?_;refine Z49 ?_;refine C4 ?_;exact AMu
 refine ak ?_;refine A2 [1,16] ?_
 refine A3 (fun ht16=>?_) (fun ht16=>?_)
 ·refine Z27 ?_;refine Z3 ?_;refine C4 ?_;exact A8 (Ah A6) ⟨by simp [E2,ht5,ht16],rfl⟩
 refine ak ?_;refine A2 [1,22] ?_
 refine A3 (fun ht22=>?_) (fun ht22=>?_)
 ·refine Z27 ?_;refine Z7 ?_;refine js ?_;refine C4 ?_;exact AMv
 refine Z5 ?_;refine oo ?_;refine Z99 ?_;refine Z39 ?_;refine Z49 ?_;exact AMv

theorem AJd (e:Bool) (n:Int):(e&&(n==0 || n==1))=(e&&decide (0≤n)&&decide (n≤1)):=by
 cases e
 ·rfl
 rw [eg]
 simp
 omega
theorem c37 (v:Val) (Hp:List AObj):AFun Tryz.prog 37 [C3 v] Hp (Bk (E2 v)):=by
 refine Af [.tmp 2] [0] Tryz.func37 Tryz.ntmps37 (fun d=>?_)
 refine wx ?_;refine A4 ?_;refine A2 [1] ?_;refine Z8 ?_;refine A2 [1,4] ?_;refine Pj ?_;refine A2 [1,4,5] ?_
 refine A3 (fun ht5=>?_) (fun ht5=>?_)
 ·refine AMm ?_
  refine A4 (h:=X9 Xo (Jl v.kind v.n 0 0 v.s [])) (hr:=?_)
  refine A4 ?_;refine Z3 ?_;refine Z6 ?_;exact AMu
 refine Z1 ?_;refine A2 [1,4,10] ?_
 refine A3 (fun ht10=>?_) (fun ht10=>?_)
 ·refine Z27 ?_;refine Z3 ?_;refine Z6 ?_;exact A8 (Ah A6) ⟨by simp [E2,ht5,ht10],rfl⟩
 refine Z1 ?_;refine A2 [1,4,15] ?_
 refine A3 (fun ht15=>?_) (fun ht15=>?_)
 ·refine Z27 ?_;refine Z7 ?_;refine js ?_;refine Z6 ?_;exact A8 (Ah A6) ⟨by simp [E2,ht5,ht10,ht15],rfl⟩
 refine Z1 ?_;refine A2 [1,26] ?_
 refine A3 (fun ht26=>?_) (fun ht26=>?_)
 ·refine Z27 ?_;refine Wa ?_;refine Z7 ?_;refine js ?_;refine Z6 ?_;exact A8 (Ah A6) ⟨by simp [E2,ht5,ht10,ht15,ht26];rw [AJd],rfl⟩
 refine jx ?_;exact A8 (Ah A6) ⟨by simp [E2,ht5,ht10,ht15,ht26],rfl⟩

def N0 (c:List Col):Bool:=decide ((50:Int)<c.length) || c.any fun y=>decide ((100:Int)<y.name.length)
theorem Rp {α:Type} {c:List α} {p:Nat→α→Bool}:(c.zipIdx.all fun x=>p x.2 x.1)=true↔∀(j:Nat) (y:α),c[j]? = some y→p j y=true:=by
 rw [B2]
 constructor
 ·intro h j y hj
  exact AMt
 rintro h ⟨y,j⟩ hx
 rw [Ms] at hx
 exact h j y hx
theorem APc (y:Col) (nm:Str) (Hp:List AObj):AFun Tryz.prog 105 [Bq y,.ro [Ae nm]] Hp (Bk (y.name==nm)):=by
 refine Af [.tmp 3] [0,1] Tryz.func105 Tryz.ntmps105 (fun d=>?_)
 refine Z1 ?_;refine A2 [1,2] ?_;refine Z1 ?_;refine Z22 ?_;refine A2 [3] ?_;refine Gn ?_;exact ow

theorem APd (c:List Col) (hc:OkCols c) (nm:Str) (Hp:List AObj):AFun Tryz.prog 104 [Am c,.fn (.func 105) [] [.ro [Ae nm]]] Hp (A5 (B6 nm c)):=by
 refine Af [.tmp 4] [0,1] Tryz.func104 Tryz.ntmps104 (fun d=>?_)
 refine x9 ?_
 refine B7 (α:=Nat) (fun x=>⟨19,A7 0 (Am c) (A7 1 (.fn (.func 105) [] [.ro [Ae nm]]) (A7 7 (A5 c.length) (A7 8 (A5 (x:Nat)) (fun _=>.any)))),Hp,[],[],none⟩) (fun x=>x≤c.length∧∀(j:Nat) (y:Col),j<x→c[j]? = some y→¬(y.name=nm)) (fun x=>c.length-x) (0) (by simp) (Bo (by simp)) rfl (fun x hx=>?_)
 refine wo ?_
 refine Dm (fun ht9=>?_) (fun ht9=>?_)
 ·have hlt:x<c.length:=by simpa using ht9
  have hcl:=hc.len
  refine x8 ?_
  refine A4 (h:=Ac (x) (Bq c[x]) (fun _=>Ax hlt)) (hr:=?_)
  refine A4 ?_;refine U1 Tryz.call105 (APc c[x] nm _) ?_;refine xb ?_
  refine A3 (fun ht16=>?_) (fun ht16=>?_)
  ·refine AB6 ?_;refine Z45 ?_;exact A8 (Ah A6) ⟨by rw [Xq hlt (by simpa using ht16) hx.2],rfl⟩
  refine Z97 ?_;refine A2 [0,1,7,8] ?_;exact Bb (x+1) ⟨hlt,Cc hlt hx.2 (by simpa using ht16)⟩ (by omega) (Cg rfl)
 refine Z28 ?_;exact ALc

theorem c58 (c:List Col) (hc:OkCols c) (nm:Str) (Hp:List AObj):AFun Tryz.prog 58 [Am c,Ae nm] Hp (A5 (B6 nm c)):=by
 refine Af [.tmp 4] [0,1] Tryz.func58 Tryz.ntmps58 (fun d=>?_)
 refine od ?_;refine Z2 ?_;refine Ka ?_;refine Aa Tryz.call104 (APd c hc nm _) ?_;refine A4 ?_;exact o9

def Sw (s of:Str):Int:=(s.length:Int)-(Lib.trimLeftS s of).length
theorem Wm (s of:Str):(Lib.trimLeftS s of).length≤s.length:=by
 unfold Lib.trimLeftS
 exact (nd _).length_le
def Oc:Str:=[32,97,100,100,32,100,114,111,112,32,114,101,110,97,109,101,32,115,112,108,105,116,32,109,101,114,103,101,32,114,101,116,121,112,101,32,105,110,116,111,32,116,111,32,98,97,99,107,32,97,110,100,32,111,114,32,110,111,116,32,116,114,117,101,32,102,97,108,115,101,32,110,117,108,108,32,105,110,116,32,116,101,120,116,32,98,111,111,108,32,115,101,108,101,99,116,32,119,104,101,114,101,32,102,114,111,109,32,108,105,109,105,116,32]
def letters:Str:=[97,98,99,100,101,102,103,104,105,106,107,108,109,110,111,112,113,114,115,116,117,118,119,120,121,122]
def tails:Str:=[97,98,99,100,101,102,103,104,105,106,107,108,109,110,111,112,113,114,115,116,117,118,119,120,121,122,48,49,50,51,52,53,54,55,56,57,95]
theorem c81 (s of:Str) (hs:s.length≤1048576) (ho:of.length≤1048576) (ha:∀c∈of,c.toNat<128) (Hp:List AObj):AFun Tryz.prog 81 [Ae s,Ae of] Hp (A5 (Sw s of)):=by
 refine Af [.tmp 4] [0,1] Tryz.func81 Tryz.ntmps81 (fun d=>?_)
 refine Z61 ?_;refine Z27 ?_;refine Aa Tryz.call130 (AP5 s of (by omega) ha _) ?_;refine A4 ?_
 have htl:=Wm s of
 refine Z0 ?_;exact o9

def Ib (s:Str):Bool:=(!(s==[]) && !Lib.contains s [32])&&Lib.contains Oc ([32]++s++[32])
theorem c82 (s:Str) (hs:s.length≤1048576) (Hp:List AObj):AFun Tryz.prog 82 [Ae s] Hp (Bk (Ib s)):=by
 refine Af [.tmp 2] [0] Tryz.func82 Tryz.ntmps82 (fun d=>?_)
 refine Z43 ?_;refine Z17 ?_;refine Bi ?_;refine Bt Tryz.call131 (fun hB=>xe s [32] (by omega) _) ?_;refine Bi ?_;refine Z0 ?_;refine Z39 ?_;refine Bt Tryz.call131 (fun hB=>xe Oc ([32]++s++[32]) (by decide) _) ?_;exact AB2

theorem AJe {s:Str} {b c:Bool} (h:(((!(s==[])&&b)&&c)==true)=true):1≤s.length:=by
 cases s with
 | nil=>simp at h
 | cons x r=>simp
def Dk (s:Str):Bool:=((((!(s==[])&&decide ((s.length:Int)≤16))&&(Sw s tails==(s.length:Int)))&&(Sw (s.take 1) letters==1)) && !Ib s)
theorem c40 (s:Str) (hs:s.length≤1048576) (Hp:List AObj):AFun Tryz.prog 40 [Ae s] Hp (Bk (Dk s)):=by
 refine Af [.tmp 2] [0] Tryz.func40 Tryz.ntmps40 (fun d=>?_)
 refine Z43 ?_;refine Z17 ?_;refine Z99 ?_;refine Bi ?_;refine Bt Tryz.call81 (fun hB=>c81 s tails hs (by decide) (by decide) _) ?_;refine Z99 ?_;refine Bi ?_
 refine Bi (h:=M8 1 (fun _=>Ar _) (fun hB=>AJe hB)) (hr:=?_)
 refine Bt Tryz.call81 (fun hB=>c81 (s.take 1) letters (by simp;omega) (by decide) (by decide) _) ?_
 refine Bi ?_;refine Qx ?_;refine Bt Tryz.call82 (fun hB=>c82 s hs _) ?_;refine Bi ?_;exact AB2

end Go.SX.Nb
namespace Go.SX.Nb
open Go Go.SX Go.Proofs Go.RowKit
variable [ErrAt]
set_option maxRecDepth 4000
theorem APe (s t:Str) (Hp:List AObj):AFun Tryz.prog 277 [Ae s,Ae t] Hp (Ae (Lib.trimPrefix s t)):=by
 refine Mz (xs:=[sv s,sv t]) (v:=sv (Lib.trimPrefix s t)) (fun G w=>.v _ _) (fun w hg=>?_)
 refine (Any.strings_TrimPrefix Tryz.lays101 ⟨s.toArray⟩ ⟨t.toArray⟩ w).mono ?_
 rintro e w' ⟨rfl,rfl⟩
 exact xa
theorem APf (s t:Str) (hs:s.length≤9223372036854775807) (ht:t.length<4294967281) (ha:∀c∈t,c.toNat<128) (Hp:List AObj):AFun Tryz.prog 278 [Ae s,Ae t] Hp (Ae (Lib.trimS s t)):=by
 refine Mz (xs:=[sv s,sv t]) (v:=sv (Lib.trimS s t)) (fun G w=>.v _ _) (fun w hg=>?_)
 refine (Any.strings_Trim_laid Tryz.lays160 (by kernel_rfl) ⟨s.toArray⟩ ⟨t.toArray⟩ w (by simpa [ByteArray.size] using hs) (by simpa [ByteArray.size] using ht) (fun j b hj=>ha b (B0 hj))).mono ?_
 rintro e w' ⟨rfl,hb⟩
 exact ⟨rfl,hb⟩
theorem AFz (s:Str) (hs:s.length≤1048576) (v:Int) (h:Lib.parseIntB 64 s=.ok v) (Hp:List AObj):AFun Tryz.prog 279 [Ae s,A5 10,A5 64] Hp (.tup [A5 v,.v .nilIface]):=by
 refine Mz (xs:=[sv s,.int .i64 10,.int .i64 64]) (v:=.tuple #[.int .i64 v,.nilIface]) (fun G w=>O4 rfl (fun i y u hy hu=>?_)) (fun w hg=>?_)
 ·match i with
  | 0=>simp at hy hu;subst hy;subst hu;exact .v _ _
  | 1=>simp at hy hu;subst hy;subst hu;exact .v _ _
  | i+2=>simp at hy
 refine (Any.strconv_ParseInt_10_at64_ok Tryz.lays174 ⟨s.toArray⟩ (by simp [ByteArray.size];omega) v h w).mono ?_
 rintro e w' ⟨rfl,rfl|⟨t,rfl⟩⟩
 ·exact xa
 exact ⟨rfl,Lib.bytesWorld_below _ _ _⟩
def U7 (s:Str):AV:=.iface 324 (.ro [.v (sv [80,97,114,115,101,73,110,116]),.v (sv s),.v (.iface 347 (.pointer (some ErrAt.b)))])
theorem pi (s:Str) (hs:s.length≤1048576) (h:Lib.parseIntB 64 s=.range) (Hp:List AObj):AFun Tryz.prog 279 [Ae s,A5 10,A5 64] Hp (.tup [A5 (Lib.intSat 64 s),U7 s]):=by
 refine AFun.libErr (xs:=[sv s,.int .i64 10,.int .i64 64]) (n:=.int .i64 (Lib.intSat 64 s)) (cs:=[sv [80,97,114,115,101,73,110,116],sv s,.iface 347 (.pointer (some ErrAt.b))]) (te:=343) (fun y hy=>?_) (fun w hg=>?_)
 ·simp only [B5,El,or_false] at hy
  rcases hy with rfl|rfl|rfl<;>rfl
 refine (Any.strconv_ParseInt_10_at64_range Tryz.lays174 ⟨s.toArray⟩ (by simp [ByteArray.size];omega) h (.iface 347 (.pointer (some ErrAt.b))) w (Va hg) (.inr ⟨_,_,rfl⟩)).mono ?_
 rintro e w' ⟨N,rfl,h1,h2,h3⟩
 exact ⟨N,rfl,h1,h2,h3⟩
theorem ABz (Hp:List AObj):AFun Tryz.prog 280 [.v .nilIface,.v (.iface 347 (.pointer (some ErrAt.b)))] Hp (Bk false):=by
 refine Mz (xs:=[.nilIface,.iface 347 (.pointer (some ErrAt.b))]) (v:=.bool false) (fun G w=>.v _ _) (fun w hg=>?_)
 refine (Tryz.is_nil _ w).mono ?_
 rintro e w' ⟨rfl,rfl⟩
 exact xa
theorem pj (s:Str) (Hp:List AObj):AFun Tryz.prog 280 [U7 s,.v (.iface 347 (.pointer (some ErrAt.b)))] Hp (Bk true):=by
 intro d G w vs hn hv hH hT _
 have hsz:vs.size=2:=hn
 have h0:=hv 0 (U7 s) vs[0] rfl (F9 (by omega))
 have h1:=P6 (hv 1 (.v (.iface 347 (.pointer (some ErrAt.b)))) vs[1] rfl (F9 (by omega)))
 have hvs:vs=#[vs[0],vs[1]]:=by
  apply AA7
  ·exact hsz
  intro i hi1 hi2
  match i with
  | 0=>rfl
  | 1=>rfl
  | i+2=>omega
 unfold U7 at h0
 generalize vs[0]=u0 at h0 hvs
 cases h0 with
 | iface _ _ _ u h =>
  cases h with
  | ro _ _ ad f hs h1' hf hr =>
   obtain ⟨ab,ao,asp⟩:=ad
   simp only at hs
   subst hs
   have hc:=(hf 2 _ rfl).2
   have he:=P6 (hr 2 _ rfl)
   rw [he] at hc
   rw [hvs,h1]
   refine (callsIn_wide.2 (Tryz.is_range ab ao ErrAt.b w hc)).mono ?_
   rintro e w' ⟨rfl,rfl⟩
   exact ⟨_,G,_,Hp,rfl,.v _ _,hH,hT,H6 _ _ _,rfl,rfl,rfl⟩
end Go.SX.Nb
namespace Go.SX.Nb
open Go Go.SX Go.Proofs
variable [ErrAt]
set_option maxRecDepth 4000
def kc:Str:=[32,105,110,116,32,116,101,120,116,32,98,111,111,108]
def kindNames:List Str:=[[],[105,110,116],[116,101,120,116],[98,111,111,108]]
theorem xf:Po kc [32]=kindNames:=by kernel_rfl
def Cl (k:Int):Str:=if k<1∨3<k then [] else kindNames.getD k.toNat []
theorem c76 (k:Int) (Hp:List AObj):AFun Tryz.prog 76 [A5 k] Hp (Ae (Cl k)):=by
 refine Af [.tmp 2] [0] Tryz.func76 Tryz.ntmps76 (fun d=>?_)
 refine k9 ?_;refine Qw ?_;refine A2 [0,8] ?_
 refine A3 (fun ht8=>?_) (fun ht8=>?_)
 ·refine Z25 ?_;refine C4 ?_;exact A8 (Ah A6) ⟨by rw [show Cl k=[] from if_pos (by simpa using ht8)],rfl⟩
 refine x5 ?_
 have hk:1≤k∧k≤3:=by simp at ht8;omega
 have hget:(kindNames.map Ae)[k.toNat]? = some (Ae (kindNames.getD k.toNat [])):=by
  have hlt:k.toNat<kindNames.length:=by show k.toNat<4;omega
  rw [Cf,Ab hlt,C9,Ab hlt]
  rfl
 refine Aa Tryz.call122 (xf ▸ AJa kc [32] (by decide) (by decide) _) ?_;refine A4 ?_
 refine A4 (h:=Ac (k.toNat) (Ae (kindNames.getD k.toNat [])) (fun _=>hget)) (hr:=?_)
 refine Z49 ?_;exact A8 (Ah A6) ⟨by rw [show Cl k=kindNames.getD k.toNat [] from if_neg (by omega)],rfl⟩

def Qj (s of:Str):Bool:=(!(s==[]) && !Lib.contains s [32])&&Lib.contains of ([32]++s++[32])
theorem ANm (s of:Str) (hs:s.length≤1048576) (ho:of.length≤1048576) (Hp:List AObj):AFun Tryz.prog 125 [Ae s,Ae of] Hp (Bk (Qj s of)):=by
 refine Af [.tmp 4] [0,1] Tryz.func125 Tryz.ntmps125 (fun d=>?_)
 refine Z61 ?_;refine Z17 ?_;refine Bi ?_;refine Bt Tryz.call131 (fun hB=>xe s [32] (by omega) _) ?_;refine Bi ?_;refine ot ?_;refine Bt Tryz.call131 (fun hB=>xe of ([32]++s++[32]) (by omega) _) ?_;refine Z0 ?_;exact o9

def bt:Str:=[108,101,110,58,49,32,115,116,114,58,49,32,110,117,109,58,49,32,105,115,110,117,108,108,58,49,32,110,118,108,58,50,32,108,101,102,116,58,50,32,114,105,103,104,116,58,50,32,105,102,58,51]
def arityList:List (Str×UInt8):=[([108,101,110],49),([115,116,114],49),([110,117,109],49),([105,115,110,117,108,108],49),([110,118,108],50),([108,101,102,116],50),([114,105,103,104,116],50),([105,102],51)]
def Ku (p:Str×UInt8):Str:=p.1++[58,p.2]
theorem pk:Po bt [32]=arityList.map Ku:=by kernel_rfl
theorem AC0 {p:Str×UInt8} (hp:p∈arityList):Lib.cut (Ku p) [58]=(p.1,[p.2],true):=by
 have h:(arityList.all fun p=>decide (Lib.cut (Ku p) [58]=(p.1,[p.2],true)))=true:=by kernel_rfl
 exact of_decide_eq_true (B2.1 h p hp)
def AJf (p:Str×UInt8):Int:=IntKind.i64.wrap (IntKind.u8.wrap ((p.2.toNat:Int)-48))
def Ch (nm:Str):Int:=match arityList.find? (fun p=>p.1==nm) with|some p=>AJf p|none => -1
theorem gr {α:Type} {p:α→Bool} {l:List α} {x:Nat} (h:x<l.length) (hp:p l[x]=true) (h2:∀(j:Nat) (y:α),j<x→l[j]? = some y→p y=false):l.find? p=some l[x]:=by
 rw [AAd]
 exact ⟨hp,x,h,rfl,fun j hj=>by simpa using h2 j l[j] hj (Ab _)⟩
theorem U8 {α:Type} {p:α→Bool} {l:List α} (h:∀(j:Nat) (y:α),l[j]? = some y→p y=false):l.find? p=none:=by
 rw [M2]
 intro y hy
 obtain ⟨j,hj⟩:=Cm hy
 simpa using h j y hj
theorem U9:arityList.length=8:=rfl
theorem xg {p:Str×UInt8} (hp:p∈arityList):(Ku p).length<4294967281:=by
 have h:(arityList.all fun p=>decide ((Ku p).length<4294967281))=true:=by kernel_rfl
 exact of_decide_eq_true (B2.1 h p hp)
theorem AJg (nm:Str) (Hp:List AObj):AFun Tryz.prog 126 [Ae nm] Hp (A5 (Ch nm)):=by
 refine Af [.tmp 2] [0] Tryz.func126 Tryz.ntmps126 (fun d=>?_)
 refine Z43 ?_;refine Z67 ?_;refine Aa Tryz.call122 (pk ▸ AJa bt [32] (by decide) (by decide) _) ?_;refine Z0 ?_;refine A2 [0,8,9,10] ?_
 refine B7 (α:=Nat) (fun x=>⟨28,A7 0 (Ae nm) (A7 8 (Gq (arityList.map Ku)) (A7 9 (A5 8) (A7 10 (A5 (x:Nat)) (fun _=>.any)))),Hp,[],[],none⟩) (fun x=>x≤8∧∀(j:Nat) (y:Str×UInt8),j<x→arityList[j]? = some y→(y.1==nm)=false) (fun x=>8-x) (0) (by simp) (G8 _) rfl (fun x hx=>?_)
 refine Z2 ?_;refine A2 [0,8,9,10,11] ?_
 refine Dm (fun ht11=>?_) (fun ht11=>?_)
 ·have hlt:x<arityList.length:=by rw [U9];simp at ht11;omega
  have hal:=U9
  have hget:((arityList.map Ku).map Ae)[x]? = some (Ae (Ku arityList[x])):=by rw [Kq];exact Ax hlt
  refine Qr ?_
  refine A4 (h:=Ac (x) (Ae (Ku arityList[x])) (fun _=>hget)) (hr:=?_)
  refine Z0 ?_;refine A2 [0,4,8,9,10] ?_;refine Z2 ?_;refine Aa Tryz.call163 ((AC0 (B1 hlt)) ▸ ANk (Ku arityList[x]) [58] (xg (B1 hlt)) _) ?_;refine Z0 ?_;refine Z75 ?_;refine A2 [0,5,6,8,9,10] ?_;refine Z17 ?_;refine A2 [0,6,8,9,10,22] ?_
  refine A3 (fun ht22=>?_) (fun ht22=>?_)
  ·refine Z2 ?_
   refine A4 (h:=O6 0 arityList[x].2 (fun _=>rfl)) (hr:=?_)
   refine A4 (h:=Q.sub) (hr:=?_)
   refine Z49 ?_;refine Z45 ?_;exact A8 (Ah A6) ⟨by rw [Ch,gr hlt ht22 hx.2];rfl,rfl⟩
  refine Z97 ?_;refine A2 [0,8,9,10] ?_;exact Bb (x+1) ⟨by omega,Cc hlt hx.2 ht22⟩ (by omega) (Cg rfl)
 have hal:=U9
 refine Z28 ?_;refine Z25 ?_;exact A8 (Ah A6) ⟨by rw [Ch,U8 (Ng (by simp at ht11;omega) hx.2)],rfl⟩

def pl (s:Str):Int:=match Lib.parseIntB 64 s with|.ok v=>v|_=>Lib.intSat 64 s
def ap (s:Str):Bool:=match Lib.parseIntB 64 s with|.ok _=>false|_=>true
def aq (s:Str):AV:=bif ap s then U7 s else .v .nilIface
theorem pm (s:Str):(aq s).strip=aq s:=by unfold aq;cases ap s<;>rfl
attribute [go_sem] pm
theorem APg (s:Str) (hs:s.length≤1048576) (h:AFw (Lib.parseIntB 64 s)=false) (Hp:List AObj):AFun Tryz.prog 279 [Ae s,A5 10,A5 64] Hp (.tup [A5 (pl s),aq s]):=by
 cases hp:Lib.parseIntB 64 s with
 | ok v =>
  have:=AFz s hs v hp Hp
  rwa [show v=pl s by unfold pl;rw [hp],show AV.v .nilIface=aq s by unfold aq ap;rw [hp];rfl] at this
 | range =>
  have:=pi s hs hp Hp
  rwa [show Lib.intSat 64 s=pl s by unfold pl;rw [hp],show U7 s=aq s by unfold aq ap;rw [hp];rfl] at this
 | _=>rw [hp] at h;cases h
theorem APh (s:Str) (Hp:List AObj):AFun Tryz.prog 280 [aq s,.v (.iface 347 (.pointer (some ErrAt.b)))] Hp (Bk (ap s)):=by
 unfold aq
 cases ap s
 ·exact ABz Hp
 exact pj s Hp
theorem AC1 (s t:Str):(Lib.trimPrefix s t).length≤s.length:=by
 unfold Lib.trimPrefix;split<;>simp
theorem xh {d:Str} {b:Bool} (h:(((d==[]) || b)==false)=true):d≠[]:=by rintro rfl;simp at h
theorem Rq:∀c∈digs,c.toNat<128:=by decide
theorem Xr (s:Str):((((Lib.trimPrefix s [45]==[]) || (Lib.trimS (Lib.trimPrefix s [45]) digs != [])) || ((((Lib.trimPrefix s [45]).headD 0).toNat:Int)==48&&decide ((1:Int)<s.length))))=Mc s:=by
 unfold Mc Vb
 have e1:((((Lib.trimPrefix s [45]).headD 0).toNat:Int)==48)=((Lib.trimPrefix s [45]).headD 0==48):=by
  rw [Bool.eq_iff_iff]
  simp only [beq_iff_eq]
  constructor
  ·intro h
   exact UInt8.toNat_inj.1 (by have:(48:UInt8).toNat=48:=rfl;omega)
  intro h;rw [h];rfl
 have e2:decide ((1:Int)<s.length)=decide (1<s.length):=by rw [decide_eq_decide];omega
 rw [e1,e2]
 rfl
theorem xi {s:Str} (hb:Mc s=false) (h:ap s=true):D5 s=(0,4):=by
 unfold D5
 rw [hb]
 have:=Pp hb
 unfold ap at h
 revert h this
 cases Lib.parseIntB 64 s with
 | ok v=>intro h;cases h
 | range=>intro _ _;rfl
 | _=>intro _ h;cases h
theorem AJh {s:Str} (hb:Mc s=false) (h:ap s=false):D5 s=(pl s,0):=by
 unfold D5 pl
 rw [hb]
 unfold ap at h
 revert h
 cases Lib.parseIntB 64 s with
 | ok v=>intro h;rfl
 | _=>intro h;cases h
theorem AC2 (s:Str):s.take (min s.length 200)=s.take 200:=by
 rcases Nat.le_total s.length 200 with h|h
 ·rw [Nat.min_eq_left h,List.take_of_length_le (Nat.le_refl _),List.take_of_length_le h]
 rw [Nat.min_eq_right h]
theorem ANn (s:Str) (hs:s.length≤1048576) (Hp:List AObj):AFun Tryz.prog 224 [Ae s] Hp (.tup [A5 (D5 s).1,A5 (D5 s).2]):=by
 refine ACall.body [.tmp 2,.tmp 3] [0] Tryz.func224 Tryz.ntmps224 (fun d=>?_)
 refine Z1 ?_;refine R.fin [0] ?_;refine Z2 ?_;refine R.call Tryz.call277 (APe s [45] _) ?_;refine R.go ?_;refine R.fin [0,4] ?_;refine Z36 ?_;refine G.go ?_
 refine G.call Tryz.call278 (fun hB=>APf (Lib.trimPrefix s [45]) digs (by have:=AC1 s [45];omega) (by decide) Rq _) ?_
 refine G.go ?_;refine Qx ?_
 refine G.go (h:=Q.sindex 0 ((Lib.trimPrefix s [45]).headD 0) (fun hB=>U6 (xh hB))) (hr:=?_)
 refine Wa ?_;refine Qw ?_;refine R.fin [0,25] ?_
 refine W.cond (fun ht25=>?_) (fun ht25=>?_)
 ·have hb:Mc s=true:=by rw [←Xr];exact ht25
  refine Z1 ?_;refine Z51 ?_;refine K.thR ?_;exact K.fin (V.two V.tmp V.tmp) ⟨by rw [D5,hb];rfl,rfl⟩
 have hb:Mc s=false:=by rw [←Xr];exact ht25
 refine Lm ?_;refine R.call Tryz.call279 (APg s hs (Pp hb) _) ?_;refine Z75 ?_;refine R.fin [5,6] ?_;refine Z32 ?_;refine R.loadGlob Tryz.isAgg175 (fun w hg=>Va hg) ?_;refine R.call Tryz.call280 (APh s _) ?_;refine R.fin [5,33] ?_
 refine W.cond (fun ht33=>?_) (fun ht33=>?_)
 ·refine Z1 ?_;refine Z51 ?_;refine K.thR ?_;exact K.fin (V.two V.tmp V.tmp) ⟨by rw [xi hb ht33],rfl⟩
 refine Z82 ?_;refine Z51 ?_;exact K.fin (V.two V.tmp V.tmp) ⟨by rw [AJh hb ht33],rfl⟩

theorem ANo (n:Int) (h0 : -9223372036854775808≤n) (h1:n≤9223372036854775807) (Hp:List AObj):AFun Tryz.prog 160 [A5 n] Hp (Ae (Lib.itoa n)):=by
 refine ACall.body [.tmp 2] [0] Tryz.func160 Tryz.ntmps160 (fun d=>?_)
 refine Z43 ?_;refine Z2 ?_;refine R.call Tryz.call207 (APa n h0 h1 _) ?_;refine R.go ?_;exact AF4

theorem c86 (Hp:List AObj):AFun Tryz.prog 86 [] Hp (C3 ⟨0,0,[]⟩):=by
 refine ACall.body [.cell 0 23] [] Tryz.func86 Tryz.ntmps86 (fun d=>?_)
 refine Z35 ?_;refine R.fin [0] ?_;refine Z93 ?_;refine Iq ?_;refine R.fin [0] ?_;refine AW.ret ?_;exact K.fin (V.one (V.cellN jA jS))

theorem AJi (n:Int) (Hp:List AObj):AFun Tryz.prog 221 [A5 n] Hp (C3 ⟨1,n,[]⟩):=by
 refine ACall.body [.cell 2 23] [0] Tryz.func221 Tryz.ntmps221 (fun d=>?_)
 refine Z76 ?_;refine AMm ?_;exact AF2

theorem c88 (b:Bool) (Hp:List AObj):AFun Tryz.prog 88 [Bk b] Hp (C3 ⟨3,if b then 1 else 0,[]⟩):=by
 refine ACall.body [.cell 2 23] [0] Tryz.func88 Tryz.ntmps88 (fun d=>?_)
 refine Z76 ?_;refine Z93 ?_;refine ju ?_;refine Z32 ?_;refine R.fin [2,3,5] ?_
 refine W.cond (fun ht5=>?_) (fun ht5=>?_)
 ·refine Z66 ?_;refine Iq ?_;refine Lo ?_;refine K.thN ?_;refine Z2 ?_;exact ALu
 refine Lm ?_;exact ALu

theorem xj (s:Str) (Hp:List AObj):AFun Tryz.prog 223 [Ae s] Hp (C3 ⟨2,0,s.take 200⟩):=by
 refine ACall.body [.cell 2 23] [0] Tryz.func223 Tryz.ntmps223 (fun d=>?_)
 refine Z76 ?_;refine Z17 ?_;refine R.minI ?_
 refine R.go (h:=Q.scutH (min s.length 200) (fun _=>Nat.zero_le _) (fun _=>Nat.min_le_left _ _) (hb:=fun _=>by split<;>omega)) (hr:=?_)
 refine oy ?_;refine Z15 ?_;exact K.fin (V.one (V.cellN jA jS)) ⟨by rw [AC2],rfl⟩

theorem pq {p s:Str} (h:p.isPrefixOf s=true):p.length≤s.length:=(List.isPrefixOf_iff_prefix.1 h).length_le
theorem pt (s o:Str) (h:0≤Lib.index s o):(Lib.index s o).toNat+o.length≤s.length:=by
 induction s with
 | nil =>
  unfold Lib.index at h ⊢
  split at h
  ·rename_i he
   rw [if_pos he]
   cases o with
   | nil=>simp
   | cons a b=>simp at he
  omega
 | cons b l ih =>
  unfold Lib.index at h ⊢
  split at h
  ·rename_i hp
   rw [if_pos hp]
   have:=pq hp
   simpa using this
  rename_i hp
  rw [if_neg hp]
  split at h
  ·omega
  rename_i hi
  rw [if_neg hi]
  have hg:=Lib.index_ge l o
  have hi':Lib.index l o ≠ -1:=by simpa using hi
  have:=ih (by omega)
  simp only [Aw]
  omega
def t8:Val:=⟨0,0,[]⟩
def K1 (b:Bool):Val:=⟨3,if b then 1 else 0,[]⟩
def AG0 (n:Int):Prop := -9223372036854775808≤n∧n≤9223372036854775807
def I6 (v:Val):Str:=
 if !E2 v then [] else if v.kind==1 then Lib.itoa v.n else if v.kind==2 then [39]++Lib.replaceAll v.s [39] [39,39]++[39]
 else if v.kind==0 then [110,117,108,108] else if v.n==1 then [116,114,117,101] else [102,97,108,115,101]
theorem xk {v:Val} (h:E2 v=true) (h2:(v.kind==2)=true):v.s.length≤200:=by
 have e:v.kind=2:=by simpa using h2
 unfold E2 at h
 rw [e] at h
 simp at h
 omega
theorem ke (s o:Str) (ho:1≤o.length):Lib.countB ⟨s.toArray⟩ ⟨o.toArray⟩≤s.length:=Lib.countB_le ⟨o.toArray⟩ (by simpa [ByteArray.size] using ho) s.length ⟨s.toArray⟩ (by simp [ByteArray.size])
theorem Vd (o n:Str) (B:Nat) (hn:n.length≤B*o.length) (hB:1≤B):∀(k:Nat) (s:Str),(Lib.replaceK o n k s).length≤B*s.length
 | 0,s=>by rw [Lib.replaceK];exact Wj _ hB
 | k+1,s=>by
  rw [Lib.replaceK]
  split
  ·exact Wj _ hB
  rename_i h
  have ih:=Vd o n B hn hB k (s.drop ((Lib.index s o).toNat+o.length))
  have hx:(Lib.index s o).toNat+o.length≤s.length:=by
   have hg:=Lib.index_ge s o
   have hi:Lib.index s o ≠ -1:=by simpa using h
   exact pt s o (by omega)
  simp only [Ai,I1,Ci] at ih ⊢
  have h1:min (Lib.index s o).toNat s.length≤B*(Lib.index s o).toNat:=Jg (Nat.min_le_left _ _) (Wj _ hB)
  have h2:B*s.length=B*(Lib.index s o).toNat+B*o.length+B*(s.length-((Lib.index s o).toNat+o.length)):=by
   rw [←Nat.mul_add,←Nat.mul_add];congr 1;omega
  omega
theorem ar (s o n:Str) (B:Nat) (hn:n.length≤B*o.length) (hB:1≤B):(Lib.replaceAll s o n).length≤B*s.length:=by
 unfold Lib.replaceAll Lib.replace
 split
 ·exact Wj _ hB
 exact Vd o n B hn hB _ s
theorem ANp (v:Val) (hn:AG0 v.n) (Hp:List AObj):AFun Tryz.prog 120 [C3 v] Hp (Ae (I6 v)):=by
 refine Af [.tmp 2] [0] Tryz.func120 Tryz.ntmps120 (fun d=>?_)
 refine Z90 ?_;refine Pl ?_;refine Aa Tryz.call37 (c37 v _) ?_;refine Z0 ?_;refine A2 [1,3] ?_
 refine A3 (fun ht3=>?_) (fun ht3=>?_)
 ·refine Z25 ?_;refine Z6 ?_;exact A8 (Ah A6) ⟨by simp only [I6,ht3,if_true],rfl⟩
 have hp:E2 v=true:=by simpa using ht3
 refine Z27 ?_;refine A2 [1,7] ?_
 refine A3 (fun ht7=>?_) (fun ht7=>?_)
 ·refine Z1 ?_;refine Aa Tryz.call160 (ANo v.n hn.1 hn.2 _) ?_;refine A4 ?_;refine Z3 ?_;refine Z6 ?_;exact A8 (Ah A6) ⟨by simp only [I6,hp,ht7,Il,Aq,if_false,if_true];try rfl,rfl⟩
 refine Z27 ?_;refine A2 [1,14] ?_
 refine A3 (fun ht14=>?_) (fun ht14=>?_)
 ·refine Z1 ?_
  have hl:=xk hp ht14
  have hrl:=ar v.s [39] [39,39] 2 (by decide) (by decide)
  refine Aa Tryz.call161 (ANl v.s [39] [39,39] (by omega) (by decide) (by have:=ke v.s [39] (by decide);simp;omega) _) ?_
  refine Z22 ?_;refine Z3 ?_;refine Z6 ?_;exact A8 (Ah A6) ⟨by simp only [I6,hp,ht7,ht14,Il,Aq,if_false,if_true];try rfl,rfl⟩
 refine Z27 ?_;refine A2 [1,23] ?_
 refine A3 (fun ht23=>?_) (fun ht23=>?_)
 ·refine Z25 ?_;refine Z6 ?_;exact A8 (Ah A6) ⟨by simp only [I6,hp,ht7,ht14,ht23,Il,Aq,if_false,if_true];try rfl,rfl⟩
 refine Z27 ?_;refine A2 [27] ?_
 refine A3 (fun ht27=>?_) (fun ht27=>?_)
 ·refine Z25 ?_;refine Z6 ?_;exact AMw
 refine jx ?_;exact AMw

def AC3 (s:Str):Str:=Lib.replaceAll ((s.take (s.length-1)).drop 1) [39,39] [39]
def Xs (s:Str):Val:=⟨2,0,(AC3 s).take 200⟩
def kg (s:Str):Val×Int:=if !(I6 (Xs s)==s) then (t8,7) else (Xs s,0)
theorem APi (s:Str) (h2:2≤s.length) (hs:s.length≤1048576) (Hp:List AObj):AFun Tryz.prog 290 [Ae s] Hp (.tup [C3 (kg s).1,A5 (kg s).2]):=by
 refine Af [.cell 2 23,.tmp 3] [0] Tryz.func290 Tryz.ntmps290 (fun d=>?_)
 refine jz ?_;refine A2 [0,2] ?_;refine Z27 ?_
 refine A4 (h:=Q.scutLH 1 (s.length-1) (fun _=>show 1≤s.length-1 by omega) (fun _=>show s.length-1≤s.length by omega)) (hr:=?_)
 refine Aa Tryz.call161 (ANl ((s.take (s.length-1)).drop 1) [39,39] [39] (by simp;omega) (by decide) (by have:=ke ((s.take (s.length-1)).drop 1) [39,39] (by decide);simp at this ⊢;omega) _) ?_
 refine A4 ?_;refine A2 [0,2,4] ?_;refine Z2 ?_;refine Aa Tryz.call223 (xj (AC3 s) _) ?_;refine Z19 ?_;refine A2 [0,2,5] ?_;refine Z32 ?_
 refine Aa Tryz.call120 (ANp (Xs s) ⟨by show (-9223372036854775808:Int)≤0;decide,by show (0:Int)≤9223372036854775807;decide⟩ _) ?_
 refine Z0 ?_;refine A2 [2,5,17] ?_
 refine A3 (fun ht17=>?_) (fun ht17=>?_)
 ·refine Z93 ?_;refine W8 ?_;refine C4 ?_;exact AMx
 refine Lm ?_;refine W8 ?_;exact AMx

def bu (s:Str):Bool:=(decide ((1:Int)<s.length)&&Lib.hasPrefix s [39])&&Lib.hasSuffix s [39]
def Jm (s:Str):Val×Int:=
 if s==[110,117,108,108] then (t8,0) else if (s==[116,114,117,101]) || (s==[102,97,108,115,101]) then (K1 (s==[116,114,117,101]),0)
 else if bu s then kg s else if (D5 s).2==0 then (⟨1,(D5 s).1,[]⟩,0) else if (D5 s).2==4 then (t8,4) else (t8,7)
theorem AC4 {s:Str} (h:bu s=true):2≤s.length:=by
 unfold bu at h
 simp only [As,decide_eq_true_eq] at h
 omega
theorem AJj (s:Str) (hs:s.length≤1048576) (Hp:List AObj):AFun Tryz.prog 252 [Ae s] Hp (.tup [C3 (Jm s).1,A5 (Jm s).2]):=by
 refine Af [.cell 2 23,.tmp 3] [0] Tryz.func252 Tryz.ntmps252 (fun d=>?_)
 refine jz ?_;refine A2 [0,2] ?_;refine k7 ?_;refine A2 [0,2,6] ?_
 refine A3 (fun ht6=>?_) (fun ht6=>?_)
 ·refine AJ5 ?_;refine W8 ?_;refine Z6 ?_;exact A8 (Ay (Bu jA jS) A6) ⟨by simp only [Jm,ht6,if_true,if_false,Aq];try rfl,rfl⟩
 refine Z17 ?_;refine ae ?_;refine A2 [0,2,10] ?_
 refine A3 (fun ht10=>?_) (fun ht10=>?_)
 ·refine Z1 ?_;refine Aa Tryz.call88 (c88 (s==[116,114,117,101]) _) ?_;refine W8 ?_;refine Z6 ?_;exact A8 (Ay (Bu jA jS) A6) ⟨by simp only [Jm,ht6,ht10,if_true,if_false,Aq];try rfl,rfl⟩
 refine oi ?_;refine Bt Tryz.call288 (fun hB=>AP6 s [39] _) ?_;refine Qx ?_;refine Bt Tryz.call289 (fun hB=>AP7 s [39] (by omega) _) ?_;refine Z0 ?_;refine A2 [0,2,20] ?_
 refine A3 (fun ht20=>?_) (fun ht20=>?_)
 ·have hq:bu s=true:=ht20
  refine Z2 ?_;refine Aa Tryz.call290 (APi s (AC4 hq) hs _) ?_;refine Z0 ?_;refine W8 ?_;refine Z6 ?_;exact A8 (Ay (Bu jA jS) A6) ⟨by simp only [Jm,ht6,ht10,hq,if_true,if_false,Aq];try rfl,rfl⟩
 have hq:bu s=false:=ht20
 refine Z16 ?_;refine Z2 ?_;refine Aa Tryz.call224 (ANn s hs _) ?_;refine Z75 ?_;refine A2 [2,4,5] ?_;refine Z32 ?_;refine A2 [2,4,5,41] ?_;refine Pj ?_;refine A2 [2,4,5,41,42] ?_
 refine A3 (fun ht42=>?_) (fun ht42=>?_)
 ·refine Z2 ?_;refine Aa Tryz.call221 (AJi (D5 s).1 _) ?_;refine W8 ?_;refine Z6 ?_;exact A8 (Ay (Bu jA jS) A6) ⟨by simp only [Jm,ht6,ht10,hq,ht42,if_true,if_false,Aq];try rfl,rfl⟩
 refine Z1 ?_;refine A2 [2,5,46] ?_
 refine A3 (fun ht46=>?_) (fun ht46=>?_)
 ·refine Z93 ?_;refine A4 ?_;refine W8 ?_;refine Z6 ?_;exact A8 (Ay (Bu jA jS) A6) ⟨by simp only [Jm,ht6,ht10,hq,ht42,ht46,if_true,if_false,Aq];rw [show (D5 s).2=4 by simpa using ht46];rfl,rfl⟩
 refine Z16 ?_;refine Z93 ?_;refine W8 ?_;exact A8 (Ay (Bu jA jS) A6) ⟨by simp only [Jm,ht6,ht10,hq,ht42,ht46,if_true,if_false,Aq];try rfl,rfl⟩

def blanks:Str:=[32,9,10]
/-- What stands behind blanks and notes. -/
def Ig:Str→Bool→Str
 | [],_=>[]
 | c::r,false=>if blanks.contains c then Ig r false else if c==35 then Ig r true else c::r
 | c::r,true=>if c==10 then Ig r false else Ig r true
def runN (s of:Str):Nat:=s.length-(Lib.trimLeftS s of).length
theorem gt (s of:Str):Sw s of=(runN s of:Int):=by
 have:=Wm s of
 unfold Sw runN
 omega
theorem gu (s of:Str):runN s of≤s.length:=Nat.sub_le _ _
theorem AC5 (s of:Str):s.drop (runN s of)=Lib.trimLeftS s of:=by
 unfold runN Lib.trimLeftS
 have h:∀l:Str,l.drop (l.length-(l.dropWhile (of.contains ·)).length)=l.dropWhile (of.contains ·):=by
  intro l
  have e:=sq (p:=(of.contains ·)) (l:=l)
  have hl:l.length-(l.dropWhile (of.contains ·)).length=(l.takeWhile (of.contains ·)).length:=by
   have:=congrArg List.length e
   simp only [Ai] at this
   omega
  rw [hl]
  conv=>lhs;rw [←e]
  rw [List.drop_left']
  rw [e]
 exact h s
theorem AC6 (s of:Str):s.take (runN s of)=s.takeWhile (of.contains ·):=by
 have e:=sq (p:=(of.contains ·)) (l:=s)
 have hl:runN s of=(s.takeWhile (of.contains ·)).length:=by
  unfold runN Lib.trimLeftS
  have:=congrArg List.length e
  simp only [Ai] at this
  omega
 rw [hl]
 conv=>lhs;rw [←e]
 rw [List.take_left']
 rw [e]
theorem Ua:∀s:Str,Ig (Lib.trimLeftS s blanks) false=Ig s false
 | []=>rfl
 | c::r=>by
  unfold Lib.trimLeftS
  rw [Ts]
  by_cases h:blanks.contains c=true
  ·rw [if_pos h,Ig,if_pos h]
   exact Ua r
  rw [if_neg h]
theorem bv (of:Str):∀(s:Str) (c:UInt8) (t:Str),Lib.trimLeftS s of=c::t→of.contains c=false
 | [],c,t,h=>by cases h
 | b::r,c,t,h=>by
  unfold Lib.trimLeftS at h
  rw [Ts] at h
  split at h
  ·exact bv of r c t h
  rename_i hb
  injection h with h1 h2
  subst h1
  simpa using hb
def Kv:Str→Str
 | []=>[]
 | c::r=>if c==10 then r else Kv r
theorem AJk (s:Str):(Lib.cut s [10]).2.1=Kv s:=by
 unfold Lib.cut
 induction s with
 | nil=>rfl
 | cons c r ih =>
  have hg:=Lib.index_ge r [10]
  rw [Kv]
  unfold Lib.index
  by_cases hc:c=10
  ·subst hc
   simp [List.isPrefixOf]
  have h1:([10]:Str).isPrefixOf (c::r)=false:=by simp [List.isPrefixOf,Ne.symm hc]
  have h2:(c==10)=false:=by simpa using hc
  rw [h1,h2]
  simp only [Aq,if_false]
  by_cases hi:Lib.index r [10] = -1
  ·rw [hi] at ih ⊢
   simpa using ih
  have h3:(Lib.index r [10] == -1)=false:=by simpa using hi
  rw [h3]
  simp only [Aq,if_false]
  rw [if_pos (by omega)] at ih ⊢
  have e:(Lib.index r [10]+1).toNat=(Lib.index r [10]).toNat+1:=by omega
  rw [e]
  rw [←ih]
  show (c::r).drop _=_
  rw [show (Lib.index r [10]).toNat+1+([10]:Str).length=((Lib.index r [10]).toNat+([10]:Str).length)+1 by omega,nh]
theorem bw:∀t:Str,Ig t true=Ig (Kv t) false
 | []=>rfl
 | c::r=>by
  rw [Ig,Kv]
  split
  ·rfl
  exact bw r
theorem Xt:∀t:Str,(Kv t).length≤t.length
 | []=>Ak _
 | c::r=>by
  rw [Kv]
  split
  ·simp
  have:=Xt r;simp only [Aw];omega
def gapM (s:Str):Nat:=s.length-(Ig s false).length
theorem xl {d:Str} (h:((d==[])==false)=true):d≠[]:=by rintro rfl;simp at h
theorem gw:∀c∈blanks,c.toNat<128:=by decide
/-- The gap is at its end. -/
theorem AG1 {x s:Str} (hx:Ig x false=Ig s false) (h:((Lib.trimLeftS x blanks==[]) || ((((Lib.trimLeftS x blanks).headD 0).toNat:Int) != 35))=true):Ig s false=Lib.trimLeftS x blanks:=by
 rw [←hx,←Ua]
 cases ht:Lib.trimLeftS x blanks with
 | nil=>rfl
 | cons c t =>
  rw [ht] at h
  have hb:=bv blanks x c t ht
  have hc:(c==35)=false:=by
   simp at h
   rw [beq_eq_false_iff_ne]
   rintro rfl
   exact h rfl
  rw [Ig,hb,hc]
  rfl
theorem AJl {x s:Str} (hx:Ig x false=Ig s false) (h:((Lib.trimLeftS x blanks==[]) || ((((Lib.trimLeftS x blanks).headD 0).toNat:Int) != 35))=false):
  Ig (Lib.cut (Lib.trimLeftS x blanks) [10]).2.1 false=Ig s false∧(Lib.cut (Lib.trimLeftS x blanks) [10]).2.1.length<x.length:=by
 have hl:=Wm x blanks
 rw [AJk,←hx,←Ua x]
 cases ht:Lib.trimLeftS x blanks with
 | nil=>rw [ht] at h;simp at h
 | cons c t =>
  rw [ht] at h hl
  have hc:c=35:=by
   simp at h
   exact Sj.1 (by have:(35:UInt8).toNat=35:=rfl;omega)
  subst hc
  have ha:=Xt t
  refine ⟨?_,?_⟩
  ·rw [Kv,Ig]
   have e1:blanks.contains 35=false:=by decide
   rw [e1]
   exact (bw t).symm
  rw [Kv]
  simp only [Aw] at hl
  show (Kv t).length<_
  omega
theorem ANq (s:Str) (hs:s.length≤1048576) (Hp:List AObj):AFun Tryz.prog 154 [Ae s] Hp (A5 (gapM s)):=by
 refine Af [.tmp 2] [0] Tryz.func154 Tryz.ntmps154 (fun d=>?_)
 refine Z43 ?_;refine od ?_
 refine B7 (α:=Str) (fun x=>⟨27,A7 0 (Ae s) (A7 3 (Ae x) (fun _=>.any)),Hp,[],[],none⟩) (fun x=>Ig x false=Ig s false∧x.length≤s.length) (fun x=>x.length) (s) (by simp) (G8 _) rfl (fun x hx=>?_)
 refine Jk ?_;refine Fp ?_
 have hx2:=hx.2
 have htl:=Wm x blanks
 refine Z0 ?_;refine Aa Tryz.call81 (c81 x blanks (by omega) (by decide) gw _) ?_
 refine A4 (h:=Q.scutL (runN x blanks) (fun _=>gu _ _) (fun _=>Ak _) (ha:=fun _=>gt x blanks)) (hr:=?_)
 rw [AC5]
 refine A4 ?_;refine Ln ?_;refine Z36 ?_;refine Bi ?_
 refine Bi (h:=O6 0 ((Lib.trimLeftS x blanks).headD 0) (fun hB=>U6 (xl hB))) (hr:=?_)
 refine Qu ?_;refine A2 [0,3,15] ?_
 refine A3 (fun ht15=>?_) (fun ht15=>?_)
 ·have he:=AG1 hx.1 ht15
  refine Z27 ?_;refine Z49 ?_;refine C4 ?_;refine wy ?_;exact A8 (Ah A6) ⟨by rw [show ((s.length:Int)-(Lib.trimLeftS x blanks).length)=(gapM s:Int) by unfold gapM;rw [he];omega],rfl⟩
 have he:=AJl hx.1 ht15
 refine Z5 ?_;refine Z66 ?_;refine Aa Tryz.call163 (ANk (Lib.trimLeftS x blanks) [10] (by omega) _) ?_;refine Z75 ?_;refine Ln ?_;refine N6 ?_;exact Bb _ ⟨he.1,by omega⟩ he.2 (Cg rfl)

def Ez (s of:Str):Str:=s.take (runN s of)
theorem Kf (s of:Str):(Ez s of).length≤s.length:=by unfold Ez;simp;omega
def Rr (s:Str):Int×Str×Int×Int:=
 if Ib (Ez s tails) then (2,Ez s tails,(Ez s tails).length,0) else if !Dk (Ez s tails) then (0,[],0,3) else (1,Ez s tails,(Ez s tails).length,0)
abbrev AC7 (r:Int×Str×Int×Int):AV:=.tup [A5 r.1,Ae r.2.1,A5 r.2.2.1,A5 r.2.2.2]
theorem ki:∀c∈tails,c.toNat<128:=by decide
theorem au:∀c∈letters,c.toNat<128:=by decide
theorem APj (s:Str) (hs:s.length≤1048576) (Hp:List AObj):AFun Tryz.prog 199 [Ae s] Hp (AC7 (Rr s)):=by
 refine Af [.tmp 2,.tmp 3,.tmp 4,.tmp 5] [0] Tryz.func199 Tryz.ntmps199 (fun d=>?_)
 refine ABh ?_;refine Z1 ?_;refine Aa Tryz.call81 (c81 s tails hs (by decide) ki _) ?_
 refine A4 (h:=M8 (runN s tails) (fun _=>Ar _) (fun _=>gu _ _) (hb:=fun _=>gt s tails)) (hr:=?_)
 refine A4 ?_;refine A2 [6] ?_;refine Pl ?_
 refine Aa Tryz.call82 (c82 (Ez s tails) (by have:=Kf s tails;omega) _) ?_
 refine A4 ?_;refine A2 [6,11] ?_
 refine A3 (fun ht11=>?_) (fun ht11=>?_)
 ·refine Fp ?_
  have hwl:=Kf s tails
  refine Z0 ?_;refine Z75 ?_;refine Z79 ?_;refine Z6 ?_;exact A8 (M9 A6 A6 A6 A6) ⟨by simp only [Rr,ht11,if_true,if_false,Aq];try rfl,rfl⟩
 refine Z2 ?_
 refine Aa Tryz.call40 (c40 (Ez s tails) (by have:=Kf s tails;omega) _) ?_
 refine Z0 ?_;refine A2 [6,17] ?_
 refine A3 (fun ht17=>?_) (fun ht17=>?_)
 ·refine Z27 ?_;refine Z79 ?_;refine Z6 ?_;exact AMy
 refine Z16 ?_;refine Fp ?_
 have hwl:=Kf s tails
 refine Z0 ?_;refine Z75 ?_;refine Z79 ?_;exact AMy

def gx (s:Str):Int×Str×Int×Int:=(3,Ez s digs,(Ez s digs).length,(Jm (Ez s digs)).2)
theorem APk (s:Str) (hs:s.length≤1048576) (Hp:List AObj):AFun Tryz.prog 200 [Ae s] Hp (AC7 (gx s)):=by
 refine Af [.tmp 2,.tmp 3,.tmp 4,.tmp 5] [0] Tryz.func200 Tryz.ntmps200 (fun d=>?_)
 refine ABh ?_;refine Z1 ?_;refine Aa Tryz.call81 (c81 s digs hs (by decide) Rq _) ?_
 refine A4 (h:=M8 (runN s digs) (fun _=>Ar _) (fun _=>gu _ _) (hb:=fun _=>gt s digs)) (hr:=?_)
 refine A4 ?_;refine A2 [6] ?_;refine Z2 ?_
 refine Aa Tryz.call252 (AJj (Ez s digs) (by have:=Kf s digs;omega) _) ?_
 refine Xj ?_;refine A2 [6,8] ?_;refine Z27 ?_;refine Z89 ?_;refine Z79 ?_;exact A8 (M9 A6 A6 A6 A6) ⟨rfl,rfl⟩

/-- Behind a mark: how many bytes up to the one that AIr, it too. -/
def Ed:Str→Option Nat
 | []=>none
 | [c]=>if c==39 then some 1 else none
 | c::d::t=>if c==39 then (if d==39 then (Ed t).map (·+2) else some 1) else (Ed (d::t)).map (·+1)
theorem Ve {c:UInt8} (h:¬(c==39)=true) (r:Str):Ed (c::r)=(Ed r).map (·+1):=by
 cases r with
 | nil=>simp [Ed,h]
 | cons d t=>rw [Ed,if_neg h]
theorem Xu (r:Str):Ed (39::r)=match r with
   | []=>some 1
   | d::t=>if d==39 then (Ed t).map (·+2) else some 1:=by
 cases r with
 | nil=>rfl
 | cons d t=>rw [Ed];simp
def N1 (s:Str):Int×Str×Int×Int:=
 match Ed (s.drop 1) with
 | none=>(0,[],0,7)
 | some n=>if (Jm (s.take (n+1))).2 != 0 then (0,[],0,3) else (4,(Jm (s.take (n+1))).1.s,((n+1:Nat):Int),0)
theorem Xv:∀l:Str,Lib.indexByte l 39 = -1→Ed l=none
 | [],_=>by rw [Ed]
 | c::r,h=>by
  rw [Lib.indexByte] at h
  split at h
  ·omega
  rename_i hc
  rw [Ve hc]
  split at h
  ·rename_i hi
   rw [Xv r (by simpa using hi)]
   rfl
  have:=Lib.indexByte_ge r 39;omega
theorem kj:∀(l:Str) (k:Nat),Lib.indexByte l 39=(k:Int)→k<l.length∧Ed l=(Ed (l.drop k)).map (·+k)∧l[k]? = some 39
 | [],k,h=>by rw [Lib.indexByte] at h;omega
 | c::r,k,h=>by
  rw [Lib.indexByte] at h
  split at h
  ·rename_i hc
   have:k=0:=by omega
   subst this
   refine ⟨by simp,?_,by simpa using hc⟩
   rw [en]
   cases Ed (c::r)<;>simp
  rename_i hc
  split at h
  ·omega
  have hg:=Lib.indexByte_ge r 39
  rename_i hi
  have hi':Lib.indexByte r 39 ≠ -1:=by simpa using hi
  obtain ⟨m,rfl⟩:∃m,k=m+1:=⟨k-1,by omega⟩
  obtain ⟨h1,h2,h3⟩:=kj r m (by omega)
  refine ⟨by simpa using h1,?_,by simpa using h3⟩
  rw [Ve hc,nh,h2]
  cases Ed (r.drop m)<;>simp [Mv]
theorem Od {s:Str} {n:Nat} {c:UInt8} (h:s[n]? = some c):s.drop n=c::s.drop (n+1):=by
 obtain ⟨hlt,he⟩:=Ad.1 h
 rw [L5 hlt,he]
theorem Sx {s:Str} {n:Nat} (h:n<s.length):s[n]? = some (s.getD n 0):=by
 rw [C9,Ab h];rfl
theorem AC8 {s:Str} {x k:Nat} (h:(decide (((x:Int)+((k:Int)+1))<s.length)==true)=true):x+(k+1)<s.length:=by
 have:=of_decide_eq_true (by simpa using h:decide (((x:Int)+((k:Int)+1))<s.length)=true)
 omega
/-- What a round of the search for the mark that AIr comes to. -/
theorem pu {s:Str} {x k:Nat} (h1:1≤x) (hx:Ed (s.drop 1)=(Ed (s.drop x)).map (·+(x-1))) (hk:Lib.indexByte (s.drop x) 39=(k:Int)):
  x+(k+1)≤s.length ∧
   ((decide (((x:Int)+((k:Int)+1))<s.length)&&(((s.getD (x+(k+1)) 0).toNat:Int)==39))=true→x+(k+1)+1≤s.length∧Ed (s.drop 1)=(Ed (s.drop (x+(k+1)+1))).map (·+(x+(k+1)+1-1))) ∧
   ((decide (((x:Int)+((k:Int)+1))<s.length)&&(((s.getD (x+(k+1)) 0).toNat:Int)==39))=false→Ed (s.drop 1)=some (x+k)):=by
 obtain ⟨g1,g2,g3⟩:=kj _ k hk
 rw [I1] at g1
 rw [Hn] at g3
 have e0:(s.drop x).drop k=39::s.drop (x+(k+1)):=by rw [el,Od g3,Mv]
 rw [e0] at g2
 refine ⟨by omega,fun h=>?_,fun h=>?_⟩
 ·simp only [As,decide_eq_true_eq,beq_iff_eq] at h
  have hlt:x+(k+1)<s.length:=by omega
  have hc:s.getD (x+(k+1)) 0=39:=Sj.1 (by have:(39:UInt8).toNat=39:=rfl;omega)
  have hd:=Od (Sx hlt)
  rw [hc] at hd
  refine ⟨by omega,?_⟩
  rw [hx,g2,hd,Xu]
  simp only [beq_self_eq_true,if_true]
  cases Ed (s.drop (x+(k+1)+1)) with
  | none=>rfl
  | some m=>simp;omega
 rw [hx,g2,Xu]
 cases hd:s.drop (x+(k+1)) with
 | nil=>simp;omega
 | cons d t =>
  have hlt:x+(k+1)<s.length:=by
   have:=congrArg List.length hd
   simp at this;omega
  have hg:=Od (Sx hlt)
  rw [hd] at hg
  injection hg with hg1 hg2
  have hne:(d==39)=false:=by
   rw [hg1,beq_eq_false_iff_ne]
   intro e
   rw [e] at h
   simp at h
   omega
  simp [hne];omega
theorem APl (s:Str) (h0:1≤s.length) (hs:s.length≤1048576) (Hp:List AObj):AFun Tryz.prog 201 [Ae s] Hp (AC7 (N1 s)):=by
 refine Af [.tmp 2,.tmp 3,.tmp 4,.tmp 5] [0] Tryz.func201 Tryz.ntmps201 (fun d=>?_)
 refine ABh ?_;refine Z2 ?_;refine A2 [0,6] ?_
 refine B7 (α:=Nat) (fun x=>⟨44,A7 0 (Ae s) (A7 6 (A5 (x:Nat)) (fun _=>.any)),Hp,[],[],none⟩) (fun x=>1≤x∧x≤s.length∧Ed (s.drop 1)=(Ed (s.drop x)).map (·+(x-1))) (fun x=>s.length-x) (1) ⟨Ak _,h0,by cases Ed (s.drop 1)<;>rfl⟩ (G8 _) rfl (fun x hx=>?_)
 refine Pj ?_
 refine A4 (h:=Q.scutL x (fun _=>hx.2.1) (fun _=>Ak _)) (hr:=?_)
 refine Aa Tryz.call253 (AP8 (s.drop x) 39 _) ?_;refine A4 ?_;refine A2 [0,6,7] ?_;refine Z8 ?_;refine A2 [0,6,7,15] ?_
 refine A3 (fun ht15=>?_) (fun ht15=>?_)
 ·have hk:Lib.indexByte (s.drop x) 39 = -1:=by have:=Lib.indexByte_ge (s.drop x) 39;simp at ht15;omega
  have hcq:Ed (s.drop 1)=none:=by rw [hx.2.2,Xv _ hk];rfl
  refine Z27 ?_;refine Z79 ?_;refine C4 ?_;refine wy ?_;exact A8 (M9 A6 A6 A6 A6) ⟨by simp only [N1,hcq],rfl⟩
 obtain ⟨k0,hk⟩:=nb (show 0≤Lib.indexByte (s.drop x) 39 by simp at ht15;omega)
 rw [hk]
 refine x5 ?_
 have hst:=pu hx.1 hx.2.2 hk
 refine Z75 ?_;refine A2 [0,6] ?_;refine W9 ?_;refine Z7 ?_
 refine Bi (h:=O6 (x+(k0+1)) (s.getD (x+(k0+1)) 0) (fun hB=>Sx (AC8 hB))) (hr:=?_)
 refine Qu ?_;refine A2 [0,6,29] ?_
 refine A3 (fun ht29=>?_) (fun ht29=>?_)
 ·have hon:=hst.2.1 ht29
  refine Z17 ?_;refine A2 [0,6] ?_;refine Z38 ?_;refine K.blE ?_;exact Bb ((x+(k0+1))+1) ⟨by omega,hon.1,hon.2⟩ (by omega) (Cg rfl)
 have hcq:=hst.2.2 ht29
 refine Ro ?_
 refine A4 (h:=M8 (x+(k0+1)) (fun _=>Ar _) (fun _=>hst.1)) (hr:=?_)
 refine Aa Tryz.call252 (AJj (s.take (x+(k0+1))) (by simp;omega) _) ?_
 refine Xj ?_;refine A2 [6,8,9] ?_;refine Z8 ?_;refine A2 [6,8,40] ?_
 refine A3 (fun ht40=>?_) (fun ht40=>?_)
 ·refine Z27 ?_;refine Z79 ?_;refine C4 ?_;refine wy ?_;exact A8 (M9 A6 A6 A6 A6) ⟨by simp only [N1,hcq,show x+k0+1=x+(k0+1) by omega];rw [if_pos ht40],rfl⟩
 refine Z5 ?_;refine De [0,1,0,0,11,31,63] 5 An (by kernel_rfl) ?_;refine oh ?_;refine Ey ?_;refine Z0 ?_;refine Z79 ?_;refine wy ?_;exact A8 (M9 A6 A6 A6 A6) ⟨by simp only [N1,hcq,show x+k0+1=x+(k0+1) by omega];rw [if_neg (by rw [ht40];simp)];rfl,rfl⟩

def tc:Str:=[60,61,32,62,61,32,33,61]
def td:Str:=[40,41,44,59,61,60,62,43,45,42,47,37,38,58]
def Xw (s:Str):Int×Str×Int×Int:=
 if (decide ((1:Int)<s.length)&&Lib.contains tc (s.take 2))&&(((s.getD 1 0).toNat:Int)==61) then (5,s.take 2,2,0)
 else if Lib.contains td (s.take 1) then (5,s.take 1,1,0) else (0,[],0,7)
theorem xm {s:Str} {b c:Bool} (h:(((decide ((1:Int)<s.length)&&b)&&c)==true)=true):1<s.length:=by
 revert h
 cases hd:decide ((1:Int)<s.length) with
 | true=>intro _;have:=of_decide_eq_true hd;omega
 | false=>intro h;simp at h
theorem Xx {s:Str} {b:Bool} (h:((decide ((1:Int)<s.length)&&b)==true)=true):1<s.length:=xm (c:=true) (by rw [To];exact h)
theorem pv {s:Str} (h:(decide ((1:Int)<s.length)==true)=true):2≤s.length:=Xx (b:=true) (by rw [To];exact h)
theorem APm (s:Str) (h0:1≤s.length) (Hp:List AObj):AFun Tryz.prog 202 [Ae s] Hp (AC7 (Xw s)):=by
 refine Af [.tmp 2,.tmp 3,.tmp 4,.tmp 5] [0] Tryz.func202 Tryz.ntmps202 (fun d=>?_)
 refine ABh ?_;refine Z60 ?_;refine Bi ?_
 refine Bi (h:=M8 2 (fun _=>Ar _) (fun hB=>pv hB)) (hr:=?_)
 refine Bt Tryz.call131 (fun hB=>xe tc (s.take 2) (by decide) _) ?_;refine Qx ?_
 refine Bi (h:=O6 1 (s.getD 1 0) (fun hB=>Sx (Xx hB))) (hr:=?_)
 refine Qu ?_;refine A2 [0,18] ?_
 refine A3 (fun ht18=>?_) (fun ht18=>?_)
 ·have h2:2≤s.length:=by revert ht18;cases hd:decide ((1:Int)<s.length) with
   | true=>intro _;have:=of_decide_eq_true hd;omega
   | false=>intro h;simp at h
  refine De [0,1,0,7,15,31] 3 An (by kernel_rfl) ?_;refine Al ?_
  refine Al (h:=M8 2 (fun _=>Ar _) (fun _=>h2)) (hr:=?_)
  refine Al ?_;refine Ey ?_;refine Z22 ?_;refine Z79 ?_;refine C4 ?_;exact A8 (M9 A6 A6 A6 A6) ⟨by simp only [Xw,ht18,if_true,if_false,Aq];try rfl,rfl⟩
 refine Rm ?_
 refine A4 (h:=M8 1 (fun _=>Ar _) (fun _=>h0)) (hr:=?_)
 refine Aa Tryz.call131 (xe td (s.take 1) (by decide) _) ?_;refine A2 [0,23] ?_
 refine A3 (fun ht23=>?_) (fun ht23=>?_)
 ·refine De [0,1,0,7,15,31] 3 An (by kernel_rfl) ?_;refine Al ?_
  refine Al (h:=M8 1 (fun _=>Ar _) (fun _=>h0)) (hr:=?_)
  refine Al ?_;refine Ey ?_;refine Z22 ?_;refine Z79 ?_;refine C4 ?_;exact AMz
 refine Z5 ?_;refine Z27 ?_;refine Z79 ?_;exact AMz

def D0 (s:Str):Int×Str×Int×Int:=
 if decide (0<Sw (s.take 1) letters) then Rr s else if decide (0<Sw (s.take 1) digs) then gx s else if ((s.getD 0 0).toNat:Int)==39 then N1 s else Xw s
theorem APn (s:Str) (h0:1≤s.length) (hs:s.length≤1048576) (Hp:List AObj):AFun Tryz.prog 155 [Ae s] Hp (AC7 (D0 s)):=by
 refine Af [.tmp 2,.tmp 3,.tmp 4,.tmp 5] [0] Tryz.func155 Tryz.ntmps155 (fun d=>?_)
 refine ABh ?_;refine Pl ?_
 refine A4 (h:=M8 1 (fun _=>Ar _) (fun _=>h0)) (hr:=?_)
 refine Aa Tryz.call81 (c81 (s.take 1) letters (by simp;omega) (by decide) au _) ?_
 refine Z0 ?_;refine A2 [0,6] ?_
 refine A3 (fun ht6=>?_) (fun ht6=>?_)
 ·refine Z2 ?_;refine Aa Tryz.call199 (APj s hs _) ?_;refine Z89 ?_;refine Z89 ?_;refine Z79 ?_;refine Z6 ?_;exact A8 (M9 A6 A6 A6 A6) ⟨by simp only [D0,ht6,if_true,if_false,Aq],rfl⟩
 refine Z2 ?_
 refine A4 (h:=M8 1 (fun _=>Ar _) (fun _=>h0)) (hr:=?_)
 refine Aa Tryz.call81 (c81 (s.take 1) digs (by simp;omega) (by decide) Rq _) ?_
 refine Z0 ?_;refine A2 [0,17] ?_
 refine A3 (fun ht17=>?_) (fun ht17=>?_)
 ·refine Z2 ?_;refine Aa Tryz.call200 (APk s hs _) ?_;refine Z89 ?_;refine Z89 ?_;refine Z79 ?_;refine Z6 ?_;exact A8 (M9 A6 A6 A6 A6) ⟨by simp only [D0,ht6,ht17,if_true,if_false,Aq],rfl⟩
 refine Z2 ?_
 refine A4 (h:=O6 0 (s.getD 0 0) (fun _=>Sx h0)) (hr:=?_)
 refine Z0 ?_;refine A2 [0,28] ?_
 refine A3 (fun ht28=>?_) (fun ht28=>?_)
 ·refine Z2 ?_;refine Aa Tryz.call201 (APl s h0 hs _) ?_;refine Z89 ?_;refine Z89 ?_;refine Z79 ?_;refine Z6 ?_;exact AN0
 refine Z16 ?_;refine Z2 ?_;refine Aa Tryz.call202 (APm s h0 _) ?_;refine Z89 ?_;refine Z89 ?_;refine Z79 ?_;exact AN0

structure Tok where
 kind:Int
 text:Str
 at_:Nat
 deriving DecidableEq
abbrev Me (t:Tok):AV:=.agg [.v (.int .i64 t.kind),.v (sv t.text),.v (.int .i64 (t.at_:Int))]
abbrev tg (l:List Tok):AV:=.slice false 3 (l.map Me)
theorem th {c:UInt8} {of:Str} (h:decide (0<Sw ([c]:Str) of)=true):of.contains c=true:=by
 have:=of_decide_eq_true h
 unfold Sw Lib.trimLeftS at this
 rw [Ts] at this
 cases hc:of.contains c with
 | true=>rfl
 | false=>rw [hc] at this;simp at this
theorem Xy {c:UInt8} {r of:Str} (h:of.contains c=true):1≤(Ez (c::r) of).length:=by
 unfold Ez
 rw [AC6,List.takeWhile_cons,h]
 simp
theorem av:∀c:UInt8,letters.contains c=true→tails.contains c=true:=by
 have h:((List.range 256).all fun n => !letters.contains (UInt8.ofNat n) || tails.contains (UInt8.ofNat n))=true:=by kernel_rfl
 intro c hc
 have:=B2.1 h c.toNat (Qa.2 c.toNat_lt)
 rw [show UInt8.ofNat c.toNat=c by simp,hc] at this
 simpa using this
theorem Xz:∀(l:Str) (n:Nat),Ed l=some n→1≤n∧n≤l.length
 | [],n,h=>by cases h
 | [c],n,h=>by
  rw [Ed] at h
  split at h
  ·injection h with h;subst h;simp
  cases h
 | c::d::t,n,h=>by
  rw [Ed] at h
  split at h
  ·split at h
   ·rw [F6] at h
    obtain ⟨m,hm,rfl⟩:=h
    have:=Xz t m hm
    simp only [Aw];omega
   injection h with h;subst h;simp
  rw [F6] at h
  obtain ⟨m,hm,rfl⟩:=h
  have:=Xz (d::t) m hm
  simp only [Aw] at this ⊢;omega
theorem tj {s:Str} (h0:1≤s.length) (h:(D0 s).2.2.2=0):∃n:Nat,(D0 s).2.2.1=(n:Int)∧1≤n∧n≤s.length:=by
 cases s with
 | nil=>simp at h0
 | cons c r =>
  unfold D0 at h ⊢
  split at h
  ·rename_i h1
   rw [if_pos h1]
   have hc:=av c (th h1)
   have hw:=Xy (r:=r) hc
   have hl:=Kf (c::r) tails
   unfold Rr at h ⊢
   split at h
   ·rename_i h2;rw [if_pos h2];exact ⟨_,rfl,hw,hl⟩
   rename_i h2
   rw [if_neg h2]
   split at h
   ·exact ABj
   rename_i h3;rw [if_neg h3];exact ⟨_,rfl,hw,hl⟩
  rename_i h1
  rw [if_neg h1]
  split at h
  ·rename_i h2
   rw [if_pos h2]
   exact ⟨_,rfl,Xy (r:=r) (th h2),Kf _ _⟩
  rename_i h2
  rw [if_neg h2]
  split at h
  ·rename_i h3
   rw [if_pos h3]
   unfold N1 at h ⊢
   split at h
   ·exact ABj
   rename_i n hn
   split at h
   ·exact ABj
   rename_i h4
   simp only [if_neg h4]
   have:=Xz _ n hn
   simp at this
   exact ⟨n+1,rfl,by omega,by simp only [Aw];omega⟩
  rename_i h3
  rw [if_neg h3]
  unfold Xw at h ⊢
  split at h
  ·rename_i h4
   rw [if_pos h4]
   refine ⟨2,rfl,by omega,?_⟩
   simp only [As,decide_eq_true_eq] at h4
   have:=h4.1.1
   omega
  rename_i h4
  rw [if_neg h4]
  split at h
  ·rename_i h5;rw [if_pos h5];exact ⟨1,rfl,by omega,h0⟩
  exact ABj
/-- The words from a place on, up to one that is wrong. -/
def Kg:Nat→Nat→Str→List (Tok×Int)
 | 0,_,_=>[]
 | f+1,k,s=>if s==[] then [] else
  (⟨(D0 s).1,(D0 s).2.1,k⟩,(D0 s).2.2.2)::(if (D0 s).2.2.2==0 then Kg f (k+(D0 s).2.2.1.toNat+gapM (s.drop (D0 s).2.2.1.toNat)) ((s.drop (D0 s).2.2.1.toNat).drop (gapM (s.drop (D0 s).2.2.1.toNat))) else [])
def Cy (s:Str):List (Tok×Int):=Kg (s.length+1) (gapM s) (s.drop (gapM s))
theorem pw (s:Str):gapM s≤s.length:=Nat.sub_le _ _
end Go.SX.Nb
namespace Go.SX
variable [GI:GlobInv]
open Classical
@[simp] theorem APo {n o k m c:Nat}:Low n (.sl o k m c)↔o<n:=⟨fun h=>by cases h;assumption,fun h=>.sl o k m c h⟩
/-- The cells of elements, one behind the other. -/
abbrev Ni (xs:List AV):List AV:=xs.flatMap AV.cells
theorem Rt (x:AV) (r:List AV):Ni (x::r)=x.cells++Ni r:=by simp [Ni]
theorem Ub {k:Nat}:∀{xs:List AV},(∀x∈xs,x.cells.length=k)→(Ni xs).length=xs.length*k
 | [],_=>by simp
 | x::r,h=>by
  rw [Rt,Ai,h x Hu,Ub (fun y hy=>h y (Kr _ hy)),Aw,Gd]
  omega
theorem Uc {k:Nat}:∀{xs:List AV},(∀x∈xs,x.cells.length=k)→∀{i j:Nat} {x y:AV},xs[i]? = some x→x.cells[j]? = some y→(Ni xs)[i*k+j]? = some y
 | [],_,i,j,x,y,h,_=>by simp at h
 | a::r,hk,0,j,x,y,h,h2=>by
  simp at h
  subst h
  rw [Rt,Nat.zero_mul,C0,Di (Ad.1 h2).1]
  exact h2
 | a::r,hk,i+1,j,x,y,h,h2=>by
  rw [P2] at h
  have ha:=hk a Hu
  have hh:=Uc (fun y hy=>hk y (Kr _ hy)) h h2
  rw [Rt,Dd (by rw [ha,Gd];omega),ha]
  rw [show (i+1)*k+j-k=i*k+j by rw [Gd];omega]
  exact hh
section
variable {P:Program} {d:Nat} {st:St} {dst:Option Tmp} {ty:TypeId} {pos:String} {aft:Array Edge} {gd:Option (Nat×Bool)}
/-- The address of an element. -/
theorem OpV.indexAddrSl {t e:TypeId} {x i:Operand} {o k n c m:Nat} {q:IntKind} (hu:P.underlying t=some (.slice e)) (hsz:∀w,(sizeOf e).run P w=.ok k w) (hm:m<n)
  (hx:st.ev x=.sl o k n c) (hi:st.ev i=.v (.int q (m:Int))):OpV P d ⟨dst,.indexAddr t x i,ty,pos,aft,gd⟩ st (.ptr o (m*k)):=
 Cx (by intro c h;cases h) fun G a w h=>by
  have hr:=hx ▸ h.eval x
  have hi':=Du h hi
  generalize hv:a.eval x=u at hr
  cases hr with
  | sl l o k n c ho =>
   have hlt':(m:Int)<n:=by omega
   refine ⟨.pointer (some ((⟨G.blk o,0,none⟩:Addr).add (m*k))),by simp [execOp,Instr.indexAt,asIntOf,hi',hv,run_underlying hu,hm,hlt',hsz],?_⟩
   rw [D9 rfl,C0]
   exact .ptr _ o _ ho
/-- An empty slice, over an object of its own. -/
theorem AOp.buildObj0 {t e:TypeId} {k s n:Nat} (hu:P.underlying t=some (.slice e)) (hsz:∀w,(sizeOf e).run P w=.ok k w) (hn:st.own.length=n) (hs:s<st.sz):
  AOp P d ⟨some s,.buildSlice t 0 #[],ty,pos,aft,gd⟩ st (·=({ st with own:=st.own++[.cells e []] }:St).set s (.sl (st.up.length+n) k 0 0)):=by
 intro G a w h Q'
 obtain ⟨G',h1,T,hb,hlt⟩:=Qc h e [] #[] rfl (fun j y u h1 _=>by simp at h1)
 have hlen:(st.up++st.own).length=st.up.length+n:=by rw [Ai,hn]
 rw [hlen] at hb hlt
 have hrun:(execOp a.eval (⟨some s,.buildSlice t 0 #[],ty,pos,aft,gd⟩:Oper)).run P w=.ok (.value (.slice (some ⟨w.heap.size,0,none⟩) 0 0)) (w.alloc (.cells #[] e)):=by
  have hfl:∀f:Nat→Option (Nat×Nat),Instr.fill f ((Array.range 0).map fun _=>(default:Value)) []=some #[]:=fun f=>by simp [Instr.fill]
  simp [execOp,Instr.buildSlice,run_underlying hu,hsz,newRow,hfl]
 refine Dt (by intro c h;cases h) hrun ⟨G',_,h1.put (s:=s) (y:=.sl (st.up.length+n) k 0 0) hs ?_,T.keep d,rfl,rfl,rfl,rfl⟩
 rw [←hb]
 exact .sl _ _ _ _ _ hlt
/-- What is appended to an empty slice lies in a new object of ours; of its spare cells nothing is known. -/
theorem AOp.appendObj {t e:TypeId} {i:TypeInfo} {z:Value} {k by' s o n:Nat} {xr x:Operand} {o2:Bool} {ys:List AV}
  (hu:P.underlying t=some (.slice e)) (hi:P.info? e=some i) (hz:i.zero=some z) (hsz:i.size=k) (hby:i.bytes=by') (hzk:z.cells.size=k) (hk:0<k)
  (hb:st.ev xr=.sl o k 0 0) (hx:Ji (st.ev x) o2 k ys) (hne:ys≠[]) (hn:st.own.length=n) (hs:s<st.sz) (hl:ys.length*by'≤140737488355328) (hl2:ys.length≤4611686018427387904):
  AOp P d ⟨some s,.call ⟨.builtin .append,#[xr,x],#[t,t]⟩,ty,pos,aft,gd⟩ st (fun st'=>∃c,ys.length≤c∧st'=({ st with own:=st.own++[.cells e (Ni ys++List.replicate ((c-ys.length)*k) .any)] }:St).set s (.sl (st.up.length+n) k ys.length c)):=by
 subst hsz
 subst hby
 intro G a w h Q'
 have hrb:=hb ▸ h.eval xr
 have hrx:=h.eval x
 have hm:ys.length≠0:=fun e=>hne (Tu e)
 generalize hvb:a.eval xr=vb at hrb
 cases hrb with
 | sl l o k n' c ho =>
  rcases K9 hx hrx with ⟨_,e0⟩|⟨ad2,c2,f2,hvx,hc2,F2,_⟩
  ·exact absurd e0 hne
  have hge:=Jj w (0+ys.length) 0 e
  have hv:=run_append_grow (P:=P) w t ty e i z hu hi hz ⟨G.blk o,0,none⟩ 0 0 [] (by simp) (by simp) ad2 ys.length c2 (Cz i.size ys.length f2) (Br _ _ _) (F2.vals hk) (by omega) (by omega) (growslice_fits (by omega) (by rw [C0];exact hl))
  rw [C0] at hv hge
  let c':=grownCap w ys.length 0 e
  have hfl:(Ni ys).length=ys.length*i.size:=Ub F2.k
  have hd':StRel d G st a w.drew:=h.drew (w.drawn+1)
  obtain ⟨G',h1,T,hbk,hlt⟩:=Qc hd' e (Ni ys++List.replicate ((c'-ys.length)*i.size) .any) (([]:List Value).toArray++(Cz i.size ys.length f2).toArray++Builtin.zeroCells z.cells (c'-ys.length)) (by
    simp only [M1,Je,Br,np _ hzk,Ai,List.length_replicate,hfl,Az]
    omega) (fun j y u hy hu'=>by
    by_cases hj:j<ys.length*i.size
    ·rw [Di (by rw [hfl];exact hj)] at hy
     have hq:j / i.size<ys.length:=by rw [Nat.div_lt_iff_lt_mul hk];exact hj
     have hjm:j % i.size<i.size:=Nat.mod_lt _ hk
     have hx0:ys[j / i.size]? = some (ys[j / i.size]):=Ab hq
     have hcl:=F2.k _ (B1 hq)
     have hy0:(ys[j / i.size]).cells[j % i.size]? = some ((ys[j / i.size]).cells[j % i.size]'(by omega)):=Ab _
     have e1:j / i.size*i.size+j % i.size=j:=by have:=Nat.div_add_mod j i.size;rw [Sh] at this;exact this
     have hfg:=Uc F2.k hx0 hy0
     rw [e1,hy] at hfg
     injection hfg with hfg
     have hval:(Cz i.size ys.length f2)[j]? = some (f2 (j / i.size) (j % i.size)):=Ll hj
     rw [M0 (by simp only [M1,Je,Br,Az];omega)] at hu'
     have e2:u=f2 (j / i.size) (j % i.size):=by
      have:(([]:List Value).toArray++(Cz i.size ys.length f2).toArray)[j]? = (Cz i.size ys.length f2)[j]? := by simp
      rw [this,hval] at hu'
      injection hu' with hu'
      exact hu'.symm
     rw [e2,hfg]
     exact (Lw G w (w.drawn+1)).rep (F2.rep _ _ _ _ hx0 hy0)
    rw [Dd (by rw [hfl];omega)] at hy
    rw [AAf] at hy
    split at hy
    ·injection hy with hy;subst hy;exact .any _ _
    cases hy)
  have hlen:(st.up++st.own).length=st.up.length+n:=by rw [Ai,hn]
  rw [hlen] at hbk hlt
  have hrun:(execOp a.eval (⟨some s,.call ⟨.builtin .append,#[xr,x],#[t,t]⟩,ty,pos,aft,gd⟩:Oper)).run P w=.ok (.value (.slice (some ⟨w.heap.size,0,none⟩) ys.length c')) (w.drew.alloc (.cells (([]:List Value).toArray++(Cz i.size ys.length f2).toArray++Builtin.zeroCells z.cells (c'-ys.length)) e)):=by
   simp only [execOp,resolve,invoke,builtin,Sem.run_bind,Sem.run_pure,Result.andThen_ok,Sc,Bz,Ek,hvb,hvx,hv]
   rfl
  have K0:=(Lw G w (w.drawn+1)).keep d
  refine Dt (by intro c h;cases h) hrun ⟨G',_,h1.put (s:=s) (y:=.sl (st.up.length+n) i.size ys.length c') hs ?_,K0.trans (T.keep d),rfl,rfl,rfl,c',hge,rfl⟩
  have hsz':w.drew.heap.size=w.heap.size:=rfl
  rw [←hsz',←hbk]
  exact .sl _ _ _ _ _ hlt

/-- The elements are written no more: the object goes, and the slice is one of known elements. -/
theorem StRel.freeze {G:Gh} {a:Act} {w:World} (h:StRel d G st a w) {r i k c:Nat} {t:TypeId} {cs xs:List AV} (hr:st.fr r=.sl (st.up.length+i) k xs.length c) (ho:st.own[i]? = some (.cells t cs)) (hnc:xs.length≤c)
  (hcs:cs.take (xs.length*k)=Ni xs) (hk:∀x∈xs,x.cells.length=k) (h1:∀x∈xs,∀y∈x.cells,y.one=true) (hst:∀x∈xs,∀y∈x.cells,y.strip=y):
  ∃G',StRel d G' { st with fr:=A7 r (.slice false k xs) st.fr,own:=st.own.set i .gone } a w∧Keep d G w G' w:=by
 let G':Gh:={ G with tag:=fun b q=>if G.tag b q=.obj (st.up.length+i) then .fix else G.tag b q }
 have hto:(st.up++st.own)[st.up.length+i]? = some (.cells t cs):=by rw [F7];exact ho
 have hol:st.up.length+i<(st.up++st.own).length:=(Ad.1 hto).1
 have htag:∀b q,G.tag b q≠.obj (st.up.length+i)→G'.tag b q=G.tag b q:=fun b q hb=>by simp only [G'];rw [if_neg hb]
 have htagO:∀b q,G.tag b q=.obj (st.up.length+i)→G'.tag b q=.fix:=fun b q hb=>by simp only [G'];rw [if_pos hb]
 have hfix:∀b q,G.tag b q=.fix→G'.tag b q=.fix:=fun b q hb=>by rw [htag b q (by rw [hb];simp)];exact hb
 have htail:∀b q L,G.tag b q=.tail L→G'.tag b q=.tail L:=fun b q L hb=>by rw [htag b q (by rw [hb];simp)];exact hb
 have hrep:∀{l:Option Loc} {y:AV} {u:Value},Rep G w l y u→Rep G' w l y u:=fun hy =>
  hy.mono (G':=G') (fun b q e=>⟨hfix b q e,rfl⟩) (Ak _) (fun _ _=>rfl) (fun L _ b q e=>htail b q L e)
 have hst':Still G w G' w:=fun b hb=>⟨rfl,hb.1,fun q=>by
  rcases hb.2.1 q with e|e
  ·exact .inl (hfix b q e)
  exact .inr (by rw [htag b q (by rw [e];simp)];exact e),hb.2.2⟩
 obtain ⟨vs,q1,q2,q3,q4⟩:=h.heap.obj _ _ hto
 refine ⟨G',⟨h.size,fun s=>?_,⟨fun j x hx=>?_,?_,h.heap.inj⟩,h.defs,fun q hq=>?_,h.defsNodup,h.defsGe,⟨fun b q hb=>h.tags.ex b q (fun e=>?_),fun b q j hb=>?_,fun b q L hb=>?_,h.tags.globKeep hst'⟩,h.rnd,h.low,h.top⟩,
  ⟨fun b q e=>⟨hfix b q e,rfl⟩,fun b q e s _ ht=>htail b q _ ht,Ak _,fun _ _=>rfl,rfl,rfl,rfl,Ak _,hst'⟩⟩
 ·show Rep G' w _ (A7 r (.slice false k xs) st.fr s) _
  unfold A7
  by_cases hs:s=r
  ·subst hs
   rw [if_pos rfl]
   have hsl:=h.slots s
   rw [hr] at hsl
   generalize a.tmps.getD s undef=v at hsl
   cases hsl with
   | sl l o k n c ho' =>
    refine .slice _ false k xs ⟨G.blk (st.up.length+i),0,none⟩ _ c (fun q j=>vs.getD (q*k+j) undef) rfl rfl hnc hk h1 (fun q x j y hx hy=>?_) (fun q x j y hx hy=>?_) (fun e=>by cases e)
    all_goals
     have hfg:=Uc hk hx hy
     have hlt:q*k+j<xs.length*k:=by
      have:=(Ad.1 hfg).1
      rw [Ub hk] at this;exact this
     rw [←hcs,List.getElem?_take_of_lt hlt] at hfg
     have hcl:=(Ad.1 hfg).1
    ·refine ⟨htagO _ _ (by simpa using q4 _ hcl),?_⟩
     simp only [C0]
     simp [World.cell?,q1,show q*k+j<vs.size by omega]
    have hu:=q3 _ y (vs[q*k+j]'(by omega)) hfg (F9 (by omega))
    have e1:vs.getD (q*k+j) undef=vs[q*k+j]'(by omega):=by simp [show q*k+j<vs.size by omega]
    rw [e1]
    have:=hrep (hu.strip (l':=none))
    rw [hst x (B0 hx) y (B0 hy)] at this
    exact this
  rw [if_neg hs]
  exact hrep (h.slots s)
 ·have hx':(st.up++st.own.set i .gone)[j]? = some x:=hx
  rw [←C7,N5] at hx'
  by_cases hj:st.up.length+i=j
  ·rw [if_pos hj,if_pos hol] at hx'
   injection hx' with hx'
   subst hx'
   subst hj
   exact ⟨vs,t,(0,0),q1,fun q hq=>htagO _ _ (q4 q (by omega))⟩
  rw [if_neg hj] at hx'
  exact (h.heap.obj j x hx').free (fun e=>hj e.symm) htag rfl rfl
 ·show G.n=(st.up++st.own.set i .gone).length
  have:=h.heap.n
  simpa using this
 ·show (st.up++st.own.set i .gone)[q]? = _
  have h2:=h.defsAt q hq
  rw [←C7,N5]
  by_cases hj:st.up.length+i=q
  ·subst hj;rw [hto] at h2;cases h2
  rw [if_neg hj];exact h2
 ·simp only [G'] at hb
  split at hb
  ·rename_i e';rw [e] at e';cases e'
  exact hb e
 ·simp only [G'] at hb
  split at hb
  ·cases hb
  exact h.tags.obj b q j hb
 simp only [G'] at hb
 split at hb
 ·cases hb
 exact h.tags.tail b q L hb
end
section
variable {P:Program} {d:Nat} {ops:Array Oper}
theorem ARun.turnSt {l:List Oper} {st st':St} {Q:St→Prop} (h:∀(G:Gh) (a:Act) (w:World),StRel d G st a w→∃G',StRel d G' st' a w∧Keep d G w G' w) (e1:st'.up.length=st.up.length) (e2:st'.rnd=st.rnd) (e3:st'.sz=st.sz) (hr:ARun P d ops l st' Q):ARun P d ops l st Q:=by
 intro G a w hrel idx hidx
 obtain ⟨G',h1,k⟩:=h G a w hrel
 have:=hr G' a w h1 idx hidx
 rw [Fy hrel k e2] at this
 exact Ds (fun e a' w' hp=>⟨hp.1,hp.2.next k e1 e2 e3⟩) _ _ _ this
variable {sz:Nat} {fr:Nat→AV} {up own own':List AObj} {dfs:List Nat} {rnd:Option Nat} {Q:St→Prop} {rest:List Oper} {s:Nat} {ty:TypeId} {pos:String} {aft:Array Edge}
theorem R.indexAddrSl {t e:TypeId} {x i:Operand} {o k n c:Nat} {q:IntKind} {z:Int} (m:Nat) (ht:P.underlying t=some (.slice e)) (hsz:∀w,(Go.sizeOf e).run P w=.ok k w) (hm:m<n) (hr:ARun P d ops rest ⟨sz,A7 s (.ptr o (m*k)) fr,up,own,dfs,rnd⟩ Q)
  (hx:Bc fr x=.sl o k n c:=by exact sL0) (hi:Bc fr i=.v (.int q z):=by exact sL0) (hz:z=(m:Int):=by first|rfl|omega) (hs:Nat.blt s sz=true:=by rfl):
  ARun P d ops (⟨some s,.indexAddr t x i,ty,pos,aft,none⟩::rest) ⟨sz,fr,up,own,dfs,rnd⟩ Q:=
 X2 rfl rfl hs (OpV.indexAddrSl ht hsz hm hx (by subst hz;exact hi)) hr
theorem R.buildObj0 {t e:TypeId} {k n:Nat} (ht:P.underlying t=some (.slice e)) (hsz:∀w,(Go.sizeOf e).run P w=.ok k w) (hr:ARun P d ops rest ⟨sz,A7 s (.sl (oid up.length n) k 0 0) fr,up,own',dfs,rnd⟩ Q)
  (hn:own.length=n:=by rfl) (ho:own++[.cells e []]=own':=by rfl) (hs:Nat.blt s sz=true:=by rfl):
  ARun P d ops (⟨some s,.buildSlice t 0 #[],ty,pos,aft,none⟩::rest) ⟨sz,fr,up,own,dfs,rnd⟩ Q:=by
 subst ho
 exact AKz rfl (AOp.buildObj0 (st:=⟨sz,fr,up,own,dfs,rnd⟩) ht hsz hn (by simpa using hs)) hr
theorem R.appendObj {t e:TypeId} {i:TypeInfo} {z:Value} {k o n:Nat} {xr x:Operand} {o2:Bool} {y:AV} {ys:List AV} (hu:P.underlying t=some (.slice e)) (hi:P.info? e=some i) (hne:ys≠[]) (hl:ys.length*i.bytes≤140737488355328) (hl2:ys.length≤4611686018427387904)
  (hr:∀c,ys.length≤c→ARun P d ops rest ⟨sz,A7 s (.sl (oid up.length n) k ys.length c) fr,up,own++[.cells e (Ni ys++List.replicate ((c-ys.length)*k) .any)],dfs,rnd⟩ Q)
  (hz:i.zero=some z:=by rfl) (hsz:i.size=k:=by rfl) (hzk:z.cells.size=k:=by rfl) (hk:0<k:=by decide) (hb:Bc fr xr=.sl o k 0 0:=by exact sL0)
  (hx:Bc fr x=y:=by exact sL0) (hx':Ji y o2 k ys:=by first|exact .inl rfl|exact .inr ⟨rfl,rfl⟩) (hn:own.length=n:=by rfl) (hs:Nat.blt s sz=true:=by rfl):
  ARun P d ops (⟨some s,.call ⟨.builtin .append,#[xr,x],#[t,t]⟩,ty,pos,aft,none⟩::rest) ⟨sz,fr,up,own,dfs,rnd⟩ Q:=by
 subst hx
 refine Wz rfl (AOp.appendObj (st:=⟨sz,fr,up,own,dfs,rnd⟩) hu hi hz hsz rfl hzk hk hb hx' hne hn (by simpa using hs) hl hl2) (fun s' hs'=>?_)
 obtain ⟨c,hc,rfl⟩:=hs'
 exact hr c hc
/-- The elements of the slice in slot r, over object i of ours, are written no more. -/
theorem R.freeze {l:List Oper} (r i:Nat) {k n c:Nat} {t:TypeId} {cs:List AV} (xs:List AV) (hnc:n≤c) (hn:n=xs.length) (hcs:cs.take (n*k)=Ni xs) (hk:∀x∈xs,x.cells.length=k) (h1:∀x∈xs,∀y∈x.cells,y.one=true) (hst:∀x∈xs,∀y∈x.cells,y.strip=y)
  (hr:ARun P d ops l ⟨sz,A7 r (.slice false k xs) fr,up,own',dfs,rnd⟩ Q) (hf:fr r=.sl (oid up.length i) k n c:=by exact sL0) (ho:own[i]? = some (.cells t cs):=by rfl) (hset:own.set i .gone=own':=by rfl):
  ARun P d ops l ⟨sz,fr,up,own,dfs,rnd⟩ Q:=by
 subst hset
 subst hn
 exact ARun.turnSt (fun G a w h=>h.freeze (st:=⟨sz,fr,up,own,dfs,rnd⟩) hf ho hnc hcs hk h1 hst) rfl rfl rfl hr
end
end Go.SX
namespace Go.SX
variable [GI:GlobInv]
open Classical
variable {P:Program} {d:Nat} {l0:List Oper} {kd:Nat} {ops:Array Oper} {rest:List Oper} {sz:Nat} {fr:Nat→AV} {up own:List AObj} {dfs:List Nat} {rnd:Option Nat} {Q:St→Prop} {s:Nat} {ty:TypeId} {pos:String} {aft:Array Edge} {E:List Oper→(Nat→AV)→Prop}
theorem R.nilTmp {l:List Oper} (s k:Nat) (o:Bool) (hr:ARun P d ops l ⟨sz,A7 s (.slice o k []) fr,up,own,dfs,rnd⟩ Q) (h:fr s=.nil:=by exact sL0):
  ARun P d ops l ⟨sz,fr,up,own,dfs,rnd⟩ Q:=
 AAn (st':=⟨sz,A7 s (.slice o k []) fr,up,own,dfs,rnd⟩) (Wy (s:=⟨sz,fr,up,own,dfs,rnd⟩) fun i=>by
  show Le (fr i) (A7 s (.slice o k []) fr i)
  unfold A7
  by_cases hi:i=s
  ·subst hi;rw [if_pos rfl,h];exact .nil _ _
  rw [if_neg hi];exact .refl _) hr
/-! A slice without room behind its end: whoever appends to it gets a new one. -/
theorem px (k:Nat) (xs:List AV):(AV.full k xs).strip=.full k xs:=rfl
theorem py (k:Nat) (xs:List AV):(AV.full k xs).cells=[.full k xs]:=rfl
theorem AC9 (k:Nat) (xs:List AV):(AV.full k xs).one=true:=rfl
attribute [go_sem] px py AC9
section
variable {KP:List PanicEntry→St→Prop} {up own:(Nat→Bool)→List AObj} {S:List SegY} {l:List Oper} {T F:List Nat}
/-- The p-th of those that turn the heap: a store into an object of whoever waits. -/
theorem Y.storeUp {t t':TypeId} {p x:Operand} {o off k pn:Nat} {y:AV} {ys cs cs':List AV} (hsz:∀w,(Go.sizeOf t).run P w=.ok k w)
  (hU:∀B:Nat→Bool,B pn=false→(up B)[o]? = some (.cells t' cs)∧up (upd B pn)=(up B).set o (.cells t' cs')∧own (upd B pn)=own B∧∀y∈ys,Low (up B).length y)
  (h:ChainY P d l0 sz up own dfs rnd KP E S l fr)
  (hp:Bc fr p=.ptr o off:=by exact sL0) (hx:Bc fr x=y:=by exact sL0) (hc:y.cells=ys:=by exact sL0) (hk:ys.length=k:=by rfl)
  (h1:ys.all AV.one=true:=by exact sL2) (hfit:off+k≤cs.length:=by exact sL1) (hput:Cu cs off ys=cs':=by exact sL0):
  ChainY P d l0 sz up own dfs rnd KP E (.s [] (some pn) T F::S) (⟨none,.store t p x,ty,pos,aft,none⟩::l) fr:=by
 subst hput
 subst hc
 refine ⟨_,l,[],rfl,⟨rfl,rfl,fun B f _ _ hB hf=>.of ?_⟩,h⟩
 obtain ⟨a1,a2,a3,a4⟩:=hU B (hB pn rfl)
 have e:Bc f p=.ptr o off:=by rw [agr hf (by simp [Op.operands])];exact hp
 have ex:Bc f x=y:=by rw [agr hf (by simp [Op.operands])];exact hx
 refine AOp.eqTo (AOp.storeUp (st:=⟨sz,f,up B,own B,dfs,rnd⟩) hsz e a1 ex hk h1 hfit a4) ?_
 show _=St.mk sz f (up (upd B pn)) (own (upd B pn)) dfs rnd
 rw [a2,a3]
end
end Go.SX
namespace Go.SX
def Ru:=@R.nilTmp
end Go.SX
