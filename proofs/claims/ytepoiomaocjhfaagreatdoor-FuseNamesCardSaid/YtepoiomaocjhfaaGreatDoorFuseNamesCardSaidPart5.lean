/- Texts on the way to this: FuseNames answers true for whatever it is handed: over right steps there is a tree for each column, of its kind or of none, or the error says that a tree grew too large. (part 5) -/
import Derived.Below
import Derived.Test.YtepoiomaocjhfaaGreatDoorProg
import Derived.KernelRfl
import Derived.Shelf.Strconv.Itoa4
import Derived.Shelf.Strings.SplitShaped
import Derived.Shelf.Strings.SlTrimAscii
import Derived.Shelf.Strings.OnBuilder
import Derived.Shelf.Strings.Replace
import Derived.Shelf.Small.Strs
import Derived.Shelf.Strings.Prefix
import Derived.Shelf.Strconv.ErrVarParseInt
import Derived.Shelf.Bits.Mul64
import Derived.Shelf.Strings.Builder1
import Derived.Shelf.Strings.Cut
import Derived.Lib.SplitLaws
import Derived.LaidEql
import Derived.Stop.Asserts
import Derived.RowKitTokens
import Derived.WalkKit
import Derived.Lib.AtoiErrMem
import Derived.Lib.Strings
import Derived.BigCall
import Derived.Lib.ParseIntB
import Derived.Test.YtepoiomaocjhfaaGreatDoorFuseNamesCardSaidPart4
set_option linter.all false
namespace Go.SX
variable [GI:GlobInv]
open Classical Go.RowKit
section
variable {P:Program} {g:FuncId} {Hp:List AObj}

/-- What is known of package-level variables, of a world alone. -/
def H0 (w:World):Prop:=∀x∈GI.blocks,∃o,w.heap[x.1]? = some o∧x.2 o

theorem Ts {G:Gh} {w:World} {xs:List Value} {vs:Array Value} (hn:vs.size=(xs.map AV.v).length) (h:∀(i:Nat) (y:AV) (u:Value),(xs.map AV.v)[i]? = some y→vs[i]? = some u→∃l,Rep G w l y u):vs=xs.toArray:=by
 apply Array.ext
 ·simpa using hn
 intro i h1 h2
 have hi:i<xs.length:=by simpa using h2
 obtain ⟨l,hr⟩:=h i (.v xs[i]) vs[i] (by simp [hi]) (Array.getElem?_eq_getElem h1)
 have:=Iz hr
 simpa using this

theorem E7 {G:Gh} {w w':World} (hT:TagOK G w) (hb:Below w.heap.size w w') {b o:Nat} (h:G.tag b o≠.free):w'.cell? ⟨b,o,none⟩=w.cell? ⟨b,o,none⟩∧w'.frozen? ⟨b,o,none⟩=w.frozen? ⟨b,o,none⟩:=by
 obtain ⟨u,hu⟩:=hT.ex b o h
 have hlt:b<w.heap.size:=World.block_lt_of_cell? _ _ hu
 have:=hb.block b hlt
 exact ⟨Ck this,Bx this⟩

theorem P2 {G:Gh} {w w':World} (hT:TagOK G w) (hb:Below w.heap.size w w'):Turn G w G w':=
 ⟨fun b o h=>⟨h,(E7 hT hb (by rw [h];simp)).1⟩,fun _ _ _ h=>h,fun _ _ _ h=>h,Nat.le_refl _,fun _ _=>rfl,hb.os,hb.tape,hb.output,hb.size,Still.tags (fun b hv=>hb.block b hv.1) hb.size (fun _ _ _=>.inl rfl) (fun _ hi=>.inl ⟨hi,rfl⟩)⟩

theorem Y6 {G:Gh} {H:List AObj} {w w':World} (hH:HeapRel G H w) (hT:TagOK G w) (hb:Below w.heap.size w w'):HeapRel G H w'∧TagOK G w':=by
 have T:=P2 hT hb
 refine ⟨⟨fun i x hx=>?_,hH.n,hH.inj⟩,⟨fun b o h=>?_,fun b o i h=>?_,fun b o L h=>?_,hT.globKeep T.old⟩⟩
 ·have hi:i<G.n:=by rw [hH.n];exact (List.getElem?_eq_some_iff.1 hx).1
  exact T.objRel hi (hb.block _ (J5 hH i hi)) (hH.obj i x hx) (fun b h=>hb.block b h.lt)
 ·rw [(E7 hT hb h).1];exact hT.ex b o h
 ·rw [(E7 hT hb (by rw [h];simp)).2];exact hT.obj b o i h
 rw [(E7 hT hb (by rw [h];simp)).2];exact hT.tail b o L h

/-- A function of AAc values that hands back a AAc value. -/
theorem AFun.lib {xs:List Value} {r:AV} {v:Value} (hr:∀G w,Rep G w none r v) (h:∀w,H0 w→Calls P g xs.toArray w (fun e w'=>e=.returned v∧Below w.heap.size w w')):AFun P g (xs.map .v) Hp r:=by
 intro d G w vs hn hv hH hT hTop
 have hvs:=Ts hn (fun i y u a b=>⟨_,hv i y u a b⟩)
 subst hvs
 refine (callsIn_wide.2 (h w (fun x hx=>let ⟨_,u,a,b⟩:=hT.glob x hx;⟨u,a,b⟩))).mono ?_
 rintro e w' ⟨rfl,hb⟩
 obtain ⟨h1,h2⟩:=Y6 hH hT hb
 exact ⟨v,G,r,Hp,rfl,(hr G w').lift,h1,h2,(P2 hT hb).keep _,rfl,rfl,rfl⟩


/-- A function of AAc values that hands back a new slice of AAc values. -/
theorem AFun.libSlice {xs ys:List Value} {t:TypeId} (hone:∀y∈ys,y.oneCell'=true) (h:∀w,H0 w→Calls P g xs.toArray w (fun e w'=>e=.returned (.slice (some ⟨w.heap.size,0,none⟩) ys.length ys.length)∧w'=w.alloc (.cells ys.toArray t))):
  AFun P g (xs.map .v) Hp (.slice false 1 (ys.map .v)):=by
 intro d G w vs hn hv hH hT hTop
 have hvs:=Ts hn (fun i y u a b=>⟨_,hv i y u a b⟩)
 subst hvs
 refine (callsIn_wide.2 (h w (fun x hx=>let ⟨_,u,a,b⟩:=hT.glob x hx;⟨u,a,b⟩))).mono ?_
 rintro e w' ⟨rfl,rfl⟩
 have hst:StRel (d+1) G ⟨0,fun _=>.any,Hp,[],[],none⟩ { tmps:=#[],defers:=[] } w:=
  ⟨rfl,fun s=>.any _ _,by simpa using hH,(by rw [Dp hTop];rfl),(fun o ho=>by simp at ho),List.nodup_nil,(fun o ho=>by simp at ho),hT,(fun l hl=>by cases hl),Oo hH,Nat.le_succ_of_le hTop⟩
 obtain ⟨G',g1,T,g2⟩:=M8 hst t ys.toArray
 refine ⟨_,G',_,Hp,rfl,?_,by simpa using g1.heap,g1.tags,T.keep _,rfl,rfl,rfl⟩
 refine .slice _ false 1 _ _ _ _ (fun i j=>ys.toArray.getD i undef) rfl (by simp) (Nat.le_refl _) (fun x hx=>?_) (fun x hx y hy=>?_) (fun i x j y hx hy=>?_) (fun i x j y hx hy=>?_) (fun h=>by cases h)
 ·obtain ⟨z,_,rfl⟩:=List.mem_map.1 hx
  rfl
 ·obtain ⟨z,hz,rfl⟩:=List.mem_map.1 hx
  have:y=.v z:=by simpa [AV.cells] using hy
  subst this
  exact hone z hz
 all_goals
  rw [List.getElem?_map,Option.map_eq_some_iff] at hx
  obtain ⟨z,hz,rfl⟩:=hx
  have hlt:i<ys.length:=(List.getElem?_eq_some_iff.1 hz).1
  have hj:j=0:=by
   match j,hy with
   | 0,_=>rfl
   | j+1,hy=>simp [AV.cells] at hy
  subst hj
 ·refine ⟨by simpa using g2 i (by simpa using hlt),?_⟩
  rw [World.cell?_alloc_new]
  simp [hlt]
 have:y=.v z:=by simpa [AV.cells] using hy.symm
 subst this
 have e:ys.toArray.getD i undef=z:=by
  have:=List.getElem?_eq_getElem hlt
  rw [this] at hz
  injection hz with hz
  simp [hlt,hz]
 rw [e]
 exact .v _ _
/-- A function that hands back a AAc value and, behind an interface value, a new record of AAc values. -/
theorem AFun.libErr {xs cs:List Value} {n:Value} {T te:TypeId} (hone:∀y∈cs,y.oneCell'=true) (h:∀w,H0 w→Calls P g xs.toArray w (fun e w'=>∃N,e=.returned (.tuple #[n,.iface T (.pointer (some ⟨N,0,none⟩))])∧w.heap.size≤N∧w'.heap[N]? = some (.cells cs.toArray te (0,0))∧Below w.heap.size w w')):
  AFun P g (xs.map .v) Hp (.tup [.v n,.iface T (.ro (cs.map .v))]):=by
 intro d G w vs hn hv hH hT hTop
 have hvs:=Ts hn (fun i y u a b=>⟨_,hv i y u a b⟩)
 subst hvs
 refine (callsIn_wide.2 (h w (fun x hx=>let ⟨_,u,a,b⟩:=hT.glob x hx;⟨u,a,b⟩))).mono ?_
 rintro e w' ⟨N,rfl,hN,hcell,hb⟩
 have hfree:∀o,G.tag N o=.free:=fun o=>Cw hT _ o hN
 let G':Gh:={ G with tag:=fun b o=>if b=N∧o<cs.length then .fix else G.tag b o }
 have hne:∀b o,G.tag b o≠.free→¬(b=N∧o<cs.length):=fun b o hb hc=>by rw [hc.1] at hb;exact hb (hfree o)
 have hnew:∀o,o<cs.length→w'.cell? ⟨N,o,none⟩=cs[o]? := fun o ho=>by simp [World.cell?,hcell,ho]
 have T1:Turn G w G' w':=by
  refine ⟨fun b o h=>⟨?_,(E7 hT hb (by rw [h];simp)).1⟩,fun b o L h=>?_,fun b o i h=>?_,Nat.le_refl _,fun _ _=>rfl,hb.os,hb.tape,hb.output,hb.size,
   Still.tags (fun b hv=>hb.block b hv.1) hb.size (fun b o hlt=>.inl ?_) (fun _ hi=>.inl ⟨hi,rfl⟩)⟩
  ·simp only [G'];rw [if_neg (hne b o (by rw [h];simp))];exact h
  ·simp only [G'];rw [if_neg (hne b o (by rw [h];simp))];exact h
  ·simp only [G'];rw [if_neg (hne b o (by rw [h];simp))];exact h
  simp only [G'];rw [if_neg (by omega)]
 have hH':HeapRel G' Hp w':=⟨fun i x hx=>by
  have hi:i<G.n:=by rw [hH.n];exact (List.getElem?_eq_some_iff.1 hx).1
  exact T1.objRel hi (hb.block _ (J5 hH i hi)) (hH.obj i x hx) (fun b h=>hb.block b h.lt),hH.n,hH.inj⟩
 have hT':TagOK G' w':=by
  refine ⟨fun b o h=>?_,fun b o i h=>?_,fun b o L h=>?_,hT.globKeep T1.old⟩
  ·simp only [G'] at h
   split at h
   ·rename_i hc;obtain ⟨rfl,ho⟩:=hc;exact ⟨_,(hnew o ho).trans (List.getElem?_eq_getElem ho)⟩
   rw [(E7 hT hb h).1];exact hT.ex b o h
  ·simp only [G'] at h
   split at h
   ·cases h
   rw [(E7 hT hb (by rw [h];simp)).2];exact hT.obj b o i h
  simp only [G'] at h
  split at h
  ·cases h
  rw [(E7 hT hb (by rw [h];simp)).2];exact hT.tail b o L h
 refine ⟨_,G',_,Hp,rfl,?_,hH',hT',T1.keep _,rfl,rfl,rfl⟩
 refine .tup _ _ _ rfl (fun i y u hy hu=>?_)
 match i with
 | 0=>simp at hy hu;subst hy;subst hu;exact .v _ _
 | 1 =>
  simp at hy hu;subst hy;subst hu
  refine .iface _ _ _ _ (.ro _ _ ⟨N,0,none⟩ (fun j=>cs.getD j undef) rfl (fun y hy=>?_) (fun j y hy=>?_) (fun j y hy=>?_))
  ·obtain ⟨z,hz,rfl⟩:=List.mem_map.1 hy
   exact hone z hz
  all_goals
   rw [List.getElem?_map,Option.map_eq_some_iff] at hy
   obtain ⟨z,hz,rfl⟩:=hy
   have hlt:j<cs.length:=(List.getElem?_eq_some_iff.1 hz).1
   have e:cs.getD j undef=z:=by rw [List.getD_eq_getElem?_getD,hz];rfl
  ·refine ⟨by simp [G',hlt],?_⟩
   rw [Nat.zero_add,hnew j hlt,hz,e]
  rw [e];exact .v _ _
 | i+2=>simp at hy
theorem TagOK.globIn {G:Gh} {w:World} (h:TagOK G w):H0 w:=fun x hx=>(h.glob x hx).2
/-- A package-level variable of which something is known. -/
theorem R.loadGlob {d:Nat} {ops:Array Oper} {rest:List Oper} {sz:Nat} {fr:Nat→AV} {up own:List AObj} {dfs:List Nat} {rnd:Option Nat} {Q:St→Prop} {s:Nat} {ty:TypeId} {pos:String} {aft:Array Edge} {t:TypeId} {gl:Nat} {v:Value}
  (hagg:∀w,(isAgg t).run P w=.ok false w) (hv:∀w,H0 w→w.cell? ⟨gl,0,none⟩=some v) (hr:ARun P d ops rest ⟨sz,A3 s (.v v) fr,up,own,dfs,rnd⟩ Q) (hs:Nat.blt s sz=true:=by rfl):
  ARun P d ops (⟨some s,.load t (.global gl),ty,pos,aft,none⟩::rest) ⟨sz,fr,up,own,dfs,rnd⟩ Q:=by
 refine ARun.v rfl rfl (by simpa using hs) (OpV.pure (by intro c h;cases h) fun G a w h=>⟨v,?_,.v _ _⟩) hr
 have hc:=hv w h.tags.globIn
 have e:a.eval (.global gl)=.pointer (some ⟨gl,0,none⟩):=rfl
 simp [execOp,e,Instr.loadAt,Instr.sureAddr,loadVar,hagg,hc]
end
end Go.SX
namespace Go.SX.Nb
open Go Go.SX Go.Proofs
set_option maxRecDepth 4000

/-- Where strconv.ErrRange points. -/
class ErrAt where
 b:Addr
 bd:Nat:=0
 bl:List Deferred:=[]
/-- The package-level variables of which something is known: bytealg.MaxLen is a number; strconv.ErrRange is an error of errors.New's make; the table of powers of ten. -/
def Rg [E:ErrAt]:List (Nat×(Obj→Prop)):=[(0,fun o=>∃m t f,o=.cells #[.int .i64 m] t f),(1,fun o=>∃t f,o=.cells #[.iface 271 (.pointer (some E.b))] t f),(4,fun o=>∃t f,o=.cells (Lib.pow10Tab.map fun z=>Value.int .u64 z).toArray t f)]
instance globInv [E:ErrAt]:GlobInv:={ blocks:=Rg,bd:=E.bd,bl:=E.bl }
variable [ErrAt]

abbrev Str:=List UInt8
structure Col where
 name:Str
 kind:Int
 deriving DecidableEq
structure Val where
 kind:Int
 n:Int
 s:Str
 deriving DecidableEq
structure Row where
 key:Int
 l:List Val
 deriving DecidableEq
abbrev A6 (s:Str):AV:=.v (sv s)
abbrev A2 (n:Int):AV:=.v (.int .i64 n)
abbrev Al (b:Bool):AV:=.v (.bool b)
abbrev Ak (c:Col):AV:=.agg [.v (sv c.name),.v (.int .i64 c.kind)]
abbrev A9 (c:List Col):AV:=.slice false 2 (c.map Ak)
abbrev P3 (v:Val):AV:=.agg [.v (.int .i64 v.kind),.v (.int .i64 v.n),.v (sv v.s)]
abbrev D6 (l:List Str):AV:=.slice false 1 (l.map A6)
theorem Ae {α β:Type} {f:α→β} {l:List α} {i:Nat} (h:i<l.length):(l.map f)[i]? = some (f l[i]):=by simp [h]
theorem Ad:Tryz.prog.follows .mixedOrders=true:=by kernel_rfl
theorem k8:Tryz.prog.eqGuardType Tryz.prog.depth 42=false:=by kernel_rfl
theorem Lp (k n k' n':Int) (s s':List UInt8) (w:World):(Op.equal 42 (.agg #[.int .i64 k,.int .i64 n,.string ⟨s.toArray⟩]) (.agg #[.int .i64 k',.int .i64 n',.string ⟨s'.toArray⟩])).run Tryz.prog w=.ok (k==k'&&n==n'&&s==s') w:=by
 have h1:Tryz.prog.stoodInHeld 42=false:=by kernel_rfl
 show (Op.equalIn (9999+1) _ _ _).run _ _=_
 rw [Op.equalIn]
 generalize hd:(9999:Nat)=d
 obtain ⟨d,rfl⟩:∃e,d=e+1:=⟨9998,hd.symm⟩
 clear hd
 simp [run_underlying Tryz.underlying42,h1,part,sk _ _ _ _ _ _ Tryz.underlying3,sk _ _ _ _ _ _ Tryz.underlying2,wm _ _ _ _ _ Tryz.underlying9,Tryz.isAgg3,Tryz.isAgg2,Tryz.isAgg9]
 by_cases e1:k=k'<;>by_cases e2:n=n'<;>by_cases e3:s=s'<;>simp [e1,e2,e3]
end Go.SX.Nb
namespace Go.Proofs
open Go Go.Shelf
def Tryz.ren144:Ren where
 f:=fun x=>match x with|144=>142|143=>169|219=>183|217=>197|225=>201|224=>202|267=>203|266=>218|314=>222|n=>n
 t:=fun x=>match x with|9=>9|4=>4|3=>3|5=>5|46=>208|146=>229|51=>228|n=>n
 g:=fun x=>match x with|1=>0|n=>n
theorem Tryz.lays144:Lays.n144 Tryz.prog Tryz.ren144 where
 mixed:=by kernel_rfl
 f143:=Tryz.func169
 f144:=Tryz.func142
 f217:=Tryz.func197
 f219:=Tryz.func183
 f224:=Tryz.func202
 f225:=Tryz.func201
 f266:=Tryz.func218
 f267:=Tryz.func203
 f314:=Tryz.func222
 t3:=Tryz.underlying3
 a3:=Tryz.isAgg3
 z3:=Tryz.sizeOf3
 v3:=Tryz.zeroValue3
 t4:=Tryz.underlying4
 a4:=Tryz.isAgg4
 z4:=Tryz.sizeOf4
 v4:=Tryz.zeroValue4
 t5:=Tryz.underlying5
 a5:=Tryz.isAgg5
 z5:=Tryz.sizeOf5
 v5:=Tryz.zeroValue5
 t9:=Tryz.underlying9
 a9:=Tryz.isAgg9
 z9:=Tryz.sizeOf9
 v9:=Tryz.zeroValue9
 t46:=Tryz.underlying208
 a46:=Tryz.isAgg208
 z46:=Tryz.sizeOf208
 v46:=Tryz.zeroValue208
 t51:=Tryz.underlying228
 a51:=Tryz.isAgg228
 z51:=Tryz.sizeOf228
 v51:=Tryz.zeroValue228
 t146:=Tryz.underlying229
 a146:=Tryz.isAgg229
 z146:=Tryz.sizeOf229
 v146:=Tryz.zeroValue229
 g1:=by kernel_rfl
def Tryz.ren145:Ren where
 f:=fun x=>match x with|145=>143|220=>174|219=>183|217=>197|225=>201|224=>202|267=>203|266=>218|314=>222|n=>n
 t:=fun x=>match x with|9=>9|4=>4|59=>168|3=>3|5=>5|46=>208|146=>229|51=>228|n=>n
 g:=fun x=>match x with|1=>0|n=>n
theorem Tryz.lays145:Lays.n145 Tryz.prog Tryz.ren145 where
 mixed:=by kernel_rfl
 f145:=Tryz.func143
 f217:=Tryz.func197
 f219:=Tryz.func183
 f220:=Tryz.func174
 f224:=Tryz.func202
 f225:=Tryz.func201
 f266:=Tryz.func218
 f267:=Tryz.func203
 f314:=Tryz.func222
 t3:=Tryz.underlying3
 a3:=Tryz.isAgg3
 z3:=Tryz.sizeOf3
 v3:=Tryz.zeroValue3
 t4:=Tryz.underlying4
 a4:=Tryz.isAgg4
 z4:=Tryz.sizeOf4
 v4:=Tryz.zeroValue4
 t5:=Tryz.underlying5
 a5:=Tryz.isAgg5
 z5:=Tryz.sizeOf5
 v5:=Tryz.zeroValue5
 t9:=Tryz.underlying9
 a9:=Tryz.isAgg9
 z9:=Tryz.sizeOf9
 v9:=Tryz.zeroValue9
 t46:=Tryz.underlying208
 a46:=Tryz.isAgg208
 z46:=Tryz.sizeOf208
 v46:=Tryz.zeroValue208
 t51:=Tryz.underlying228
 a51:=Tryz.isAgg228
 z51:=Tryz.sizeOf228
 v51:=Tryz.zeroValue228
 t59:=Tryz.underlying168
 a59:=Tryz.isAgg168
 z59:=Tryz.sizeOf168
 v59:=Tryz.zeroValue168
 t146:=Tryz.underlying229
 a146:=Tryz.isAgg229
 z146:=Tryz.sizeOf229
 v146:=Tryz.zeroValue229
 g1:=by kernel_rfl
def Tryz.ren146:Ren where
 f:=fun x=>match x with|146=>100|221=>135|268=>167|138=>168|143=>169|195=>180|197=>181|218=>182|219=>183|260=>200|217=>197|225=>201|224=>202|267=>203|266=>218|314=>222|n=>n
 t:=fun x=>match x with|9=>9|31=>37|3=>3|4=>4|0=>0|105=>190|21=>21|5=>5|46=>208|119=>224|139=>227|138=>226|146=>229|51=>228|n=>n
 g:=fun x=>match x with|1=>0|3=>2|4=>3|n=>n
theorem Tryz.lays146:Lays.n146 Tryz.prog Tryz.ren146 where
 mixed:=by kernel_rfl
 f138:=Tryz.func168
 f143:=Tryz.func169
 f146:=Tryz.func100
 f195:=Tryz.func180
 f197:=Tryz.func181
 f217:=Tryz.func197
 f218:=Tryz.func182
 f219:=Tryz.func183
 f221:=Tryz.func135
 f224:=Tryz.func202
 f225:=Tryz.func201
 f260:=Tryz.func200
 f266:=Tryz.func218
 f267:=Tryz.func203
 f268:=Tryz.func167
 f314:=Tryz.func222
 t0:=Tryz.underlying0
 a0:=Tryz.isAgg0
 z0:=Tryz.sizeOf0
 v0:=Tryz.zeroValue0
 t3:=Tryz.underlying3
 a3:=Tryz.isAgg3
 z3:=Tryz.sizeOf3
 v3:=Tryz.zeroValue3
 t4:=Tryz.underlying4
 a4:=Tryz.isAgg4
 z4:=Tryz.sizeOf4
 v4:=Tryz.zeroValue4
 t5:=Tryz.underlying5
 a5:=Tryz.isAgg5
 z5:=Tryz.sizeOf5
 v5:=Tryz.zeroValue5
 t9:=Tryz.underlying9
 a9:=Tryz.isAgg9
 z9:=Tryz.sizeOf9
 v9:=Tryz.zeroValue9
 t21:=Tryz.underlying21
 a21:=Tryz.isAgg21
 z21:=Tryz.sizeOf21
 v21:=Tryz.zeroValue21
 t31:=Tryz.underlying37
 a31:=Tryz.isAgg37
 z31:=Tryz.sizeOf37
 v31:=Tryz.zeroValue37
 t46:=Tryz.underlying208
 a46:=Tryz.isAgg208
 z46:=Tryz.sizeOf208
 v46:=Tryz.zeroValue208
 t51:=Tryz.underlying228
 a51:=Tryz.isAgg228
 z51:=Tryz.sizeOf228
 v51:=Tryz.zeroValue228
 t105:=Tryz.underlying190
 a105:=Tryz.isAgg190
 z105:=Tryz.sizeOf190
 v105:=Tryz.zeroValue190
 t119:=Tryz.underlying224
 a119:=Tryz.isAgg224
 z119:=Tryz.sizeOf224
 t138:=Tryz.underlying226
 a138:=Tryz.isAgg226
 z138:=Tryz.sizeOf226
 v138:=Tryz.zeroValue226
 t139:=Tryz.underlying227
 a139:=Tryz.isAgg227
 z139:=Tryz.sizeOf227
 v139:=Tryz.zeroValue227
 t146:=Tryz.underlying229
 a146:=Tryz.isAgg229
 z146:=Tryz.sizeOf229
 v146:=Tryz.zeroValue229
 g1:=by kernel_rfl
 g3:=by kernel_rfl
 g4:=by kernel_rfl
def Tryz.ren161:Ren where
 f:=fun x=>match x with|161=>173|231=>186|227=>187|233=>188|235=>189|228=>209|197=>181|151=>210|260=>200|152=>229|137=>176|119=>242|224=>202|225=>201|217=>197|266=>218|n=>n
 t:=fun x=>match x with|9=>9|4=>4|3=>3|5=>5|117=>196|116=>195|0=>0|124=>199|105=>190|21=>21|119=>224|46=>208|139=>227|138=>226|n=>n
 g:=fun x=>match x with|3=>2|4=>3|n=>n
theorem Tryz.lays161:Lays.n161 Tryz.prog Tryz.ren161 where
 mixed:=by kernel_rfl
 f119:=Tryz.func242
 f137:=Tryz.func176
 f151:=Tryz.func210
 f152:=Tryz.func229
 f161:=Tryz.func173
 f197:=Tryz.func181
 f217:=Tryz.func197
 f224:=Tryz.func202
 f225:=Tryz.func201
 f227:=Tryz.func187
 f228:=Tryz.func209
 f231:=Tryz.func186
 f233:=Tryz.func188
 f235:=Tryz.func189
 f260:=Tryz.func200
 f266:=Tryz.func218
 t0:=Tryz.underlying0
 a0:=Tryz.isAgg0
 z0:=Tryz.sizeOf0
 v0:=Tryz.zeroValue0
 t3:=Tryz.underlying3
 a3:=Tryz.isAgg3
 z3:=Tryz.sizeOf3
 v3:=Tryz.zeroValue3
 t4:=Tryz.underlying4
 a4:=Tryz.isAgg4
 z4:=Tryz.sizeOf4
 v4:=Tryz.zeroValue4
 t5:=Tryz.underlying5
 a5:=Tryz.isAgg5
 z5:=Tryz.sizeOf5
 v5:=Tryz.zeroValue5
 t9:=Tryz.underlying9
 a9:=Tryz.isAgg9
 z9:=Tryz.sizeOf9
 v9:=Tryz.zeroValue9
 t21:=Tryz.underlying21
 a21:=Tryz.isAgg21
 z21:=Tryz.sizeOf21
 v21:=Tryz.zeroValue21
 t46:=Tryz.underlying208
 a46:=Tryz.isAgg208
 z46:=Tryz.sizeOf208
 v46:=Tryz.zeroValue208
 t105:=Tryz.underlying190
 a105:=Tryz.isAgg190
 z105:=Tryz.sizeOf190
 v105:=Tryz.zeroValue190
 t116:=Tryz.underlying195
 a116:=Tryz.isAgg195
 z116:=Tryz.sizeOf195
 t117:=Tryz.underlying196
 a117:=Tryz.isAgg196
 z117:=Tryz.sizeOf196
 v117:=Tryz.zeroValue196
 t119:=Tryz.underlying224
 a119:=Tryz.isAgg224
 z119:=Tryz.sizeOf224
 t124:=Tryz.underlying199
 a124:=Tryz.isAgg199
 z124:=Tryz.sizeOf199
 v124:=Tryz.zeroValue199
 t138:=Tryz.underlying226
 a138:=Tryz.isAgg226
 z138:=Tryz.sizeOf226
 v138:=Tryz.zeroValue226
 t139:=Tryz.underlying227
 a139:=Tryz.isAgg227
 z139:=Tryz.sizeOf227
 v139:=Tryz.zeroValue227
 g3:=by kernel_rfl
 g4:=by kernel_rfl
def Tryz.ren99:Ren where
 f:=fun x=>match x with|99=>192|206=>211|n=>n
 t:=fun x=>match x with|9=>9|4=>4|3=>3|n=>n
 g:=fun x=>x
theorem Tryz.lays99:Lays.n99 Tryz.prog Tryz.ren99 where
 mixed:=by kernel_rfl
 f99:=Tryz.func192
 f206:=Tryz.func211
 t3:=Tryz.underlying3
 a3:=Tryz.isAgg3
 z3:=Tryz.sizeOf3
 v3:=Tryz.zeroValue3
 t4:=Tryz.underlying4
 a4:=Tryz.isAgg4
 z4:=Tryz.sizeOf4
 v4:=Tryz.zeroValue4
 t9:=Tryz.underlying9
 a9:=Tryz.isAgg9
 z9:=Tryz.sizeOf9
 v9:=Tryz.zeroValue9
def Tryz.ren100:Ren where
 f:=fun x=>match x with|100=>193|207=>212|n=>n
 t:=fun x=>match x with|9=>9|4=>4|3=>3|n=>n
 g:=fun x=>x
theorem Tryz.lays100:Lays.n100 Tryz.prog Tryz.ren100 where
 mixed:=by kernel_rfl
 f100:=Tryz.func193
 f207:=Tryz.func212
 t3:=Tryz.underlying3
 a3:=Tryz.isAgg3
 z3:=Tryz.sizeOf3
 v3:=Tryz.zeroValue3
 t4:=Tryz.underlying4
 a4:=Tryz.isAgg4
 z4:=Tryz.sizeOf4
 v4:=Tryz.zeroValue4
 t9:=Tryz.underlying9
 a9:=Tryz.isAgg9
 z9:=Tryz.sizeOf9
 v9:=Tryz.zeroValue9
def Tryz.ren101:Ren where
 f:=fun x=>match x with|101=>214|208=>230|206=>211|n=>n
 t:=fun x=>match x with|9=>9|4=>4|3=>3|n=>n
 g:=fun x=>x
theorem Tryz.lays101:Lays.n101 Tryz.prog Tryz.ren101 where
 mixed:=by kernel_rfl
 f101:=Tryz.func214
 f206:=Tryz.func211
 f208:=Tryz.func230
 t3:=Tryz.underlying3
 a3:=Tryz.isAgg3
 z3:=Tryz.sizeOf3
 v3:=Tryz.zeroValue3
 t4:=Tryz.underlying4
 a4:=Tryz.isAgg4
 z4:=Tryz.sizeOf4
 v4:=Tryz.zeroValue4
 t9:=Tryz.underlying9
 a9:=Tryz.isAgg9
 z9:=Tryz.sizeOf9
 v9:=Tryz.zeroValue9
def Tryz.ren160:Ren where
 f:=fun x=>match x with|160=>215|232=>231|231=>186|227=>187|234=>232|233=>188|236=>233|235=>189|228=>209|271=>243|151=>210|197=>181|120=>252|152=>229|260=>200|137=>176|119=>242|224=>202|225=>201|217=>197|266=>218|n=>n
 t:=fun x=>match x with|9=>9|4=>4|3=>3|5=>5|117=>196|116=>195|0=>0|124=>199|21=>21|105=>190|46=>208|119=>224|139=>227|138=>226|n=>n
 g:=fun x=>match x with|3=>2|4=>3|n=>n
theorem Tryz.lays160:Lays.n160 Tryz.prog Tryz.ren160 where
 mixed:=by kernel_rfl
 f119:=Tryz.func242
 f120:=Tryz.func252
 f137:=Tryz.func176
 f151:=Tryz.func210
 f152:=Tryz.func229
 f160:=Tryz.func215
 f197:=Tryz.func181
 f217:=Tryz.func197
 f224:=Tryz.func202
 f225:=Tryz.func201
 f227:=Tryz.func187
 f228:=Tryz.func209
 f231:=Tryz.func186
 f232:=Tryz.func231
 f233:=Tryz.func188
 f234:=Tryz.func232
 f235:=Tryz.func189
 f236:=Tryz.func233
 f260:=Tryz.func200
 f266:=Tryz.func218
 f271:=Tryz.func243
 t0:=Tryz.underlying0
 a0:=Tryz.isAgg0
 z0:=Tryz.sizeOf0
 v0:=Tryz.zeroValue0
 t3:=Tryz.underlying3
 a3:=Tryz.isAgg3
 z3:=Tryz.sizeOf3
 v3:=Tryz.zeroValue3
 t4:=Tryz.underlying4
 a4:=Tryz.isAgg4
 z4:=Tryz.sizeOf4
 v4:=Tryz.zeroValue4
 t5:=Tryz.underlying5
 a5:=Tryz.isAgg5
 z5:=Tryz.sizeOf5
 v5:=Tryz.zeroValue5
 t9:=Tryz.underlying9
 a9:=Tryz.isAgg9
 z9:=Tryz.sizeOf9
 v9:=Tryz.zeroValue9
 t21:=Tryz.underlying21
 a21:=Tryz.isAgg21
 z21:=Tryz.sizeOf21
 v21:=Tryz.zeroValue21
 t46:=Tryz.underlying208
 a46:=Tryz.isAgg208
 z46:=Tryz.sizeOf208
 v46:=Tryz.zeroValue208
 t105:=Tryz.underlying190
 a105:=Tryz.isAgg190
 z105:=Tryz.sizeOf190
 v105:=Tryz.zeroValue190
 t116:=Tryz.underlying195
 a116:=Tryz.isAgg195
 z116:=Tryz.sizeOf195
 t117:=Tryz.underlying196
 a117:=Tryz.isAgg196
 z117:=Tryz.sizeOf196
 v117:=Tryz.zeroValue196
 t119:=Tryz.underlying224
 a119:=Tryz.isAgg224
 z119:=Tryz.sizeOf224
 t124:=Tryz.underlying199
 a124:=Tryz.isAgg199
 z124:=Tryz.sizeOf199
 v124:=Tryz.zeroValue199
 t138:=Tryz.underlying226
 a138:=Tryz.isAgg226
 z138:=Tryz.sizeOf226
 v138:=Tryz.zeroValue226
 t139:=Tryz.underlying227
 a139:=Tryz.isAgg227
 z139:=Tryz.sizeOf227
 v139:=Tryz.zeroValue227
 g3:=by kernel_rfl
 g4:=by kernel_rfl
def Tryz.ren155:Ren where
 f:=fun x=>match x with|155=>139|154=>172|138=>168|165=>185|143=>169|166=>102|197=>181|169=>73|195=>180|218=>182|240=>137|241=>208|219=>183|260=>200|276=>170|277=>228|217=>197|225=>201|224=>202|267=>203|266=>218|314=>222|n=>n
 t:=fun x=>match x with|9=>9|3=>3|4=>4|72=>107|0=>0|76=>134|105=>190|21=>21|5=>5|70=>104|20=>20|37=>105|75=>133|127=>138|164=>179|46=>208|119=>224|139=>227|138=>226|146=>229|51=>228|80=>112|n=>n
 g:=fun x=>match x with|1=>0|3=>2|4=>3|n=>n
theorem Tryz.lays155:Lays.n155 Tryz.prog Tryz.ren155 where
 mixed:=by kernel_rfl
 f138:=Tryz.func168
 f143:=Tryz.func169
 f154:=Tryz.func172
 f155:=Tryz.func139
 f165:=Tryz.func185
 f166:=Tryz.func102
 f169:=Tryz.func73
 f195:=Tryz.func180
 f197:=Tryz.func181
 f217:=Tryz.func197
 f218:=Tryz.func182
 f219:=Tryz.func183
 f224:=Tryz.func202
 f225:=Tryz.func201
 f240:=Tryz.func137
 f241:=Tryz.func208
 f260:=Tryz.func200
 f266:=Tryz.func218
 f267:=Tryz.func203
 f276:=Tryz.func170
 f277:=Tryz.func228
 f314:=Tryz.func222
 t0:=Tryz.underlying0
 a0:=Tryz.isAgg0
 z0:=Tryz.sizeOf0
 v0:=Tryz.zeroValue0
 t3:=Tryz.underlying3
 a3:=Tryz.isAgg3
 z3:=Tryz.sizeOf3
 v3:=Tryz.zeroValue3
 t4:=Tryz.underlying4
 a4:=Tryz.isAgg4
 z4:=Tryz.sizeOf4
 v4:=Tryz.zeroValue4
 t5:=Tryz.underlying5
 a5:=Tryz.isAgg5
 z5:=Tryz.sizeOf5
 v5:=Tryz.zeroValue5
 t9:=Tryz.underlying9
 a9:=Tryz.isAgg9
 z9:=Tryz.sizeOf9
 v9:=Tryz.zeroValue9
 t20:=Tryz.underlying20
 a20:=Tryz.isAgg20
 z20:=Tryz.sizeOf20
 v20:=Tryz.zeroValue20
 t21:=Tryz.underlying21
 a21:=Tryz.isAgg21
 z21:=Tryz.sizeOf21
 v21:=Tryz.zeroValue21
 t37:=Tryz.underlying105
 a37:=Tryz.isAgg105
 z37:=Tryz.sizeOf105
 v37:=Tryz.zeroValue105
 t46:=Tryz.underlying208
 a46:=Tryz.isAgg208
 z46:=Tryz.sizeOf208
 v46:=Tryz.zeroValue208
 t51:=Tryz.underlying228
 a51:=Tryz.isAgg228
 z51:=Tryz.sizeOf228
 v51:=Tryz.zeroValue228
 t70:=Tryz.underlying104
 a70:=Tryz.isAgg104
 z70:=Tryz.sizeOf104
 v70:=Tryz.zeroValue104
 t72:=Tryz.underlying107
 a72:=Tryz.isAgg107
 z72:=Tryz.sizeOf107
 v72:=Tryz.zeroValue107
 t75:=Tryz.underlying133
 a75:=Tryz.isAgg133
 z75:=Tryz.sizeOf133
 v75:=Tryz.zeroValue133
 t76:=Tryz.underlying134
 a76:=Tryz.isAgg134
 z76:=Tryz.sizeOf134
 v76:=Tryz.zeroValue134
 t105:=Tryz.underlying190
 a105:=Tryz.isAgg190
 z105:=Tryz.sizeOf190
 v105:=Tryz.zeroValue190
 t119:=Tryz.underlying224
 a119:=Tryz.isAgg224
 z119:=Tryz.sizeOf224
 t127:=Tryz.underlying138
 a127:=Tryz.isAgg138
 z127:=Tryz.sizeOf138
 v127:=Tryz.zeroValue138
 t138:=Tryz.underlying226
 a138:=Tryz.isAgg226
 z138:=Tryz.sizeOf226
 v138:=Tryz.zeroValue226
 t139:=Tryz.underlying227
 a139:=Tryz.isAgg227
 z139:=Tryz.sizeOf227
 v139:=Tryz.zeroValue227
 t146:=Tryz.underlying229
 a146:=Tryz.isAgg229
 z146:=Tryz.sizeOf229
 v146:=Tryz.zeroValue229
 t164:=Tryz.underlying179
 a164:=Tryz.isAgg179
 z164:=Tryz.sizeOf179
 v164:=Tryz.zeroValue179
 g1:=by kernel_rfl
 g3:=by kernel_rfl
 g4:=by kernel_rfl
def Tryz.ren174:Ren where
 f:=fun x=>match x with|174=>216|247=>234|245=>235|287=>244|279=>245|280=>246|281=>247|282=>248|321=>253|322=>254|316=>255|171=>257|205=>256|243=>261|246=>184|283=>204|284=>205|285=>206|286=>207|129=>224|317=>223|318=>225|319=>226|320=>227|337=>240|338=>241|n=>n
 t:=fun x=>match x with|9=>9|3=>3|2=>2|75=>133|85=>217|4=>4|167=>246|5=>5|53=>210|175=>247|46=>208|168=>249|37=>105|0=>0|210=>268|21=>21|127=>138|145=>273|143=>271|171=>209|173=>213|212=>232|51=>228|20=>20|213=>233|232=>263|233=>264|80=>112|n=>n
 g:=fun x=>match x with|15=>7|16=>1|17=>4|18=>5|19=>6|n=>n
theorem Tryz.lays174:LaysC.n174 Tryz.prog Tryz.ren174 where
 mixed:=by kernel_rfl
 f129:=Tryz.func224
 f171:=Tryz.func257
 f174:=Tryz.func216
 f205:=Tryz.func256
 f243:=Tryz.func261
 f245:=Tryz.func235
 f246:=Tryz.func184
 f247:=Tryz.func234
 f279:=Tryz.func245
 f280:=Tryz.func246
 f281:=Tryz.func247
 f282:=Tryz.func248
 f283:=Tryz.func204
 f284:=Tryz.func205
 f285:=Tryz.func206
 f286:=Tryz.func207
 f287:=Tryz.func244
 f316:=Tryz.func255
 f317:=Tryz.func223
 f318:=Tryz.func225
 f319:=Tryz.func226
 f320:=Tryz.func227
 f321:=Tryz.func253
 f322:=Tryz.func254
 f337:=Tryz.func240
 f338:=Tryz.func241
 t0:=Tryz.underlying0
 a0:=Tryz.isAgg0
 z0:=Tryz.sizeOf0
 v0:=Tryz.zeroValue0
 t2:=Tryz.underlying2
 a2:=Tryz.isAgg2
 z2:=Tryz.sizeOf2
 v2:=Tryz.zeroValue2
 t3:=Tryz.underlying3
 a3:=Tryz.isAgg3
 z3:=Tryz.sizeOf3
 v3:=Tryz.zeroValue3
 t4:=Tryz.underlying4
 a4:=Tryz.isAgg4
 z4:=Tryz.sizeOf4
 v4:=Tryz.zeroValue4
 t5:=Tryz.underlying5
 a5:=Tryz.isAgg5
 z5:=Tryz.sizeOf5
 v5:=Tryz.zeroValue5
 t9:=Tryz.underlying9
 a9:=Tryz.isAgg9
 z9:=Tryz.sizeOf9
 v9:=Tryz.zeroValue9
 t20:=Tryz.underlying20
 a20:=Tryz.isAgg20
 z20:=Tryz.sizeOf20
 v20:=Tryz.zeroValue20
 t21:=Tryz.underlying21
 a21:=Tryz.isAgg21
 z21:=Tryz.sizeOf21
 v21:=Tryz.zeroValue21
 t37:=Tryz.underlying105
 a37:=Tryz.isAgg105
 z37:=Tryz.sizeOf105
 v37:=Tryz.zeroValue105
 t46:=Tryz.underlying208
 a46:=Tryz.isAgg208
 z46:=Tryz.sizeOf208
 v46:=Tryz.zeroValue208
 t51:=Tryz.underlying228
 a51:=Tryz.isAgg228
 z51:=Tryz.sizeOf228
 v51:=Tryz.zeroValue228
 t53:=Tryz.underlying210
 a53:=Tryz.isAgg210
 z53:=Tryz.sizeOf210
 v53:=Tryz.zeroValue210
 t75:=Tryz.underlying133
 a75:=Tryz.isAgg133
 z75:=Tryz.sizeOf133
 v75:=Tryz.zeroValue133
 t85:=Tryz.underlying217
 a85:=Tryz.isAgg217
 z85:=Tryz.sizeOf217
 v85:=Tryz.zeroValue217
 t127:=Tryz.underlying138
 a127:=Tryz.isAgg138
 z127:=Tryz.sizeOf138
 v127:=Tryz.zeroValue138
 t143:=Tryz.underlying271
 a143:=Tryz.isAgg271
 z143:=Tryz.sizeOf271
 v143:=Tryz.zeroValue271
 t145:=Tryz.underlying273
 a145:=Tryz.isAgg273
 z145:=Tryz.sizeOf273
 v145:=Tryz.zeroValue273
 t167:=Tryz.underlying246
 a167:=Tryz.isAgg246
 z167:=Tryz.sizeOf246
 v167:=Tryz.zeroValue246
 t168:=Tryz.underlying249
 a168:=Tryz.isAgg249
 z168:=Tryz.sizeOf249
 v168:=Tryz.zeroValue249
 t171:=Tryz.underlying209
 a171:=Tryz.isAgg209
 z171:=Tryz.sizeOf209
 v171:=Tryz.zeroValue209
 t173:=Tryz.underlying213
 a173:=Tryz.isAgg213
 z173:=Tryz.sizeOf213
 v173:=Tryz.zeroValue213
 t175:=Tryz.underlying247
 a175:=Tryz.isAgg247
 z175:=Tryz.sizeOf247
 v175:=Tryz.zeroValue247
 t210:=Tryz.underlying268
 a210:=Tryz.isAgg268
 z210:=Tryz.sizeOf268
 v210:=Tryz.zeroValue268
 t212:=Tryz.underlying232
 a212:=Tryz.isAgg232
 z212:=Tryz.sizeOf232
 v212:=Tryz.zeroValue232
 t213:=Tryz.underlying233
 a213:=Tryz.isAgg233
 z213:=Tryz.sizeOf233
 t232:=Tryz.underlying263
 a232:=Tryz.isAgg263
 z232:=Tryz.sizeOf263
 v232:=Tryz.zeroValue263
 t233:=Tryz.underlying264
 a233:=Tryz.isAgg264
 z233:=Tryz.sizeOf264
 v233:=Tryz.zeroValue264
 g15:=by kernel_rfl
 g16:=by kernel_rfl
 g17:=by kernel_rfl
 g18:=by kernel_rfl
 g19:=by kernel_rfl
 t80:=Tryz.underlying112
 a80:=Tryz.isAgg112
 z80:=Tryz.sizeOf112
 v80:=Tryz.zeroValue112
 i0:=by kernel_rfl
 i2:=by kernel_rfl
 i3:=by kernel_rfl
 i4:=by kernel_rfl
 i5:=by kernel_rfl
 i9:=by kernel_rfl
 i20:=by kernel_rfl
 i21:=by kernel_rfl
 i37:=by kernel_rfl
 i46:=by kernel_rfl
 i51:=by kernel_rfl
 i53:=by kernel_rfl
 i75:=by kernel_rfl
 i80:=by kernel_rfl
 i85:=by kernel_rfl
 i127:=by kernel_rfl
 i143:=by kernel_rfl
 i145:=by kernel_rfl
 i167:=by kernel_rfl
 i168:=by kernel_rfl
 i171:=by kernel_rfl
 i173:=by kernel_rfl
 i175:=by kernel_rfl
 i210:=by kernel_rfl
 i212:=by kernel_rfl
 i232:=by kernel_rfl
 i233:=by kernel_rfl
 m15:=by kernel_rfl
 m16:=by kernel_rfl
 m17:=by kernel_rfl
 m18:=by kernel_rfl
 m19:=by kernel_rfl
 c0:=by kernel_rfl
 c2:=by kernel_rfl
 c3:=by kernel_rfl
 c4:=by kernel_rfl
 c5:=by kernel_rfl
 c9:=by kernel_rfl
 c20:=by kernel_rfl
 c21:=by kernel_rfl
 c37:=by kernel_rfl
 c46:=by kernel_rfl
 c51:=by kernel_rfl
 c53:=by kernel_rfl
 c75:=by kernel_rfl
 c80:=by kernel_rfl
 c85:=by kernel_rfl
 c127:=by kernel_rfl
 c143:=by kernel_rfl
 c145:=by kernel_rfl
 c167:=by kernel_rfl
 c168:=by kernel_rfl
 c171:=by kernel_rfl
 c173:=by kernel_rfl
 c175:=by kernel_rfl
 c210:=by kernel_rfl
 c212:=by kernel_rfl
 c213:=by kernel_rfl
 c232:=by kernel_rfl
 c233:=by kernel_rfl
def Tryz.ren173:Ren where
 f:=fun x=>match x with|173=>171|246=>184|283=>204|284=>205|285=>206|286=>207|129=>224|317=>223|318=>225|319=>226|320=>227|337=>240|338=>241|n=>n
 t:=fun x=>match x with|2=>2|3=>3|9=>9|4=>4|171=>209|0=>0|53=>210|37=>105|5=>5|173=>213|212=>232|51=>228|20=>20|213=>233|46=>208|232=>263|233=>264|n=>n
 g:=fun x=>match x with|17=>4|18=>5|19=>6|n=>n
theorem Tryz.lays173:LaysM.n173 Tryz.prog Tryz.ren173 where
 mixed:=by kernel_rfl
 f129:=Tryz.func224
 f173:=Tryz.func171
 f246:=Tryz.func184
 f283:=Tryz.func204
 f284:=Tryz.func205
 f285:=Tryz.func206
 f286:=Tryz.func207
 f317:=Tryz.func223
 f318:=Tryz.func225
 f319:=Tryz.func226
 f320:=Tryz.func227
 f337:=Tryz.func240
 f338:=Tryz.func241
 t0:=Tryz.underlying0
 a0:=Tryz.isAgg0
 z0:=Tryz.sizeOf0
 v0:=Tryz.zeroValue0
 t2:=Tryz.underlying2
 a2:=Tryz.isAgg2
 z2:=Tryz.sizeOf2
 v2:=Tryz.zeroValue2
 t3:=Tryz.underlying3
 a3:=Tryz.isAgg3
 z3:=Tryz.sizeOf3
 v3:=Tryz.zeroValue3
 t4:=Tryz.underlying4
 a4:=Tryz.isAgg4
 z4:=Tryz.sizeOf4
 v4:=Tryz.zeroValue4
 t5:=Tryz.underlying5
 a5:=Tryz.isAgg5
 z5:=Tryz.sizeOf5
 v5:=Tryz.zeroValue5
 t9:=Tryz.underlying9
 a9:=Tryz.isAgg9
 z9:=Tryz.sizeOf9
 v9:=Tryz.zeroValue9
 t20:=Tryz.underlying20
 a20:=Tryz.isAgg20
 z20:=Tryz.sizeOf20
 v20:=Tryz.zeroValue20
 t37:=Tryz.underlying105
 a37:=Tryz.isAgg105
 z37:=Tryz.sizeOf105
 v37:=Tryz.zeroValue105
 t46:=Tryz.underlying208
 a46:=Tryz.isAgg208
 z46:=Tryz.sizeOf208
 v46:=Tryz.zeroValue208
 t51:=Tryz.underlying228
 a51:=Tryz.isAgg228
 z51:=Tryz.sizeOf228
 v51:=Tryz.zeroValue228
 t53:=Tryz.underlying210
 a53:=Tryz.isAgg210
 z53:=Tryz.sizeOf210
 v53:=Tryz.zeroValue210
 t171:=Tryz.underlying209
 a171:=Tryz.isAgg209
 z171:=Tryz.sizeOf209
 v171:=Tryz.zeroValue209
 t173:=Tryz.underlying213
 a173:=Tryz.isAgg213
 z173:=Tryz.sizeOf213
 v173:=Tryz.zeroValue213
 t212:=Tryz.underlying232
 a212:=Tryz.isAgg232
 z212:=Tryz.sizeOf232
 v212:=Tryz.zeroValue232
 t213:=Tryz.underlying233
 a213:=Tryz.isAgg233
 z213:=Tryz.sizeOf233
 t232:=Tryz.underlying263
 a232:=Tryz.isAgg263
 z232:=Tryz.sizeOf263
 v232:=Tryz.zeroValue263
 t233:=Tryz.underlying264
 a233:=Tryz.isAgg264
 z233:=Tryz.sizeOf264
 v233:=Tryz.zeroValue264
 g17:=by kernel_rfl
 g18:=by kernel_rfl
 g19:=by kernel_rfl
 i0:=by kernel_rfl
 i2:=by kernel_rfl
 i3:=by kernel_rfl
 i4:=by kernel_rfl
 i5:=by kernel_rfl
 i9:=by kernel_rfl
 i20:=by kernel_rfl
 i37:=by kernel_rfl
 i46:=by kernel_rfl
 i51:=by kernel_rfl
 i53:=by kernel_rfl
 i171:=by kernel_rfl
 i173:=by kernel_rfl
 i212:=by kernel_rfl
 i232:=by kernel_rfl
 i233:=by kernel_rfl
 m17:=by kernel_rfl
 m18:=by kernel_rfl
 m19:=by kernel_rfl
def Tryz.ren137:Ren where
 f:=fun x=>match x with|137=>176|217=>197|266=>218|n=>n
 t:=fun x=>match x with|9=>9|5=>5|3=>3|n=>n
 g:=fun x=>x
theorem Tryz.lays137:Lays.n137 Tryz.prog Tryz.ren137 where
 mixed:=by kernel_rfl
 f137:=Tryz.func176
 f217:=Tryz.func197
 f266:=Tryz.func218
 t3:=Tryz.underlying3
 a3:=Tryz.isAgg3
 z3:=Tryz.sizeOf3
 v3:=Tryz.zeroValue3
 t5:=Tryz.underlying5
 a5:=Tryz.isAgg5
 z5:=Tryz.sizeOf5
 v5:=Tryz.zeroValue5
 t9:=Tryz.underlying9
 a9:=Tryz.isAgg9
 z9:=Tryz.sizeOf9
 v9:=Tryz.zeroValue9
def Tryz.ren170:Ren where
 f:=fun x=>match x with|170=>72|n=>n
 t:=fun x=>match x with|70=>104|3=>3|0=>0|72=>107|37=>105|5=>5|n=>n
 g:=fun x=>x
theorem Tryz.lays170:Lays.n170 Tryz.prog Tryz.ren170 where
 mixed:=by kernel_rfl
 f170:=Tryz.func72
 t0:=Tryz.underlying0
 a0:=Tryz.isAgg0
 z0:=Tryz.sizeOf0
 v0:=Tryz.zeroValue0
 t3:=Tryz.underlying3
 a3:=Tryz.isAgg3
 z3:=Tryz.sizeOf3
 v3:=Tryz.zeroValue3
 t37:=Tryz.underlying105
 a37:=Tryz.isAgg105
 z37:=Tryz.sizeOf105
 v37:=Tryz.zeroValue105
 t70:=Tryz.underlying104
 a70:=Tryz.isAgg104
 z70:=Tryz.sizeOf104
 v70:=Tryz.zeroValue104
 t72:=Tryz.underlying107
 a72:=Tryz.isAgg107
 z72:=Tryz.sizeOf107
 v72:=Tryz.zeroValue107
theorem Tryz.lays166:Lays.n166 Tryz.prog Tryz.ren155:={ Tryz.lays155 with }
end Go.Proofs
namespace Go.SX.Nb
open Go Go.SX Go.Proofs Go.RowKit
variable [ErrAt]
set_option maxRecDepth 4000
theorem K7 {w:World} (h:H0 w):∃m,w.cell? ⟨0,0,none⟩=some (.int .i64 m):=by
 obtain ⟨_,a,m,t,f,rfl⟩:=h (0,fun o=>∃m t f,o=.cells #[.int .i64 m] t f) (by simp [GlobInv.blocks,Rg])
 exact ⟨m,by simp [World.cell?,a]⟩
theorem N9 {w:World} (h:H0 w):w.cell? ⟨1,0,none⟩=some (.iface 271 (.pointer (some ErrAt.b))):=by
 obtain ⟨_,a,t,f,rfl⟩:=h (1,fun o=>∃t f,o=.cells #[.iface 271 (.pointer (some ErrAt.b))] t f) (by simp [GlobInv.blocks,Rg])
 simp [World.cell?,a]
theorem k9 {w:World} (h:H0 w):Lib.TabIs Tryz.prog w "internal/strconv.uint64pow10" .u64 Lib.pow10Tab:=by
 obtain ⟨_,a,t,f,rfl⟩:=h (4,fun o=>∃t f,o=.cells (Lib.pow10Tab.map fun z=>Value.int .u64 z).toArray t f) (by simp [GlobInv.blocks,Rg])
 have hg:Tryz.prog.globalNamed "internal/strconv.uint64pow10" = some 4:=by kernel_rfl
 simp only at a
 simp [Lib.TabIs,World.var?,hg,a]
theorem Ve (w:World) (n:Nat):Below w.heap.size w (w.drewN n):=⟨rfl,rfl,rfl,Nat.le_refl _,fun _ _=>rfl⟩
theorem ef (s t:Str) (hs:s.length<4294967281) (Hp:List AObj):AFun Tryz.prog 142 [A6 s,A6 t] Hp (Al (Lib.contains s t)):=by
 refine AFun.lib (xs:=[sv s,sv t]) (v:=.bool (Lib.contains s t)) (fun G w=>.v _ _) (fun w hg=>?_)
 obtain ⟨m,hm⟩:=K7 hg
 refine (Any.strings_Contains Tryz.lays144 ⟨s.toArray⟩ ⟨t.toArray⟩ m w (by simpa [ByteArray.size] using hs) hm).mono ?_
 rintro e w' ⟨rfl,rfl⟩
 exact dz
theorem c143 (s t:Str) (hs:s.length<4294967281) (Hp:List AObj):AFun Tryz.prog 143 [A6 s,A6 t] Hp (.tup [A6 (Lib.cut s t).1,A6 (Lib.cut s t).2.1,Al (Lib.cut s t).2.2]):=by
 refine AFun.lib (xs:=[sv s,sv t]) (v:=.tuple #[sv (Lib.cut s t).1,sv (Lib.cut s t).2.1,.bool (Lib.cut s t).2.2]) (fun G w=>K4 rfl (fun i y u hy hu=>?_)) (fun w hg=>?_)
 ·match i with
  | 0=>simp at hy hu;subst hy;subst hu;exact .v _ _
  | 1=>simp at hy hu;subst hy;subst hu;exact .v _ _
  | 2=>simp at hy hu;subst hy;subst hu;exact .v _ _
  | i+3=>simp at hy
 obtain ⟨m,hm⟩:=K7 hg
 refine (Any.strings_Cut Tryz.lays145 ⟨s.toArray⟩ ⟨t.toArray⟩ m w (by simpa [ByteArray.size] using hs) hm).mono ?_
 rintro e w' ⟨rfl,n,rfl⟩
 exact ⟨rfl,Ve _ _⟩
theorem c173 (s t:Str) (ht:t.length<4294967281) (ha:∀c∈t,c.toNat<128) (Hp:List AObj):AFun Tryz.prog 173 [A6 s,A6 t] Hp (A6 (Lib.trimLeftS s t)):=by
 refine AFun.lib (xs:=[sv s,sv t]) (v:=sv (Lib.trimLeftS s t)) (fun G w=>.v _ _) (fun w hg=>?_)
 refine (Any.strings_TrimLeft_laid Tryz.lays161 (by kernel_rfl) ⟨s.toArray⟩ ⟨t.toArray⟩ w (by simpa [ByteArray.size] using ht) (fun j b hj=>ha b (List.mem_of_getElem? hj))).mono ?_
 rintro e w' ⟨rfl,hb⟩
 exact ⟨rfl,hb⟩
/-- The pieces of a split. -/
def Je (s t:Str):List Str:=(Lib.splitB ⟨t.toArray⟩ 0 (Lib.countB ⟨s.toArray⟩ ⟨t.toArray⟩) ⟨s.toArray⟩).map (·.data.toList)
theorem ui (s t:Str) (hs:s.length<4294967281) (ht:1≤t.length) (Hp:List AObj):AFun Tryz.prog 100 [A6 s,A6 t] Hp (D6 (Je s t)):=by
 have:=AFun.libSlice (P:=Tryz.prog) (g:=100) (Hp:=Hp) (xs:=[sv s,sv t]) (ys:=(Je s t).map sv) (t:=9) (by intro y hy;obtain ⟨z,_,rfl⟩:=List.mem_map.1 hy;rfl) (fun w hg=>by
  obtain ⟨m,hm⟩:=K7 hg
  refine (Any.strings_Split Tryz.lays146 (by kernel_rfl) ⟨s.toArray⟩ ⟨t.toArray⟩ m w (by simpa [ByteArray.size] using hs) hm (by simpa [ByteArray.size] using ht)).mono ?_
  rintro e w' ⟨rfl,rfl⟩
  have hl:((Je s t).map sv).length=Lib.countB ⟨s.toArray⟩ ⟨t.toArray⟩+1:=by
   rw [List.length_map]
   unfold Je
   rw [List.length_map]
   exact Lib.splitB_all _ (by simpa [ByteArray.size] using ht) _ _ _ rfl
  refine ⟨by rw [hl],?_⟩
  unfold Je
  rw [List.map_map]
  rfl)
 rw [List.map_map] at this
 exact this
end Go.SX.Nb
namespace Go.Proofs
open Go Go.RowKit Go.Extern.Stop Go.Stop Go.Extern
theorem Tryz.isTypeOf (v:Value) (w:World):(Extern.ReflectliteType.typeOf #[.iface 271 v]).run Tryz.prog w=.ok (.iface 253 (.agg #[.pointer (some ⟨8,271,none⟩)])) w:=by kernel_rfl
def Tryz.cmpOf:Array Value→Sem Value:=Extern.ReflectliteType.method fun t=>do Extern.Rtype.noPackHeld "Comparable" t;pure (.bool (←typeInfo t).comparable)
theorem Tryz.isComparable (w:World):(Tryz.cmpOf #[.agg #[.pointer (some ⟨8,271,none⟩)]]).run Tryz.prog w=.ok (.bool true) w:=by kernel_rfl
theorem Tryz.isMethodComparable (v:Value) (w:World):(Go.method 405 253 v "Comparable").run Tryz.prog w=.ok (292,v) w:=by kernel_rfl
theorem Tryz.isComp:(Tryz.prog.info? 271).map (·.comparable)=some true:=by kernel_rfl
theorem Tryz.isSize:(Tryz.prog.info? 273).map (·.size)=some 1:=by kernel_rfl
theorem Tryz.noIsW (v:Value) (xT:TypeId) (w:World):(Instr.typeAssert (.iface 249 v) xT 255 true).run Tryz.prog w=.ok (.tuple #[.nilIface,.bool false]) w:=run_typeAssert_lacksB Tryz.underlying255 (by kernel_rfl) (by kernel_rfl) v xT w
theorem Tryz.hasUnwrapW (v:Value) (xT:TypeId) (w:World):(Instr.typeAssert (.iface 249 v) xT 258 true).run Tryz.prog w=.ok (.tuple #[.iface 249 v,.bool true]) w:=run_typeAssert_hasB Tryz.underlying258 (by kernel_rfl) v xT w
theorem Tryz.methodUnwrap (v:Value) (w:World):(Go.method 405 249 v "Unwrap").run Tryz.prog w=.ok (288,v) w:=by kernel_rfl
namespace Tryz
theorem is_nil (b:Addr) (w:World):
  Calls Tryz.prog 217 #[.nilIface,.iface 271 (.pointer (some b))] w fun e w'=>e=.returned (.bool false)∧w'=w:=by
 have hn:=run_eql_iface_nil_left (P:=Tryz.prog) w 271 (.pointer (some b)) Tryz.underlying133
 go_enter Tryz.func217,Tryz.ntmps217
 go_wp2
 go_ret
 exact ⟨rfl,rfl⟩
set_option maxRecDepth 100000 in
theorem is_range (pb po:Nat) (b:Addr) (w:World) (h1:w.cell? ⟨pb,po+2,none⟩=some (.iface 271 (.pointer (some b)))):
  Calls Tryz.prog 217 #[.iface 249 (.pointer (some ⟨pb,po,none⟩)),.iface 271 (.pointer (some b))] w fun e w'=>e=.returned (.bool true)∧w'=w:=by
 obtain ⟨i,hi,hcmp⟩:=Option.map_eq_some_iff.1 Tryz.isComp
 obtain ⟨j,hj,hjs⟩:=Option.map_eq_some_iff.1 Tryz.isSize
 have h8:=@run_callFunc_extern Tryz.prog 236 _ Extern.ReflectliteType.typeOf Tryz.func236 (by kernel_rfl) (by kernel_rfl) (by kernel_rfl) (by kernel_rfl)
 have h32:=@run_callFunc_extern Tryz.prog 292 _ Tryz.cmpOf Tryz.func292 (by kernel_rfl) (by kernel_rfl) (by kernel_rfl) (by kernel_rfl)
 have tT:=Tryz.isTypeOf
 have cT:=Tryz.isComparable
 have mR:=Tryz.isMethodComparable
 have nW:=Tryz.noIsW
 have uW:=Tryz.hasUnwrapW
 have mU:=Tryz.methodUnwrap
 have heq:=run_eql_iface_ptr_same (P:=Tryz.prog) w b Tryz.underlying133 Tryz.underlying271 hi hcmp hj
 have hty:=run_eql_iface_types (P:=Tryz.prog) 249 271 (.pointer (some ⟨pb,po,none⟩)) (.pointer (some b)) Tryz.underlying133 (by decide) w
 go_enter Tryz.func217,Tryz.ntmps217
 go_wp2
 refine wp_loop_rounds 2 ?_
 rw [rounds_succ]
 go_wp2
 rw [rounds_succ]
 go_wp2
 go_ret
 exact ⟨rfl,rfl⟩
end Tryz
end Go.Proofs
namespace Go.SX.Nb
open Go Go.SX Go.Proofs Go.RowKit Go.Sort
variable [ErrAt]
set_option maxRecDepth 4000
theorem AAj (s t:Str) (Hp:List AObj):AFun Tryz.prog 192 [A6 s,A6 t] Hp (Al (Lib.hasPrefix s t)):=by
 refine AFun.lib (xs:=[sv s,sv t]) (v:=.bool (Lib.hasPrefix s t)) (fun G w=>.v _ _) (fun w hg=>?_)
 refine (Any.strings_HasPrefix Tryz.lays99 ⟨s.toArray⟩ ⟨t.toArray⟩ w).mono ?_
 rintro e w' ⟨rfl,rfl⟩
 exact dz
theorem AAk (s t:Str) (hs:s.length≤9223372036854775807) (Hp:List AObj):AFun Tryz.prog 193 [A6 s,A6 t] Hp (Al (Lib.hasSuffix s t)):=by
 refine AFun.lib (xs:=[sv s,sv t]) (v:=.bool (Lib.hasSuffix s t)) (fun G w=>.v _ _) (fun w hg=>?_)
 refine (Any.strings_HasSuffix Tryz.lays100 ⟨s.toArray⟩ ⟨t.toArray⟩ w (by simpa [ByteArray.size] using hs)).mono ?_
 rintro e w' ⟨rfl,rfl⟩
 exact dz
theorem AAl (s:Str) (c:UInt8) (Hp:List AObj):AFun Tryz.prog 176 [A6 s,.v (.int .u8 (c.toNat:Int))] Hp (A2 (Lib.indexByte s c)):=by
 refine AFun.lib (xs:=[sv s,.int .u8 (c.toNat:Int)]) (v:=.int .i64 (Lib.indexByte s c)) (fun G w=>.v _ _) (fun w hg=>?_)
 refine (Any.strings_IndexByte Tryz.lays137 ⟨s.toArray⟩ (c.toNat:Int) w).mono ?_
 rintro e w' ⟨rfl,rfl⟩
 exact ⟨by simp,Below.refl _ _⟩
theorem AAm:Builder.Extra Tryz.prog Tryz.ren155:={ sizeBuilder:=by kernel_rfl,liesBuilder:=by kernel_rfl,t5:=Tryz.underlying5,a5:=Tryz.isAgg5,z5:=Tryz.sizeOf5,v5:=Tryz.zeroValue5,infoByte:=by kernel_rfl,cellsByte:=by kernel_rfl,sizeByte:=by kernel_rfl,neB5:=by decide }
theorem z7 (s o n:Str) (hs:s.length<4294967281) (ho:1≤o.length) (hl:s.length+Lib.countB ⟨s.toArray⟩ ⟨o.toArray⟩*n.length≤140737488355328) (Hp:List AObj):AFun Tryz.prog 139 [A6 s,A6 o,A6 n] Hp (A6 (Lib.replaceAll s o n)):=by
 refine AFun.lib (xs:=[sv s,sv o,sv n]) (v:=sv (Lib.replaceAll s o n)) (fun G w=>.v _ _) (fun w hg=>?_)
 obtain ⟨m,hm⟩:=K7 hg
 refine (Any.strings_ReplaceAll Tryz.lays155 AAm ⟨s.toArray⟩ ⟨o.toArray⟩ ⟨n.toArray⟩ m w (by simpa [ByteArray.size] using hs) hm (by simpa [ByteArray.size] using ho) (by simpa [ByteArray.size] using hl)).mono ?_
 rintro e w' ⟨rfl,hb⟩
 exact ⟨rfl,hb⟩
theorem Y7 (w:World) (k:Nat) (os:Array Obj):Below w.heap.size w (grow (w.drewN k) os):=by
 refine ⟨rfl,rfl,rfl,by simp [grow],fun b hb=>?_⟩
 show ((w.drewN k).heap++os)[b]? = w.heap[b]?
 rw [Array.getElem?_append_left (by exact hb)]
 rfl
theorem c171 (n:Int) (h0 : -9223372036854775808≤n) (h1:n≤9223372036854775807) (Hp:List AObj):AFun Tryz.prog 171 [.v (.int .i64 n),A2 10] Hp (A6 (Lib.itoa n)):=by
 refine AFun.lib (xs:=[.int .i64 n,.int .i64 10]) (v:=sv (Lib.itoa n)) (fun G w=>.v _ _) (fun w hg=>?_)
 refine (Any.strconv_FormatInt_10 Tryz.lays173 n h0 h1 w (k9 hg)).mono ?_
 rintro e w' ⟨rfl,k,os,rfl⟩
 exact ⟨rfl,Y7 _ _ _⟩
end Go.SX.Nb
namespace Go.SX.Nb
open Go Go.SX Go.Proofs Go.RowKit
variable [ErrAt]
set_option maxRecDepth 4000
def digs:Str:=[48,49,50,51,52,53,54,55,56,57]
def Na (s:Str):Str:=Lib.trimPrefix s [45]
def H1 (s:Str):Bool:=(Na s==[]) || !(Lib.trimS (Na s) digs==[]) || (((Na s).headD 0==48)&&decide (1<s.length))
def Cx (s:Str):Int×Int:=if H1 s then (0,6) else match Lib.parseIntB 64 s with|.ok v=>(v,0)|.range=>(0,4)|_=>(0,0)
def pc {α:Type}:Lib.NumEnd α→Bool|.ok _=>false|.range=>false|_=>true
theorem ka {p:UInt8→Bool}:∀{l:Str},l.dropWhile p=[]↔∀b∈l,p b=true
 | []=>by simp
 | b::r=>by
  rw [List.dropWhile_cons]
  by_cases h:p b=true
  ·rw [if_pos h,ka]
   simp [h]
  rw [if_neg h]
  simp [h]
theorem kb {p:UInt8→Bool}:∀{l:Str} {b:UInt8},b∈l→p b=false→b∈l.dropWhile p
 | x::r,b,h,hb=>by
  rw [List.dropWhile_cons]
  by_cases hx:p x=true
  ·rw [if_pos hx]
   rcases List.mem_cons.1 h with rfl|h
   ·rw [hb] at hx;cases hx
   exact kb h hb
  rw [if_neg hx];exact h
theorem Rh {l cs:Str}:Lib.trimS l cs=[]↔∀b∈l,cs.contains b=true:=by
 unfold Lib.trimS Lib.trimLeftS Lib.trimRightS
 rw [ka]
 constructor
 ·intro h b hb
  cases hc:cs.contains b with
  | true=>rfl
  | false =>
   have:=h b (List.mem_reverse.2 (kb (p:=(cs.contains ·)) (List.mem_reverse.2 hb) hc))
   rw [hc] at this;exact this
 intro h b hb
 exact h b (List.mem_reverse.1 ((List.dropWhile_sublist (cs.contains ·)).subset (List.mem_reverse.1 hb)))
theorem Kk (c:UInt8):digs.contains c=(decide (48≤c.toNat)&&decide (c.toNat≤57)):=by
 have h:((List.range 256).all fun n=>digs.contains (UInt8.ofNat n)==(decide (48≤(UInt8.ofNat n).toNat)&&decide ((UInt8.ofNat n).toNat≤57)))=true:=by kernel_rfl
 have:=List.all_eq_true.1 h c.toNat (List.mem_range.2 c.toNat_lt)
 simpa using this
theorem Ri (M:Nat):∀(l:Str) (acc:Nat),(∀b∈l,digs.contains b=true)→pc (Lib.parseUintM M acc l)=false
 | [],acc,_=>by rw [Lib.parseUintM];rfl
 | c::r,acc,h=>by
  have hc:=h c (by simp)
  rw [Kk] at hc
  simp only [Bool.and_eq_true,decide_eq_true_eq] at hc
  rw [Lib.parseUintM,if_pos hc]
  split
  ·rfl
  split
  ·rfl
  exact Ri M r _ (fun b hb=>h b (by simp [hb]))
theorem Nc (s:Str):(s.head? ≠ some 45∧Na s=s)∨∃r,s=45::r∧Na s=r:=by
 unfold Na Lib.trimPrefix Lib.hasPrefix
 cases s with
 | nil=>exact .inl ⟨by simp,rfl⟩
 | cons c r =>
  by_cases hc:c=45
  ·subst hc;exact .inr ⟨r,rfl,by simp [List.isPrefixOf]⟩
  refine .inl ⟨by simpa using hc,?_⟩
  rw [if_neg]
  simp [List.isPrefixOf,Ne.symm hc]
theorem Jf {s:Str} (h:H1 s=false):pc (Lib.parseIntB 64 s)=false:=by
 unfold H1 at h
 simp only [Bool.or_eq_false_iff,Bool.not_eq_false',beq_iff_eq,beq_eq_false_iff_ne] at h
 obtain ⟨⟨h1,h2⟩,_⟩:=h
 rw [Rh] at h2
 have key:∀l:Str,l≠[]→(∀b∈l,digs.contains b=true)→pc (Lib.parseUintB 64 l)=false:=fun l hl ha=>by
  unfold Lib.parseUintB
  rw [if_neg hl]
  exact Ri _ l 0 ha
 rcases Nc s with ⟨h3,h4⟩|⟨r,rfl,h4⟩
 ·rw [h4] at h1 h2
  cases s with
  | nil=>exact absurd rfl h1
  | cons c r =>
   have hcd:=h2 c (by simp)
   rw [Kk] at hcd
   simp only [Bool.and_eq_true,decide_eq_true_eq] at hcd
   have e1:¬(c.toNat=43∨c.toNat=45):=by omega
   have:=key (c::r) (by simp) h2
   simp only [Lib.parseIntB,if_neg e1]
   revert this
   cases Lib.parseUintB 64 (c::r) with
   | range=>intro _;rfl
   | ok u=>intro _;simp only;split<;>(try split)<;>rfl
   | _=>intro h;cases h
 rw [h4] at h1 h2
 have:=key r h1 h2
 have e1:((45:UInt8).toNat=43∨(45:UInt8).toNat=45):=.inr rfl
 simp only [Lib.parseIntB,if_pos e1]
 revert this
 cases Lib.parseUintB 64 r with
 | range=>intro _;rfl
 | ok u=>intro _;simp only;split<;>(try split)<;>rfl
 | _=>intro h;cases h
end Go.SX.Nb
namespace Go.SX.Nb
open Go Go.SX Go.Proofs
variable [ErrAt]
set_option maxRecDepth 4000
def Ec (c:UInt8):Bool:=decide ((97:Int)≤c.toNat)&&decide ((c.toNat:Int)≤122)
def Mg (c:UInt8):Bool:=decide ((48:Int)≤c.toNat)&&decide ((c.toNat:Int)≤57)
theorem z8 (c:UInt8) (Hp:List AObj):AFun Tryz.prog 113 [.v (.int .u8 (c.toNat:Int))] Hp (.v (.bool (Ec c))):=by
 refine ACall.body [.tmp 2] [0] Tryz.func113 Tryz.ntmps113 (fun d=>?_)
 refine Z40 ?_;refine Jd ?_;exact Z99

theorem AAn (c:UInt8) (Hp:List AObj):AFun Tryz.prog 115 [.v (.int .u8 (c.toNat:Int))] Hp (.v (.bool (Mg c))):=by
 refine ACall.body [.tmp 2] [0] Tryz.func115 Tryz.ntmps115 (fun d=>?_)
 refine Z40 ?_;refine Jd ?_;exact Z99

def words:List Str:=[[97,100,100],[100,114,111,112],[114,101,110,97,109,101],[115,112,108,105,116],[109,101,114,103,101],[114,101,116,121,112,101],[105,110,116,111],[116,111],[98,97,99,107],[97,110,100],[111,114],[110,111,116],[116,114,117,101],[102,97,108,115,101],[110,117,108,108],[105,110,116],[116,101,120,116],[98,111,111,108],[115,101,108,101,99,116],[119,104,101,114,101],[102,114,111,109],[108,105,109,105,116]]
def Fs (s:Str):Bool:=words.any (·==s)
theorem Rj:words.length=22:=rfl
theorem kc {α:Type} {p:α→Bool} {l:List α} {i:Nat} (h:i<l.length) (hp:p l[i]=true):l.any p=true:=by
 rw [List.any_eq_true];exact ⟨l[i],List.getElem_mem h,hp⟩
theorem Vf {α:Type} {p:α→Bool} {l:List α} (h:∀(j:Nat) (y:α),l[j]? = some y→p y=false):l.any p=false:=by
 rw [List.any_eq_false]
 intro x hx
 obtain ⟨j,hj⟩:=List.getElem?_of_mem hx
 simp [h j x hj]
theorem Av {α:Type} {l:List α} {x:Nat} {p:α→Prop} (hlt:x<l.length) (h:∀(j:Nat) (y:α),j<x→l[j]? = some y→p y) (hx:p l[x]):∀(j:Nat) (y:α),j<x+1→l[j]? = some y→p y:=by
 intro j y hj hy
 rcases Nat.lt_or_ge j x with h'|h'
 ·exact h j y h' hy
 have:j=x:=by omega
 subst this
 rw [List.getElem?_eq_getElem hlt] at hy
 injection hy with hy
 subst hy
 exact hx
theorem H3 {α:Type} {l:List α} {x:Nat} {p:α→Prop} (hge:l.length≤x) (h:∀(j:Nat) (y:α),j<x→l[j]? = some y→p y):∀(j:Nat) (y:α),l[j]? = some y→p y:=
 fun j y hy=>h j y (by have:=(List.getElem?_eq_some_iff.1 hy).1;omega) hy
theorem AAo (s:Str) (Hp:List AObj):AFun Tryz.prog 114 [A6 s] Hp (Al (Fs s)):=by
 refine ACall.body [.tmp 2] [0] Tryz.func114 Tryz.ntmps114 (fun d=>?_)
 refine Z40 ?_;refine Xs ?_;refine Ic ?_;refine It ?_;refine Z31 ?_;refine To ?_
 refine AW.loopC (α:=Nat) (fun x=>⟨18,A3 0 (A6 s) (A3 3 (.slice true 1 (words.map A6)) (A3 4 (A2 (x:Nat)) (fun _=>.any))),Hp,[],[],none⟩) (fun x=>x≤words.length∧∀(j:Nat) (y:Str),j<x→words[j]? = some y→(y==s)=false) (fun x=>words.length-x) (0) (by simp) (StLe.refl _) rfl (fun x hx=>?_)
 refine Z57 ?_;refine R.fin [0,3,4,9] ?_
 refine W.cond (fun ht9=>?_) (fun ht9=>?_)
 ·have hlt:x<words.length:=by simpa using ht9
  have hwl:=Rj
  refine Me ?_
  refine R.go (h:=Q.indexAddr (x) (A6 words[x]) (fun _=>Ae hlt)) (hr:=?_)
  refine Z23 ?_;refine R.fin [0,3,4,17] ?_
  refine W.cond (fun ht17=>?_) (fun ht17=>?_)
  ·refine R0 ?_;exact K.fin (V.one V.tmp) ⟨by rw [show Fs s=true from kc hlt ht17],rfl⟩
  refine Z64 ?_;refine To ?_;exact K.lpN (x+1) ⟨hlt,Av hlt hx.2 ht17⟩ (by have:=Rj;omega) (StCut.of_eq rfl)
 refine Vb ?_;exact K.fin (V.one V.tmp) ⟨by rw [show Fs s=false from Vf (H3 (by simp at ht9;omega) hx.2)],rfl⟩

def Hw (c:UInt8):Bool:=Ec c || Mg c || c==95
def H4 (s:Str):Bool:=match s with
 | []=>false
 | c::_=>decide (s.length≤16)&&Ec c && !Fs s&&s.all Hw
theorem ke {α:Type} {p:α→Bool} {l:List α} {i:Nat} (h:i<l.length) (hp:p l[i]=false):l.all p=false:=by
 rw [List.all_eq_false];exact ⟨l[i],List.getElem_mem h,by simp [hp]⟩
theorem uj {α:Type} {p:α→Bool} {l:List α} (h:∀(j:Nat) (y:α),l[j]? = some y→p y=true):l.all p=true:=by
 rw [List.all_eq_true]
 intro x hx
 obtain ⟨j,hj⟩:=List.getElem?_of_mem hx
 exact h j x hj
theorem nn {s:Str} {b:Bool} (h:((((s.length:Int)==0) || b)==false)=true):s≠[]:=by rintro rfl;simp at h
theorem Mh {s:Str} (h:s≠[]):s[0]? = some (s.headD 0):=by cases s with
 | nil=>exact absurd rfl h
 | cons c r=>rfl
theorem P4 (s:Str):H4 s=(!((s.length:Int)==0 || decide ((16:Int)<s.length) || !Ec (s.headD 0) || Fs s)&&s.all Hw):=by
 cases s with
 | nil=>rfl
 | cons c r =>
  have h1:(((c::r).length:Int)==0)=false:=by simp;omega
  have h2:decide ((c::r).length≤16) = !decide ((16:Int)<(c::r).length):=by
   by_cases h:(c::r).length≤16
   ·have:¬((16:Int)<(c::r).length):=by omega
    simp only [h,this,decide_true,decide_false,Bool.not_false]
   have:((16:Int)<(c::r).length):=by omega
   simp only [h,this,decide_true,decide_false,Bool.not_true]
  simp only [H4,h1,h2,List.headD_cons,Bool.not_or,Bool.not_not,Bool.false_or]
theorem pg {c:UInt8} (h:((!Ec c && !Mg c)&&((c.toNat:Int) != 95))=false):Hw c=true:=by
 unfold Hw
 have e:((c.toNat:Int) != 95) = !(c==95):=by
  by_cases hc:c=95
  ·subst hc;rfl
  have:c.toNat≠95:=fun h=>hc (UInt8.toNat_inj.1 h)
  have:(c.toNat:Int)≠95:=by omega
  rw [bne_iff_ne.2 this,beq_eq_false_iff_ne.2 hc];rfl
 rw [e] at h
 revert h
 cases Ec c<;>cases Mg c<;>cases (c==95)<;>simp
theorem ph {c:UInt8} (h:((!Ec c && !Mg c)&&((c.toNat:Int) != 95))=true):Hw c=false:=by
 unfold Hw
 have e:((c.toNat:Int) != 95) = !(c==95):=by
  by_cases hc:c=95
  ·subst hc;rfl
  have:c.toNat≠95:=fun h=>hc (UInt8.toNat_inj.1 h)
  have:(c.toNat:Int)≠95:=by omega
  rw [bne_iff_ne.2 this,beq_eq_false_iff_ne.2 hc];rfl
 rw [e] at h
 revert h
 cases Ec c<;>cases Mg c<;>cases (c==95)<;>simp
theorem c80 (s:Str) (hs:s.length≤1048576) (Hp:List AObj):AFun Tryz.prog 80 [A6 s] Hp (Al (H4 s)):=by
 refine ACall.body [.tmp 2] [0] Tryz.func80 Tryz.ntmps80 (fun d=>?_)
 refine Z40 ?_;refine Z8 ?_;refine Z83 ?_;refine Jc ?_
 refine G.go (h:=Q.sindex 0 (s.headD 0) (fun hB=>Mh (nn hB))) (hr:=?_)
 refine G.call Tryz.call113 (fun hB=>z8 (s.headD 0) _) ?_;refine G.go ?_;refine Jc ?_;refine G.call Tryz.call114 (fun hB=>AAo s _) ?_;refine R.go ?_;refine R.fin [0,21] ?_
 refine W.cond (fun ht21=>?_) (fun ht21=>?_)
 ·refine Z21 ?_;refine K.thR ?_;exact K.fin (V.one V.tmp) ⟨by rw [P4,ht21];rfl,rfl⟩
 refine Z5 ?_;refine Tk ?_
 refine AW.loopC (α:=Nat) (fun x=>⟨46,A3 0 (A6 s) (A3 3 (A2 (x:Nat)) (fun _=>.any)),Hp,[],[],none⟩) (fun x=>x≤s.length∧∀(j:Nat) (y:UInt8),j<x→s[j]? = some y→Hw y=true) (fun x=>s.length-x) (0) (by simp) (StLe.refl _) rfl (fun x hx=>?_)
 refine Z57 ?_;refine R.fin [0,3,25] ?_
 refine W.cond (fun ht25=>?_) (fun ht25=>?_)
 ·have hlt:x<s.length:=by simpa using ht25
  refine Me ?_
  refine R.go (h:=Q.sindex x s[x] (fun _=>List.getElem?_eq_getElem hlt)) (hr:=?_)
  refine R.call Tryz.call113 (z8 s[x] _) ?_;refine Z27 ?_
  refine G.go (h:=Q.sindex x s[x] (fun _=>List.getElem?_eq_getElem hlt)) (hr:=?_)
  refine G.call Tryz.call115 (fun hB=>AAn s[x] _) ?_;refine G.go ?_;refine Z27 ?_
  refine G.go (h:=Q.sindex x s[x] (fun _=>List.getElem?_eq_getElem hlt)) (hr:=?_)
  refine Z66 ?_;refine R.fin [0,3,45] ?_
  refine W.cond (fun ht45=>?_) (fun ht45=>?_)
  ·refine R0 ?_;exact K.fin (V.one V.tmp) ⟨by rw [P4,ht21,ke hlt (ph ht45)];rfl,rfl⟩
  refine Xu ?_;exact K.lpN (x+1) ⟨hlt,Av hlt hx.2 (pg ht45)⟩ (by omega) (StCut.of_eq rfl)
 refine Vb ?_;exact K.fin (V.one V.tmp) ⟨by rw [P4,ht21,uj (H3 (by simp at ht25;omega) hx.2)];rfl,rfl⟩

def Aj (nm:Str) (c:List Col):Int:=match c.findIdx? (fun y=>y.name==nm) with|some i=>i|none => -1
theorem P5 {nm:List UInt8} {c:List Col} {x:Nat} (h:x<c.length) (h1:c[x].name=nm) (h2:∀(j:Nat) (y:Col),j<x→c[j]? = some y→¬(y.name=nm)):Aj nm c=x:=by
 have:c.findIdx? (fun y=>y.name==nm)=some x:=by
  rw [List.findIdx?_eq_some_iff_getElem]
  exact ⟨h,by simpa using h1,fun j hj=>by simpa using h2 j c[j] hj (List.getElem?_eq_getElem _)⟩
 simp [Aj,this]
theorem Y8 {nm:List UInt8} {c:List Col} (h:∀(j:Nat) (y:Col),c[j]? = some y→¬(y.name=nm)):Aj nm c = -1:=by
 have:c.findIdx? (fun y=>y.name==nm)=none:=by
  rw [List.findIdx?_eq_none_iff]
  intro y hy
  obtain ⟨j,hj⟩:=List.getElem?_of_mem hy
  simpa using h j y hj
 simp [Aj,this]
structure OkCols (c:List Col):Prop where
 len:c.length≤1048576
 names:∀y∈c,y.name.length≤1048576
theorem c50 (c:List Col) (hc:OkCols c) (nm:Str) (Hp:List AObj):AFun Tryz.prog 50 [A9 c,A6 nm] Hp (A2 (Aj nm c)):=by
 refine ACall.body [.tmp 4] [0,1] Tryz.func50 Tryz.ntmps50 (fun d=>?_)
 refine Z62 ?_;refine Z31 ?_;refine R.fin [0,1,5] ?_
 refine AW.loopC (α:=Nat) (fun x=>⟨20,A3 0 (A9 c) (A3 1 (A6 nm) (A3 5 (A2 (x:Nat)) (fun _=>.any))),Hp,[],[],none⟩) (fun x=>x≤c.length∧∀(j:Nat) (y:Col),j<x→c[j]? = some y→¬(y.name=nm)) (fun x=>c.length-x) (0) (by simp) (StLe.refl _) rfl (fun x hx=>?_)
 refine Z57 ?_;refine R.fin [0,1,5,9] ?_
 refine W.cond (fun ht9=>?_) (fun ht9=>?_)
 ·have hlt:x<c.length:=by simpa using ht9
  have hcl:=hc.len
  refine Me ?_
  refine R.go (h:=Q.indexAddr (x) (Ak c[x]) (fun _=>Ae hlt)) (hr:=?_)
  refine Z76 ?_;refine R.fin [0,1,5,18] ?_
  refine W.cond (fun ht18=>?_) (fun ht18=>?_)
  ·refine je ?_;refine Z34 ?_;exact K.fin (V.one V.tmp) ⟨by rw [P5 hlt (by simpa using ht18) hx.2],rfl⟩
  refine Z64 ?_;refine R.fin [0,1,5] ?_;exact K.lpN (x+1) ⟨hlt,Av hlt hx.2 (by simpa using ht18)⟩ (by omega) (StCut.of_eq rfl)
 refine Z47 ?_;exact wv

def Lq (c:List Col) (x:Nat) (y:Col):Bool := !(((!H4 y.name || decide (y.kind<1)) || decide ((3:Int)<y.kind)) || (Aj y.name c != (x:Int)))
def Dz (c:List Col):Bool:=c.zipIdx.all fun x=>Lq c x.2 x.1
theorem colsM_true {c:List Col}:Dz c=true↔∀(j:Nat) (y:Col),c[j]? = some y→Lq c j y=true:=by
 unfold Dz
 rw [List.all_eq_true]
 constructor
 ·intro h j y hj
  exact yg
 rintro h ⟨y,j⟩ hx
 rw [List.mem_zipIdx_iff_getElem?] at hx
 exact h j y hx
theorem Ft {α:Type} {l:List α} {x:Nat} {p:Nat→α→Prop} (hlt:x<l.length) (h:∀(j:Nat) (y:α),j<x→l[j]? = some y→p j y) (hx:p x l[x]):∀(j:Nat) (y:α),j<x+1→l[j]? = some y→p j y:=by
 intro j y hj hy
 rcases Nat.lt_or_ge j x with h'|h'
 ·exact h j y h' hy
 have:j=x:=by omega
 subst this
 rw [List.getElem?_eq_getElem hlt] at hy
 injection hy with hy
 subst hy
 exact hx
theorem Gt {α:Type} {l:List α} {x:Nat} {p:Nat→α→Prop} (hge:l.length≤x) (h:∀(j:Nat) (y:α),j<x→l[j]? = some y→p j y):∀(j:Nat) (y:α),l[j]? = some y→p j y:=
 fun j y hy=>h j y (by have:=(List.getElem?_eq_some_iff.1 hy).1;omega) hy
theorem c48 (c:List Col) (hc:OkCols c) (Hp:List AObj):AFun Tryz.prog 48 [A9 c] Hp (Al (Dz c)):=by
 refine ACall.body [.tmp 2] [0] Tryz.func48 Tryz.ntmps48 (fun d=>?_)
 refine Z40 ?_;refine Tk ?_
 refine AW.loopC (α:=Nat) (fun x=>⟨44,A3 0 (A9 c) (A3 3 (A2 (x:Nat)) (fun _=>.any)),Hp,[],[],none⟩) (fun x=>x≤c.length∧∀(j:Nat) (y:Col),j<x→c[j]? = some y→Lq c j y=true) (fun x=>c.length-x) (0) (by simp) (StLe.refl _) rfl (fun x hx=>?_)
 refine Z57 ?_;refine R.fin [0,3,7] ?_
 refine W.cond (fun ht7=>?_) (fun ht7=>?_)
 ·have hlt:x<c.length:=by simpa using ht7
  have hcl:=hc.len
  refine Me ?_
  refine R.go (h:=Q.indexAddr (x) (Ak c[x]) (fun _=>Ae hlt)) (hr:=?_)
  refine Z0 ?_;refine R.call Tryz.call80 (c80 c[x].name (hc.names _ (List.getElem_mem hlt)) _) ?_;refine Z27 ?_
  refine G.go (h:=Q.indexAddr (x) (Ak c[x]) (fun _=>Ae hlt)) (hr:=?_)
  refine Va ?_;refine Z27 ?_
  refine G.go (h:=Q.indexAddr (x) (Ak c[x]) (fun _=>Ae hlt)) (hr:=?_)
  refine Va ?_;refine Z83 ?_
  refine G.go (h:=Q.indexAddr (x) (Ak c[x]) (fun _=>Ae hlt)) (hr:=?_)
  refine Z7 ?_;refine G.call Tryz.call50 (fun hB=>c50 c hc c[x].name _) ?_;refine Tm ?_;refine R.fin [0,3,43] ?_
  refine W.cond (fun ht43=>?_) (fun ht43=>?_)
  ·refine R0 ?_
   exact K.fin (V.one V.tmp) ⟨by rw [show Dz c=false from Bool.eq_false_iff.2 fun h=>by have:=colsM_true.1 h x c[x] (List.getElem?_eq_getElem hlt);unfold Lq at this;rw [ht43] at this;cases this],rfl⟩
  refine Xu ?_;exact K.lpN (x+1) ⟨hlt,Ft hlt hx.2 (by unfold Lq;rw [ht43];rfl)⟩ (by omega) (StCut.of_eq rfl)
 refine Vb ?_;exact K.fin (V.one V.tmp) ⟨by rw [colsM_true.2 (Gt (by simp at ht7;omega) hx.2)],rfl⟩

def Az (c:List Col):Bool:=decide ((c.length:Int)≤12)&&Dz c
theorem c37 (c:List Col) (hc:OkCols c) (Hp:List AObj):AFun Tryz.prog 37 [A9 c] Hp (Al (Az c)):=by
 refine ACall.body [.tmp 2] [0] Tryz.func37 Tryz.ntmps37 (fun d=>?_)
 refine Z40 ?_;refine Z41 ?_;refine G.go ?_;refine G.call Tryz.call48 (fun hB=>c48 c hc _) ?_;refine Z39 ?_;exact K.fin (V.one V.tmp) ⟨by unfold Az;simp,rfl⟩

def Dk (v:Val):Bool:=if v.kind==0 then v.n==0&&v.s==[] else if v.kind==1 then v.s==[] else if v.kind==2 then v.n==0&&decide ((v.s.length:Int)≤200) else v.kind==3&&v.s==[]&&decide (0≤v.n)&&decide (v.n≤1)
theorem AAp (v:Val) (Hp:List AObj):AFun Tryz.prog 144 [P3 v] Hp (Al (Dk v)):=by
 refine ACall.body [.tmp 2] [0] Tryz.func144 Tryz.ntmps144 (fun d=>?_)
 refine dp ?_;refine R.go ?_;refine R.fin [1] ?_;refine Z35 ?_;refine R.fin [1,5] ?_
 refine W.cond (fun ht5=>?_) (fun ht5=>?_)
 ·refine Z1 ?_;refine Z83 ?_;refine Z39 ?_;refine K.thR ?_;exact yh
 refine Z5 ?_;refine Z35 ?_;refine R.fin [1,16] ?_
 refine W.cond (fun ht16=>?_) (fun ht16=>?_)
 ·refine Z1 ?_;refine Z39 ?_;refine K.thR ?_;exact K.fin (V.one V.tmp) ⟨by simp [Dk,ht5,ht16],rfl⟩
 refine Z5 ?_;refine Z35 ?_;refine R.fin [1,22] ?_
 refine W.cond (fun ht22=>?_) (fun ht22=>?_)
 ·refine Z1 ?_;refine Z56 ?_;refine Z39 ?_;refine K.thR ?_;exact yi
 refine O8 ?_;refine Z83 ?_;refine Z83 ?_;refine Z83 ?_;refine Z39 ?_;exact yi

theorem uk (e:Bool) (n:Int):(e&&(n==0 || n==1))=(e&&decide (0≤n)&&decide (n≤1)):=by
 cases e
 ·rfl
 rw [Bool.eq_iff_iff]
 simp
 omega
theorem za (v:Val) (Hp:List AObj):AFun Tryz.prog 107 [P3 v] Hp (Al (Dk v)):=by
 refine ACall.body [.tmp 2] [0] Tryz.func107 Tryz.ntmps107 (fun d=>?_)
 refine dp ?_;refine R.go ?_;refine R.fin [1] ?_;refine Z8 ?_;refine R.fin [1,4] ?_;refine Lo ?_;refine R.fin [1,4,5] ?_
 refine W.cond (fun ht5=>?_) (fun ht5=>?_)
 ·refine yd ?_
  refine R.go (h:=Q.eqlAgg k8 (Lp v.kind v.n 0 0 v.s [])) (hr:=?_)
  refine Xw ?_;refine Z6 ?_;exact yh
 refine Z1 ?_;refine R.fin [1,4,10] ?_
 refine W.cond (fun ht10=>?_) (fun ht10=>?_)
 ·refine Z1 ?_;refine V9 ?_;exact K.fin (V.one V.tmp) ⟨by simp [Dk,ht5,ht10],rfl⟩
 refine Z1 ?_;refine R.fin [1,4,15] ?_
 refine W.cond (fun ht15=>?_) (fun ht15=>?_)
 ·refine Z1 ?_;refine Z56 ?_;refine V9 ?_;exact K.fin (V.one V.tmp) ⟨by simp [Dk,ht5,ht10,ht15],rfl⟩
 refine Z1 ?_;refine R.fin [1,26] ?_
 refine W.cond (fun ht26=>?_) (fun ht26=>?_)
 ·refine Z1 ?_;refine Z56 ?_;refine Mf ?_;refine V9 ?_;exact K.fin (V.one V.tmp) ⟨by simp [Dk,ht5,ht10,ht15,ht26];rw [uk],rfl⟩
 refine V8 ?_;exact K.fin (V.one V.tmp) ⟨by simp [Dk,ht5,ht10,ht15,ht26],rfl⟩

def Ez (c:List Col):Bool:=decide ((50:Int)<c.length) || c.any fun y=>decide ((100:Int)<y.name.length)
theorem Kw {α:Type} {c:List α} {p:Nat→α→Bool}:(c.zipIdx.all fun x=>p x.2 x.1)=true↔∀(j:Nat) (y:α),c[j]? = some y→p j y=true:=by
 rw [List.all_eq_true]
 constructor
 ·intro h j y hj
  exact yg
 rintro h ⟨y,j⟩ hx
 rw [List.mem_zipIdx_iff_getElem?] at hx
 exact h j y hx
theorem c84 (y:Col) (nm:Str) (Hp:List AObj):AFun Tryz.prog 84 [Ak y,.ro [A6 nm]] Hp (Al (y.name==nm)):=by
 refine ACall.body [.tmp 3] [0,1] Tryz.func84 Tryz.ntmps84 (fun d=>?_)
 refine Z1 ?_;refine R.fin [1,2] ?_;refine Z1 ?_;refine Z23 ?_;refine R.fin [3] ?_;refine AW.ret ?_;exact ea

theorem c83 (c:List Col) (hc:OkCols c) (nm:Str) (Hp:List AObj):AFun Tryz.prog 83 [A9 c,.fn (.func 84) [] [.ro [A6 nm]]] Hp (A2 (Aj nm c)):=by
 refine ACall.body [.tmp 4] [0,1] Tryz.func83 Tryz.ntmps83 (fun d=>?_)
 refine dy ?_
 refine AW.loopC (α:=Nat) (fun x=>⟨19,A3 0 (A9 c) (A3 1 (.fn (.func 84) [] [.ro [A6 nm]]) (A3 7 (A2 c.length) (A3 8 (A2 (x:Nat)) (fun _=>.any)))),Hp,[],[],none⟩) (fun x=>x≤c.length∧∀(j:Nat) (y:Col),j<x→c[j]? = some y→¬(y.name=nm)) (fun x=>c.length-x) (0) (by simp) (StLe.of_eq (by simp)) rfl (fun x hx=>?_)
 refine dm ?_
 refine W.condX (fun ht9=>?_) (fun ht9=>?_)
 ·have hlt:x<c.length:=by simpa using ht9
  have hcl:=hc.len
  refine dx ?_
  refine R.go (h:=Q.indexAddr (x) (Ak c[x]) (fun _=>Ae hlt)) (hr:=?_)
  refine R.go ?_;refine R.callV Tryz.call84 (c84 c[x] nm _) ?_;refine eb ?_
  refine W.cond (fun ht16=>?_) (fun ht16=>?_)
  ·refine je ?_;refine Z34 ?_;exact K.fin (V.one V.tmp) ⟨by rw [P5 hlt (by simpa using ht16) hx.2],rfl⟩
  refine Mc ?_;refine R.fin [0,1,7,8] ?_;exact K.lpN (x+1) ⟨hlt,Av hlt hx.2 (by simpa using ht16)⟩ (by omega) (StCut.of_eq rfl)
 refine Z26 ?_;exact wv

theorem c59 (c:List Col) (hc:OkCols c) (nm:Str) (Hp:List AObj):AFun Tryz.prog 59 [A9 c,A6 nm] Hp (A2 (Aj nm c)):=by
 refine ACall.body [.tmp 4] [0,1] Tryz.func59 Tryz.ntmps59 (fun d=>?_)
 refine Xx ?_;refine Z2 ?_;refine R.makeFunc ?_;refine R.call Tryz.call83 (c83 c hc nm _) ?_;refine R.go ?_;exact tc

def Lr (s of:Str):Int:=(s.length:Int)-(Lib.trimLeftS s of).length
theorem Oc (s of:Str):(Lib.trimLeftS s of).length≤s.length:=by
 unfold Lib.trimLeftS
 exact (List.dropWhile_sublist _).length_le
def Id:Str:=[32,97,100,100,32,100,114,111,112,32,114,101,110,97,109,101,32,115,112,108,105,116,32,109,101,114,103,101,32,114,101,116,121,112,101,32,105,110,116,111,32,116,111,32,98,97,99,107,32,97,110,100,32,111,114,32,110,111,116,32,116,114,117,101,32,102,97,108,115,101,32,110,117,108,108,32,105,110,116,32,116,101,120,116,32,98,111,111,108,32,115,101,108,101,99,116,32,119,104,101,114,101,32,102,114,111,109,32,108,105,109,105,116,32]
def letters:Str:=[97,98,99,100,101,102,103,104,105,106,107,108,109,110,111,112,113,114,115,116,117,118,119,120,121,122]
def tails:Str:=[97,98,99,100,101,102,103,104,105,106,107,108,109,110,111,112,113,114,115,116,117,118,119,120,121,122,48,49,50,51,52,53,54,55,56,57,95]
theorem Y9 (s of:Str) (hs:s.length≤1048576) (ho:of.length≤1048576) (ha:∀c∈of,c.toNat<128) (Hp:List AObj):AFun Tryz.prog 140 [A6 s,A6 of] Hp (A2 (Lr s of)):=by
 refine ACall.body [.tmp 4] [0,1] Tryz.func140 Tryz.ntmps140 (fun d=>?_)
 refine Z62 ?_;refine Z41 ?_;refine R.call Tryz.call173 (c173 s of (by omega) ha _) ?_;refine R.go ?_
 have htl:=Oc s of
 exact jn

def Ed (s:Str):Bool:=(!(s==[]) && !Lib.contains s [32])&&Lib.contains Id ([32]++s++[32])
theorem zb (s:Str) (hs:s.length≤1048576) (Hp:List AObj):AFun Tryz.prog 141 [A6 s] Hp (Al (Ed s)):=by
 refine ACall.body [.tmp 2] [0] Tryz.func141 Tryz.ntmps141 (fun d=>?_)
 refine Z40 ?_;refine Z17 ?_;refine G.go ?_;refine G.call Tryz.call142 (fun hB=>ef s [32] (by omega) _) ?_;refine G.go ?_;refine Z83 ?_;refine G.call Tryz.call142 (fun hB=>ef Id ([32]++s++[32]) (by decide) _) ?_;exact Z99

theorem ul {s:Str} {b c:Bool} (h:(((!(s==[])&&b)&&c)==true)=true):1≤s.length:=by
 cases s with
 | nil=>simp at h
 | cons x r=>simp
def Bg (s:Str):Bool:=((((!(s==[])&&decide ((s.length:Int)≤16))&&(Lr s tails==(s.length:Int)))&&(Lr (s.take 1) letters==1)) && !Ed s)
theorem kg (s:Str) (hs:s.length≤1048576) (Hp:List AObj):AFun Tryz.prog 108 [A6 s] Hp (Al (Bg s)):=by
 refine ACall.body [.tmp 2] [0] Tryz.func108 Tryz.ntmps108 (fun d=>?_)
 refine Z40 ?_;refine Jd ?_;refine G.go ?_;refine Jc ?_;refine G.call Tryz.call140 (fun hB=>Y9 s tails hs (by decide) (by decide) _) ?_;refine Va ?_;refine Jc ?_
 refine G.go (h:=Q.scutH 1 (fun _=>Nat.zero_le _) (fun hB=>ul hB)) (hr:=?_)
 refine G.call Tryz.call140 (fun hB=>Y9 (s.take 1) letters (by simp;omega) (by decide) (by decide) _) ?_
 refine G.go ?_;refine Jc ?_;refine G.call Tryz.call141 (fun hB=>zb s hs _) ?_;refine G.go ?_;exact Z99

end Go.SX.Nb
namespace Go.SX.Nb
open Go Go.SX Go.Proofs Go.RowKit
variable [ErrAt]
set_option maxRecDepth 4000
theorem AAq (s t:Str) (Hp:List AObj):AFun Tryz.prog 214 [A6 s,A6 t] Hp (A6 (Lib.trimPrefix s t)):=by
 refine AFun.lib (xs:=[sv s,sv t]) (v:=sv (Lib.trimPrefix s t)) (fun G w=>.v _ _) (fun w hg=>?_)
 refine (Any.strings_TrimPrefix Tryz.lays101 ⟨s.toArray⟩ ⟨t.toArray⟩ w).mono ?_
 rintro e w' ⟨rfl,rfl⟩
 exact dz
theorem AAr (s t:Str) (hs:s.length≤9223372036854775807) (ht:t.length<4294967281) (ha:∀c∈t,c.toNat<128) (Hp:List AObj):AFun Tryz.prog 215 [A6 s,A6 t] Hp (A6 (Lib.trimS s t)):=by
 refine AFun.lib (xs:=[sv s,sv t]) (v:=sv (Lib.trimS s t)) (fun G w=>.v _ _) (fun w hg=>?_)
 refine (Any.strings_Trim_laid Tryz.lays160 (by kernel_rfl) ⟨s.toArray⟩ ⟨t.toArray⟩ w (by simpa [ByteArray.size] using hs) (by simpa [ByteArray.size] using ht) (fun j b hj=>ha b (List.mem_of_getElem? hj))).mono ?_
 rintro e w' ⟨rfl,hb⟩
 exact ⟨rfl,hb⟩
theorem pi (s:Str) (hs:s.length≤1048576) (v:Int) (h:Lib.parseIntB 64 s=.ok v) (Hp:List AObj):AFun Tryz.prog 216 [A6 s,A2 10,A2 64] Hp (.tup [A2 v,.v .nilIface]):=by
 refine AFun.lib (xs:=[sv s,.int .i64 10,.int .i64 64]) (v:=.tuple #[.int .i64 v,.nilIface]) (fun G w=>K4 rfl (fun i y u hy hu=>?_)) (fun w hg=>?_)
 ·match i with
  | 0=>simp at hy hu;subst hy;subst hu;exact .v _ _
  | 1=>simp at hy hu;subst hy;subst hu;exact .v _ _
  | i+2=>simp at hy
 refine (Any.strconv_ParseInt_10_at64_ok Tryz.lays174 ⟨s.toArray⟩ (by simp [ByteArray.size];omega) v h w).mono ?_
 rintro e w' ⟨rfl,rfl|⟨t,rfl⟩⟩
 ·exact dz
 exact ⟨rfl,Lib.bytesWorld_below _ _ _⟩
def Mi (s:Str):AV:=.iface 249 (.ro [.v (sv [80,97,114,115,101,73,110,116]),.v (sv s),.v (.iface 271 (.pointer (some ErrAt.b)))])
theorem Ya (s:Str) (hs:s.length≤1048576) (h:Lib.parseIntB 64 s=.range) (Hp:List AObj):AFun Tryz.prog 216 [A6 s,A2 10,A2 64] Hp (.tup [A2 (Lib.intSat 64 s),Mi s]):=by
 refine AFun.libErr (xs:=[sv s,.int .i64 10,.int .i64 64]) (n:=.int .i64 (Lib.intSat 64 s)) (cs:=[sv [80,97,114,115,101,73,110,116],sv s,.iface 271 (.pointer (some ErrAt.b))]) (te:=268) (fun y hy=>?_) (fun w hg=>?_)
 ·simp only [List.mem_cons,List.mem_nil_iff,or_false] at hy
  rcases hy with rfl|rfl|rfl<;>rfl
 refine (Any.strconv_ParseInt_10_at64_range Tryz.lays174 ⟨s.toArray⟩ (by simp [ByteArray.size];omega) h (.iface 271 (.pointer (some ErrAt.b))) w (N9 hg) (.inr ⟨_,_,rfl⟩)).mono ?_
 rintro e w' ⟨N,rfl,h1,h2,h3⟩
 exact ⟨N,rfl,h1,h2,h3⟩
theorem ki (Hp:List AObj):AFun Tryz.prog 217 [.v .nilIface,.v (.iface 271 (.pointer (some ErrAt.b)))] Hp (Al false):=by
 refine AFun.lib (xs:=[.nilIface,.iface 271 (.pointer (some ErrAt.b))]) (v:=.bool false) (fun G w=>.v _ _) (fun w hg=>?_)
 refine (Tryz.is_nil _ w).mono ?_
 rintro e w' ⟨rfl,rfl⟩
 exact dz
theorem Yb (s:Str) (Hp:List AObj):AFun Tryz.prog 217 [Mi s,.v (.iface 271 (.pointer (some ErrAt.b)))] Hp (Al true):=by
 intro d G w vs hn hv hH hT _
 have hsz:vs.size=2:=hn
 have h0:=hv 0 (Mi s) vs[0] rfl (Array.getElem?_eq_getElem (by omega))
 have h1:=Iz (hv 1 (.v (.iface 271 (.pointer (some ErrAt.b)))) vs[1] rfl (Array.getElem?_eq_getElem (by omega)))
 have hvs:vs=#[vs[0],vs[1]]:=by
  apply Array.ext
  ·exact hsz
  intro i hi1 hi2
  match i with
  | 0=>rfl
  | 1=>rfl
  | i+2=>omega
 unfold Mi at h0
 generalize vs[0]=u0 at h0 hvs
 cases h0 with
 | iface _ _ _ u h =>
  cases h with
  | ro _ _ ad f hs h1' hf hr =>
   obtain ⟨ab,ao,asp⟩:=ad
   simp only at hs
   subst hs
   have hc:=(hf 2 _ rfl).2
   have he:=Iz (hr 2 _ rfl)
   rw [he] at hc
   rw [hvs,h1]
   refine (callsIn_wide.2 (Tryz.is_range ab ao ErrAt.b w hc)).mono ?_
   rintro e w' ⟨rfl,rfl⟩
   exact ⟨_,G,_,Hp,rfl,.v _ _,hH,hT,Keep.refl _ _ _,rfl,rfl,rfl⟩
end Go.SX.Nb
namespace Go.SX.Nb
open Go Go.SX Go.Proofs
variable [ErrAt]
set_option maxRecDepth 4000
def Vg:Str:=[32,105,110,116,32,116,101,120,116,32,98,111,111,108]
def kindNames:List Str:=[[],[105,110,116],[116,101,120,116],[98,111,111,108]]
theorem eg:Je Vg [32]=kindNames:=by kernel_rfl
def Ax (k:Int):Str:=if k<1∨3<k then [] else kindNames.getD k.toNat []
theorem c70 (k:Int) (Hp:List AObj):AFun Tryz.prog 70 [A2 k] Hp (A6 (Ax k)):=by
 refine ACall.body [.tmp 2] [0] Tryz.func70 Tryz.ntmps70 (fun d=>?_)
 refine Vc ?_;refine Tm ?_;refine R.fin [0,8] ?_
 refine W.cond (fun ht8=>?_) (fun ht8=>?_)
 ·refine Z21 ?_;refine K.thR ?_;exact K.fin (V.one V.tmp) ⟨by rw [show Ax k=[] from if_pos (by simpa using ht8)],rfl⟩
 refine du ?_
 have hk:1≤k∧k≤3:=by simp at ht8;omega
 have hget:(kindNames.map A6)[k.toNat]? = some (A6 (kindNames.getD k.toNat [])):=by
  have hlt:k.toNat<kindNames.length:=by show k.toNat<4;omega
  rw [List.getElem?_map,List.getElem?_eq_getElem hlt,List.getD_eq_getElem?_getD,List.getElem?_eq_getElem hlt]
  rfl
 refine R.call Tryz.call100 (eg ▸ ui Vg [32] (by decide) (by decide) _) ?_;refine R.go ?_
 refine R.go (h:=Q.indexAddr (k.toNat) (A6 (kindNames.getD k.toNat [])) (fun _=>hget)) (hr:=?_)
 refine Z39 ?_;exact K.fin (V.one V.tmp) ⟨by rw [show Ax k=kindNames.getD k.toNat [] from if_neg (by omega)],rfl⟩

def K8 (s of:Str):Bool:=(!(s==[]) && !Lib.contains s [32])&&Lib.contains of ([32]++s++[32])
theorem zc (s of:Str) (hs:s.length≤1048576) (ho:of.length≤1048576) (Hp:List AObj):AFun Tryz.prog 109 [A6 s,A6 of] Hp (Al (K8 s of)):=by
 refine ACall.body [.tmp 4] [0,1] Tryz.func109 Tryz.ntmps109 (fun d=>?_)
 refine Z62 ?_;refine Z17 ?_;refine G.go ?_;refine G.call Tryz.call142 (fun hB=>ef s [32] (by omega) _) ?_;refine G.go ?_;refine Z56 ?_;refine G.call Tryz.call142 (fun hB=>ef of ([32]++s++[32]) (by omega) _) ?_;exact jn

def Rk:Str:=[108,101,110,58,49,32,115,116,114,58,49,32,110,117,109,58,49,32,105,115,110,117,108,108,58,49,32,110,118,108,58,50,32,108,101,102,116,58,50,32,114,105,103,104,116,58,50,32,105,102,58,51]
def arityList:List (Str×UInt8):=[([108,101,110],49),([115,116,114],49),([110,117,109],49),([105,115,110,117,108,108],49),([110,118,108],50),([108,101,102,116],50),([114,105,103,104,116],50),([105,102],51)]
def G6 (p:Str×UInt8):Str:=p.1++[58,p.2]
theorem Yc:Je Rk [32]=arityList.map G6:=by kernel_rfl
theorem kj {p:Str×UInt8} (hp:p∈arityList):Lib.cut (G6 p) [58]=(p.1,[p.2],true):=by
 have h:(arityList.all fun p=>decide (Lib.cut (G6 p) [58]=(p.1,[p.2],true)))=true:=by kernel_rfl
 exact of_decide_eq_true (List.all_eq_true.1 h p hp)
def um (p:Str×UInt8):Int:=IntKind.i64.wrap (IntKind.u8.wrap ((p.2.toNat:Int)-48))
def B2 (nm:Str):Int:=match arityList.find? (fun p=>p.1==nm) with|some p=>um p|none => -1
theorem am {α:Type} {p:α→Bool} {l:List α} {x:Nat} (h:x<l.length) (hp:p l[x]=true) (h2:∀(j:Nat) (y:α),j<x→l[j]? = some y→p y=false):l.find? p=some l[x]:=by
 rw [List.find?_eq_some_iff_getElem]
 exact ⟨hp,x,h,rfl,fun j hj=>by simpa using h2 j l[j] hj (List.getElem?_eq_getElem _)⟩
theorem Rl {α:Type} {p:α→Bool} {l:List α} (h:∀(j:Nat) (y:α),l[j]? = some y→p y=false):l.find? p=none:=by
 rw [List.find?_eq_none]
 intro y hy
 obtain ⟨j,hj⟩:=List.getElem?_of_mem hy
 simpa using h j y hj
theorem Mj:arityList.length=8:=rfl
theorem eh {p:Str×UInt8} (hp:p∈arityList):(G6 p).length<4294967281:=by
 have h:(arityList.all fun p=>decide ((G6 p).length<4294967281))=true:=by kernel_rfl
 exact of_decide_eq_true (List.all_eq_true.1 h p hp)
theorem un (nm:Str) (Hp:List AObj):AFun Tryz.prog 110 [A6 nm] Hp (A2 (B2 nm)):=by
 refine ACall.body [.tmp 2] [0] Tryz.func110 Tryz.ntmps110 (fun d=>?_)
 refine Z40 ?_;refine Z68 ?_;refine R.call Tryz.call100 (Yc ▸ ui Rk [32] (by decide) (by decide) _) ?_;refine Z0 ?_;refine R.fin [0,8,9,10] ?_
 refine AW.loopC (α:=Nat) (fun x=>⟨28,A3 0 (A6 nm) (A3 8 (D6 (arityList.map G6)) (A3 9 (A2 8) (A3 10 (A2 (x:Nat)) (fun _=>.any)))),Hp,[],[],none⟩) (fun x=>x≤8∧∀(j:Nat) (y:Str×UInt8),j<x→arityList[j]? = some y→(y.1==nm)=false) (fun x=>8-x) (0) (by simp) (StLe.refl _) rfl (fun x hx=>?_)
 refine Z2 ?_;refine R.fin [0,8,9,10,11] ?_
 refine W.condX (fun ht11=>?_) (fun ht11=>?_)
 ·have hlt:x<arityList.length:=by rw [Mj];simp at ht11;omega
  have hal:=Mj
  have hget:((arityList.map G6).map A6)[x]? = some (A6 (G6 arityList[x])):=by rw [List.map_map];exact Ae hlt
  refine O2 ?_
  refine R.go (h:=Q.indexAddr (x) (A6 (G6 arityList[x])) (fun _=>hget)) (hr:=?_)
  refine Z0 ?_;refine R.fin [0,4,8,9,10] ?_;refine Z2 ?_;refine R.call Tryz.call143 ((kj (List.getElem_mem hlt)) ▸ c143 (G6 arityList[x]) [58] (eh (List.getElem_mem hlt)) _) ?_;refine Z76 ?_;refine Z23 ?_;refine R.fin [0,5,6,8,9,10] ?_;refine Z17 ?_;refine R.fin [0,6,8,9,10,22] ?_
  refine W.cond (fun ht22=>?_) (fun ht22=>?_)
  ·refine Z2 ?_
   refine R.go (h:=Q.sindex 0 arityList[x].2 (fun _=>rfl)) (hr:=?_)
   refine R.go (h:=Q.sub) (hr:=?_)
   refine Z39 ?_;refine Z34 ?_;exact K.fin (V.one V.tmp) ⟨by rw [B2,am hlt ht22 hx.2];rfl,rfl⟩
  refine Mc ?_;refine R.fin [0,8,9,10] ?_;exact K.lpN (x+1) ⟨by omega,Av hlt hx.2 ht22⟩ (by omega) (StCut.of_eq rfl)
 have hal:=Mj
 refine Z26 ?_;refine Z21 ?_;exact K.fin (V.one V.tmp) ⟨by rw [B2,Rl (H3 (by simp at ht11;omega) hx.2)],rfl⟩

def Yd (s:Str):Int:=match Lib.parseIntB 64 s with|.ok v=>v|_=>Lib.intSat 64 s
def R1 (s:Str):Bool:=match Lib.parseIntB 64 s with|.ok _=>false|_=>true
def R2 (s:Str):AV:=bif R1 s then Mi s else .v .nilIface
theorem Ye (s:Str):(R2 s).strip=R2 s:=by unfold R2;cases R1 s<;>rfl
attribute [go_sem] Ye
theorem AAs (s:Str) (hs:s.length≤1048576) (h:pc (Lib.parseIntB 64 s)=false) (Hp:List AObj):AFun Tryz.prog 216 [A6 s,A2 10,A2 64] Hp (.tup [A2 (Yd s),R2 s]):=by
 cases hp:Lib.parseIntB 64 s with
 | ok v =>
  have:=pi s hs v hp Hp
  rwa [show v=Yd s by unfold Yd;rw [hp],show AV.v .nilIface=R2 s by unfold R2 R1;rw [hp];rfl] at this
 | range =>
  have:=Ya s hs hp Hp
  rwa [show Lib.intSat 64 s=Yd s by unfold Yd;rw [hp],show Mi s=R2 s by unfold R2 R1;rw [hp];rfl] at this
 | _=>rw [hp] at h;cases h
theorem AAt (s:Str) (Hp:List AObj):AFun Tryz.prog 217 [R2 s,.v (.iface 271 (.pointer (some ErrAt.b)))] Hp (Al (R1 s)):=by
 unfold R2
 cases R1 s
 ·exact ki Hp
 exact Yb s Hp
theorem km (s t:Str):(Lib.trimPrefix s t).length≤s.length:=by
 unfold Lib.trimPrefix;split<;>simp
theorem ek {d:Str} {b:Bool} (h:(((d==[]) || b)==false)=true):d≠[]:=by rintro rfl;simp at h
theorem Kx:∀c∈digs,c.toNat<128:=by decide
theorem P6 (s:Str):((((Lib.trimPrefix s [45]==[]) || (Lib.trimS (Lib.trimPrefix s [45]) digs != [])) || ((((Lib.trimPrefix s [45]).headD 0).toNat:Int)==48&&decide ((1:Int)<s.length))))=H1 s:=by
 unfold H1 Na
 have e1:((((Lib.trimPrefix s [45]).headD 0).toNat:Int)==48)=((Lib.trimPrefix s [45]).headD 0==48):=by
  rw [Bool.eq_iff_iff]
  simp only [beq_iff_eq]
  constructor
  ·intro h
   exact UInt8.toNat_inj.1 (by have:(48:UInt8).toNat=48:=rfl;omega)
  intro h;rw [h];rfl
 have e2:decide ((1:Int)<s.length)=decide (1<s.length):=by rw [decide_eq_decide];omega
 rw [e1,e2]
 rfl
theorem el {s:Str} (hb:H1 s=false) (h:R1 s=true):Cx s=(0,4):=by
 unfold Cx
 rw [hb]
 have:=Jf hb
 unfold R1 at h
 revert h this
 cases Lib.parseIntB 64 s with
 | ok v=>intro h;cases h
 | range=>intro _ _;rfl
 | _=>intro _ h;cases h
theorem uo {s:Str} (hb:H1 s=false) (h:R1 s=false):Cx s=(Yd s,0):=by
 unfold Cx Yd
 rw [hb]
 unfold R1 at h
 revert h
 cases Lib.parseIntB 64 s with
 | ok v=>intro h;rfl
 | _=>intro h;cases h
theorem kn (s:Str):s.take (min s.length 200)=s.take 200:=by
 rcases Nat.le_total s.length 200 with h|h
 ·rw [Nat.min_eq_left h,List.take_of_length_le (Nat.le_refl _),List.take_of_length_le h]
 rw [Nat.min_eq_right h]
theorem AAu (s:Str) (hs:s.length≤1048576) (Hp:List AObj):AFun Tryz.prog 195 [A6 s] Hp (.tup [A2 (Cx s).1,A2 (Cx s).2]):=by
 refine ACall.body [.tmp 2,.tmp 3] [0] Tryz.func195 Tryz.ntmps195 (fun d=>?_)
 refine Z1 ?_;refine R.fin [0] ?_;refine Z2 ?_;refine R.call Tryz.call214 (AAq s [45] _) ?_;refine R.go ?_;refine R.fin [0,4] ?_;refine Z35 ?_;refine G.go ?_
 refine G.call Tryz.call215 (fun hB=>AAr (Lib.trimPrefix s [45]) digs (by have:=km s [45];omega) (by decide) Kx _) ?_
 refine G.go ?_;refine Jc ?_
 refine G.go (h:=Q.sindex 0 ((Lib.trimPrefix s [45]).headD 0) (fun hB=>Mh (ek hB))) (hr:=?_)
 refine Mf ?_;refine Tm ?_;refine R.fin [0,25] ?_
 refine W.cond (fun ht25=>?_) (fun ht25=>?_)
 ·have hb:H1 s=true:=by rw [←P6];exact ht25
  refine Z1 ?_;refine F8 ?_;refine Z37 ?_;exact K.fin (V.two V.tmp V.tmp) ⟨by rw [Cx,hb];rfl,rfl⟩
 have hb:H1 s=false:=by rw [←P6];exact ht25
 refine Kf ?_;refine R.call Tryz.call216 (AAs s hs (Jf hb) _) ?_;refine Z89 ?_;refine R.fin [5,6] ?_;refine Z31 ?_;refine R.loadGlob Tryz.isAgg133 (fun w hg=>N9 hg) ?_;refine R.call Tryz.call217 (AAt s _) ?_;refine R.fin [5,33] ?_
 refine W.cond (fun ht33=>?_) (fun ht33=>?_)
 ·refine Z1 ?_;refine F8 ?_;refine Z37 ?_;exact K.fin (V.two V.tmp V.tmp) ⟨by rw [el hb ht33],rfl⟩
 refine Z70 ?_;refine F8 ?_;refine AW.ret ?_;exact K.fin (V.two V.tmp V.tmp) ⟨by rw [uo hb ht33],rfl⟩

theorem AAv (n:Int) (h0 : -9223372036854775808≤n) (h1:n≤9223372036854775807) (Hp:List AObj):AFun Tryz.prog 138 [A2 n] Hp (A6 (Lib.itoa n)):=by
 refine ACall.body [.tmp 2] [0] Tryz.func138 Tryz.ntmps138 (fun d=>?_)
 refine Z40 ?_;refine Z2 ?_;refine R.call Tryz.call171 (c171 n h0 h1 _) ?_;exact o7

theorem AAw (Hp:List AObj):AFun Tryz.prog 190 [] Hp (P3 ⟨0,0,[]⟩):=by
 refine ACall.body [.cell 0 42] [] Tryz.func190 Tryz.ntmps190 (fun d=>?_)
 refine Z32 ?_;refine R.fin [0] ?_;refine Z78 ?_;refine Fk ?_;refine R.fin [0] ?_;refine AW.ret ?_;exact K.fin (V.one (V.cellN jA jS))

theorem AAx (n:Int) (Hp:List AObj):AFun Tryz.prog 196 [A2 n] Hp (P3 ⟨1,n,[]⟩):=by
 refine ACall.body [.cell 2 42] [0] Tryz.func196 Tryz.ntmps196 (fun d=>?_)
 refine Z63 ?_;refine yd ?_;exact o6

theorem AAy (b:Bool) (Hp:List AObj):AFun Tryz.prog 191 [Al b] Hp (P3 ⟨3,if b then 1 else 0,[]⟩):=by
 refine ACall.body [.cell 2 42] [0] Tryz.func191 Tryz.ntmps191 (fun d=>?_)
 refine Z63 ?_;refine Z78 ?_;refine V4 ?_;refine Z31 ?_;refine R.fin [2,3,5] ?_
 refine W.cond (fun ht5=>?_) (fun ht5=>?_)
 ·refine Z61 ?_;refine ja ?_;refine K.thN ?_;refine Z2 ?_;exact xf
 refine Kf ?_;exact xf

theorem c213 (s:Str) (Hp:List AObj):AFun Tryz.prog 213 [A6 s] Hp (P3 ⟨2,0,s.take 200⟩):=by
 refine ACall.body [.cell 2 42] [0] Tryz.func213 Tryz.ntmps213 (fun d=>?_)
 refine Z63 ?_;refine Z17 ?_;refine R.minI ?_
 refine R.go (h:=Q.scutH (min s.length 200) (fun _=>Nat.zero_le _) (fun _=>Nat.min_le_left _ _) (hb:=fun _=>by split<;>omega)) (hr:=?_)
 refine Y3 ?_;refine Z13 ?_;exact K.fin (V.one (V.cellN jA jS)) ⟨by rw [kn],rfl⟩

theorem Yf {p s:Str} (h:p.isPrefixOf s=true):p.length≤s.length:=(List.isPrefixOf_iff_prefix.1 h).length_le
theorem Yg (s o:Str) (h:0≤Lib.index s o):(Lib.index s o).toNat+o.length≤s.length:=by
 induction s with
 | nil =>
  unfold Lib.index at h ⊢
  split at h
  ·rename_i he
   rw [if_pos he]
   cases o with
   | nil=>simp
   | cons a b=>simp at he
  omega
 | cons b l ih =>
  unfold Lib.index at h ⊢
  split at h
  ·rename_i hp
   rw [if_pos hp]
   have:=Yf hp
   simpa using this
  rename_i hp
  rw [if_neg hp]
  split at h
  ·omega
  rename_i hi
  rw [if_neg hi]
  have hg:=Lib.index_ge l o
  have hi':Lib.index l o ≠ -1:=by simpa using hi
  have:=ih (by omega)
  simp only [List.length_cons]
  omega
def an:Val:=⟨0,0,[]⟩
def Vh (b:Bool):Val:=⟨3,if b then 1 else 0,[]⟩
def pj (n:Int):Prop := -9223372036854775808≤n∧n≤9223372036854775807
def E8 (v:Val):Str:=
 if !Dk v then [] else if v.kind==1 then Lib.itoa v.n else if v.kind==2 then [39]++Lib.replaceAll v.s [39] [39,39]++[39]
 else if v.kind==0 then [110,117,108,108] else if v.n==1 then [116,114,117,101] else [102,97,108,115,101]
theorem en {v:Val} (h:Dk v=true) (h2:(v.kind==2)=true):v.s.length≤200:=by
 have e:v.kind=2:=by simpa using h2
 unfold Dk at h
 rw [e] at h
 simp at h
 omega
theorem Vi (s o:Str) (ho:1≤o.length):Lib.countB ⟨s.toArray⟩ ⟨o.toArray⟩≤s.length:=Lib.countB_le ⟨o.toArray⟩ (by simpa [ByteArray.size] using ho) s.length ⟨s.toArray⟩ (by simp [ByteArray.size])
theorem Nd (o n:Str) (B:Nat) (hn:n.length≤B*o.length) (hB:1≤B):∀(k:Nat) (s:Str),(Lib.replaceK o n k s).length≤B*s.length
 | 0,s=>by rw [Lib.replaceK];exact Nat.le_mul_of_pos_left _ hB
 | k+1,s=>by
  rw [Lib.replaceK]
  split
  ·exact Nat.le_mul_of_pos_left _ hB
  rename_i h
  have ih:=Nd o n B hn hB k (s.drop ((Lib.index s o).toNat+o.length))
  have hx:(Lib.index s o).toNat+o.length≤s.length:=by
   have hg:=Lib.index_ge s o
   have hi:Lib.index s o ≠ -1:=by simpa using h
   exact Yg s o (by omega)
  simp only [List.length_append,List.length_drop,List.length_take] at ih ⊢
  have h1:min (Lib.index s o).toNat s.length≤B*(Lib.index s o).toNat:=Nat.le_trans (Nat.min_le_left _ _) (Nat.le_mul_of_pos_left _ hB)
  have h2:B*s.length=B*(Lib.index s o).toNat+B*o.length+B*(s.length-((Lib.index s o).toNat+o.length)):=by
   rw [←Nat.mul_add,←Nat.mul_add];congr 1;omega
  omega
theorem R3 (s o n:Str) (B:Nat) (hn:n.length≤B*o.length) (hB:1≤B):(Lib.replaceAll s o n).length≤B*s.length:=by
 unfold Lib.replaceAll Lib.replace
 split
 ·exact Nat.le_mul_of_pos_left _ hB
 exact Nd o n B hn hB _ s
theorem zd (v:Val) (hn:pj v.n) (Hp:List AObj):AFun Tryz.prog 103 [P3 v] Hp (A6 (E8 v)):=by
 refine ACall.body [.tmp 2] [0] Tryz.func103 Tryz.ntmps103 (fun d=>?_)
 refine Z71 ?_;refine O7 ?_;refine R.call Tryz.call107 (za v _) ?_;refine Z0 ?_;refine R.fin [1,3] ?_
 refine W.cond (fun ht3=>?_) (fun ht3=>?_)
 ·refine Z21 ?_;refine Z6 ?_;exact K.fin (V.one V.tmp) ⟨by simp only [E8,ht3,if_true],rfl⟩
 have hp:Dk v=true:=by simpa using ht3
 refine Z41 ?_;refine R.fin [1,7] ?_
 refine W.cond (fun ht7=>?_) (fun ht7=>?_)
 ·refine Z1 ?_;refine R.call Tryz.call138 (AAv v.n hn.1 hn.2 _) ?_;refine Xw ?_;refine Z6 ?_;exact K.fin (V.one V.tmp) ⟨by simp only [E8,hp,ht7,Bool.not_true,Bool.false_eq_true,if_false,if_true];try rfl,rfl⟩
 refine Z41 ?_;refine R.fin [1,14] ?_
 refine W.cond (fun ht14=>?_) (fun ht14=>?_)
 ·refine Z1 ?_
  have hl:=en hp ht14
  have hrl:=R3 v.s [39] [39,39] 2 (by decide) (by decide)
  refine R.call Tryz.call139 (z7 v.s [39] [39,39] (by omega) (by decide) (by have:=Vi v.s [39] (by decide);simp;omega) _) ?_
  refine Z23 ?_;refine Z3 ?_;refine Z6 ?_;exact K.fin (V.one V.tmp) ⟨by simp only [E8,hp,ht7,ht14,Bool.not_true,Bool.false_eq_true,if_false,if_true];try rfl,rfl⟩
 refine Z41 ?_;refine R.fin [1,23] ?_
 refine W.cond (fun ht23=>?_) (fun ht23=>?_)
 ·refine Z21 ?_;refine Z6 ?_;exact K.fin (V.one V.tmp) ⟨by simp only [E8,hp,ht7,ht14,ht23,Bool.not_true,Bool.false_eq_true,if_false,if_true];try rfl,rfl⟩
 refine Z41 ?_;refine R.fin [27] ?_
 refine W.cond (fun ht27=>?_) (fun ht27=>?_)
 ·refine Z21 ?_;refine Z6 ?_;exact yj
 refine V8 ?_;exact yj

def ko (s:Str):Str:=Lib.replaceAll ((s.take (s.length-1)).drop 1) [39,39] [39]
def P7 (s:Str):Val:=⟨2,0,(ko s).take 200⟩
def Vj (s:Str):Val×Int:=if !(E8 (P7 s)==s) then (an,7) else (P7 s,0)
theorem AAz (s:Str) (h2:2≤s.length) (hs:s.length≤1048576) (Hp:List AObj):AFun Tryz.prog 194 [A6 s] Hp (.tup [P3 (Vj s).1,A2 (Vj s).2]):=by
 refine ACall.body [.cell 2 42,.tmp 3] [0] Tryz.func194 Tryz.ntmps194 (fun d=>?_)
 refine Z32 ?_;refine R.go ?_;refine R.fin [0,2] ?_;refine Z41 ?_
 refine R.go (h:=Q.scutLH 1 (s.length-1) (fun _=>show 1≤s.length-1 by omega) (fun _=>show s.length-1≤s.length by omega)) (hr:=?_)
 refine R.call Tryz.call139 (z7 ((s.take (s.length-1)).drop 1) [39,39] [39] (by simp;omega) (by decide) (by have:=Vi ((s.take (s.length-1)).drop 1) [39,39] (by decide);simp at this ⊢;omega) _) ?_
 refine R.go ?_;refine R.fin [0,2,4] ?_;refine Z2 ?_;refine R.call Tryz.call213 (c213 (ko s) _) ?_;refine Z20 ?_;refine R.fin [0,2,5] ?_;refine Z31 ?_
 refine R.call Tryz.call103 (zd (P7 s) ⟨by show (-9223372036854775808:Int)≤0;decide,by show (0:Int)≤9223372036854775807;decide⟩ _) ?_
 refine Z0 ?_;refine R.fin [2,5,17] ?_
 refine W.cond (fun ht17=>?_) (fun ht17=>?_)
 ·refine Z78 ?_;refine Xt ?_;refine Z37 ?_;exact yk
 refine Kf ?_;refine Xt ?_;refine AW.ret ?_;exact yk

def Rm (s:Str):Bool:=(decide ((1:Int)<s.length)&&Lib.hasPrefix s [39])&&Lib.hasSuffix s [39]
def F9 (s:Str):Val×Int:=
 if s==[110,117,108,108] then (an,0) else if (s==[116,114,117,101]) || (s==[102,97,108,115,101]) then (Vh (s==[116,114,117,101]),0)
 else if Rm s then Vj s else if (Cx s).2==0 then (⟨1,(Cx s).1,[]⟩,0) else if (Cx s).2==4 then (an,4) else (an,7)
theorem kp {s:Str} (h:Rm s=true):2≤s.length:=by
 unfold Rm at h
 simp only [Bool.and_eq_true,decide_eq_true_eq] at h
 omega
theorem c175 (s:Str) (hs:s.length≤1048576) (Hp:List AObj):AFun Tryz.prog 175 [A6 s] Hp (.tup [P3 (F9 s).1,A2 (F9 s).2]):=by
 refine ACall.body [.cell 2 42,.tmp 3] [0] Tryz.func175 Tryz.ntmps175 (fun d=>?_)
 refine Z32 ?_;refine R.go ?_;refine R.fin [0,2] ?_;refine Z19 ?_;refine Z17 ?_;refine R.fin [0,2,6] ?_
 refine W.cond (fun ht6=>?_) (fun ht6=>?_)
 ·refine D3 ?_;refine R.call Tryz.call190 (AAw _) ?_;refine Xt ?_;refine Z72 ?_;exact K.fin (V.two (V.cellN jA jS) V.tmp) ⟨by simp only [F9,ht6,if_true,if_false,Bool.false_eq_true];try rfl,rfl⟩
 refine Jd ?_;refine Z0 ?_;refine R.fin [0,2,10] ?_
 refine W.cond (fun ht10=>?_) (fun ht10=>?_)
 ·refine Z1 ?_;refine R.call Tryz.call191 (AAy (s==[116,114,117,101]) _) ?_;refine Xt ?_;refine Z72 ?_;exact K.fin (V.two (V.cellN jA jS) V.tmp) ⟨by simp only [F9,ht6,ht10,if_true,if_false,Bool.false_eq_true];try rfl,rfl⟩
 refine Z41 ?_;refine G.go ?_;refine G.call Tryz.call192 (fun hB=>AAj s [39] _) ?_;refine Jc ?_;refine G.call Tryz.call193 (fun hB=>AAk s [39] (by omega) _) ?_;refine Z0 ?_;refine R.fin [0,2,20] ?_
 refine W.cond (fun ht20=>?_) (fun ht20=>?_)
 ·have hq:Rm s=true:=ht20
  refine Z2 ?_;refine R.call Tryz.call194 (AAz s (kp hq) hs _) ?_;refine Z0 ?_;refine Xt ?_;refine Z72 ?_;exact K.fin (V.two (V.cellN jA jS) V.tmp) ⟨by simp only [F9,ht6,ht10,hq,if_true,if_false,Bool.false_eq_true];try rfl,rfl⟩
 have hq:Rm s=false:=ht20
 refine Z16 ?_;refine Z2 ?_;refine R.call Tryz.call195 (AAu s hs _) ?_;refine Z89 ?_;refine R.fin [2,4,5] ?_;refine Z31 ?_;refine R.fin [2,4,5,41] ?_;refine Lo ?_;refine R.fin [2,4,5,41,42] ?_
 refine W.cond (fun ht42=>?_) (fun ht42=>?_)
 ·refine Z2 ?_;refine R.call Tryz.call196 (AAx (Cx s).1 _) ?_;refine Xt ?_;refine Z72 ?_;exact K.fin (V.two (V.cellN jA jS) V.tmp) ⟨by simp only [F9,ht6,ht10,hq,ht42,if_true,if_false,Bool.false_eq_true];try rfl,rfl⟩
 refine Z1 ?_;refine R.fin [2,5,46] ?_
 refine W.cond (fun ht46=>?_) (fun ht46=>?_)
 ·refine Z78 ?_;refine Z95 ?_;refine wt ?_;refine Z72 ?_;exact K.fin (V.two (V.cellN jA jS) V.tmp) ⟨by simp only [F9,ht6,ht10,hq,ht42,ht46,if_true,if_false,Bool.false_eq_true];rw [show (Cx s).2=4 by simpa using ht46];rfl,rfl⟩
 refine Z16 ?_;refine Z78 ?_;refine Xt ?_;refine AW.ret ?_;exact K.fin (V.two (V.cellN jA jS) V.tmp) ⟨by simp only [F9,ht6,ht10,hq,ht42,ht46,if_true,if_false,Bool.false_eq_true];try rfl,rfl⟩

def blanks:Str:=[32,9,10]
/-- What stands behind blanks and notes. -/
def Eh:Str→Bool→Str
 | [],_=>[]
 | c::r,false=>if blanks.contains c then Eh r false else if c==35 then Eh r true else c::r
 | c::r,true=>if c==10 then Eh r false else Eh r true
def runN (s of:Str):Nat:=s.length-(Lib.trimLeftS s of).length
theorem Tt (s of:Str):Lr s of=(runN s of:Int):=by
 have:=Oc s of
 unfold Lr runN
 omega
theorem Tu (s of:Str):runN s of≤s.length:=Nat.sub_le _ _
theorem kq (s of:Str):s.drop (runN s of)=Lib.trimLeftS s of:=by
 unfold runN Lib.trimLeftS
 have h:∀l:Str,l.drop (l.length-(l.dropWhile (of.contains ·)).length)=l.dropWhile (of.contains ·):=by
  intro l
  have e:=List.takeWhile_append_dropWhile (p:=(of.contains ·)) (l:=l)
  have hl:l.length-(l.dropWhile (of.contains ·)).length=(l.takeWhile (of.contains ·)).length:=by
   have:=congrArg List.length e
   simp only [List.length_append] at this
   omega
  rw [hl]
  conv=>lhs;rw [←e]
  rw [List.drop_left']
  rw [e]
 exact h s
theorem kr (s of:Str):s.take (runN s of)=s.takeWhile (of.contains ·):=by
 have e:=List.takeWhile_append_dropWhile (p:=(of.contains ·)) (l:=s)
 have hl:runN s of=(s.takeWhile (of.contains ·)).length:=by
  unfold runN Lib.trimLeftS
  have:=congrArg List.length e
  simp only [List.length_append] at this
  omega
 rw [hl]
 conv=>lhs;rw [←e]
 rw [List.take_left']
 rw [e]
theorem Mk:∀s:Str,Eh (Lib.trimLeftS s blanks) false=Eh s false
 | []=>rfl
 | c::r=>by
  unfold Lib.trimLeftS
  rw [List.dropWhile_cons]
  by_cases h:blanks.contains c=true
  ·rw [if_pos h,Eh,if_pos h]
   exact Mk r
  rw [if_neg h]
theorem Rn (of:Str):∀(s:Str) (c:UInt8) (t:Str),Lib.trimLeftS s of=c::t→of.contains c=false
 | [],c,t,h=>by cases h
 | b::r,c,t,h=>by
  unfold Lib.trimLeftS at h
  rw [List.dropWhile_cons] at h
  split at h
  ·exact Rn of r c t h
  rename_i hb
  injection h with h1 h2
  subst h1
  simpa using hb
def G7:Str→Str
 | []=>[]
 | c::r=>if c==10 then r else G7 r
theorem uq (s:Str):(Lib.cut s [10]).2.1=G7 s:=by
 unfold Lib.cut
 induction s with
 | nil=>rfl
 | cons c r ih =>
  have hg:=Lib.index_ge r [10]
  rw [G7]
  unfold Lib.index
  by_cases hc:c=10
  ·subst hc
   simp [List.isPrefixOf]
  have h1:([10]:Str).isPrefixOf (c::r)=false:=by simp [List.isPrefixOf,Ne.symm hc]
  have h2:(c==10)=false:=by simpa using hc
  rw [h1,h2]
  simp only [Bool.false_eq_true,if_false]
  by_cases hi:Lib.index r [10] = -1
  ·rw [hi] at ih ⊢
   simpa using ih
  have h3:(Lib.index r [10] == -1)=false:=by simpa using hi
  rw [h3]
  simp only [Bool.false_eq_true,if_false]
  rw [if_pos (by omega)] at ih ⊢
  have e:(Lib.index r [10]+1).toNat=(Lib.index r [10]).toNat+1:=by omega
  rw [e]
  rw [←ih]
  show (c::r).drop _=_
  rw [show (Lib.index r [10]).toNat+1+([10]:Str).length=((Lib.index r [10]).toNat+([10]:Str).length)+1 by omega,List.drop_succ_cons]
theorem Ro:∀t:Str,Eh t true=Eh (G7 t) false
 | []=>rfl
 | c::r=>by
  rw [Eh,G7]
  split
  ·rfl
  exact Ro r
theorem P8:∀t:Str,(G7 t).length≤t.length
 | []=>Nat.le_refl _
 | c::r=>by
  rw [G7]
  split
  ·simp
  have:=P8 r;simp only [List.length_cons];omega
def gapM (s:Str):Nat:=s.length-(Eh s false).length
theorem eo {d:Str} (h:((d==[])==false)=true):d≠[]:=by rintro rfl;simp at h
theorem Tv:∀c∈blanks,c.toNat<128:=by decide
/-- The gap is at its end. -/
theorem pk {x s:Str} (hx:Eh x false=Eh s false) (h:((Lib.trimLeftS x blanks==[]) || ((((Lib.trimLeftS x blanks).headD 0).toNat:Int) != 35))=true):Eh s false=Lib.trimLeftS x blanks:=by
 rw [←hx,←Mk]
 cases ht:Lib.trimLeftS x blanks with
 | nil=>rfl
 | cons c t =>
  rw [ht] at h
  have hb:=Rn blanks x c t ht
  have hc:(c==35)=false:=by
   simp at h
   rw [beq_eq_false_iff_ne]
   rintro rfl
   exact h rfl
  rw [Eh,hb,hc]
  rfl
theorem ur {x s:Str} (hx:Eh x false=Eh s false) (h:((Lib.trimLeftS x blanks==[]) || ((((Lib.trimLeftS x blanks).headD 0).toNat:Int) != 35))=false):
  Eh (Lib.cut (Lib.trimLeftS x blanks) [10]).2.1 false=Eh s false∧(Lib.cut (Lib.trimLeftS x blanks) [10]).2.1.length<x.length:=by
 have hl:=Oc x blanks
 rw [uq,←hx,←Mk x]
 cases ht:Lib.trimLeftS x blanks with
 | nil=>rw [ht] at h;simp at h
 | cons c t =>
  rw [ht] at h hl
  have hc:c=35:=by
   simp at h
   exact UInt8.toNat_inj.1 (by have:(35:UInt8).toNat=35:=rfl;omega)
  subst hc
  have ha:=P8 t
  refine ⟨?_,?_⟩
  ·rw [G7,Eh]
   have e1:blanks.contains 35=false:=by decide
   rw [e1]
   exact (Ro t).symm
  rw [G7]
  simp only [List.length_cons] at hl
  show (G7 t).length<_
  omega
theorem ze (s:Str) (hs:s.length≤1048576) (Hp:List AObj):AFun Tryz.prog 119 [A6 s] Hp (A2 (gapM s)):=by
 refine ACall.body [.tmp 2] [0] Tryz.func119 Tryz.ntmps119 (fun d=>?_)
 refine Z40 ?_;refine Xx ?_
 refine AW.loopC (α:=Str) (fun x=>⟨27,A3 0 (A6 s) (A3 3 (A6 x) (fun _=>.any)),Hp,[],[],none⟩) (fun x=>Eh x false=Eh s false∧x.length≤s.length) (fun x=>x.length) (s) (by simp) (StLe.refl _) rfl (fun x hx=>?_)
 refine Fq ?_;refine D3 ?_
 have hx2:=hx.2
 have htl:=Oc x blanks
 refine Z0 ?_;refine R.call Tryz.call140 (Y9 x blanks (by omega) (by decide) Tv _) ?_
 refine R.go (h:=Q.scutL (runN x blanks) (fun _=>Tu _ _) (fun _=>Nat.le_refl _) (ha:=fun _=>Tt x blanks)) (hr:=?_)
 rw [kq]
 refine R.go ?_;refine It ?_;refine Z35 ?_;refine G.go ?_
 refine G.go (h:=Q.sindex 0 ((Lib.trimLeftS x blanks).headD 0) (fun hB=>Mh (eo hB))) (hr:=?_)
 refine Z66 ?_;refine R.fin [0,3,15] ?_
 refine W.cond (fun ht15=>?_) (fun ht15=>?_)
 ·have he:=pk hx.1 ht15
  refine Z41 ?_;refine Z39 ?_;refine K.thR ?_;refine K.blR ?_;refine K.lpR ?_;exact K.fin (V.one V.tmp) ⟨by rw [show ((s.length:Int)-(Lib.trimLeftS x blanks).length)=(gapM s:Int) by unfold gapM;rw [he];omega],rfl⟩
 have he:=ur hx.1 ht15
 refine Z5 ?_;refine Z61 ?_;refine R.call Tryz.call143 (c143 (Lib.trimLeftS x blanks) [10] (by omega) _) ?_;refine Z89 ?_;refine It ?_;refine K.blN ?_;exact K.lpN _ ⟨he.1,by omega⟩ he.2 (StCut.of_eq rfl)

def C6 (s of:Str):Str:=s.take (runN s of)
theorem Fu (s of:Str):(C6 s of).length≤s.length:=by unfold C6;simp;omega
def Ky (s:Str):Int×Str×Int×Int:=
 if Ed (C6 s tails) then (2,C6 s tails,(C6 s tails).length,0) else if !Bg (C6 s tails) then (0,[],0,3) else (1,C6 s tails,(C6 s tails).length,0)
abbrev kt (r:Int×Str×Int×Int):AV:=.tup [A2 r.1,A6 r.2.1,A2 r.2.2.1,A2 r.2.2.2]
theorem Vk:∀c∈tails,c.toNat<128:=by decide
theorem R4:∀c∈letters,c.toNat<128:=by decide
theorem AB0 (s:Str) (hs:s.length≤1048576) (Hp:List AObj):AFun Tryz.prog 150 [A6 s] Hp (kt (Ky s)):=by
 refine ACall.body [.tmp 2,.tmp 3,.tmp 4,.tmp 5] [0] Tryz.func150 Tryz.ntmps150 (fun d=>?_)
 refine jp ?_;refine Z1 ?_;refine R.call Tryz.call140 (Y9 s tails hs (by decide) Vk _) ?_
 refine R.go (h:=Q.scutH (runN s tails) (fun _=>Nat.zero_le _) (fun _=>Tu _ _) (hb:=fun _=>Tt s tails)) (hr:=?_)
 refine R.go ?_;refine R.fin [6] ?_;refine O7 ?_
 refine R.call Tryz.call141 (zb (C6 s tails) (by have:=Fu s tails;omega) _) ?_
 refine R.go ?_;refine R.fin [6,11] ?_
 refine W.cond (fun ht11=>?_) (fun ht11=>?_)
 ·refine D3 ?_
  have hwl:=Fu s tails
  refine Z76 ?_;refine Z23 ?_;refine jc ?_;exact K.fin (V.four V.tmp V.tmp V.tmp V.tmp) ⟨by simp only [Ky,ht11,if_true,if_false,Bool.false_eq_true];try rfl,rfl⟩
 refine Z2 ?_
 refine R.call Tryz.call108 (kg (C6 s tails) (by have:=Fu s tails;omega) _) ?_
 refine Z0 ?_;refine R.fin [6,17] ?_
 refine W.cond (fun ht17=>?_) (fun ht17=>?_)
 ·refine Z41 ?_;refine jc ?_;exact yl
 refine Z16 ?_;refine D3 ?_
 have hwl:=Fu s tails
 refine Z76 ?_;refine Z23 ?_;refine jb ?_;exact yl

def Tw (s:Str):Int×Str×Int×Int:=(3,C6 s digs,(C6 s digs).length,(F9 (C6 s digs)).2)
theorem AB1 (s:Str) (hs:s.length≤1048576) (Hp:List AObj):AFun Tryz.prog 151 [A6 s] Hp (kt (Tw s)):=by
 refine ACall.body [.tmp 2,.tmp 3,.tmp 4,.tmp 5] [0] Tryz.func151 Tryz.ntmps151 (fun d=>?_)
 refine jp ?_;refine Z1 ?_;refine R.call Tryz.call140 (Y9 s digs hs (by decide) Kx _) ?_
 refine R.go (h:=Q.scutH (runN s digs) (fun _=>Nat.zero_le _) (fun _=>Tu _ _) (hb:=fun _=>Tt s digs)) (hr:=?_)
 refine R.go ?_;refine R.fin [6] ?_;refine Z2 ?_
 refine R.call Tryz.call175 (c175 (C6 s digs) (by have:=Fu s digs;omega) _) ?_
 refine Xz ?_;refine R.fin [6,8] ?_;refine Z41 ?_;refine Z76 ?_;refine jb ?_;exact K.fin (V.four V.tmp V.tmp V.tmp V.tmp) ⟨rfl,rfl⟩

/-- Behind a mark: how many bytes up to the one that t8, it too. -/
def Bs:Str→Option Nat
 | []=>none
 | [c]=>if c==39 then some 1 else none
 | c::d::t=>if c==39 then (if d==39 then (Bs t).map (·+2) else some 1) else (Bs (d::t)).map (·+1)
theorem Nf {c:UInt8} (h:¬(c==39)=true) (r:Str):Bs (c::r)=(Bs r).map (·+1):=by
 cases r with
 | nil=>simp [Bs,h]
 | cons d t=>rw [Bs,if_neg h]
theorem P9 (r:Str):Bs (39::r)=match r with
   | []=>some 1
   | d::t=>if d==39 then (Bs t).map (·+2) else some 1:=by
 cases r with
 | nil=>rfl
 | cons d t=>rw [Bs];simp
def Hm (s:Str):Int×Str×Int×Int:=
 match Bs (s.drop 1) with
 | none=>(0,[],0,7)
 | some n=>if (F9 (s.take (n+1))).2 != 0 then (0,[],0,3) else (4,(F9 (s.take (n+1))).1.s,((n+1:Nat):Int),0)
theorem Pa:∀l:Str,Lib.indexByte l 39 = -1→Bs l=none
 | [],_=>by rw [Bs]
 | c::r,h=>by
  rw [Lib.indexByte] at h
  split at h
  ·omega
  rename_i hc
  rw [Nf hc]
  split at h
  ·rename_i hi
   rw [Pa r (by simpa using hi)]
   rfl
  have:=Lib.indexByte_ge r 39;omega
theorem Vl:∀(l:Str) (k:Nat),Lib.indexByte l 39=(k:Int)→k<l.length∧Bs l=(Bs (l.drop k)).map (·+k)∧l[k]? = some 39
 | [],k,h=>by rw [Lib.indexByte] at h;omega
 | c::r,k,h=>by
  rw [Lib.indexByte] at h
  split at h
  ·rename_i hc
   have:k=0:=by omega
   subst this
   refine ⟨by simp,?_,by simpa using hc⟩
   rw [List.drop_zero]
   cases Bs (c::r)<;>simp
  rename_i hc
  split at h
  ·omega
  have hg:=Lib.indexByte_ge r 39
  rename_i hi
  have hi':Lib.indexByte r 39 ≠ -1:=by simpa using hi
  obtain ⟨m,rfl⟩:∃m,k=m+1:=⟨k-1,by omega⟩
  obtain ⟨h1,h2,h3⟩:=Vl r m (by omega)
  refine ⟨by simpa using h1,?_,by simpa using h3⟩
  rw [Nf hc,List.drop_succ_cons,h2]
  cases Bs (r.drop m)<;>simp [Nat.add_assoc]
theorem Ie {s:Str} {n:Nat} {c:UInt8} (h:s[n]? = some c):s.drop n=c::s.drop (n+1):=by
 obtain ⟨hlt,he⟩:=List.getElem?_eq_some_iff.1 h
 rw [List.drop_eq_getElem_cons hlt,he]
theorem Ls {s:Str} {n:Nat} (h:n<s.length):s[n]? = some (s.getD n 0):=by
 rw [List.getD_eq_getElem?_getD,List.getElem?_eq_getElem h];rfl
theorem ku {s:Str} {x k:Nat} (h:(decide (((x:Int)+((k:Int)+1))<s.length)==true)=true):x+(k+1)<s.length:=by
 have:=of_decide_eq_true (by simpa using h:decide (((x:Int)+((k:Int)+1))<s.length)=true)
 omega
/-- What a round of the search for the mark that t8 comes to. -/
theorem Yh {s:Str} {x k:Nat} (h1:1≤x) (hx:Bs (s.drop 1)=(Bs (s.drop x)).map (·+(x-1))) (hk:Lib.indexByte (s.drop x) 39=(k:Int)):
  x+(k+1)≤s.length ∧
   ((decide (((x:Int)+((k:Int)+1))<s.length)&&(((s.getD (x+(k+1)) 0).toNat:Int)==39))=true→x+(k+1)+1≤s.length∧Bs (s.drop 1)=(Bs (s.drop (x+(k+1)+1))).map (·+(x+(k+1)+1-1))) ∧
   ((decide (((x:Int)+((k:Int)+1))<s.length)&&(((s.getD (x+(k+1)) 0).toNat:Int)==39))=false→Bs (s.drop 1)=some (x+k)):=by
 obtain ⟨g1,g2,g3⟩:=Vl _ k hk
 rw [List.length_drop] at g1
 rw [List.getElem?_drop] at g3
 have e0:(s.drop x).drop k=39::s.drop (x+(k+1)):=by rw [List.drop_drop,Ie g3,Nat.add_assoc]
 rw [e0] at g2
 refine ⟨by omega,fun h=>?_,fun h=>?_⟩
 ·simp only [Bool.and_eq_true,decide_eq_true_eq,beq_iff_eq] at h
  have hlt:x+(k+1)<s.length:=by omega
  have hc:s.getD (x+(k+1)) 0=39:=UInt8.toNat_inj.1 (by have:(39:UInt8).toNat=39:=rfl;omega)
  have hd:=Ie (Ls hlt)
  rw [hc] at hd
  refine ⟨by omega,?_⟩
  rw [hx,g2,hd,P9]
  simp only [beq_self_eq_true,if_true]
  cases Bs (s.drop (x+(k+1)+1)) with
  | none=>rfl
  | some m=>simp;omega
 rw [hx,g2,P9]
 cases hd:s.drop (x+(k+1)) with
 | nil=>simp;omega
 | cons d t =>
  have hlt:x+(k+1)<s.length:=by
   have:=congrArg List.length hd
   simp at this;omega
  have hg:=Ie (Ls hlt)
  rw [hd] at hg
  injection hg with hg1 hg2
  have hne:(d==39)=false:=by
   rw [hg1,beq_eq_false_iff_ne]
   intro e
   rw [e] at h
   simp at h
   omega
  simp [hne];omega
theorem AB2 (s:Str) (h0:1≤s.length) (hs:s.length≤1048576) (Hp:List AObj):AFun Tryz.prog 152 [A6 s] Hp (kt (Hm s)):=by
 refine ACall.body [.tmp 2,.tmp 3,.tmp 4,.tmp 5] [0] Tryz.func152 Tryz.ntmps152 (fun d=>?_)
 refine jp ?_;refine Z2 ?_;refine R.fin [0,6] ?_
 refine AW.loopC (α:=Nat) (fun x=>⟨44,A3 0 (A6 s) (A3 6 (A2 (x:Nat)) (fun _=>.any)),Hp,[],[],none⟩) (fun x=>1≤x∧x≤s.length∧Bs (s.drop 1)=(Bs (s.drop x)).map (·+(x-1))) (fun x=>s.length-x) (1) ⟨Nat.le_refl _,h0,by cases Bs (s.drop 1)<;>rfl⟩ (StLe.refl _) rfl (fun x hx=>?_)
 refine Lo ?_
 refine R.go (h:=Q.scutL x (fun _=>hx.2.1) (fun _=>Nat.le_refl _)) (hr:=?_)
 refine R.call Tryz.call176 (AAl (s.drop x) 39 _) ?_;refine R.go ?_;refine R.fin [0,6,7] ?_;refine Z8 ?_;refine R.fin [0,6,7,15] ?_
 refine W.cond (fun ht15=>?_) (fun ht15=>?_)
 ·have hk:Lib.indexByte (s.drop x) 39 = -1:=by have:=Lib.indexByte_ge (s.drop x) 39;simp at ht15;omega
  have hcq:Bs (s.drop 1)=none:=by rw [hx.2.2,Pa _ hk];rfl
  refine Z41 ?_;refine oa ?_;refine K.blR ?_;refine K.lpR ?_;exact K.fin (V.four V.tmp V.tmp V.tmp V.tmp) ⟨by simp only [Hm,hcq],rfl⟩
 obtain ⟨k0,hk⟩:=Int.eq_ofNat_of_zero_le (show 0≤Lib.indexByte (s.drop x) 39 by simp at ht15;omega)
 rw [hk]
 refine du ?_
 have hst:=Yh hx.1 hx.2.2 hk
 refine Z89 ?_;refine R.fin [0,6] ?_;refine P1 ?_;refine Z7 ?_
 refine G.go (h:=Q.sindex (x+(k0+1)) (s.getD (x+(k0+1)) 0) (fun hB=>Ls (ku hB))) (hr:=?_)
 refine Z66 ?_;refine R.fin [0,6,29] ?_
 refine W.cond (fun ht29=>?_) (fun ht29=>?_)
 ·have hon:=hst.2.1 ht29
  refine Z17 ?_;refine R.fin [0,6] ?_;refine Z30 ?_;refine K.blE ?_;exact K.lpN ((x+(k0+1))+1) ⟨by omega,hon.1,hon.2⟩ (by omega) (StCut.of_eq rfl)
 have hcq:=hst.2.2 ht29
 refine O8 ?_
 refine R.go (h:=Q.scutH (x+(k0+1)) (fun _=>Nat.zero_le _) (fun _=>hst.1)) (hr:=?_)
 refine R.call Tryz.call175 (c175 (s.take (x+(k0+1))) (by simp;omega) _) ?_
 refine Xz ?_;refine R.fin [6,8,9] ?_;refine Z8 ?_;refine R.fin [6,8,40] ?_
 refine W.cond (fun ht40=>?_) (fun ht40=>?_)
 ·refine Z41 ?_;refine oa ?_;refine K.blR ?_;refine K.lpR ?_;exact K.fin (V.four V.tmp V.tmp V.tmp V.tmp) ⟨by simp only [Hm,hcq,show x+k0+1=x+(k0+1) by omega];rw [if_pos ht40],rfl⟩
 refine Z5 ?_;refine W.drawQ [0,1,0,0,11,31,63] 5 Ad (by kernel_rfl) ?_;refine Y0 ?_;refine D.tail ?_;refine Z0 ?_;refine jb ?_;refine K.blR ?_;refine K.lpR ?_;exact K.fin (V.four V.tmp V.tmp V.tmp V.tmp) ⟨by simp only [Hm,hcq,show x+k0+1=x+(k0+1) by omega];rw [if_neg (by rw [ht40];simp)];rfl,rfl⟩

def ap:Str:=[60,61,32,62,61,32,33,61]
def aq:Str:=[40,41,44,59,61,60,62,43,45,42,47,37,38,58]
def Pb (s:Str):Int×Str×Int×Int:=
 if (decide ((1:Int)<s.length)&&Lib.contains ap (s.take 2))&&(((s.getD 1 0).toNat:Int)==61) then (5,s.take 2,2,0)
 else if Lib.contains aq (s.take 1) then (5,s.take 1,1,0) else (0,[],0,7)
theorem ep {s:Str} {b c:Bool} (h:(((decide ((1:Int)<s.length)&&b)&&c)==true)=true):1<s.length:=by
 revert h
 cases hd:decide ((1:Int)<s.length) with
 | true=>intro _;have:=of_decide_eq_true hd;omega
 | false=>intro h;simp at h
theorem Pc {s:Str} {b:Bool} (h:((decide ((1:Int)<s.length)&&b)==true)=true):1<s.length:=ep (c:=true) (by rw [Bool.and_true];exact h)
theorem Yi {s:Str} (h:(decide ((1:Int)<s.length)==true)=true):2≤s.length:=Pc (b:=true) (by rw [Bool.and_true];exact h)
theorem AB3 (s:Str) (h0:1≤s.length) (Hp:List AObj):AFun Tryz.prog 153 [A6 s] Hp (kt (Pb s)):=by
 refine ACall.body [.tmp 2,.tmp 3,.tmp 4,.tmp 5] [0] Tryz.func153 Tryz.ntmps153 (fun d=>?_)
 refine jp ?_;refine Z57 ?_;refine G.go ?_
 refine G.go (h:=Q.scutH 2 (fun _=>Nat.zero_le _) (fun hB=>Yi hB)) (hr:=?_)
 refine G.call Tryz.call142 (fun hB=>ef ap (s.take 2) (by decide) _) ?_;refine Jc ?_
 refine G.go (h:=Q.sindex 1 (s.getD 1 0) (fun hB=>Ls (Pc hB))) (hr:=?_)
 refine Z66 ?_;refine R.fin [0,18] ?_
 refine W.cond (fun ht18=>?_) (fun ht18=>?_)
 ·have h2:2≤s.length:=by revert ht18;cases hd:decide ((1:Int)<s.length) with
   | true=>intro _;have:=of_decide_eq_true hd;omega
   | false=>intro h;simp at h
  refine W.drawQ [0,1,0,7,15,31] 3 Ad (by kernel_rfl) ?_;refine D.go ?_
  refine D.go (h:=Q.scutH 2 (fun _=>Nat.zero_le _) (fun _=>h2)) (hr:=?_)
  refine D.go ?_;refine D.tail ?_;refine Z23 ?_;refine oa ?_;exact K.fin (V.four V.tmp V.tmp V.tmp V.tmp) ⟨by simp only [Pb,ht18,if_true,if_false,Bool.false_eq_true];try rfl,rfl⟩
 refine Tn ?_
 refine R.go (h:=Q.scutH 1 (fun _=>Nat.zero_le _) (fun _=>h0)) (hr:=?_)
 refine R.call Tryz.call142 (ef aq (s.take 1) (by decide) _) ?_;refine R.fin [0,23] ?_
 refine W.cond (fun ht23=>?_) (fun ht23=>?_)
 ·refine W.drawQ [0,1,0,7,15,31] 3 Ad (by kernel_rfl) ?_;refine D.go ?_
  refine D.go (h:=Q.scutH 1 (fun _=>Nat.zero_le _) (fun _=>h0)) (hr:=?_)
  refine D.go ?_;refine D.tail ?_;refine Z23 ?_;refine oa ?_;exact ym
 refine Z5 ?_;refine Z41 ?_;refine jb ?_;exact ym

def B6 (s:Str):Int×Str×Int×Int:=
 if decide (0<Lr (s.take 1) letters) then Ky s else if decide (0<Lr (s.take 1) digs) then Tw s else if ((s.getD 0 0).toNat:Int)==39 then Hm s else Pb s
theorem AB4 (s:Str) (h0:1≤s.length) (hs:s.length≤1048576) (Hp:List AObj):AFun Tryz.prog 120 [A6 s] Hp (kt (B6 s)):=by
 refine ACall.body [.tmp 2,.tmp 3,.tmp 4,.tmp 5] [0] Tryz.func120 Tryz.ntmps120 (fun d=>?_)
 refine jp ?_;refine O7 ?_
 refine R.go (h:=Q.scutH 1 (fun _=>Nat.zero_le _) (fun _=>h0)) (hr:=?_)
 refine R.call Tryz.call140 (Y9 (s.take 1) letters (by simp;omega) (by decide) R4 _) ?_
 refine Z0 ?_;refine R.fin [0,6] ?_
 refine W.cond (fun ht6=>?_) (fun ht6=>?_)
 ·refine Z2 ?_;refine R.call Tryz.call150 (AB0 s hs _) ?_;refine Z76 ?_;refine Z76 ?_;refine jc ?_;exact K.fin (V.four V.tmp V.tmp V.tmp V.tmp) ⟨by simp only [B6,ht6,if_true,if_false,Bool.false_eq_true],rfl⟩
 refine Z2 ?_
 refine R.go (h:=Q.scutH 1 (fun _=>Nat.zero_le _) (fun _=>h0)) (hr:=?_)
 refine R.call Tryz.call140 (Y9 (s.take 1) digs (by simp;omega) (by decide) Kx _) ?_
 refine Z0 ?_;refine R.fin [0,17] ?_
 refine W.cond (fun ht17=>?_) (fun ht17=>?_)
 ·refine Z2 ?_;refine R.call Tryz.call151 (AB1 s hs _) ?_;refine Z76 ?_;refine Z76 ?_;refine jc ?_;exact K.fin (V.four V.tmp V.tmp V.tmp V.tmp) ⟨by simp only [B6,ht6,ht17,if_true,if_false,Bool.false_eq_true],rfl⟩
 refine Z2 ?_
 refine R.go (h:=Q.sindex 0 (s.getD 0 0) (fun _=>Ls h0)) (hr:=?_)
 refine Z0 ?_;refine R.fin [0,28] ?_
 refine W.cond (fun ht28=>?_) (fun ht28=>?_)
 ·refine Z2 ?_;refine R.call Tryz.call152 (AB2 s h0 hs _) ?_;refine Z76 ?_;refine Z76 ?_;refine jc ?_;exact yn
 refine Z16 ?_;refine Z2 ?_;refine R.call Tryz.call153 (AB3 s h0 _) ?_;refine Z76 ?_;refine Z76 ?_;refine jb ?_;exact yn

structure Tok where
 kind:Int
 text:Str
 at_:Nat
 deriving DecidableEq
abbrev H5 (t:Tok):AV:=.agg [.v (.int .i64 t.kind),.v (sv t.text),.v (.int .i64 (t.at_:Int))]
abbrev ar (l:List Tok):AV:=.slice false 3 (l.map H5)
theorem au {c:UInt8} {of:Str} (h:decide (0<Lr ([c]:Str) of)=true):of.contains c=true:=by
 have:=of_decide_eq_true h
 unfold Lr Lib.trimLeftS at this
 rw [List.dropWhile_cons] at this
 cases hc:of.contains c with
 | true=>rfl
 | false=>rw [hc] at this;simp at this
theorem Pd {c:UInt8} {r of:Str} (h:of.contains c=true):1≤(C6 (c::r) of).length:=by
 unfold C6
 rw [kr,List.takeWhile_cons,h]
 simp
theorem R5:∀c:UInt8,letters.contains c=true→tails.contains c=true:=by
 have h:((List.range 256).all fun n => !letters.contains (UInt8.ofNat n) || tails.contains (UInt8.ofNat n))=true:=by kernel_rfl
 intro c hc
 have:=List.all_eq_true.1 h c.toNat (List.mem_range.2 c.toNat_lt)
 rw [show UInt8.ofNat c.toNat=c by simp,hc] at this
 simpa using this
theorem Pe:∀(l:Str) (n:Nat),Bs l=some n→1≤n∧n≤l.length
 | [],n,h=>by cases h
 | [c],n,h=>by
  rw [Bs] at h
  split at h
  ·injection h with h;subst h;simp
  cases h
 | c::d::t,n,h=>by
  rw [Bs] at h
  split at h
  ·split at h
   ·rw [Option.map_eq_some_iff] at h
    obtain ⟨m,hm,rfl⟩:=h
    have:=Pe t m hm
    simp only [List.length_cons];omega
   injection h with h;subst h;simp
  rw [Option.map_eq_some_iff] at h
  obtain ⟨m,hm,rfl⟩:=h
  have:=Pe (d::t) m hm
  simp only [List.length_cons] at this ⊢;omega
theorem av {s:Str} (h0:1≤s.length) (h:(B6 s).2.2.2=0):∃n:Nat,(B6 s).2.2.1=(n:Int)∧1≤n∧n≤s.length:=by
 cases s with
 | nil=>simp at h0
 | cons c r =>
  unfold B6 at h ⊢
  split at h
  ·rename_i h1
   rw [if_pos h1]
   have hc:=R5 c (au h1)
   have hw:=Pd (r:=r) hc
   have hl:=Fu (c::r) tails
   unfold Ky at h ⊢
   split at h
   ·rename_i h2;rw [if_pos h2];exact ⟨_,rfl,hw,hl⟩
   rename_i h2
   rw [if_neg h2]
   split at h
   ·exact js
   rename_i h3;rw [if_neg h3];exact ⟨_,rfl,hw,hl⟩
  rename_i h1
  rw [if_neg h1]
  split at h
  ·rename_i h2
   rw [if_pos h2]
   exact ⟨_,rfl,Pd (r:=r) (au h2),Fu _ _⟩
  rename_i h2
  rw [if_neg h2]
  split at h
  ·rename_i h3
   rw [if_pos h3]
   unfold Hm at h ⊢
   split at h
   ·exact js
   rename_i n hn
   split at h
   ·exact js
   rename_i h4
   simp only [if_neg h4]
   have:=Pe _ n hn
   simp at this
   exact ⟨n+1,rfl,by omega,by simp only [List.length_cons];omega⟩
  rename_i h3
  rw [if_neg h3]
  unfold Pb at h ⊢
  split at h
  ·rename_i h4
   rw [if_pos h4]
   refine ⟨2,rfl,by omega,?_⟩
   simp only [Bool.and_eq_true,decide_eq_true_eq] at h4
   have:=h4.1.1
   omega
  rename_i h4
  rw [if_neg h4]
  split at h
  ·rename_i h5;rw [if_pos h5];exact ⟨1,rfl,by omega,h0⟩
  exact js
/-- The words from a place on, up to one that is wrong. -/
def Fv:Nat→Nat→Str→List (Tok×Int)
 | 0,_,_=>[]
 | f+1,k,s=>if s==[] then [] else
  (⟨(B6 s).1,(B6 s).2.1,k⟩,(B6 s).2.2.2)::(if (B6 s).2.2.2==0 then Fv f (k+(B6 s).2.2.1.toNat+gapM (s.drop (B6 s).2.2.1.toNat)) ((s.drop (B6 s).2.2.1.toNat).drop (gapM (s.drop (B6 s).2.2.1.toNat))) else [])
def B3 (s:Str):List (Tok×Int):=Fv (s.length+1) (gapM s) (s.drop (gapM s))
theorem Yj (s:Str):gapM s≤s.length:=Nat.sub_le _ _
end Go.SX.Nb
namespace Go.SX
variable [GI:GlobInv]
open Classical
@[simp] theorem AB5 {n o k m c:Nat}:Low n (.sl o k m c)↔o<n:=⟨fun h=>by cases h;assumption,fun h=>.sl o k m c h⟩
/-- The cells of elements, one behind the other. -/
abbrev Hy (xs:List AV):List AV:=xs.flatMap AV.cells
theorem Kz (x:AV) (r:List AV):Hy (x::r)=x.cells++Hy r:=by simp [Hy]
theorem Ml {k:Nat}:∀{xs:List AV},(∀x∈xs,x.cells.length=k)→(Hy xs).length=xs.length*k
 | [],_=>by simp
 | x::r,h=>by
  rw [Kz,List.length_append,h x List.mem_cons_self,Ml (fun y hy=>h y (List.mem_cons_of_mem _ hy)),List.length_cons,Nat.add_mul]
  omega
theorem Mm {k:Nat}:∀{xs:List AV},(∀x∈xs,x.cells.length=k)→∀{i j:Nat} {x y:AV},xs[i]? = some x→x.cells[j]? = some y→(Hy xs)[i*k+j]? = some y
 | [],_,i,j,x,y,h,_=>by simp at h
 | a::r,hk,0,j,x,y,h,h2=>by
  simp at h
  subst h
  rw [Kz,Nat.zero_mul,Nat.zero_add,List.getElem?_append_left (List.getElem?_eq_some_iff.1 h2).1]
  exact h2
 | a::r,hk,i+1,j,x,y,h,h2=>by
  rw [List.getElem?_cons_succ] at h
  have ha:=hk a List.mem_cons_self
  have hh:=Mm (fun y hy=>hk y (List.mem_cons_of_mem _ hy)) h h2
  rw [Kz,List.getElem?_append_right (by rw [ha,Nat.add_mul];omega),ha]
  rw [show (i+1)*k+j-k=i*k+j by rw [Nat.add_mul];omega]
  exact hh
section
variable {P:Program} {d:Nat} {st:St} {dst:Option Tmp} {ty:TypeId} {pos:String} {aft:Array Edge} {gd:Option (Nat×Bool)}
/-- The address of an element. -/
theorem OpV.indexAddrSl {t e:TypeId} {x i:Operand} {o k n c m:Nat} {q:IntKind} (hu:P.underlying t=some (.slice e)) (hsz:∀w,(sizeOf e).run P w=.ok k w) (hm:m<n)
  (hx:st.ev x=.sl o k n c) (hi:st.ev i=.v (.int q (m:Int))):OpV P d ⟨dst,.indexAddr t x i,ty,pos,aft,gd⟩ st (.ptr o (m*k)):=
 OpV.pure (by intro c h;cases h) fun G a w h=>by
  have hr:=hx ▸ h.eval x
  have hi':=Br h hi
  generalize hv:a.eval x=u at hr
  cases hr with
  | sl l o k n c ho =>
   have hlt':(m:Int)<n:=by omega
   refine ⟨.pointer (some ((⟨G.blk o,0,none⟩:Addr).add (m*k))),by simp [execOp,Instr.indexAt,asIntOf,hi',hv,run_underlying hu,hm,hlt',hsz],?_⟩
   rw [Ba rfl,Nat.zero_add]
   exact .ptr _ o _ ho
/-- An empty slice, over an object of its own. -/
theorem AOp.buildObj0 {t e:TypeId} {k s n:Nat} (hu:P.underlying t=some (.slice e)) (hsz:∀w,(sizeOf e).run P w=.ok k w) (hn:st.own.length=n) (hs:s<st.sz):
  AOp P d ⟨some s,.buildSlice t 0 #[],ty,pos,aft,gd⟩ st (·=({ st with own:=st.own++[.cells e []] }:St).set s (.sl (st.up.length+n) k 0 0)):=by
 intro G a w h Q'
 obtain ⟨G',h1,T,hb,hlt⟩:=K2 h e [] #[] rfl (fun j y u h1 _=>by simp at h1)
 have hlen:(st.up++st.own).length=st.up.length+n:=by rw [List.length_append,hn]
 rw [hlen] at hb hlt
 have hrun:(execOp a.eval (⟨some s,.buildSlice t 0 #[],ty,pos,aft,gd⟩:Oper)).run P w=.ok (.value (.slice (some ⟨w.heap.size,0,none⟩) 0 0)) (w.alloc (.cells #[] e)):=by
  have hfl:∀f:Nat→Option (Nat×Nat),Instr.fill f ((Array.range 0).map fun _=>(default:Value)) []=some #[]:=fun f=>by simp [Instr.fill]
  simp [execOp,Instr.buildSlice,run_underlying hu,hsz,newRow,hfl]
 refine Bm (by intro c h;cases h) hrun ⟨G',_,h1.put (s:=s) (y:=.sl (st.up.length+n) k 0 0) hs ?_,T.keep d,rfl,rfl,rfl,rfl⟩
 rw [←hb]
 exact .sl _ _ _ _ _ hlt
/-- What is appended to an empty slice lies in a new object of ours; of its spare cells nothing is known. -/
theorem AOp.appendObj {t e:TypeId} {i:TypeInfo} {z:Value} {k by' s o n:Nat} {xr x:Operand} {o2:Bool} {ys:List AV}
  (hu:P.underlying t=some (.slice e)) (hi:P.info? e=some i) (hz:i.zero=some z) (hsz:i.size=k) (hby:i.bytes=by') (hzk:z.cells.size=k) (hk:0<k)
  (hb:st.ev xr=.sl o k 0 0) (hx:F6 (st.ev x) o2 k ys) (hne:ys≠[]) (hn:st.own.length=n) (hs:s<st.sz) (hl:ys.length*by'≤140737488355328) (hl2:ys.length≤4611686018427387904):
  AOp P d ⟨some s,.call ⟨.builtin .append,#[xr,x],#[t,t]⟩,ty,pos,aft,gd⟩ st (fun st'=>∃c,ys.length≤c∧st'=({ st with own:=st.own++[.cells e (Hy ys++List.replicate ((c-ys.length)*k) .any)] }:St).set s (.sl (st.up.length+n) k ys.length c)):=by
 subst hsz
 subst hby
 intro G a w h Q'
 have hrb:=hb ▸ h.eval xr
 have hrx:=h.eval x
 have hm:ys.length≠0:=fun e=>hne (List.eq_nil_of_length_eq_zero e)
 generalize hvb:a.eval xr=vb at hrb
 cases hrb with
 | sl l o k n' c ho =>
  rcases Fo hx hrx with ⟨_,e0⟩|⟨ad2,c2,f2,hvx,hc2,F2,_⟩
  ·exact absurd e0 hne
  have hge:=F7 w (0+ys.length) 0 e
  have hv:=run_append_grow (P:=P) w t ty e i z hu hi hz ⟨G.blk o,0,none⟩ 0 0 [] (by simp) (by simp) ad2 ys.length c2 (B4 i.size ys.length f2) (Am _ _ _) (F2.vals hk) (by omega) (by omega) (growslice_fits (by omega) (by rw [Nat.zero_add];exact hl))
  rw [Nat.zero_add] at hv hge
  let c':=grownCap w ys.length 0 e
  have hfl:(Hy ys).length=ys.length*i.size:=Ml F2.k
  have hd':StRel d G st a w.drew:=h.drew (w.drawn+1)
  obtain ⟨G',h1,T,hbk,hlt⟩:=K2 hd' e (Hy ys++List.replicate ((c'-ys.length)*i.size) .any) (([]:List Value).toArray++(B4 i.size ys.length f2).toArray++Builtin.zeroCells z.cells (c'-ys.length)) (by
    simp only [Array.size_append,List.size_toArray,Am,Value.oneSize _ hzk,List.length_append,List.length_replicate,hfl,List.length_nil]
    omega) (fun j y u hy hu'=>by
    by_cases hj:j<ys.length*i.size
    ·rw [List.getElem?_append_left (by rw [hfl];exact hj)] at hy
     have hq:j / i.size<ys.length:=by rw [Nat.div_lt_iff_lt_mul hk];exact hj
     have hjm:j % i.size<i.size:=Nat.mod_lt _ hk
     have hx0:ys[j / i.size]? = some (ys[j / i.size]):=List.getElem?_eq_getElem hq
     have hcl:=F2.k _ (List.getElem_mem hq)
     have hy0:(ys[j / i.size]).cells[j % i.size]? = some ((ys[j / i.size]).cells[j % i.size]'(by omega)):=List.getElem?_eq_getElem _
     have e1:j / i.size*i.size+j % i.size=j:=by have:=Nat.div_add_mod j i.size;rw [Nat.mul_comm] at this;exact this
     have hfg:=Mm F2.k hx0 hy0
     rw [e1,hy] at hfg
     injection hfg with hfg
     have hval:(B4 i.size ys.length f2)[j]? = some (f2 (j / i.size) (j % i.size)):=Gp hj
     rw [Array.getElem?_append_left (by simp only [Array.size_append,List.size_toArray,Am,List.length_nil];omega)] at hu'
     have e2:u=f2 (j / i.size) (j % i.size):=by
      have:(([]:List Value).toArray++(B4 i.size ys.length f2).toArray)[j]? = (B4 i.size ys.length f2)[j]? := by simp
      rw [this,hval] at hu'
      injection hu' with hu'
      exact hu'.symm
     rw [e2,hfg]
     exact (Hv G w (w.drawn+1)).rep (F2.rep _ _ _ _ hx0 hy0)
    rw [List.getElem?_append_right (by rw [hfl];omega)] at hy
    rw [List.getElem?_replicate] at hy
    split at hy
    ·injection hy with hy;subst hy;exact .any _ _
    cases hy)
  have hlen:(st.up++st.own).length=st.up.length+n:=by rw [List.length_append,hn]
  rw [hlen] at hbk hlt
  have hrun:(execOp a.eval (⟨some s,.call ⟨.builtin .append,#[xr,x],#[t,t]⟩,ty,pos,aft,gd⟩:Oper)).run P w=.ok (.value (.slice (some ⟨w.heap.size,0,none⟩) ys.length c')) (w.drew.alloc (.cells (([]:List Value).toArray++(B4 i.size ys.length f2).toArray++Builtin.zeroCells z.cells (c'-ys.length)) e)):=by
   simp only [execOp,resolve,invoke,builtin,Sem.run_bind,Sem.run_pure,Result.andThen_ok,List.map_toArray,List.map_cons,List.map_nil,hvb,hvx,hv]
   rfl
  have K0:=(Hv G w (w.drawn+1)).keep d
  refine Bm (by intro c h;cases h) hrun ⟨G',_,h1.put (s:=s) (y:=.sl (st.up.length+n) i.size ys.length c') hs ?_,K0.trans (T.keep d),rfl,rfl,rfl,c',hge,rfl⟩
  have hsz':w.drew.heap.size=w.heap.size:=rfl
  rw [←hsz',←hbk]
  exact .sl _ _ _ _ _ hlt

/-- The elements are written no more: the object goes, and the slice is one of known elements. -/
theorem StRel.freeze {G:Gh} {a:Act} {w:World} (h:StRel d G st a w) {r i k c:Nat} {t:TypeId} {cs xs:List AV} (hr:st.fr r=.sl (st.up.length+i) k xs.length c) (ho:st.own[i]? = some (.cells t cs)) (hnc:xs.length≤c)
  (hcs:cs.take (xs.length*k)=Hy xs) (hk:∀x∈xs,x.cells.length=k) (h1:∀x∈xs,∀y∈x.cells,y.one=true) (hst:∀x∈xs,∀y∈x.cells,y.strip=y):
  ∃G',StRel d G' { st with fr:=A3 r (.slice false k xs) st.fr,own:=st.own.set i .gone } a w∧Keep d G w G' w:=by
 let G':Gh:={ G with tag:=fun b q=>if G.tag b q=.obj (st.up.length+i) then .fix else G.tag b q }
 have hto:(st.up++st.own)[st.up.length+i]? = some (.cells t cs):=by rw [C9];exact ho
 have hol:st.up.length+i<(st.up++st.own).length:=(List.getElem?_eq_some_iff.1 hto).1
 have htag:∀b q,G.tag b q≠.obj (st.up.length+i)→G'.tag b q=G.tag b q:=fun b q hb=>by simp only [G'];rw [if_neg hb]
 have htagO:∀b q,G.tag b q=.obj (st.up.length+i)→G'.tag b q=.fix:=fun b q hb=>by simp only [G'];rw [if_pos hb]
 have hfix:∀b q,G.tag b q=.fix→G'.tag b q=.fix:=fun b q hb=>by rw [htag b q (by rw [hb];simp)];exact hb
 have htail:∀b q L,G.tag b q=.tail L→G'.tag b q=.tail L:=fun b q L hb=>by rw [htag b q (by rw [hb];simp)];exact hb
 have hrep:∀{l:Option Loc} {y:AV} {u:Value},Rep G w l y u→Rep G' w l y u:=fun hy =>
  hy.mono (G':=G') (fun b q e=>⟨hfix b q e,rfl⟩) (Nat.le_refl _) (fun _ _=>rfl) (fun L _ b q e=>htail b q L e)
 have hst':Still G w G' w:=fun b hb=>⟨rfl,hb.1,fun q=>by
  rcases hb.2.1 q with e|e
  ·exact .inl (hfix b q e)
  exact .inr (by rw [htag b q (by rw [e];simp)];exact e),hb.2.2⟩
 obtain ⟨vs,q1,q2,q3,q4⟩:=h.heap.obj _ _ hto
 refine ⟨G',⟨h.size,fun s=>?_,⟨fun j x hx=>?_,?_,h.heap.inj⟩,h.defs,fun q hq=>?_,h.defsNodup,h.defsGe,⟨fun b q hb=>h.tags.ex b q (fun e=>?_),fun b q j hb=>?_,fun b q L hb=>?_,h.tags.globKeep hst'⟩,h.rnd,h.low,h.top⟩,
  ⟨fun b q e=>⟨hfix b q e,rfl⟩,fun b q e s _ ht=>htail b q _ ht,Nat.le_refl _,fun _ _=>rfl,rfl,rfl,rfl,Nat.le_refl _,hst'⟩⟩
 ·show Rep G' w _ (A3 r (.slice false k xs) st.fr s) _
  unfold A3
  by_cases hs:s=r
  ·subst hs
   rw [if_pos rfl]
   have hsl:=h.slots s
   rw [hr] at hsl
   generalize a.tmps.getD s undef=v at hsl
   cases hsl with
   | sl l o k n c ho' =>
    refine .slice _ false k xs ⟨G.blk (st.up.length+i),0,none⟩ _ c (fun q j=>vs.getD (q*k+j) undef) rfl rfl hnc hk h1 (fun q x j y hx hy=>?_) (fun q x j y hx hy=>?_) (fun e=>by cases e)
    all_goals
     have hfg:=Mm hk hx hy
     have hlt:q*k+j<xs.length*k:=by
      have:=(List.getElem?_eq_some_iff.1 hfg).1
      rw [Ml hk] at this;exact this
     rw [←hcs,List.getElem?_take_of_lt hlt] at hfg
     have hcl:=(List.getElem?_eq_some_iff.1 hfg).1
    ·refine ⟨htagO _ _ (by simpa using q4 _ hcl),?_⟩
     simp only [Nat.zero_add]
     simp [World.cell?,q1,show q*k+j<vs.size by omega]
    have hu:=q3 _ y (vs[q*k+j]'(by omega)) hfg (Array.getElem?_eq_getElem (by omega))
    have e1:vs.getD (q*k+j) undef=vs[q*k+j]'(by omega):=by simp [show q*k+j<vs.size by omega]
    rw [e1]
    have:=hrep (hu.strip (l':=none))
    rw [hst x (List.mem_of_getElem? hx) y (List.mem_of_getElem? hy)] at this
    exact this
  rw [if_neg hs]
  exact hrep (h.slots s)
 ·have hx':(st.up++st.own.set i .gone)[j]? = some x:=hx
  rw [←At,List.getElem?_set] at hx'
  by_cases hj:st.up.length+i=j
  ·rw [if_pos hj,if_pos hol] at hx'
   injection hx' with hx'
   subst hx'
   subst hj
   exact ⟨vs,t,(0,0),q1,fun q hq=>htagO _ _ (q4 q (by omega))⟩
  rw [if_neg hj] at hx'
  exact (h.heap.obj j x hx').free (fun e=>hj e.symm) htag rfl rfl
 ·show G.n=(st.up++st.own.set i .gone).length
  have:=h.heap.n
  simpa using this
 ·show (st.up++st.own.set i .gone)[q]? = _
  have h2:=h.defsAt q hq
  rw [←At,List.getElem?_set]
  by_cases hj:st.up.length+i=q
  ·subst hj;rw [hto] at h2;cases h2
  rw [if_neg hj];exact h2
 ·simp only [G'] at hb
  split at hb
  ·rename_i e';rw [e] at e';cases e'
  exact hb e
 ·simp only [G'] at hb
  split at hb
  ·cases hb
  exact h.tags.obj b q j hb
 simp only [G'] at hb
 split at hb
 ·cases hb
 exact h.tags.tail b q L hb
end
section
variable {P:Program} {d:Nat} {ops:Array Oper}
theorem ARun.turnSt {l:List Oper} {st st':St} {Q:St→Prop} (h:∀(G:Gh) (a:Act) (w:World),StRel d G st a w→∃G',StRel d G' st' a w∧Keep d G w G' w) (e1:st'.up.length=st.up.length) (e2:st'.rnd=st.rnd) (e3:st'.sz=st.sz) (hr:ARun P d ops l st' Q):ARun P d ops l st Q:=by
 intro G a w hrel idx hidx
 obtain ⟨G',h1,k⟩:=h G a w hrel
 have:=hr G' a w h1 idx hidx
 rw [De hrel k e2] at this
 exact By (fun e a' w' hp=>⟨hp.1,hp.2.next k e1 e2 e3⟩) _ _ _ this
variable {sz:Nat} {fr:Nat→AV} {up own own':List AObj} {dfs:List Nat} {rnd:Option Nat} {Q:St→Prop} {rest:List Oper} {s:Nat} {ty:TypeId} {pos:String} {aft:Array Edge}
theorem R.indexAddrSl {t e:TypeId} {x i:Operand} {o k n c:Nat} {q:IntKind} {z:Int} (m:Nat) (ht:P.underlying t=some (.slice e)) (hsz:∀w,(Go.sizeOf e).run P w=.ok k w) (hm:m<n) (hr:ARun P d ops rest ⟨sz,A3 s (.ptr o (m*k)) fr,up,own,dfs,rnd⟩ Q)
  (hx:Ai fr x=.sl o k n c:=by exact sL0) (hi:Ai fr i=.v (.int q z):=by exact sL0) (hz:z=(m:Int):=by first|rfl|omega) (hs:Nat.blt s sz=true:=by rfl):
  ARun P d ops (⟨some s,.indexAddr t x i,ty,pos,aft,none⟩::rest) ⟨sz,fr,up,own,dfs,rnd⟩ Q:=
 ARun.vv rfl rfl hs (OpV.indexAddrSl ht hsz hm hx (by subst hz;exact hi)) hr
theorem R.buildObj0 {t e:TypeId} {k n:Nat} (ht:P.underlying t=some (.slice e)) (hsz:∀w,(Go.sizeOf e).run P w=.ok k w) (hr:ARun P d ops rest ⟨sz,A3 s (.sl (oid up.length n) k 0 0) fr,up,own',dfs,rnd⟩ Q)
  (hn:own.length=n:=by rfl) (ho:own++[.cells e []]=own':=by rfl) (hs:Nat.blt s sz=true:=by rfl):
  ARun P d ops (⟨some s,.buildSlice t 0 #[],ty,pos,aft,none⟩::rest) ⟨sz,fr,up,own,dfs,rnd⟩ Q:=by
 subst ho
 exact ARun.aop rfl (AOp.buildObj0 (st:=⟨sz,fr,up,own,dfs,rnd⟩) ht hsz hn (by simpa using hs)) hr
theorem R.appendObj {t e:TypeId} {i:TypeInfo} {z:Value} {k o n:Nat} {xr x:Operand} {o2:Bool} {y:AV} {ys:List AV} (hu:P.underlying t=some (.slice e)) (hi:P.info? e=some i) (hne:ys≠[]) (hl:ys.length*i.bytes≤140737488355328) (hl2:ys.length≤4611686018427387904)
  (hr:∀c,ys.length≤c→ARun P d ops rest ⟨sz,A3 s (.sl (oid up.length n) k ys.length c) fr,up,own++[.cells e (Hy ys++List.replicate ((c-ys.length)*k) .any)],dfs,rnd⟩ Q)
  (hz:i.zero=some z:=by rfl) (hsz:i.size=k:=by rfl) (hzk:z.cells.size=k:=by rfl) (hk:0<k:=by decide) (hb:Ai fr xr=.sl o k 0 0:=by exact sL0)
  (hx:Ai fr x=y:=by exact sL0) (hx':F6 y o2 k ys:=by first|exact .inl rfl|exact .inr ⟨rfl,rfl⟩) (hn:own.length=n:=by rfl) (hs:Nat.blt s sz=true:=by rfl):
  ARun P d ops (⟨some s,.call ⟨.builtin .append,#[xr,x],#[t,t]⟩,ty,pos,aft,none⟩::rest) ⟨sz,fr,up,own,dfs,rnd⟩ Q:=by
 subst hx
 refine ARun.op rfl (AOp.appendObj (st:=⟨sz,fr,up,own,dfs,rnd⟩) hu hi hz hsz rfl hzk hk hb hx' hne hn (by simpa using hs) hl hl2) (fun s' hs'=>?_)
 obtain ⟨c,hc,rfl⟩:=hs'
 exact hr c hc
/-- The elements of the slice in slot r, over object i of ours, are written no more. -/
theorem R.freeze {l:List Oper} (r i:Nat) {k n c:Nat} {t:TypeId} {cs:List AV} (xs:List AV) (hnc:n≤c) (hn:n=xs.length) (hcs:cs.take (n*k)=Hy xs) (hk:∀x∈xs,x.cells.length=k) (h1:∀x∈xs,∀y∈x.cells,y.one=true) (hst:∀x∈xs,∀y∈x.cells,y.strip=y)
  (hr:ARun P d ops l ⟨sz,A3 r (.slice false k xs) fr,up,own',dfs,rnd⟩ Q) (hf:fr r=.sl (oid up.length i) k n c:=by exact sL0) (ho:own[i]? = some (.cells t cs):=by rfl) (hset:own.set i .gone=own':=by rfl):
  ARun P d ops l ⟨sz,fr,up,own,dfs,rnd⟩ Q:=by
 subst hset
 subst hn
 exact ARun.turnSt (fun G a w h=>h.freeze (st:=⟨sz,fr,up,own,dfs,rnd⟩) hf ho hnc hcs hk h1 hst) rfl rfl rfl hr
end
end Go.SX
namespace Go.SX
variable [GI:GlobInv]
open Classical
variable {P:Program} {d:Nat} {l0:List Oper} {kd:Nat} {ops:Array Oper} {rest:List Oper} {sz:Nat} {fr:Nat→AV} {up own:List AObj} {dfs:List Nat} {rnd:Option Nat} {Q:St→Prop} {s:Nat} {ty:TypeId} {pos:String} {aft:Array Edge} {E:List Oper→(Nat→AV)→Prop}
theorem R.nilTmp {l:List Oper} (s k:Nat) (o:Bool) (hr:ARun P d ops l ⟨sz,A3 s (.slice o k []) fr,up,own,dfs,rnd⟩ Q) (h:fr s=.nil:=by exact sL0):
  ARun P d ops l ⟨sz,fr,up,own,dfs,rnd⟩ Q:=
 ARun.le (st':=⟨sz,A3 s (.slice o k []) fr,up,own,dfs,rnd⟩) (StLe.frame (s:=⟨sz,fr,up,own,dfs,rnd⟩) fun i=>by
  show Le (fr i) (A3 s (.slice o k []) fr i)
  unfold A3
  by_cases hi:i=s
  ·subst hi;rw [if_pos rfl,h];exact .nil _ _
  rw [if_neg hi];exact .refl _) hr
/-! A slice without room behind its end: whoever appends to it gets a new one. -/
theorem Yk (k:Nat) (xs:List AV):(AV.full k xs).strip=.full k xs:=rfl
theorem Yl (k:Nat) (xs:List AV):(AV.full k xs).cells=[.full k xs]:=rfl
theorem kv (k:Nat) (xs:List AV):(AV.full k xs).one=true:=rfl
attribute [go_sem] Yk Yl kv
section
variable {KP:List PanicEntry→St→Prop} {up own:(Nat→Bool)→List AObj} {S:List SegY} {l:List Oper} {T F:List Nat}
/-- The p-th of those that turn the heap: a store into an object of whoever waits. -/
theorem Y.storeUp {t t':TypeId} {p x:Operand} {o off k pn:Nat} {y:AV} {ys cs cs':List AV} (hsz:∀w,(Go.sizeOf t).run P w=.ok k w)
  (hU:∀B:Nat→Bool,B pn=false→(up B)[o]? = some (.cells t' cs)∧up (upd B pn)=(up B).set o (.cells t' cs')∧own (upd B pn)=own B∧∀y∈ys,Low (up B).length y)
  (h:ChainY P d l0 sz up own dfs rnd KP E S l fr)
  (hp:Ai fr p=.ptr o off:=by exact sL0) (hx:Ai fr x=y:=by exact sL0) (hc:y.cells=ys:=by exact sL0) (hk:ys.length=k:=by rfl)
  (h1:ys.all AV.one=true:=by exact sL2) (hfit:off+k≤cs.length:=by exact sL1) (hput:B5 cs off ys=cs':=by exact sL0):
  ChainY P d l0 sz up own dfs rnd KP E (.s [] (some pn) T F::S) (⟨none,.store t p x,ty,pos,aft,none⟩::l) fr:=by
 subst hput
 subst hc
 refine ⟨_,l,[],rfl,⟨rfl,rfl,fun B f _ _ hB hf=>.of ?_⟩,h⟩
 obtain ⟨a1,a2,a3,a4⟩:=hU B (hB pn rfl)
 have e:Ai f p=.ptr o off:=by rw [agr hf (by simp [Op.operands])];exact hp
 have ex:Ai f x=y:=by rw [agr hf (by simp [Op.operands])];exact hx
 refine AOp.eqTo (AOp.storeUp (st:=⟨sz,f,up B,own B,dfs,rnd⟩) hsz e a1 ex hk h1 hfit a4) ?_
 show _=St.mk sz f (up (upd B pn)) (own (upd B pn)) dfs rnd
 rw [a2,a3]
end
end Go.SX
