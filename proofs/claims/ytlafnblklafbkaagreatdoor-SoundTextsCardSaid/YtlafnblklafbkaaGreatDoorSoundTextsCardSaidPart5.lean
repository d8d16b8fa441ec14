/- Texts on the way to this: SoundTexts answers true for whatever it is handed: of any columns and any source that is a migration: printed, and parsed again, it is sound, or is not, at the same move, for the same reason (up to 50 columns, 3000 bytes). (part 5) -/
import Derived.Below
import Derived.Test.YtlafnblklafbkaaGreatDoorProg
import Derived.KernelRfl
import Derived.Shelf.Strconv.Itoa4
import Derived.Shelf.Strings.SplitShaped
import Derived.Shelf.Strings.SlTrimAscii
import Derived.Shelf.Strings.OnBuilder
import Derived.Shelf.Strings.Replace
import Derived.Shelf.Small.Strs
import Derived.Shelf.Strings.Prefix
import Derived.Shelf.Strconv.ErrVarParseInt
import Derived.Shelf.Bits.Mul64
import Derived.Shelf.Strings.Builder1
import Derived.Shelf.Strings.Cut
import Derived.Lib.SplitLaws
import Derived.LaidEql
import Derived.Stop.Asserts
import Derived.RowKitTokens
import Derived.WalkKit
import Derived.Lib.AtoiErrMem
import Derived.Lib.Strings
import Derived.BigCall
import Derived.Lib.ParseIntB
import Derived.Test.YtlafnblklafbkaaGreatDoorSoundTextsCardSaidPart4
set_option linter.all false
namespace Go.SX
variable [GI:GlobInv]
open Classical Go.RowKit
section
variable {P:Program} {g:FuncId} {Hp:List AObj}

/-- What is known of package-level variables, of a world alone. -/
def Gp (w:World):Prop:=∀x∈GI.blocks,∃o,w.heap[x.1]? = some o∧x.2 o

theorem Ul {G:Gh} {w:World} {xs:List Value} {vs:Array Value} (hn:vs.size=(xs.map AV.v).length) (h:∀(i:Nat) (y:AV) (u:Value),(xs.map AV.v)[i]? = some y→vs[i]? = some u→∃l,Rep G w l y u):vs=xs.toArray:=by
 apply Array.ext
 ·simpa using hn
 intro i h1 h2
 have hi:i<xs.length:=by simpa using h2
 obtain ⟨l,hr⟩:=h i (.v xs[i]) vs[i] (by simp [hi]) (Array.getElem?_eq_getElem h1)
 have:=I4 hr
 simpa using this

theorem Ec {G:Gh} {w w':World} (hT:TagOK G w) (hb:Below w.heap.size w w') {b o:Nat} (h:G.tag b o≠.free):w'.cell? ⟨b,o,none⟩=w.cell? ⟨b,o,none⟩∧w'.frozen? ⟨b,o,none⟩=w.frozen? ⟨b,o,none⟩:=by
 obtain ⟨u,hu⟩:=hT.ex b o h
 have hlt:b<w.heap.size:=World.block_lt_of_cell? _ _ hu
 have:=hb.block b hlt
 exact ⟨D0 this,C2 this⟩

theorem L4 {G:Gh} {w w':World} (hT:TagOK G w) (hb:Below w.heap.size w w'):Turn G w G w':=
 ⟨fun b o h=>⟨h,(Ec hT hb (by rw [h];simp)).1⟩,fun _ _ _ h=>h,fun _ _ _ h=>h,Nat.le_refl _,fun _ _=>rfl,hb.os,hb.tape,hb.output,hb.size,Still.tags (fun b hv=>hb.block b hv.1) hb.size (fun _ _ _=>.inl rfl) (fun _ hi=>.inl ⟨hi,rfl⟩)⟩

theorem Pk {G:Gh} {H:List AObj} {w w':World} (hH:HeapRel G H w) (hT:TagOK G w) (hb:Below w.heap.size w w'):HeapRel G H w'∧TagOK G w':=by
 have T:=L4 hT hb
 refine ⟨⟨fun i x hx=>?_,hH.n,hH.inj⟩,⟨fun b o h=>?_,fun b o i h=>?_,fun b o L h=>?_,hT.globKeep T.old⟩⟩
 ·have hi:i<G.n:=by rw [hH.n];exact (List.getElem?_eq_some_iff.1 hx).1
  exact T.objRel hi (hb.block _ (Jf hH i hi)) (hH.obj i x hx) (fun b h=>hb.block b h.lt)
 ·rw [(Ec hT hb h).1];exact hT.ex b o h
 ·rw [(Ec hT hb (by rw [h];simp)).2];exact hT.obj b o i h
 rw [(Ec hT hb (by rw [h];simp)).2];exact hT.tail b o L h

/-- A function of plain values that hands back a plain value. -/
theorem AFun.lib {xs:List Value} {r:AV} {v:Value} (hr:∀G w,Rep G w none r v) (h:∀w,Gp w→Calls P g xs.toArray w (fun e w'=>e=.returned v∧Below w.heap.size w w')):AFun P g (xs.map .v) Hp r:=by
 intro d G w vs hn hv hH hT hTop
 have hvs:=Ul hn (fun i y u a b=>⟨_,hv i y u a b⟩)
 subst hvs
 refine (callsIn_wide.2 (h w (fun x hx=>let ⟨_,u,a,b⟩:=hT.glob x hx;⟨u,a,b⟩))).mono ?_
 rintro e w' ⟨rfl,hb⟩
 obtain ⟨h1,h2⟩:=Pk hH hT hb
 exact ⟨v,G,r,Hp,rfl,(hr G w').lift,h1,h2,(L4 hT hb).keep _,rfl,rfl,rfl⟩


/-- A function of plain values that hands back a new slice of plain values. -/
theorem AFun.libSlice {xs ys:List Value} {t:TypeId} (hone:∀y∈ys,y.oneCell'=true) (h:∀w,Gp w→Calls P g xs.toArray w (fun e w'=>e=.returned (.slice (some ⟨w.heap.size,0,none⟩) ys.length ys.length)∧w'=w.alloc (.cells ys.toArray t))):
  AFun P g (xs.map .v) Hp (.slice false 1 (ys.map .v)):=by
 intro d G w vs hn hv hH hT hTop
 have hvs:=Ul hn (fun i y u a b=>⟨_,hv i y u a b⟩)
 subst hvs
 refine (callsIn_wide.2 (h w (fun x hx=>let ⟨_,u,a,b⟩:=hT.glob x hx;⟨u,a,b⟩))).mono ?_
 rintro e w' ⟨rfl,rfl⟩
 have hst:StRel (d+1) G ⟨0,fun _=>.any,Hp,[],[],none⟩ { tmps:=#[],defers:=[] } w:=
  ⟨rfl,fun s=>.any _ _,by simpa using hH,(by rw [Cq hTop];rfl),(fun o ho=>by simp at ho),List.nodup_nil,(fun o ho=>by simp at ho),hT,(fun l hl=>by cases hl),Pd hH,Nat.le_succ_of_le hTop⟩
 obtain ⟨G',g1,T,g2⟩:=Mu hst t ys.toArray
 refine ⟨_,G',_,Hp,rfl,?_,by simpa using g1.heap,g1.tags,T.keep _,rfl,rfl,rfl⟩
 refine .slice _ false 1 _ _ _ _ (fun i j=>ys.toArray.getD i undef) rfl (by simp) (Nat.le_refl _) (fun x hx=>?_) (fun x hx y hy=>?_) (fun i x j y hx hy=>?_) (fun i x j y hx hy=>?_) (fun h=>by cases h)
 ·obtain ⟨z,_,rfl⟩:=List.mem_map.1 hx
  rfl
 ·obtain ⟨z,hz,rfl⟩:=List.mem_map.1 hx
  have:y=.v z:=by simpa [AV.cells] using hy
  subst this
  exact hone z hz
 all_goals
  rw [List.getElem?_map,Option.map_eq_some_iff] at hx
  obtain ⟨z,hz,rfl⟩:=hx
  have hlt:i<ys.length:=(List.getElem?_eq_some_iff.1 hz).1
  have hj:j=0:=by
   match j,hy with
   | 0,_=>rfl
   | j+1,hy=>simp [AV.cells] at hy
  subst hj
 ·refine ⟨by simpa using g2 i (by simpa using hlt),?_⟩
  rw [World.cell?_alloc_new]
  simp [hlt]
 have:y=.v z:=by simpa [AV.cells] using hy.symm
 subst this
 have e:ys.toArray.getD i undef=z:=by
  have:=List.getElem?_eq_getElem hlt
  rw [this] at hz
  injection hz with hz
  simp [hlt,hz]
 rw [e]
 exact .v _ _
/-- A function that hands back a plain value and, behind an interface value, a new record of plain values. -/
theorem AFun.libErr {xs cs:List Value} {n:Value} {T te:TypeId} (hone:∀y∈cs,y.oneCell'=true) (h:∀w,Gp w→Calls P g xs.toArray w (fun e w'=>∃N,e=.returned (.tuple #[n,.iface T (.pointer (some ⟨N,0,none⟩))])∧w.heap.size≤N∧w'.heap[N]? = some (.cells cs.toArray te (0,0))∧Below w.heap.size w w')):
  AFun P g (xs.map .v) Hp (.tup [.v n,.iface T (.ro (cs.map .v))]):=by
 intro d G w vs hn hv hH hT hTop
 have hvs:=Ul hn (fun i y u a b=>⟨_,hv i y u a b⟩)
 subst hvs
 refine (callsIn_wide.2 (h w (fun x hx=>let ⟨_,u,a,b⟩:=hT.glob x hx;⟨u,a,b⟩))).mono ?_
 rintro e w' ⟨N,rfl,hN,hcell,hb⟩
 have hfree:∀o,G.tag N o=.free:=fun o=>Dh hT _ o hN
 let G':Gh:={ G with tag:=fun b o=>if b=N∧o<cs.length then .fix else G.tag b o }
 have hne:∀b o,G.tag b o≠.free→¬(b=N∧o<cs.length):=fun b o hb hc=>by rw [hc.1] at hb;exact hb (hfree o)
 have hnew:∀o,o<cs.length→w'.cell? ⟨N,o,none⟩=cs[o]? := fun o ho=>by simp [World.cell?,hcell,ho]
 have T1:Turn G w G' w':=by
  refine ⟨fun b o h=>⟨?_,(Ec hT hb (by rw [h];simp)).1⟩,fun b o L h=>?_,fun b o i h=>?_,Nat.le_refl _,fun _ _=>rfl,hb.os,hb.tape,hb.output,hb.size,
   Still.tags (fun b hv=>hb.block b hv.1) hb.size (fun b o hlt=>.inl ?_) (fun _ hi=>.inl ⟨hi,rfl⟩)⟩
  ·simp only [G'];rw [if_neg (hne b o (by rw [h];simp))];exact h
  ·simp only [G'];rw [if_neg (hne b o (by rw [h];simp))];exact h
  ·simp only [G'];rw [if_neg (hne b o (by rw [h];simp))];exact h
  simp only [G'];rw [if_neg (by omega)]
 have hH':HeapRel G' Hp w':=⟨fun i x hx=>by
  have hi:i<G.n:=by rw [hH.n];exact (List.getElem?_eq_some_iff.1 hx).1
  exact T1.objRel hi (hb.block _ (Jf hH i hi)) (hH.obj i x hx) (fun b h=>hb.block b h.lt),hH.n,hH.inj⟩
 have hT':TagOK G' w':=by
  refine ⟨fun b o h=>?_,fun b o i h=>?_,fun b o L h=>?_,hT.globKeep T1.old⟩
  ·simp only [G'] at h
   split at h
   ·rename_i hc;obtain ⟨rfl,ho⟩:=hc;exact ⟨_,(hnew o ho).trans (List.getElem?_eq_getElem ho)⟩
   rw [(Ec hT hb h).1];exact hT.ex b o h
  ·simp only [G'] at h
   split at h
   ·cases h
   rw [(Ec hT hb (by rw [h];simp)).2];exact hT.obj b o i h
  simp only [G'] at h
  split at h
  ·cases h
  rw [(Ec hT hb (by rw [h];simp)).2];exact hT.tail b o L h
 refine ⟨_,G',_,Hp,rfl,?_,hH',hT',T1.keep _,rfl,rfl,rfl⟩
 refine .tup _ _ _ rfl (fun i y u hy hu=>?_)
 match i with
 | 0=>simp at hy hu;subst hy;subst hu;exact .v _ _
 | 1 =>
  simp at hy hu;subst hy;subst hu
  refine .iface _ _ _ _ (.ro _ _ ⟨N,0,none⟩ (fun j=>cs.getD j undef) rfl (fun y hy=>?_) (fun j y hy=>?_) (fun j y hy=>?_))
  ·obtain ⟨z,hz,rfl⟩:=List.mem_map.1 hy
   exact hone z hz
  all_goals
   rw [List.getElem?_map,Option.map_eq_some_iff] at hy
   obtain ⟨z,hz,rfl⟩:=hy
   have hlt:j<cs.length:=(List.getElem?_eq_some_iff.1 hz).1
   have e:cs.getD j undef=z:=by rw [List.getD_eq_getElem?_getD,hz];rfl
  ·refine ⟨by simp [G',hlt],?_⟩
   rw [Nat.zero_add,hnew j hlt,hz,e]
  rw [e];exact .v _ _
 | i+2=>simp at hy
theorem TagOK.globIn {G:Gh} {w:World} (h:TagOK G w):Gp w:=fun x hx=>(h.glob x hx).2
/-- A package-level variable of which something is known. -/
theorem R.loadGlob {d:Nat} {ops:Array Oper} {rest:List Oper} {sz:Nat} {fr:Nat→AV} {up own:List AObj} {dfs:List Nat} {rnd:Option Nat} {Q:St→Prop} {s:Nat} {ty:TypeId} {pos:String} {aft:Array Edge} {t:TypeId} {gl:Nat} {v:Value}
  (hagg:∀w,(isAgg t).run P w=.ok false w) (hv:∀w,Gp w→w.cell? ⟨gl,0,none⟩=some v) (hr:ARun P d ops rest ⟨sz,A6 s (.v v) fr,up,own,dfs,rnd⟩ Q) (hs:Nat.blt s sz=true:=by rfl):
  ARun P d ops (⟨some s,.load t (.global gl),ty,pos,aft,none⟩::rest) ⟨sz,fr,up,own,dfs,rnd⟩ Q:=by
 refine ARun.v rfl rfl (by simpa using hs) (OpV.pure (by intro c h;cases h) fun G a w h=>⟨v,?_,.v _ _⟩) hr
 have hc:=hv w h.tags.globIn
 have e:a.eval (.global gl)=.pointer (some ⟨gl,0,none⟩):=rfl
 simp [execOp,e,Instr.loadAt,Instr.sureAddr,loadVar,hagg,hc]
end
end Go.SX
namespace Go.SX.Nb
open Go Go.SX Go.Proofs
set_option maxRecDepth 4000

/-- Where strconv.ErrRange points. -/
class ErrAt where
 b:Addr
 bd:Nat:=0
 bl:List Deferred:=[]
/-- The package-level variables of which something is known: bytealg.MaxLen is a number; strconv.ErrRange is an error of errors.New's make; the table of powers of ten. -/
def Se [E:ErrAt]:List (Nat×(Obj→Prop)):=[(0,fun o=>∃m t f,o=.cells #[.int .i64 m] t f),(3,fun o=>∃t f,o=.cells #[.iface 271 (.pointer (some E.b))] t f),(5,fun o=>∃t f,o=.cells (Lib.pow10Tab.map fun z=>Value.int .u64 z).toArray t f)]
instance globInv [E:ErrAt]:GlobInv:={ blocks:=Se,bd:=E.bd,bl:=E.bl }
variable [ErrAt]

abbrev Str:=List UInt8
structure Col where
 name:Str
 kind:Int
 deriving DecidableEq
structure Val where
 kind:Int
 n:Int
 s:Str
 deriving DecidableEq
structure Row where
 key:Int
 l:List Val
 deriving DecidableEq
abbrev A8 (s:Str):AV:=.v (sv s)
abbrev A2 (n:Int):AV:=.v (.int .i64 n)
abbrev B2 (b:Bool):AV:=.v (.bool b)
abbrev Av (c:Col):AV:=.agg [.v (sv c.name),.v (.int .i64 c.kind)]
abbrev Ar (c:List Col):AV:=.slice false 2 (c.map Av)
abbrev Um (v:Val):AV:=.agg [.v (.int .i64 v.kind),.v (.int .i64 v.n),.v (sv v.s)]
abbrev Ed (l:List Str):AV:=.slice false 1 (l.map A8)
theorem C4 {α β:Type} {f:α→β} {l:List α} {i:Nat} (h:i<l.length):(l.map f)[i]? = some (f l[i]):=by simp [h]
theorem Ac:Tryz.prog.follows .mixedOrders=true:=by kernel_rfl
theorem wd:Tryz.prog.eqGuardType Tryz.prog.depth 67=false:=by kernel_rfl
theorem Un (k n k' n':Int) (s s':List UInt8) (w:World):(Op.equal 67 (.agg #[.int .i64 k,.int .i64 n,.string ⟨s.toArray⟩]) (.agg #[.int .i64 k',.int .i64 n',.string ⟨s'.toArray⟩])).run Tryz.prog w=.ok (k==k'&&n==n'&&s==s') w:=by
 have h1:Tryz.prog.stoodInHeld 67=false:=by kernel_rfl
 show (Op.equalIn (9999+1) _ _ _).run _ _=_
 rw [Op.equalIn]
 generalize hd:(9999:Nat)=d
 obtain ⟨d,rfl⟩:∃e,d=e+1:=⟨9998,hd.symm⟩
 clear hd
 simp [run_underlying Tryz.underlying67,h1,part,vf _ _ _ _ _ _ Tryz.underlying3,vf _ _ _ _ _ _ Tryz.underlying2,yk _ _ _ _ _ Tryz.underlying9,Tryz.isAgg3,Tryz.isAgg2,Tryz.isAgg9]
 by_cases e1:k=k'<;>by_cases e2:n=n'<;>by_cases e3:s=s'<;>simp [e1,e2,e3]
end Go.SX.Nb
namespace Go.Proofs
open Go Go.Shelf
def Tryz.ren144:Ren where
 f:=fun x=>match x with|144=>140|143=>100|219=>136|217=>165|225=>166|224=>167|267=>168|266=>197|314=>198|n=>n
 t:=fun x=>match x with|9=>9|4=>4|3=>3|5=>5|46=>184|146=>208|51=>207|n=>n
 g:=fun x=>match x with|1=>0|n=>n
theorem Tryz.lays144:Lays.n144 Tryz.prog Tryz.ren144 where
 mixed:=by kernel_rfl
 f143:=Tryz.func100
 f144:=Tryz.func140
 f217:=Tryz.func165
 f219:=Tryz.func136
 f224:=Tryz.func167
 f225:=Tryz.func166
 f266:=Tryz.func197
 f267:=Tryz.func168
 f314:=Tryz.func198
 t3:=Tryz.underlying3
 a3:=Tryz.isAgg3
 z3:=Tryz.sizeOf3
 v3:=Tryz.zeroValue3
 t4:=Tryz.underlying4
 a4:=Tryz.isAgg4
 z4:=Tryz.sizeOf4
 v4:=Tryz.zeroValue4
 t5:=Tryz.underlying5
 a5:=Tryz.isAgg5
 z5:=Tryz.sizeOf5
 v5:=Tryz.zeroValue5
 t9:=Tryz.underlying9
 a9:=Tryz.isAgg9
 z9:=Tryz.sizeOf9
 v9:=Tryz.zeroValue9
 t46:=Tryz.underlying184
 a46:=Tryz.isAgg184
 z46:=Tryz.sizeOf184
 v46:=Tryz.zeroValue184
 t51:=Tryz.underlying207
 a51:=Tryz.isAgg207
 z51:=Tryz.sizeOf207
 v51:=Tryz.zeroValue207
 t146:=Tryz.underlying208
 a146:=Tryz.isAgg208
 z146:=Tryz.sizeOf208
 v146:=Tryz.zeroValue208
 g1:=by kernel_rfl
def Tryz.ren145:Ren where
 f:=fun x=>match x with|145=>118|220=>156|219=>136|217=>165|225=>166|224=>167|267=>168|266=>197|314=>198|n=>n
 t:=fun x=>match x with|9=>9|4=>4|59=>149|3=>3|5=>5|46=>184|146=>208|51=>207|n=>n
 g:=fun x=>match x with|1=>0|n=>n
theorem Tryz.lays145:Lays.n145 Tryz.prog Tryz.ren145 where
 mixed:=by kernel_rfl
 f145:=Tryz.func118
 f217:=Tryz.func165
 f219:=Tryz.func136
 f220:=Tryz.func156
 f224:=Tryz.func167
 f225:=Tryz.func166
 f266:=Tryz.func197
 f267:=Tryz.func168
 f314:=Tryz.func198
 t3:=Tryz.underlying3
 a3:=Tryz.isAgg3
 z3:=Tryz.sizeOf3
 v3:=Tryz.zeroValue3
 t4:=Tryz.underlying4
 a4:=Tryz.isAgg4
 z4:=Tryz.sizeOf4
 v4:=Tryz.zeroValue4
 t5:=Tryz.underlying5
 a5:=Tryz.isAgg5
 z5:=Tryz.sizeOf5
 v5:=Tryz.zeroValue5
 t9:=Tryz.underlying9
 a9:=Tryz.isAgg9
 z9:=Tryz.sizeOf9
 v9:=Tryz.zeroValue9
 t46:=Tryz.underlying184
 a46:=Tryz.isAgg184
 z46:=Tryz.sizeOf184
 v46:=Tryz.zeroValue184
 t51:=Tryz.underlying207
 a51:=Tryz.isAgg207
 z51:=Tryz.sizeOf207
 v51:=Tryz.zeroValue207
 t59:=Tryz.underlying149
 a59:=Tryz.isAgg149
 z59:=Tryz.sizeOf149
 v59:=Tryz.zeroValue149
 t146:=Tryz.underlying208
 a146:=Tryz.isAgg208
 z146:=Tryz.sizeOf208
 v146:=Tryz.zeroValue208
 g1:=by kernel_rfl
def Tryz.ren146:Ren where
 f:=fun x=>match x with|146=>29|221=>60|268=>98|138=>99|143=>100|195=>133|197=>134|218=>135|219=>136|260=>164|217=>165|225=>166|224=>167|267=>168|266=>197|314=>198|n=>n
 t:=fun x=>match x with|9=>9|31=>29|3=>3|4=>4|0=>0|105=>155|21=>21|5=>5|46=>184|119=>203|139=>206|138=>205|146=>208|51=>207|n=>n
 g:=fun x=>match x with|1=>0|3=>1|4=>2|n=>n
theorem Tryz.lays146:Lays.n146 Tryz.prog Tryz.ren146 where
 mixed:=by kernel_rfl
 f138:=Tryz.func99
 f143:=Tryz.func100
 f146:=Tryz.func29
 f195:=Tryz.func133
 f197:=Tryz.func134
 f217:=Tryz.func165
 f218:=Tryz.func135
 f219:=Tryz.func136
 f221:=Tryz.func60
 f224:=Tryz.func167
 f225:=Tryz.func166
 f260:=Tryz.func164
 f266:=Tryz.func197
 f267:=Tryz.func168
 f268:=Tryz.func98
 f314:=Tryz.func198
 t0:=Tryz.underlying0
 a0:=Tryz.isAgg0
 z0:=Tryz.sizeOf0
 v0:=Tryz.zeroValue0
 t3:=Tryz.underlying3
 a3:=Tryz.isAgg3
 z3:=Tryz.sizeOf3
 v3:=Tryz.zeroValue3
 t4:=Tryz.underlying4
 a4:=Tryz.isAgg4
 z4:=Tryz.sizeOf4
 v4:=Tryz.zeroValue4
 t5:=Tryz.underlying5
 a5:=Tryz.isAgg5
 z5:=Tryz.sizeOf5
 v5:=Tryz.zeroValue5
 t9:=Tryz.underlying9
 a9:=Tryz.isAgg9
 z9:=Tryz.sizeOf9
 v9:=Tryz.zeroValue9
 t21:=Tryz.underlying21
 a21:=Tryz.isAgg21
 z21:=Tryz.sizeOf21
 v21:=Tryz.zeroValue21
 t31:=Tryz.underlying29
 a31:=Tryz.isAgg29
 z31:=Tryz.sizeOf29
 v31:=Tryz.zeroValue29
 t46:=Tryz.underlying184
 a46:=Tryz.isAgg184
 z46:=Tryz.sizeOf184
 v46:=Tryz.zeroValue184
 t51:=Tryz.underlying207
 a51:=Tryz.isAgg207
 z51:=Tryz.sizeOf207
 v51:=Tryz.zeroValue207
 t105:=Tryz.underlying155
 a105:=Tryz.isAgg155
 z105:=Tryz.sizeOf155
 v105:=Tryz.zeroValue155
 t119:=Tryz.underlying203
 a119:=Tryz.isAgg203
 z119:=Tryz.sizeOf203
 t138:=Tryz.underlying205
 a138:=Tryz.isAgg205
 z138:=Tryz.sizeOf205
 v138:=Tryz.zeroValue205
 t139:=Tryz.underlying206
 a139:=Tryz.isAgg206
 z139:=Tryz.sizeOf206
 v139:=Tryz.zeroValue206
 t146:=Tryz.underlying208
 a146:=Tryz.isAgg208
 z146:=Tryz.sizeOf208
 v146:=Tryz.zeroValue208
 g1:=by kernel_rfl
 g3:=by kernel_rfl
 g4:=by kernel_rfl
def Tryz.ren161:Ren where
 f:=fun x=>match x with|161=>139|231=>173|227=>174|233=>175|235=>176|228=>202|197=>134|151=>203|260=>164|152=>222|137=>158|119=>237|224=>167|225=>166|217=>165|266=>197|n=>n
 t:=fun x=>match x with|9=>9|4=>4|3=>3|5=>5|117=>190|116=>189|0=>0|124=>193|105=>155|21=>21|119=>203|46=>184|139=>206|138=>205|n=>n
 g:=fun x=>match x with|3=>1|4=>2|n=>n
theorem Tryz.lays161:Lays.n161 Tryz.prog Tryz.ren161 where
 mixed:=by kernel_rfl
 f119:=Tryz.func237
 f137:=Tryz.func158
 f151:=Tryz.func203
 f152:=Tryz.func222
 f161:=Tryz.func139
 f197:=Tryz.func134
 f217:=Tryz.func165
 f224:=Tryz.func167
 f225:=Tryz.func166
 f227:=Tryz.func174
 f228:=Tryz.func202
 f231:=Tryz.func173
 f233:=Tryz.func175
 f235:=Tryz.func176
 f260:=Tryz.func164
 f266:=Tryz.func197
 t0:=Tryz.underlying0
 a0:=Tryz.isAgg0
 z0:=Tryz.sizeOf0
 v0:=Tryz.zeroValue0
 t3:=Tryz.underlying3
 a3:=Tryz.isAgg3
 z3:=Tryz.sizeOf3
 v3:=Tryz.zeroValue3
 t4:=Tryz.underlying4
 a4:=Tryz.isAgg4
 z4:=Tryz.sizeOf4
 v4:=Tryz.zeroValue4
 t5:=Tryz.underlying5
 a5:=Tryz.isAgg5
 z5:=Tryz.sizeOf5
 v5:=Tryz.zeroValue5
 t9:=Tryz.underlying9
 a9:=Tryz.isAgg9
 z9:=Tryz.sizeOf9
 v9:=Tryz.zeroValue9
 t21:=Tryz.underlying21
 a21:=Tryz.isAgg21
 z21:=Tryz.sizeOf21
 v21:=Tryz.zeroValue21
 t46:=Tryz.underlying184
 a46:=Tryz.isAgg184
 z46:=Tryz.sizeOf184
 v46:=Tryz.zeroValue184
 t105:=Tryz.underlying155
 a105:=Tryz.isAgg155
 z105:=Tryz.sizeOf155
 v105:=Tryz.zeroValue155
 t116:=Tryz.underlying189
 a116:=Tryz.isAgg189
 z116:=Tryz.sizeOf189
 t117:=Tryz.underlying190
 a117:=Tryz.isAgg190
 z117:=Tryz.sizeOf190
 v117:=Tryz.zeroValue190
 t119:=Tryz.underlying203
 a119:=Tryz.isAgg203
 z119:=Tryz.sizeOf203
 t124:=Tryz.underlying193
 a124:=Tryz.isAgg193
 z124:=Tryz.sizeOf193
 v124:=Tryz.zeroValue193
 t138:=Tryz.underlying205
 a138:=Tryz.isAgg205
 z138:=Tryz.sizeOf205
 v138:=Tryz.zeroValue205
 t139:=Tryz.underlying206
 a139:=Tryz.isAgg206
 z139:=Tryz.sizeOf206
 v139:=Tryz.zeroValue206
 g3:=by kernel_rfl
 g4:=by kernel_rfl
def Tryz.ren99:Ren where
 f:=fun x=>match x with|99=>186|206=>208|n=>n
 t:=fun x=>match x with|9=>9|4=>4|3=>3|n=>n
 g:=fun x=>x
theorem Tryz.lays99:Lays.n99 Tryz.prog Tryz.ren99 where
 mixed:=by kernel_rfl
 f99:=Tryz.func186
 f206:=Tryz.func208
 t3:=Tryz.underlying3
 a3:=Tryz.isAgg3
 z3:=Tryz.sizeOf3
 v3:=Tryz.zeroValue3
 t4:=Tryz.underlying4
 a4:=Tryz.isAgg4
 z4:=Tryz.sizeOf4
 v4:=Tryz.zeroValue4
 t9:=Tryz.underlying9
 a9:=Tryz.isAgg9
 z9:=Tryz.sizeOf9
 v9:=Tryz.zeroValue9
def Tryz.ren100:Ren where
 f:=fun x=>match x with|100=>187|207=>209|n=>n
 t:=fun x=>match x with|9=>9|4=>4|3=>3|n=>n
 g:=fun x=>x
theorem Tryz.lays100:Lays.n100 Tryz.prog Tryz.ren100 where
 mixed:=by kernel_rfl
 f100:=Tryz.func187
 f207:=Tryz.func209
 t3:=Tryz.underlying3
 a3:=Tryz.isAgg3
 z3:=Tryz.sizeOf3
 v3:=Tryz.zeroValue3
 t4:=Tryz.underlying4
 a4:=Tryz.isAgg4
 z4:=Tryz.sizeOf4
 v4:=Tryz.zeroValue4
 t9:=Tryz.underlying9
 a9:=Tryz.isAgg9
 z9:=Tryz.sizeOf9
 v9:=Tryz.zeroValue9
def Tryz.ren101:Ren where
 f:=fun x=>match x with|101=>211|208=>226|206=>208|n=>n
 t:=fun x=>match x with|9=>9|4=>4|3=>3|n=>n
 g:=fun x=>x
theorem Tryz.lays101:Lays.n101 Tryz.prog Tryz.ren101 where
 mixed:=by kernel_rfl
 f101:=Tryz.func211
 f206:=Tryz.func208
 f208:=Tryz.func226
 t3:=Tryz.underlying3
 a3:=Tryz.isAgg3
 z3:=Tryz.sizeOf3
 v3:=Tryz.zeroValue3
 t4:=Tryz.underlying4
 a4:=Tryz.isAgg4
 z4:=Tryz.sizeOf4
 v4:=Tryz.zeroValue4
 t9:=Tryz.underlying9
 a9:=Tryz.isAgg9
 z9:=Tryz.sizeOf9
 v9:=Tryz.zeroValue9
def Tryz.ren160:Ren where
 f:=fun x=>match x with|160=>212|232=>227|231=>173|227=>174|234=>228|233=>175|236=>229|235=>176|228=>202|271=>238|151=>203|197=>134|120=>251|152=>222|260=>164|137=>158|119=>237|224=>167|225=>166|217=>165|266=>197|n=>n
 t:=fun x=>match x with|9=>9|4=>4|3=>3|5=>5|117=>190|116=>189|0=>0|124=>193|21=>21|105=>155|46=>184|119=>203|139=>206|138=>205|n=>n
 g:=fun x=>match x with|3=>1|4=>2|n=>n
theorem Tryz.lays160:Lays.n160 Tryz.prog Tryz.ren160 where
 mixed:=by kernel_rfl
 f119:=Tryz.func237
 f120:=Tryz.func251
 f137:=Tryz.func158
 f151:=Tryz.func203
 f152:=Tryz.func222
 f160:=Tryz.func212
 f197:=Tryz.func134
 f217:=Tryz.func165
 f224:=Tryz.func167
 f225:=Tryz.func166
 f227:=Tryz.func174
 f228:=Tryz.func202
 f231:=Tryz.func173
 f232:=Tryz.func227
 f233:=Tryz.func175
 f234:=Tryz.func228
 f235:=Tryz.func176
 f236:=Tryz.func229
 f260:=Tryz.func164
 f266:=Tryz.func197
 f271:=Tryz.func238
 t0:=Tryz.underlying0
 a0:=Tryz.isAgg0
 z0:=Tryz.sizeOf0
 v0:=Tryz.zeroValue0
 t3:=Tryz.underlying3
 a3:=Tryz.isAgg3
 z3:=Tryz.sizeOf3
 v3:=Tryz.zeroValue3
 t4:=Tryz.underlying4
 a4:=Tryz.isAgg4
 z4:=Tryz.sizeOf4
 v4:=Tryz.zeroValue4
 t5:=Tryz.underlying5
 a5:=Tryz.isAgg5
 z5:=Tryz.sizeOf5
 v5:=Tryz.zeroValue5
 t9:=Tryz.underlying9
 a9:=Tryz.isAgg9
 z9:=Tryz.sizeOf9
 v9:=Tryz.zeroValue9
 t21:=Tryz.underlying21
 a21:=Tryz.isAgg21
 z21:=Tryz.sizeOf21
 v21:=Tryz.zeroValue21
 t46:=Tryz.underlying184
 a46:=Tryz.isAgg184
 z46:=Tryz.sizeOf184
 v46:=Tryz.zeroValue184
 t105:=Tryz.underlying155
 a105:=Tryz.isAgg155
 z105:=Tryz.sizeOf155
 v105:=Tryz.zeroValue155
 t116:=Tryz.underlying189
 a116:=Tryz.isAgg189
 z116:=Tryz.sizeOf189
 t117:=Tryz.underlying190
 a117:=Tryz.isAgg190
 z117:=Tryz.sizeOf190
 v117:=Tryz.zeroValue190
 t119:=Tryz.underlying203
 a119:=Tryz.isAgg203
 z119:=Tryz.sizeOf203
 t124:=Tryz.underlying193
 a124:=Tryz.isAgg193
 z124:=Tryz.sizeOf193
 v124:=Tryz.zeroValue193
 t138:=Tryz.underlying205
 a138:=Tryz.isAgg205
 z138:=Tryz.sizeOf205
 v138:=Tryz.zeroValue205
 t139:=Tryz.underlying206
 a139:=Tryz.isAgg206
 z139:=Tryz.sizeOf206
 v139:=Tryz.zeroValue206
 g3:=by kernel_rfl
 g4:=by kernel_rfl
def Tryz.ren155:Ren where
 f:=fun x=>match x with|155=>201|154=>221|138=>99|165=>102|143=>100|166=>31|197=>134|169=>33|195=>133|218=>135|240=>64|241=>138|219=>136|260=>164|276=>103|277=>172|217=>165|225=>166|224=>167|267=>168|266=>197|314=>198|n=>n
 t:=fun x=>match x with|9=>9|3=>3|4=>4|72=>74|0=>0|76=>78|105=>155|21=>21|5=>5|70=>71|20=>20|37=>72|75=>77|127=>108|164=>138|46=>184|119=>203|139=>206|138=>205|146=>208|51=>207|80=>81|n=>n
 g:=fun x=>match x with|1=>0|3=>1|4=>2|n=>n
theorem Tryz.lays155:Lays.n155 Tryz.prog Tryz.ren155 where
 mixed:=by kernel_rfl
 f138:=Tryz.func99
 f143:=Tryz.func100
 f154:=Tryz.func221
 f155:=Tryz.func201
 f165:=Tryz.func102
 f166:=Tryz.func31
 f169:=Tryz.func33
 f195:=Tryz.func133
 f197:=Tryz.func134
 f217:=Tryz.func165
 f218:=Tryz.func135
 f219:=Tryz.func136
 f224:=Tryz.func167
 f225:=Tryz.func166
 f240:=Tryz.func64
 f241:=Tryz.func138
 f260:=Tryz.func164
 f266:=Tryz.func197
 f267:=Tryz.func168
 f276:=Tryz.func103
 f277:=Tryz.func172
 f314:=Tryz.func198
 t0:=Tryz.underlying0
 a0:=Tryz.isAgg0
 z0:=Tryz.sizeOf0
 v0:=Tryz.zeroValue0
 t3:=Tryz.underlying3
 a3:=Tryz.isAgg3
 z3:=Tryz.sizeOf3
 v3:=Tryz.zeroValue3
 t4:=Tryz.underlying4
 a4:=Tryz.isAgg4
 z4:=Tryz.sizeOf4
 v4:=Tryz.zeroValue4
 t5:=Tryz.underlying5
 a5:=Tryz.isAgg5
 z5:=Tryz.sizeOf5
 v5:=Tryz.zeroValue5
 t9:=Tryz.underlying9
 a9:=Tryz.isAgg9
 z9:=Tryz.sizeOf9
 v9:=Tryz.zeroValue9
 t20:=Tryz.underlying20
 a20:=Tryz.isAgg20
 z20:=Tryz.sizeOf20
 v20:=Tryz.zeroValue20
 t21:=Tryz.underlying21
 a21:=Tryz.isAgg21
 z21:=Tryz.sizeOf21
 v21:=Tryz.zeroValue21
 t37:=Tryz.underlying72
 a37:=Tryz.isAgg72
 z37:=Tryz.sizeOf72
 v37:=Tryz.zeroValue72
 t46:=Tryz.underlying184
 a46:=Tryz.isAgg184
 z46:=Tryz.sizeOf184
 v46:=Tryz.zeroValue184
 t51:=Tryz.underlying207
 a51:=Tryz.isAgg207
 z51:=Tryz.sizeOf207
 v51:=Tryz.zeroValue207
 t70:=Tryz.underlying71
 a70:=Tryz.isAgg71
 z70:=Tryz.sizeOf71
 v70:=Tryz.zeroValue71
 t72:=Tryz.underlying74
 a72:=Tryz.isAgg74
 z72:=Tryz.sizeOf74
 v72:=Tryz.zeroValue74
 t75:=Tryz.underlying77
 a75:=Tryz.isAgg77
 z75:=Tryz.sizeOf77
 v75:=Tryz.zeroValue77
 t76:=Tryz.underlying78
 a76:=Tryz.isAgg78
 z76:=Tryz.sizeOf78
 v76:=Tryz.zeroValue78
 t105:=Tryz.underlying155
 a105:=Tryz.isAgg155
 z105:=Tryz.sizeOf155
 v105:=Tryz.zeroValue155
 t119:=Tryz.underlying203
 a119:=Tryz.isAgg203
 z119:=Tryz.sizeOf203
 t127:=Tryz.underlying108
 a127:=Tryz.isAgg108
 z127:=Tryz.sizeOf108
 v127:=Tryz.zeroValue108
 t138:=Tryz.underlying205
 a138:=Tryz.isAgg205
 z138:=Tryz.sizeOf205
 v138:=Tryz.zeroValue205
 t139:=Tryz.underlying206
 a139:=Tryz.isAgg206
 z139:=Tryz.sizeOf206
 v139:=Tryz.zeroValue206
 t146:=Tryz.underlying208
 a146:=Tryz.isAgg208
 z146:=Tryz.sizeOf208
 v146:=Tryz.zeroValue208
 t164:=Tryz.underlying138
 a164:=Tryz.isAgg138
 z164:=Tryz.sizeOf138
 v164:=Tryz.zeroValue138
 g1:=by kernel_rfl
 g3:=by kernel_rfl
 g4:=by kernel_rfl
def Tryz.ren174:Ren where
 f:=fun x=>match x with|174=>213|247=>230|245=>231|287=>239|279=>240|280=>241|281=>242|282=>243|321=>252|322=>253|316=>254|171=>256|205=>255|243=>265|246=>236|283=>247|284=>248|285=>249|286=>250|129=>261|317=>260|318=>262|319=>263|320=>264|337=>267|338=>268|n=>n
 t:=fun x=>match x with|9=>9|3=>3|2=>2|75=>77|85=>218|4=>4|167=>239|5=>5|53=>126|175=>240|46=>184|168=>242|37=>72|0=>0|210=>264|21=>21|127=>108|145=>273|143=>271|171=>256|173=>259|212=>268|51=>207|20=>20|213=>269|232=>275|233=>276|80=>81|n=>n
 g:=fun x=>match x with|15=>4|16=>3|17=>5|18=>6|19=>7|n=>n
theorem Tryz.lays174:LaysC.n174 Tryz.prog Tryz.ren174 where
 mixed:=by kernel_rfl
 f129:=Tryz.func261
 f171:=Tryz.func256
 f174:=Tryz.func213
 f205:=Tryz.func255
 f243:=Tryz.func265
 f245:=Tryz.func231
 f246:=Tryz.func236
 f247:=Tryz.func230
 f279:=Tryz.func240
 f280:=Tryz.func241
 f281:=Tryz.func242
 f282:=Tryz.func243
 f283:=Tryz.func247
 f284:=Tryz.func248
 f285:=Tryz.func249
 f286:=Tryz.func250
 f287:=Tryz.func239
 f316:=Tryz.func254
 f317:=Tryz.func260
 f318:=Tryz.func262
 f319:=Tryz.func263
 f320:=Tryz.func264
 f321:=Tryz.func252
 f322:=Tryz.func253
 f337:=Tryz.func267
 f338:=Tryz.func268
 t0:=Tryz.underlying0
 a0:=Tryz.isAgg0
 z0:=Tryz.sizeOf0
 v0:=Tryz.zeroValue0
 t2:=Tryz.underlying2
 a2:=Tryz.isAgg2
 z2:=Tryz.sizeOf2
 v2:=Tryz.zeroValue2
 t3:=Tryz.underlying3
 a3:=Tryz.isAgg3
 z3:=Tryz.sizeOf3
 v3:=Tryz.zeroValue3
 t4:=Tryz.underlying4
 a4:=Tryz.isAgg4
 z4:=Tryz.sizeOf4
 v4:=Tryz.zeroValue4
 t5:=Tryz.underlying5
 a5:=Tryz.isAgg5
 z5:=Tryz.sizeOf5
 v5:=Tryz.zeroValue5
 t9:=Tryz.underlying9
 a9:=Tryz.isAgg9
 z9:=Tryz.sizeOf9
 v9:=Tryz.zeroValue9
 t20:=Tryz.underlying20
 a20:=Tryz.isAgg20
 z20:=Tryz.sizeOf20
 v20:=Tryz.zeroValue20
 t21:=Tryz.underlying21
 a21:=Tryz.isAgg21
 z21:=Tryz.sizeOf21
 v21:=Tryz.zeroValue21
 t37:=Tryz.underlying72
 a37:=Tryz.isAgg72
 z37:=Tryz.sizeOf72
 v37:=Tryz.zeroValue72
 t46:=Tryz.underlying184
 a46:=Tryz.isAgg184
 z46:=Tryz.sizeOf184
 v46:=Tryz.zeroValue184
 t51:=Tryz.underlying207
 a51:=Tryz.isAgg207
 z51:=Tryz.sizeOf207
 v51:=Tryz.zeroValue207
 t53:=Tryz.underlying126
 a53:=Tryz.isAgg126
 z53:=Tryz.sizeOf126
 v53:=Tryz.zeroValue126
 t75:=Tryz.underlying77
 a75:=Tryz.isAgg77
 z75:=Tryz.sizeOf77
 v75:=Tryz.zeroValue77
 t85:=Tryz.underlying218
 a85:=Tryz.isAgg218
 z85:=Tryz.sizeOf218
 v85:=Tryz.zeroValue218
 t127:=Tryz.underlying108
 a127:=Tryz.isAgg108
 z127:=Tryz.sizeOf108
 v127:=Tryz.zeroValue108
 t143:=Tryz.underlying271
 a143:=Tryz.isAgg271
 z143:=Tryz.sizeOf271
 v143:=Tryz.zeroValue271
 t145:=Tryz.underlying273
 a145:=Tryz.isAgg273
 z145:=Tryz.sizeOf273
 v145:=Tryz.zeroValue273
 t167:=Tryz.underlying239
 a167:=Tryz.isAgg239
 z167:=Tryz.sizeOf239
 v167:=Tryz.zeroValue239
 t168:=Tryz.underlying242
 a168:=Tryz.isAgg242
 z168:=Tryz.sizeOf242
 v168:=Tryz.zeroValue242
 t171:=Tryz.underlying256
 a171:=Tryz.isAgg256
 z171:=Tryz.sizeOf256
 v171:=Tryz.zeroValue256
 t173:=Tryz.underlying259
 a173:=Tryz.isAgg259
 z173:=Tryz.sizeOf259
 v173:=Tryz.zeroValue259
 t175:=Tryz.underlying240
 a175:=Tryz.isAgg240
 z175:=Tryz.sizeOf240
 v175:=Tryz.zeroValue240
 t210:=Tryz.underlying264
 a210:=Tryz.isAgg264
 z210:=Tryz.sizeOf264
 v210:=Tryz.zeroValue264
 t212:=Tryz.underlying268
 a212:=Tryz.isAgg268
 z212:=Tryz.sizeOf268
 v212:=Tryz.zeroValue268
 t213:=Tryz.underlying269
 a213:=Tryz.isAgg269
 z213:=Tryz.sizeOf269
 t232:=Tryz.underlying275
 a232:=Tryz.isAgg275
 z232:=Tryz.sizeOf275
 v232:=Tryz.zeroValue275
 t233:=Tryz.underlying276
 a233:=Tryz.isAgg276
 z233:=Tryz.sizeOf276
 v233:=Tryz.zeroValue276
 g15:=by kernel_rfl
 g16:=by kernel_rfl
 g17:=by kernel_rfl
 g18:=by kernel_rfl
 g19:=by kernel_rfl
 t80:=Tryz.underlying81
 a80:=Tryz.isAgg81
 z80:=Tryz.sizeOf81
 v80:=Tryz.zeroValue81
 i0:=by kernel_rfl
 i2:=by kernel_rfl
 i3:=by kernel_rfl
 i4:=by kernel_rfl
 i5:=by kernel_rfl
 i9:=by kernel_rfl
 i20:=by kernel_rfl
 i21:=by kernel_rfl
 i37:=by kernel_rfl
 i46:=by kernel_rfl
 i51:=by kernel_rfl
 i53:=by kernel_rfl
 i75:=by kernel_rfl
 i80:=by kernel_rfl
 i85:=by kernel_rfl
 i127:=by kernel_rfl
 i143:=by kernel_rfl
 i145:=by kernel_rfl
 i167:=by kernel_rfl
 i168:=by kernel_rfl
 i171:=by kernel_rfl
 i173:=by kernel_rfl
 i175:=by kernel_rfl
 i210:=by kernel_rfl
 i212:=by kernel_rfl
 i232:=by kernel_rfl
 i233:=by kernel_rfl
 m15:=by kernel_rfl
 m16:=by kernel_rfl
 m17:=by kernel_rfl
 m18:=by kernel_rfl
 m19:=by kernel_rfl
 c0:=by kernel_rfl
 c2:=by kernel_rfl
 c3:=by kernel_rfl
 c4:=by kernel_rfl
 c5:=by kernel_rfl
 c9:=by kernel_rfl
 c20:=by kernel_rfl
 c21:=by kernel_rfl
 c37:=by kernel_rfl
 c46:=by kernel_rfl
 c51:=by kernel_rfl
 c53:=by kernel_rfl
 c75:=by kernel_rfl
 c80:=by kernel_rfl
 c85:=by kernel_rfl
 c127:=by kernel_rfl
 c143:=by kernel_rfl
 c145:=by kernel_rfl
 c167:=by kernel_rfl
 c168:=by kernel_rfl
 c171:=by kernel_rfl
 c173:=by kernel_rfl
 c175:=by kernel_rfl
 c210:=by kernel_rfl
 c212:=by kernel_rfl
 c213:=by kernel_rfl
 c232:=by kernel_rfl
 c233:=by kernel_rfl
def Tryz.ren173:Ren where
 f:=fun x=>match x with|173=>220|246=>236|283=>247|284=>248|285=>249|286=>250|129=>261|317=>260|318=>262|319=>263|320=>264|337=>267|338=>268|n=>n
 t:=fun x=>match x with|2=>2|3=>3|9=>9|4=>4|171=>256|0=>0|53=>126|37=>72|5=>5|173=>259|212=>268|51=>207|20=>20|213=>269|46=>184|232=>275|233=>276|n=>n
 g:=fun x=>match x with|17=>5|18=>6|19=>7|n=>n
theorem Tryz.lays173:LaysM.n173 Tryz.prog Tryz.ren173 where
 mixed:=by kernel_rfl
 f129:=Tryz.func261
 f173:=Tryz.func220
 f246:=Tryz.func236
 f283:=Tryz.func247
 f284:=Tryz.func248
 f285:=Tryz.func249
 f286:=Tryz.func250
 f317:=Tryz.func260
 f318:=Tryz.func262
 f319:=Tryz.func263
 f320:=Tryz.func264
 f337:=Tryz.func267
 f338:=Tryz.func268
 t0:=Tryz.underlying0
 a0:=Tryz.isAgg0
 z0:=Tryz.sizeOf0
 v0:=Tryz.zeroValue0
 t2:=Tryz.underlying2
 a2:=Tryz.isAgg2
 z2:=Tryz.sizeOf2
 v2:=Tryz.zeroValue2
 t3:=Tryz.underlying3
 a3:=Tryz.isAgg3
 z3:=Tryz.sizeOf3
 v3:=Tryz.zeroValue3
 t4:=Tryz.underlying4
 a4:=Tryz.isAgg4
 z4:=Tryz.sizeOf4
 v4:=Tryz.zeroValue4
 t5:=Tryz.underlying5
 a5:=Tryz.isAgg5
 z5:=Tryz.sizeOf5
 v5:=Tryz.zeroValue5
 t9:=Tryz.underlying9
 a9:=Tryz.isAgg9
 z9:=Tryz.sizeOf9
 v9:=Tryz.zeroValue9
 t20:=Tryz.underlying20
 a20:=Tryz.isAgg20
 z20:=Tryz.sizeOf20
 v20:=Tryz.zeroValue20
 t37:=Tryz.underlying72
 a37:=Tryz.isAgg72
 z37:=Tryz.sizeOf72
 v37:=Tryz.zeroValue72
 t46:=Tryz.underlying184
 a46:=Tryz.isAgg184
 z46:=Tryz.sizeOf184
 v46:=Tryz.zeroValue184
 t51:=Tryz.underlying207
 a51:=Tryz.isAgg207
 z51:=Tryz.sizeOf207
 v51:=Tryz.zeroValue207
 t53:=Tryz.underlying126
 a53:=Tryz.isAgg126
 z53:=Tryz.sizeOf126
 v53:=Tryz.zeroValue126
 t171:=Tryz.underlying256
 a171:=Tryz.isAgg256
 z171:=Tryz.sizeOf256
 v171:=Tryz.zeroValue256
 t173:=Tryz.underlying259
 a173:=Tryz.isAgg259
 z173:=Tryz.sizeOf259
 v173:=Tryz.zeroValue259
 t212:=Tryz.underlying268
 a212:=Tryz.isAgg268
 z212:=Tryz.sizeOf268
 v212:=Tryz.zeroValue268
 t213:=Tryz.underlying269
 a213:=Tryz.isAgg269
 z213:=Tryz.sizeOf269
 t232:=Tryz.underlying275
 a232:=Tryz.isAgg275
 z232:=Tryz.sizeOf275
 v232:=Tryz.zeroValue275
 t233:=Tryz.underlying276
 a233:=Tryz.isAgg276
 z233:=Tryz.sizeOf276
 v233:=Tryz.zeroValue276
 g17:=by kernel_rfl
 g18:=by kernel_rfl
 g19:=by kernel_rfl
 i0:=by kernel_rfl
 i2:=by kernel_rfl
 i3:=by kernel_rfl
 i4:=by kernel_rfl
 i5:=by kernel_rfl
 i9:=by kernel_rfl
 i20:=by kernel_rfl
 i37:=by kernel_rfl
 i46:=by kernel_rfl
 i51:=by kernel_rfl
 i53:=by kernel_rfl
 i171:=by kernel_rfl
 i173:=by kernel_rfl
 i212:=by kernel_rfl
 i232:=by kernel_rfl
 i233:=by kernel_rfl
 m17:=by kernel_rfl
 m18:=by kernel_rfl
 m19:=by kernel_rfl
def Tryz.ren137:Ren where
 f:=fun x=>match x with|137=>158|217=>165|266=>197|n=>n
 t:=fun x=>match x with|9=>9|5=>5|3=>3|n=>n
 g:=fun x=>x
theorem Tryz.lays137:Lays.n137 Tryz.prog Tryz.ren137 where
 mixed:=by kernel_rfl
 f137:=Tryz.func158
 f217:=Tryz.func165
 f266:=Tryz.func197
 t3:=Tryz.underlying3
 a3:=Tryz.isAgg3
 z3:=Tryz.sizeOf3
 v3:=Tryz.zeroValue3
 t5:=Tryz.underlying5
 a5:=Tryz.isAgg5
 z5:=Tryz.sizeOf5
 v5:=Tryz.zeroValue5
 t9:=Tryz.underlying9
 a9:=Tryz.isAgg9
 z9:=Tryz.sizeOf9
 v9:=Tryz.zeroValue9
def Tryz.ren170:Ren where
 f:=fun x=>match x with|170=>32|n=>n
 t:=fun x=>match x with|70=>71|3=>3|0=>0|72=>74|37=>72|5=>5|n=>n
 g:=fun x=>x
theorem Tryz.lays170:Lays.n170 Tryz.prog Tryz.ren170 where
 mixed:=by kernel_rfl
 f170:=Tryz.func32
 t0:=Tryz.underlying0
 a0:=Tryz.isAgg0
 z0:=Tryz.sizeOf0
 v0:=Tryz.zeroValue0
 t3:=Tryz.underlying3
 a3:=Tryz.isAgg3
 z3:=Tryz.sizeOf3
 v3:=Tryz.zeroValue3
 t37:=Tryz.underlying72
 a37:=Tryz.isAgg72
 z37:=Tryz.sizeOf72
 v37:=Tryz.zeroValue72
 t70:=Tryz.underlying71
 a70:=Tryz.isAgg71
 z70:=Tryz.sizeOf71
 v70:=Tryz.zeroValue71
 t72:=Tryz.underlying74
 a72:=Tryz.isAgg74
 z72:=Tryz.sizeOf74
 v72:=Tryz.zeroValue74
def Tryz.ren156:Ren where
 f:=fun x=>match x with|156=>63|165=>102|166=>31|169=>33|240=>64|241=>138|276=>103|277=>172|n=>n
 t:=fun x=>match x with|31=>29|9=>9|3=>3|4=>4|0=>0|20=>20|72=>74|76=>78|70=>71|37=>72|75=>77|127=>108|164=>138|5=>5|80=>81|n=>n
 g:=fun x=>x
theorem Tryz.lays156:Lays.n156 Tryz.prog Tryz.ren156 where
 mixed:=by kernel_rfl
 f156:=Tryz.func63
 f165:=Tryz.func102
 f166:=Tryz.func31
 f169:=Tryz.func33
 f240:=Tryz.func64
 f241:=Tryz.func138
 f276:=Tryz.func103
 f277:=Tryz.func172
 t0:=Tryz.underlying0
 a0:=Tryz.isAgg0
 z0:=Tryz.sizeOf0
 v0:=Tryz.zeroValue0
 t3:=Tryz.underlying3
 a3:=Tryz.isAgg3
 z3:=Tryz.sizeOf3
 v3:=Tryz.zeroValue3
 t4:=Tryz.underlying4
 a4:=Tryz.isAgg4
 z4:=Tryz.sizeOf4
 v4:=Tryz.zeroValue4
 t9:=Tryz.underlying9
 a9:=Tryz.isAgg9
 z9:=Tryz.sizeOf9
 v9:=Tryz.zeroValue9
 t20:=Tryz.underlying20
 a20:=Tryz.isAgg20
 z20:=Tryz.sizeOf20
 v20:=Tryz.zeroValue20
 t31:=Tryz.underlying29
 a31:=Tryz.isAgg29
 z31:=Tryz.sizeOf29
 v31:=Tryz.zeroValue29
 t37:=Tryz.underlying72
 a37:=Tryz.isAgg72
 z37:=Tryz.sizeOf72
 v37:=Tryz.zeroValue72
 t70:=Tryz.underlying71
 a70:=Tryz.isAgg71
 z70:=Tryz.sizeOf71
 v70:=Tryz.zeroValue71
 t72:=Tryz.underlying74
 a72:=Tryz.isAgg74
 z72:=Tryz.sizeOf74
 v72:=Tryz.zeroValue74
 t75:=Tryz.underlying77
 a75:=Tryz.isAgg77
 z75:=Tryz.sizeOf77
 v75:=Tryz.zeroValue77
 t76:=Tryz.underlying78
 a76:=Tryz.isAgg78
 z76:=Tryz.sizeOf78
 v76:=Tryz.zeroValue78
 t127:=Tryz.underlying108
 a127:=Tryz.isAgg108
 z127:=Tryz.sizeOf108
 v127:=Tryz.zeroValue108
 t164:=Tryz.underlying138
 a164:=Tryz.isAgg138
 z164:=Tryz.sizeOf138
 v164:=Tryz.zeroValue138
theorem Tryz.lays166:Lays.n166 Tryz.prog Tryz.ren155:={ Tryz.lays155 with }
end Go.Proofs
namespace Go.SX.Nb
open Go Go.SX Go.Proofs Go.RowKit
variable [ErrAt]
set_option maxRecDepth 4000
theorem Kc {w:World} (h:Gp w):∃m,w.cell? ⟨0,0,none⟩=some (.int .i64 m):=by
 obtain ⟨_,a,m,t,f,rfl⟩:=h (0,fun o=>∃m t f,o=.cells #[.int .i64 m] t f) (by simp [GlobInv.blocks,Se])
 exact ⟨m,by simp [World.cell?,a]⟩
theorem O4 {w:World} (h:Gp w):w.cell? ⟨3,0,none⟩=some (.iface 271 (.pointer (some ErrAt.b))):=by
 obtain ⟨_,a,t,f,rfl⟩:=h (3,fun o=>∃t f,o=.cells #[.iface 271 (.pointer (some ErrAt.b))] t f) (by simp [GlobInv.blocks,Se])
 simp [World.cell?,a]
theorem ma {w:World} (h:Gp w):Lib.TabIs Tryz.prog w "internal/strconv.uint64pow10" .u64 Lib.pow10Tab:=by
 obtain ⟨_,a,t,f,rfl⟩:=h (5,fun o=>∃t f,o=.cells (Lib.pow10Tab.map fun z=>Value.int .u64 z).toArray t f) (by simp [GlobInv.blocks,Se])
 have hg:Tryz.prog.globalNamed "internal/strconv.uint64pow10" = some 5:=by kernel_rfl
 simp only at a
 simp [Lib.TabIs,World.var?,hg,a]
theorem Wa (w:World) (n:Nat):Below w.heap.size w (w.drewN n):=⟨rfl,rfl,rfl,Nat.le_refl _,fun _ _=>rfl⟩
theorem gh (s t:Str) (hs:s.length<4294967281) (Hp:List AObj):AFun Tryz.prog 140 [A8 s,A8 t] Hp (B2 (Lib.contains s t)):=by
 refine AFun.lib (xs:=[sv s,sv t]) (v:=.bool (Lib.contains s t)) (fun G w=>.v _ _) (fun w hg=>?_)
 obtain ⟨m,hm⟩:=Kc hg
 refine (Any.strings_Contains Tryz.lays144 ⟨s.toArray⟩ ⟨t.toArray⟩ m w (by simpa [ByteArray.size] using hs) hm).mono ?_
 rintro e w' ⟨rfl,rfl⟩
 exact W8
theorem zv (s t:Str) (hs:s.length<4294967281) (Hp:List AObj):AFun Tryz.prog 118 [A8 s,A8 t] Hp (.tup [A8 (Lib.cut s t).1,A8 (Lib.cut s t).2.1,B2 (Lib.cut s t).2.2]):=by
 refine AFun.lib (xs:=[sv s,sv t]) (v:=.tuple #[sv (Lib.cut s t).1,sv (Lib.cut s t).2.1,.bool (Lib.cut s t).2.2]) (fun G w=>K9 rfl (fun i y u hy hu=>?_)) (fun w hg=>?_)
 ·match i with
  | 0=>simp at hy hu;subst hy;subst hu;exact .v _ _
  | 1=>simp at hy hu;subst hy;subst hu;exact .v _ _
  | 2=>simp at hy hu;subst hy;subst hu;exact .v _ _
  | i+3=>simp at hy
 obtain ⟨m,hm⟩:=Kc hg
 refine (Any.strings_Cut Tryz.lays145 ⟨s.toArray⟩ ⟨t.toArray⟩ m w (by simpa [ByteArray.size] using hs) hm).mono ?_
 rintro e w' ⟨rfl,n,rfl⟩
 exact ⟨rfl,Wa _ _⟩
theorem AAy (s t:Str) (ht:t.length<4294967281) (ha:∀c∈t,c.toNat<128) (Hp:List AObj):AFun Tryz.prog 139 [A8 s,A8 t] Hp (A8 (Lib.trimLeftS s t)):=by
 refine AFun.lib (xs:=[sv s,sv t]) (v:=sv (Lib.trimLeftS s t)) (fun G w=>.v _ _) (fun w hg=>?_)
 refine (Any.strings_TrimLeft_laid Tryz.lays161 (by kernel_rfl) ⟨s.toArray⟩ ⟨t.toArray⟩ w (by simpa [ByteArray.size] using ht) (fun j b hj=>ha b (List.mem_of_getElem? hj))).mono ?_
 rintro e w' ⟨rfl,hb⟩
 exact ⟨rfl,hb⟩
/-- The pieces of a split. -/
def Jm (s t:Str):List Str:=(Lib.splitB ⟨t.toArray⟩ 0 (Lib.countB ⟨s.toArray⟩ ⟨t.toArray⟩) ⟨s.toArray⟩).map (·.data.toList)
theorem c29 (s t:Str) (hs:s.length<4294967281) (ht:1≤t.length) (Hp:List AObj):AFun Tryz.prog 29 [A8 s,A8 t] Hp (Ed (Jm s t)):=by
 have:=AFun.libSlice (P:=Tryz.prog) (g:=29) (Hp:=Hp) (xs:=[sv s,sv t]) (ys:=(Jm s t).map sv) (t:=9) (by intro y hy;obtain ⟨z,_,rfl⟩:=List.mem_map.1 hy;rfl) (fun w hg=>by
  obtain ⟨m,hm⟩:=Kc hg
  refine (Any.strings_Split Tryz.lays146 (by kernel_rfl) ⟨s.toArray⟩ ⟨t.toArray⟩ m w (by simpa [ByteArray.size] using hs) hm (by simpa [ByteArray.size] using ht)).mono ?_
  rintro e w' ⟨rfl,rfl⟩
  have hl:((Jm s t).map sv).length=Lib.countB ⟨s.toArray⟩ ⟨t.toArray⟩+1:=by
   rw [List.length_map]
   unfold Jm
   rw [List.length_map]
   exact Lib.splitB_all _ (by simpa [ByteArray.size] using ht) _ _ _ rfl
  refine ⟨by rw [hl],?_⟩
  unfold Jm
  rw [List.map_map]
  rfl)
 rw [List.map_map] at this
 exact this
end Go.SX.Nb
namespace Go.Proofs
open Go Go.RowKit Go.Extern.Stop Go.Stop Go.Extern
theorem Tryz.isTypeOf (v:Value) (w:World):(Extern.ReflectliteType.typeOf #[.iface 271 v]).run Tryz.prog w=.ok (.iface 246 (.agg #[.pointer (some ⟨8,271,none⟩)])) w:=by kernel_rfl
def Tryz.cmpOf:Array Value→Sem Value:=Extern.ReflectliteType.method fun t=>do Extern.Rtype.noPackHeld "Comparable" t;pure (.bool (←typeInfo t).comparable)
theorem Tryz.isComparable (w:World):(Tryz.cmpOf #[.agg #[.pointer (some ⟨8,271,none⟩)]]).run Tryz.prog w=.ok (.bool true) w:=by kernel_rfl
theorem Tryz.isMethodComparable (v:Value) (w:World):(Go.method 408 246 v "Comparable").run Tryz.prog w=.ok (298,v) w:=by kernel_rfl
theorem Tryz.isComp:(Tryz.prog.info? 271).map (·.comparable)=some true:=by kernel_rfl
theorem Tryz.isSize:(Tryz.prog.info? 273).map (·.size)=some 1:=by kernel_rfl
theorem Tryz.noIsW (v:Value) (xT:TypeId) (w:World):(Instr.typeAssert (.iface 242 v) xT 248 true).run Tryz.prog w=.ok (.tuple #[.nilIface,.bool false]) w:=run_typeAssert_lacksB Tryz.underlying248 (by kernel_rfl) (by kernel_rfl) v xT w
theorem Tryz.hasUnwrapW (v:Value) (xT:TypeId) (w:World):(Instr.typeAssert (.iface 242 v) xT 251 true).run Tryz.prog w=.ok (.tuple #[.iface 242 v,.bool true]) w:=run_typeAssert_hasB Tryz.underlying251 (by kernel_rfl) v xT w
theorem Tryz.methodUnwrap (v:Value) (w:World):(Go.method 408 242 v "Unwrap").run Tryz.prog w=.ok (294,v) w:=by kernel_rfl
namespace Tryz
theorem is_nil (b:Addr) (w:World):
  Calls Tryz.prog 214 #[.nilIface,.iface 271 (.pointer (some b))] w fun e w'=>e=.returned (.bool false)∧w'=w:=by
 have hn:=run_eql_iface_nil_left (P:=Tryz.prog) w 271 (.pointer (some b)) Tryz.underlying77
 go_enter Tryz.func214,Tryz.ntmps214
 go_wp2
 go_ret
 exact ⟨rfl,rfl⟩
set_option maxRecDepth 100000 in
theorem is_range (pb po:Nat) (b:Addr) (w:World) (h1:w.cell? ⟨pb,po+2,none⟩=some (.iface 271 (.pointer (some b)))):
  Calls Tryz.prog 214 #[.iface 242 (.pointer (some ⟨pb,po,none⟩)),.iface 271 (.pointer (some b))] w fun e w'=>e=.returned (.bool true)∧w'=w:=by
 obtain ⟨i,hi,hcmp⟩:=Option.map_eq_some_iff.1 Tryz.isComp
 obtain ⟨j,hj,hjs⟩:=Option.map_eq_some_iff.1 Tryz.isSize
 have h8:=@run_callFunc_extern Tryz.prog 232 _ Extern.ReflectliteType.typeOf Tryz.func232 (by kernel_rfl) (by kernel_rfl) (by kernel_rfl) (by kernel_rfl)
 have h32:=@run_callFunc_extern Tryz.prog 298 _ Tryz.cmpOf Tryz.func298 (by kernel_rfl) (by kernel_rfl) (by kernel_rfl) (by kernel_rfl)
 have tT:=Tryz.isTypeOf
 have cT:=Tryz.isComparable
 have mR:=Tryz.isMethodComparable
 have nW:=Tryz.noIsW
 have uW:=Tryz.hasUnwrapW
 have mU:=Tryz.methodUnwrap
 have heq:=run_eql_iface_ptr_same (P:=Tryz.prog) w b Tryz.underlying77 Tryz.underlying271 hi hcmp hj
 have hty:=run_eql_iface_types (P:=Tryz.prog) 242 271 (.pointer (some ⟨pb,po,none⟩)) (.pointer (some b)) Tryz.underlying77 (by decide) w
 go_enter Tryz.func214,Tryz.ntmps214
 go_wp2
 refine wp_loop_rounds 2 ?_
 rw [rounds_succ]
 go_wp2
 rw [rounds_succ]
 go_wp2
 go_ret
 exact ⟨rfl,rfl⟩
end Tryz
end Go.Proofs
namespace Go.SX.Nb
open Go Go.SX Go.Proofs Go.RowKit Go.Sort
variable [ErrAt]
set_option maxRecDepth 4000
theorem AAz (s t:Str) (Hp:List AObj):AFun Tryz.prog 186 [A8 s,A8 t] Hp (B2 (Lib.hasPrefix s t)):=by
 refine AFun.lib (xs:=[sv s,sv t]) (v:=.bool (Lib.hasPrefix s t)) (fun G w=>.v _ _) (fun w hg=>?_)
 refine (Any.strings_HasPrefix Tryz.lays99 ⟨s.toArray⟩ ⟨t.toArray⟩ w).mono ?_
 rintro e w' ⟨rfl,rfl⟩
 exact W8
theorem AB0 (s t:Str) (hs:s.length≤9223372036854775807) (Hp:List AObj):AFun Tryz.prog 187 [A8 s,A8 t] Hp (B2 (Lib.hasSuffix s t)):=by
 refine AFun.lib (xs:=[sv s,sv t]) (v:=.bool (Lib.hasSuffix s t)) (fun G w=>.v _ _) (fun w hg=>?_)
 refine (Any.strings_HasSuffix Tryz.lays100 ⟨s.toArray⟩ ⟨t.toArray⟩ w (by simpa [ByteArray.size] using hs)).mono ?_
 rintro e w' ⟨rfl,rfl⟩
 exact W8
theorem AB1 (s:Str) (c:UInt8) (Hp:List AObj):AFun Tryz.prog 158 [A8 s,.v (.int .u8 (c.toNat:Int))] Hp (A2 (Lib.indexByte s c)):=by
 refine AFun.lib (xs:=[sv s,.int .u8 (c.toNat:Int)]) (v:=.int .i64 (Lib.indexByte s c)) (fun G w=>.v _ _) (fun w hg=>?_)
 refine (Any.strings_IndexByte Tryz.lays137 ⟨s.toArray⟩ (c.toNat:Int) w).mono ?_
 rintro e w' ⟨rfl,rfl⟩
 exact ⟨by simp,Below.refl _ _⟩
theorem AB2:Builder.Extra Tryz.prog Tryz.ren155:={ sizeBuilder:=by kernel_rfl,liesBuilder:=by kernel_rfl,t5:=Tryz.underlying5,a5:=Tryz.isAgg5,z5:=Tryz.sizeOf5,v5:=Tryz.zeroValue5,infoByte:=by kernel_rfl,cellsByte:=by kernel_rfl,sizeByte:=by kernel_rfl,neB5:=by decide }
theorem zw (s o n:Str) (hs:s.length<4294967281) (ho:1≤o.length) (hl:s.length+Lib.countB ⟨s.toArray⟩ ⟨o.toArray⟩*n.length≤140737488355328) (Hp:List AObj):AFun Tryz.prog 201 [A8 s,A8 o,A8 n] Hp (A8 (Lib.replaceAll s o n)):=by
 refine AFun.lib (xs:=[sv s,sv o,sv n]) (v:=sv (Lib.replaceAll s o n)) (fun G w=>.v _ _) (fun w hg=>?_)
 obtain ⟨m,hm⟩:=Kc hg
 refine (Any.strings_ReplaceAll Tryz.lays155 AB2 ⟨s.toArray⟩ ⟨o.toArray⟩ ⟨n.toArray⟩ m w (by simpa [ByteArray.size] using hs) hm (by simpa [ByteArray.size] using ho) (by simpa [ByteArray.size] using hl)).mono ?_
 rintro e w' ⟨rfl,hb⟩
 exact ⟨rfl,hb⟩
theorem Yy (w:World) (k:Nat) (os:Array Obj):Below w.heap.size w (grow (w.drewN k) os):=by
 refine ⟨rfl,rfl,rfl,by simp [grow],fun b hb=>?_⟩
 show ((w.drewN k).heap++os)[b]? = w.heap[b]?
 rw [Array.getElem?_append_left (by exact hb)]
 rfl
theorem AB3 (n:Int) (h0 : -9223372036854775808≤n) (h1:n≤9223372036854775807) (Hp:List AObj):AFun Tryz.prog 220 [.v (.int .i64 n),A2 10] Hp (A8 (Lib.itoa n)):=by
 refine AFun.lib (xs:=[.int .i64 n,.int .i64 10]) (v:=sv (Lib.itoa n)) (fun G w=>.v _ _) (fun w hg=>?_)
 refine (Any.strconv_FormatInt_10 Tryz.lays173 n h0 h1 w (ma hg)).mono ?_
 rintro e w' ⟨rfl,k,os,rfl⟩
 exact ⟨rfl,Yy _ _ _⟩
end Go.SX.Nb
namespace Go.SX.Nb
open Go Go.SX Go.Proofs Go.RowKit
variable [ErrAt]
set_option maxRecDepth 4000
def digs:Str:=[48,49,50,51,52,53,54,55,56,57]
def Ks (s:Str):Str:=Lib.trimPrefix s [45]
def Ev (s:Str):Bool:=(Ks s==[]) || !(Lib.trimS (Ks s) digs==[]) || (((Ks s).headD 0==48)&&decide (1<s.length))
def Cd (s:Str):Int×Int:=if Ev s then (0,6) else match Lib.parseIntB 64 s with|.ok v=>(v,0)|.range=>(0,4)|_=>(0,0)
def rk {α:Type}:Lib.NumEnd α→Bool|.ok _=>false|.range=>false|_=>true
theorem Yz {p:UInt8→Bool}:∀{l:Str},l.dropWhile p=[]↔∀b∈l,p b=true
 | []=>by simp
 | b::r=>by
  rw [List.dropWhile_cons]
  by_cases h:p b=true
  ·rw [if_pos h,Yz]
   simp [h]
  rw [if_neg h]
  simp [h]
theorem mb {p:UInt8→Bool}:∀{l:Str} {b:UInt8},b∈l→p b=false→b∈l.dropWhile p
 | x::r,b,h,hb=>by
  rw [List.dropWhile_cons]
  by_cases hx:p x=true
  ·rw [if_pos hx]
   rcases List.mem_cons.1 h with rfl|h
   ·rw [hb] at hx;cases hx
   exact mb h hb
  rw [if_neg hx];exact h
theorem Sf {l cs:Str}:Lib.trimS l cs=[]↔∀b∈l,cs.contains b=true:=by
 unfold Lib.trimS Lib.trimLeftS Lib.trimRightS
 rw [Yz]
 constructor
 ·intro h b hb
  cases hc:cs.contains b with
  | true=>rfl
  | false =>
   have:=h b (List.mem_reverse.2 (mb (p:=(cs.contains ·)) (List.mem_reverse.2 hb) hc))
   rw [hc] at this;exact this
 intro h b hb
 exact h b (List.mem_reverse.1 ((List.dropWhile_sublist (cs.contains ·)).subset (List.mem_reverse.1 hb)))
theorem Kt (c:UInt8):digs.contains c=(decide (48≤c.toNat)&&decide (c.toNat≤57)):=by
 have h:((List.range 256).all fun n=>digs.contains (UInt8.ofNat n)==(decide (48≤(UInt8.ofNat n).toNat)&&decide ((UInt8.ofNat n).toNat≤57)))=true:=by kernel_rfl
 have:=List.all_eq_true.1 h c.toNat (List.mem_range.2 c.toNat_lt)
 simpa using this
theorem Sg (M:Nat):∀(l:Str) (acc:Nat),(∀b∈l,digs.contains b=true)→rk (Lib.parseUintM M acc l)=false
 | [],acc,_=>by rw [Lib.parseUintM];rfl
 | c::r,acc,h=>by
  have hc:=h c (by simp)
  rw [Kt] at hc
  simp only [Bool.and_eq_true,decide_eq_true_eq] at hc
  rw [Lib.parseUintM,if_pos hc]
  split
  ·rfl
  split
  ·rfl
  exact Sg M r _ (fun b hb=>h b (by simp [hb]))
theorem O5 (s:Str):(s.head? ≠ some 45∧Ks s=s)∨∃r,s=45::r∧Ks s=r:=by
 unfold Ks Lib.trimPrefix Lib.hasPrefix
 cases s with
 | nil=>exact .inl ⟨by simp,rfl⟩
 | cons c r =>
  by_cases hc:c=45
  ·subst hc;exact .inr ⟨r,rfl,by simp [List.isPrefixOf]⟩
  refine .inl ⟨by simpa using hc,?_⟩
  rw [if_neg]
  simp [List.isPrefixOf,Ne.symm hc]
theorem Jn {s:Str} (h:Ev s=false):rk (Lib.parseIntB 64 s)=false:=by
 unfold Ev at h
 simp only [Bool.or_eq_false_iff,Bool.not_eq_false',beq_iff_eq,beq_eq_false_iff_ne] at h
 obtain ⟨⟨h1,h2⟩,_⟩:=h
 rw [Sf] at h2
 have key:∀l:Str,l≠[]→(∀b∈l,digs.contains b=true)→rk (Lib.parseUintB 64 l)=false:=fun l hl ha=>by
  unfold Lib.parseUintB
  rw [if_neg hl]
  exact Sg _ l 0 ha
 rcases O5 s with ⟨h3,h4⟩|⟨r,rfl,h4⟩
 ·rw [h4] at h1 h2
  cases s with
  | nil=>exact absurd rfl h1
  | cons c r =>
   have hcd:=h2 c (by simp)
   rw [Kt] at hcd
   simp only [Bool.and_eq_true,decide_eq_true_eq] at hcd
   have e1:¬(c.toNat=43∨c.toNat=45):=by omega
   have:=key (c::r) (by simp) h2
   simp only [Lib.parseIntB,if_neg e1]
   revert this
   cases Lib.parseUintB 64 (c::r) with
   | range=>intro _;rfl
   | ok u=>intro _;simp only;split<;>(try split)<;>rfl
   | _=>intro h;cases h
 rw [h4] at h1 h2
 have:=key r h1 h2
 have e1:((45:UInt8).toNat=43∨(45:UInt8).toNat=45):=.inr rfl
 simp only [Lib.parseIntB,if_pos e1]
 revert this
 cases Lib.parseUintB 64 r with
 | range=>intro _;rfl
 | ok u=>intro _;simp only;split<;>(try split)<;>rfl
 | _=>intro h;cases h
end Go.SX.Nb
namespace Go.SX.Nb
open Go Go.SX Go.Proofs
variable [ErrAt]
set_option maxRecDepth 4000
def Fx (c:UInt8):Bool:=decide ((97:Int)≤c.toNat)&&decide ((c.toNat:Int)≤122)
def we (c:UInt8):Bool:=decide ((48:Int)≤c.toNat)&&decide ((c.toNat:Int)≤57)
def words:List Str:=[[97,100,100],[100,114,111,112],[114,101,110,97,109,101],[115,112,108,105,116],[109,101,114,103,101],[114,101,116,121,112,101],[105,110,116,111],[116,111],[98,97,99,107],[97,110,100],[111,114],[110,111,116],[116,114,117,101],[102,97,108,115,101],[110,117,108,108],[105,110,116],[116,101,120,116],[98,111,111,108],[115,101,108,101,99,116],[119,104,101,114,101],[102,114,111,109],[108,105,109,105,116]]
def Kd (s:Str):Bool:=words.any (·==s)
theorem wg {α:Type} {p:α→Bool} {l:List α} {i:Nat} (h:i<l.length) (hp:p l[i]=true):l.any p=true:=by
 rw [List.any_eq_true];exact ⟨l[i],List.getElem_mem h,hp⟩
theorem mc {α:Type} {p:α→Bool} {l:List α} (h:∀(j:Nat) (y:α),l[j]? = some y→p y=false):l.any p=false:=by
 rw [List.any_eq_false]
 intro x hx
 obtain ⟨j,hj⟩:=List.getElem?_of_mem hx
 simp [h j x hj]
theorem Eh {α:Type} {l:List α} {x:Nat} {p:α→Prop} (hlt:x<l.length) (h:∀(j:Nat) (y:α),j<x→l[j]? = some y→p y) (hx:p l[x]):∀(j:Nat) (y:α),j<x+1→l[j]? = some y→p y:=by
 intro j y hj hy
 rcases Nat.lt_or_ge j x with h'|h'
 ·exact h j y h' hy
 have:j=x:=by omega
 subst this
 rw [List.getElem?_eq_getElem hlt] at hy
 injection hy with hy
 subst hy
 exact hx
theorem Lo {α:Type} {l:List α} {x:Nat} {p:α→Prop} (hge:l.length≤x) (h:∀(j:Nat) (y:α),j<x→l[j]? = some y→p y):∀(j:Nat) (y:α),l[j]? = some y→p y:=
 fun j y hy=>h j y (by have:=(List.getElem?_eq_some_iff.1 hy).1;omega) hy
def O6 (c:UInt8):Bool:=Fx c || we c || c==95
def Dn (s:Str):Bool:=match s with
 | []=>false
 | c::_=>decide (s.length≤16)&&Fx c && !Kd s&&s.all O6
theorem Sh {s:Str} (h:s≠[]):s[0]? = some (s.headD 0):=by cases s with
 | nil=>exact absurd rfl h
 | cons c r=>rfl
theorem Wb (s:Str):Dn s=(!((s.length:Int)==0 || decide ((16:Int)<s.length) || !Fx (s.headD 0) || Kd s)&&s.all O6):=by
 cases s with
 | nil=>rfl
 | cons c r =>
  have h1:(((c::r).length:Int)==0)=false:=by simp;omega
  have h2:decide ((c::r).length≤16) = !decide ((16:Int)<(c::r).length):=by
   by_cases h:(c::r).length≤16
   ·have:¬((16:Int)<(c::r).length):=by omega
    simp only [h,this,decide_true,decide_false,Bool.not_false]
   have:((16:Int)<(c::r).length):=by omega
   simp only [h,this,decide_true,decide_false,Bool.not_true]
  simp only [Dn,h1,h2,List.headD_cons,Bool.not_or,Bool.not_not,Bool.false_or]
def Bh (nm:Str) (c:List Col):Int:=match c.findIdx? (fun y=>y.name==nm) with|some i=>i|none => -1
theorem md {nm:List UInt8} {c:List Col} {x:Nat} (h:x<c.length) (h1:c[x].name=nm) (h2:∀(j:Nat) (y:Col),j<x→c[j]? = some y→¬(y.name=nm)):Bh nm c=x:=by
 have:c.findIdx? (fun y=>y.name==nm)=some x:=by
  rw [List.findIdx?_eq_some_iff_getElem]
  exact ⟨h,by simpa using h1,fun j hj=>by simpa using h2 j c[j] hj (List.getElem?_eq_getElem _)⟩
 simp [Bh,this]
theorem Z2 {nm:List UInt8} {c:List Col} (h:∀(j:Nat) (y:Col),c[j]? = some y→¬(y.name=nm)):Bh nm c = -1:=by
 have:c.findIdx? (fun y=>y.name==nm)=none:=by
  rw [List.findIdx?_eq_none_iff]
  intro y hy
  obtain ⟨j,hj⟩:=List.getElem?_of_mem hy
  simpa using h j y hj
 simp [Bh,this]
structure OkCols (c:List Col):Prop where
 len:c.length≤1048576
 names:∀y∈c,y.name.length≤1048576
def vg (c:List Col) (x:Nat) (y:Col):Bool := !(((!Dn y.name || decide (y.kind<1)) || decide ((3:Int)<y.kind)) || (Bh y.name c != (x:Int)))
def Lp (c:List Col):Bool:=c.zipIdx.all fun x=>vg c x.2 x.1
theorem L5 {α:Type} {l:List α} {x:Nat} {p:Nat→α→Prop} (hlt:x<l.length) (h:∀(j:Nat) (y:α),j<x→l[j]? = some y→p j y) (hx:p x l[x]):∀(j:Nat) (y:α),j<x+1→l[j]? = some y→p j y:=by
 intro j y hj hy
 rcases Nat.lt_or_ge j x with h'|h'
 ·exact h j y h' hy
 have:j=x:=by omega
 subst this
 rw [List.getElem?_eq_getElem hlt] at hy
 injection hy with hy
 subst hy
 exact hx
theorem Mz {α:Type} {l:List α} {x:Nat} {p:Nat→α→Prop} (hge:l.length≤x) (h:∀(j:Nat) (y:α),j<x→l[j]? = some y→p j y):∀(j:Nat) (y:α),l[j]? = some y→p j y:=
 fun j y hy=>h j y (by have:=(List.getElem?_eq_some_iff.1 hy).1;omega) hy
def Ew (c:List Col):Bool:=decide ((c.length:Int)≤12)&&Lp c
def By (v:Val):Bool:=if v.kind==0 then v.n==0&&v.s==[] else if v.kind==1 then v.s==[] else if v.kind==2 then v.n==0&&decide ((v.s.length:Int)≤200) else v.kind==3&&v.s==[]&&decide (0≤v.n)&&decide (v.n≤1)
theorem wh (e:Bool) (n:Int):(e&&(n==0 || n==1))=(e&&decide (0≤n)&&decide (n≤1)):=by
 cases e
 ·rfl
 rw [Bool.eq_iff_iff]
 simp
 omega
theorem c143 (v:Val) (Hp:List AObj):AFun Tryz.prog 143 [Um v] Hp (B2 (By v)):=by
 refine ACall.body [.tmp 2] [0] Tryz.func143 Tryz.ntmps143 (fun d=>?_)
 refine Dq ?_;refine R.box ?_;refine R.go ?_;refine R.fin [1] ?_;refine Z21 ?_;refine R.fin [1,4] ?_;refine Z69 ?_;refine R.fin [1,4,5] ?_
 refine W.cond (fun ht5=>?_) (fun ht5=>?_)
 ·refine za ?_
  refine R.go (h:=Q.eqlAgg wd (Un v.kind v.n 0 0 v.s [])) (hr:=?_)
  refine R.go ?_;refine Z29 ?_;exact K.fin (V.one V.tmp) ⟨by simp [By,ht5],rfl⟩
 refine Z1 ?_;refine R.fin [1,4,10] ?_
 refine W.cond (fun ht10=>?_) (fun ht10=>?_)
 ·refine Z28 ?_;refine Z29 ?_;exact K.fin (V.one V.tmp) ⟨by simp [By,ht5,ht10],rfl⟩
 refine Z1 ?_;refine R.fin [1,4,15] ?_
 refine W.cond (fun ht15=>?_) (fun ht15=>?_)
 ·refine Z28 ?_;refine Z9 ?_;refine Z74 ?_;refine Z29 ?_;exact K.fin (V.one V.tmp) ⟨by simp [By,ht5,ht10,ht15],rfl⟩
 refine Z1 ?_;refine R.fin [1,26] ?_
 refine W.cond (fun ht26=>?_) (fun ht26=>?_)
 ·refine Z28 ?_;refine Z9 ?_;refine Z9 ?_;refine Z9 ?_;refine Z74 ?_;refine Z29 ?_;exact K.fin (V.one V.tmp) ⟨by simp [By,ht5,ht10,ht15,ht26];rw [wh],rfl⟩
 refine Yp ?_;exact K.fin (V.one V.tmp) ⟨by simp [By,ht5,ht10,ht15,ht26],rfl⟩

def I8 (c:List Col):Bool:=decide ((50:Int)<c.length) || c.any fun y=>decide ((100:Int)<y.name.length)
theorem L6 {α:Type} {c:List α} {p:Nat→α→Bool}:(c.zipIdx.all fun x=>p x.2 x.1)=true↔∀(j:Nat) (y:α),c[j]? = some y→p j y=true:=by
 rw [List.all_eq_true]
 constructor
 ·intro h j y hj
  exact h (y,j) (by rw [List.mem_zipIdx_iff_getElem?];exact hj)
 rintro h ⟨y,j⟩ hx
 rw [List.mem_zipIdx_iff_getElem?] at hx
 exact h j y hx
theorem AB4 (y:Col) (nm:Str) (Hp:List AObj):AFun Tryz.prog 179 [Av y,.ro [A8 nm]] Hp (B2 (y.name==nm)):=by
 refine ACall.body [.tmp 3] [0,1] Tryz.func179 Tryz.ntmps179 (fun d=>?_)
 refine Z1 ?_;refine R.fin [1,2] ?_;refine Z1 ?_;refine Z19 ?_;refine R.fin [3] ?_;refine AW.ret ?_;exact lv

theorem AB5 (c:List Col) (hc:OkCols c) (nm:Str) (Hp:List AObj):AFun Tryz.prog 178 [Ar c,.fn (.func 179) [] [.ro [A8 nm]]] Hp (A2 (Bh nm c)):=by
 refine ACall.body [.tmp 4] [0,1] Tryz.func178 Tryz.ntmps178 (fun d=>?_)
 refine Z53 ?_;refine lf ?_
 refine AW.loopC (α:=Nat) (fun x=>⟨19,A6 0 (Ar c) (A6 1 (.fn (.func 179) [] [.ro [A8 nm]]) (A6 7 (A2 c.length) (A6 8 (A2 (x:Nat)) (fun _=>.any)))),Hp,[],[],none⟩) (fun x=>x≤c.length∧∀(j:Nat) (y:Col),j<x→c[j]? = some y→¬(y.name=nm)) (fun x=>c.length-x) (0) (by simp) (StLe.of_eq (by simp)) rfl (fun x hx=>?_)
 refine lb ?_
 refine W.condX (fun ht9=>?_) (fun ht9=>?_)
 ·have hlt:x<c.length:=by simpa using ht9
  have hcl:=hc.len
  refine Yu ?_;refine l9 ?_
  refine R.go (h:=Q.indexAddr (x) (Av c[x]) (fun _=>C4 hlt)) (hr:=?_)
  refine R.go ?_;refine R.callV Tryz.call179 (AB4 c[x] nm _) ?_;refine lw ?_
  refine W.cond (fun ht16=>?_) (fun ht16=>?_)
  ·refine Yt ?_;refine Z80 ?_;exact K.fin (V.one V.tmp) ⟨by rw [md hlt (by simpa using ht16) hx.2],rfl⟩
  refine Z75 ?_;refine R.fin [0,1,7,8] ?_;exact K.lpN (x+1) ⟨hlt,Eh hlt hx.2 (by simpa using ht16)⟩ (by omega) (StCut.of_eq rfl)
 refine Z63 ?_;refine Z27 ?_;exact K.fin (V.one V.tmp) ⟨by rw [Z2 (Lo (by simp at ht9;omega) hx.2)],rfl⟩

theorem gi (c:List Col) (hc:OkCols c) (nm:Str) (Hp:List AObj):AFun Tryz.prog 149 [Ar c,A8 nm] Hp (A2 (Bh nm c)):=by
 refine ACall.body [.tmp 4] [0,1] Tryz.func149 Tryz.ntmps149 (fun d=>?_)
 refine ln ?_;refine Z3 ?_;refine Km ?_;refine R.call Tryz.call178 (AB5 c hc nm _) ?_;refine R.go ?_;exact Z82

def Gq (s of:Str):Int:=(s.length:Int)-(Lib.trimLeftS s of).length
theorem Ow (s of:Str):(Lib.trimLeftS s of).length≤s.length:=by
 unfold Lib.trimLeftS
 exact (List.dropWhile_sublist _).length_le
def Iq:Str:=[32,97,100,100,32,100,114,111,112,32,114,101,110,97,109,101,32,115,112,108,105,116,32,109,101,114,103,101,32,114,101,116,121,112,101,32,105,110,116,111,32,116,111,32,98,97,99,107,32,97,110,100,32,111,114,32,110,111,116,32,116,114,117,101,32,102,97,108,115,101,32,110,117,108,108,32,105,110,116,32,116,101,120,116,32,98,111,111,108,32,115,101,108,101,99,116,32,119,104,101,114,101,32,102,114,111,109,32,108,105,109,105,116,32]
def letters:Str:=[97,98,99,100,101,102,103,104,105,106,107,108,109,110,111,112,113,114,115,116,117,118,119,120,121,122]
def tails:Str:=[97,98,99,100,101,102,103,104,105,106,107,108,109,110,111,112,113,114,115,116,117,118,119,120,121,122,48,49,50,51,52,53,54,55,56,57,95]
theorem Z5 (s of:Str) (hs:s.length≤1048576) (ho:of.length≤1048576) (ha:∀c∈of,c.toNat<128) (Hp:List AObj):AFun Tryz.prog 104 [A8 s,A8 of] Hp (A2 (Gq s of)):=by
 refine ACall.body [.tmp 4] [0,1] Tryz.func104 Tryz.ntmps104 (fun d=>?_)
 refine Z53 ?_;refine Z28 ?_;refine R.call Tryz.call139 (AAy s of (by omega) ha _) ?_;refine R.go ?_
 have htl:=Ow s of
 refine Z0 ?_;exact Z82

def Ck (s:Str):Bool:=(!(s==[]) && !Lib.contains s [32])&&Lib.contains Iq ([32]++s++[32])
theorem zx (s:Str) (hs:s.length≤1048576) (Hp:List AObj):AFun Tryz.prog 105 [A8 s] Hp (B2 (Ck s)):=by
 refine ACall.body [.tmp 2] [0] Tryz.func105 Tryz.ntmps105 (fun d=>?_)
 refine Z48 ?_;refine Z13 ?_;refine G.go ?_;refine G.call Tryz.call140 (fun hB=>gh s [32] (by omega) _) ?_;refine G.go ?_;refine g9 ?_;refine G.call Tryz.call140 (fun hB=>gh Iq ([32]++s++[32]) (by decide) _) ?_;exact lq

theorem wi {s:Str} {b c:Bool} (h:(((!(s==[])&&b)&&c)==true)=true):1≤s.length:=by
 cases s with
 | nil=>simp at h
 | cons x r=>simp
def C5 (s:Str):Bool:=((((!(s==[])&&decide ((s.length:Int)≤16))&&(Gq s tails==(s.length:Int)))&&(Gq (s.take 1) letters==1)) && !Ck s)
theorem c67 (s:Str) (hs:s.length≤1048576) (Hp:List AObj):AFun Tryz.prog 67 [A8 s] Hp (B2 (C5 s)):=by
 refine ACall.body [.tmp 2] [0] Tryz.func67 Tryz.ntmps67 (fun d=>?_)
 refine Z48 ?_;refine Z13 ?_;refine Z65 ?_;refine Ui ?_;refine G.call Tryz.call104 (fun hB=>Z5 s tails hs (by decide) (by decide) _) ?_;refine Z65 ?_;refine Ui ?_
 refine G.go (h:=Q.scutH 1 (fun _=>Nat.zero_le _) (fun hB=>wi hB)) (hr:=?_)
 refine G.call Tryz.call104 (fun hB=>Z5 (s.take 1) letters (by simp;omega) (by decide) (by decide) _) ?_
 refine G.go ?_;refine Ui ?_;refine G.call Tryz.call105 (fun hB=>zx s hs _) ?_;refine G.go ?_;exact lq

end Go.SX.Nb
namespace Go.SX.Nb
open Go Go.SX Go.Proofs Go.RowKit
variable [ErrAt]
set_option maxRecDepth 4000
theorem AB6 (s t:Str) (Hp:List AObj):AFun Tryz.prog 211 [A8 s,A8 t] Hp (A8 (Lib.trimPrefix s t)):=by
 refine AFun.lib (xs:=[sv s,sv t]) (v:=sv (Lib.trimPrefix s t)) (fun G w=>.v _ _) (fun w hg=>?_)
 refine (Any.strings_TrimPrefix Tryz.lays101 ⟨s.toArray⟩ ⟨t.toArray⟩ w).mono ?_
 rintro e w' ⟨rfl,rfl⟩
 exact W8
theorem c212 (s t:Str) (hs:s.length≤9223372036854775807) (ht:t.length<4294967281) (ha:∀c∈t,c.toNat<128) (Hp:List AObj):AFun Tryz.prog 212 [A8 s,A8 t] Hp (A8 (Lib.trimS s t)):=by
 refine AFun.lib (xs:=[sv s,sv t]) (v:=sv (Lib.trimS s t)) (fun G w=>.v _ _) (fun w hg=>?_)
 refine (Any.strings_Trim_laid Tryz.lays160 (by kernel_rfl) ⟨s.toArray⟩ ⟨t.toArray⟩ w (by simpa [ByteArray.size] using hs) (by simpa [ByteArray.size] using ht) (fun j b hj=>ha b (List.mem_of_getElem? hj))).mono ?_
 rintro e w' ⟨rfl,hb⟩
 exact ⟨rfl,hb⟩
theorem rl (s:Str) (hs:s.length≤1048576) (v:Int) (h:Lib.parseIntB 64 s=.ok v) (Hp:List AObj):AFun Tryz.prog 213 [A8 s,A2 10,A2 64] Hp (.tup [A2 v,.v .nilIface]):=by
 refine AFun.lib (xs:=[sv s,.int .i64 10,.int .i64 64]) (v:=.tuple #[.int .i64 v,.nilIface]) (fun G w=>K9 rfl (fun i y u hy hu=>?_)) (fun w hg=>?_)
 ·match i with
  | 0=>simp at hy hu;subst hy;subst hu;exact .v _ _
  | 1=>simp at hy hu;subst hy;subst hu;exact .v _ _
  | i+2=>simp at hy
 refine (Any.strconv_ParseInt_10_at64_ok Tryz.lays174 ⟨s.toArray⟩ (by simp [ByteArray.size];omega) v h w).mono ?_
 rintro e w' ⟨rfl,rfl|⟨t,rfl⟩⟩
 ·exact W8
 exact ⟨rfl,Lib.bytesWorld_below _ _ _⟩
def N0 (s:Str):AV:=.iface 242 (.ro [.v (sv [80,97,114,115,101,73,110,116]),.v (sv s),.v (.iface 271 (.pointer (some ErrAt.b)))])
theorem Z6 (s:Str) (hs:s.length≤1048576) (h:Lib.parseIntB 64 s=.range) (Hp:List AObj):AFun Tryz.prog 213 [A8 s,A2 10,A2 64] Hp (.tup [A2 (Lib.intSat 64 s),N0 s]):=by
 refine AFun.libErr (xs:=[sv s,.int .i64 10,.int .i64 64]) (n:=.int .i64 (Lib.intSat 64 s)) (cs:=[sv [80,97,114,115,101,73,110,116],sv s,.iface 271 (.pointer (some ErrAt.b))]) (te:=264) (fun y hy=>?_) (fun w hg=>?_)
 ·simp only [List.mem_cons,List.mem_nil_iff,or_false] at hy
  rcases hy with rfl|rfl|rfl<;>rfl
 refine (Any.strconv_ParseInt_10_at64_range Tryz.lays174 ⟨s.toArray⟩ (by simp [ByteArray.size];omega) h (.iface 271 (.pointer (some ErrAt.b))) w (O4 hg) (.inr ⟨_,_,rfl⟩)).mono ?_
 rintro e w' ⟨N,rfl,h1,h2,h3⟩
 exact ⟨N,rfl,h1,h2,h3⟩
theorem me (Hp:List AObj):AFun Tryz.prog 214 [.v .nilIface,.v (.iface 271 (.pointer (some ErrAt.b)))] Hp (B2 false):=by
 refine AFun.lib (xs:=[.nilIface,.iface 271 (.pointer (some ErrAt.b))]) (v:=.bool false) (fun G w=>.v _ _) (fun w hg=>?_)
 refine (Tryz.is_nil _ w).mono ?_
 rintro e w' ⟨rfl,rfl⟩
 exact W8
theorem Za (s:Str) (Hp:List AObj):AFun Tryz.prog 214 [N0 s,.v (.iface 271 (.pointer (some ErrAt.b)))] Hp (B2 true):=by
 intro d G w vs hn hv hH hT _
 have hsz:vs.size=2:=hn
 have h0:=hv 0 (N0 s) vs[0] rfl (Array.getElem?_eq_getElem (by omega))
 have h1:=I4 (hv 1 (.v (.iface 271 (.pointer (some ErrAt.b)))) vs[1] rfl (Array.getElem?_eq_getElem (by omega)))
 have hvs:vs=#[vs[0],vs[1]]:=by
  apply Array.ext
  ·exact hsz
  intro i hi1 hi2
  match i with
  | 0=>rfl
  | 1=>rfl
  | i+2=>omega
 unfold N0 at h0
 generalize vs[0]=u0 at h0 hvs
 cases h0 with
 | iface _ _ _ u h =>
  cases h with
  | ro _ _ ad f hs h1' hf hr =>
   obtain ⟨ab,ao,asp⟩:=ad
   simp only at hs
   subst hs
   have hc:=(hf 2 _ rfl).2
   have he:=I4 (hr 2 _ rfl)
   rw [he] at hc
   rw [hvs,h1]
   refine (callsIn_wide.2 (Tryz.is_range ab ao ErrAt.b w hc)).mono ?_
   rintro e w' ⟨rfl,rfl⟩
   exact ⟨_,G,_,Hp,rfl,.v _ _,hH,hT,Keep.refl _ _ _,rfl,rfl,rfl⟩
end Go.SX.Nb
namespace Go.SX.Nb
open Go Go.SX Go.Proofs
variable [ErrAt]
set_option maxRecDepth 4000
def Wc:Str:=[32,105,110,116,32,116,101,120,116,32,98,111,111,108]
def kindNames:List Str:=[[],[105,110,116],[116,101,120,116],[98,111,111,108]]
theorem gj:Jm Wc [32]=kindNames:=by kernel_rfl
def Ah (k:Int):Str:=if k<1∨3<k then [] else kindNames.getD k.toNat []
theorem c68 (k:Int) (Hp:List AObj):AFun Tryz.prog 68 [A2 k] Hp (A8 (Ah k)):=by
 refine ACall.body [.tmp 2] [0] Tryz.func68 Tryz.ntmps68 (fun d=>?_)
 refine Z48 ?_;refine Z35 ?_;refine Rr ?_;refine R.fin [0,8] ?_
 refine W.cond (fun ht8=>?_) (fun ht8=>?_)
 ·refine Z94 ?_;refine K.thR ?_;exact K.fin (V.one V.tmp) ⟨by rw [show Ah k=[] from if_pos (by simpa using ht8)],rfl⟩
 refine Uf ?_
 have hk:1≤k∧k≤3:=by simp at ht8;omega
 have hget:(kindNames.map A8)[k.toNat]? = some (A8 (kindNames.getD k.toNat [])):=by
  have hlt:k.toNat<kindNames.length:=by show k.toNat<4;omega
  rw [List.getElem?_map,List.getElem?_eq_getElem hlt,List.getD_eq_getElem?_getD,List.getElem?_eq_getElem hlt]
  rfl
 refine R.call Tryz.call29 (gj ▸ c29 Wc [32] (by decide) (by decide) _) ?_;refine R.go ?_
 refine R.go (h:=Q.indexAddr (k.toNat) (A8 (kindNames.getD k.toNat [])) (fun _=>hget)) (hr:=?_)
 refine Z0 ?_;refine Z4 ?_;exact K.fin (V.one V.tmp) ⟨by rw [show Ah k=kindNames.getD k.toNat [] from if_neg (by omega)],rfl⟩

def Dc (s of:Str):Bool:=(!(s==[]) && !Lib.contains s [32])&&Lib.contains of ([32]++s++[32])
theorem zy (s of:Str) (hs:s.length≤1048576) (ho:of.length≤1048576) (Hp:List AObj):AFun Tryz.prog 144 [A8 s,A8 of] Hp (B2 (Dc s of)):=by
 refine ACall.body [.tmp 4] [0,1] Tryz.func144 Tryz.ntmps144 (fun d=>?_)
 refine Z53 ?_;refine Z13 ?_;refine G.go ?_;refine G.call Tryz.call140 (fun hB=>gh s [32] (by omega) _) ?_;refine G.go ?_;refine Z42 ?_;refine Z9 ?_;refine G.call Tryz.call140 (fun hB=>gh of ([32]++s++[32]) (by omega) _) ?_;refine Z0 ?_;exact Z82

def Si:Str:=[108,101,110,58,49,32,115,116,114,58,49,32,110,117,109,58,49,32,105,115,110,117,108,108,58,49,32,110,118,108,58,50,32,108,101,102,116,58,50,32,114,105,103,104,116,58,50,32,105,102,58,51]
def arityList:List (Str×UInt8):=[([108,101,110],49),([115,116,114],49),([110,117,109],49),([105,115,110,117,108,108],49),([110,118,108],50),([108,101,102,116],50),([114,105,103,104,116],50),([105,102],51)]
def Fy (p:Str×UInt8):Str:=p.1++[58,p.2]
theorem Zb:Jm Si [32]=arityList.map Fy:=by kernel_rfl
theorem mf {p:Str×UInt8} (hp:p∈arityList):Lib.cut (Fy p) [58]=(p.1,[p.2],true):=by
 have h:(arityList.all fun p=>decide (Lib.cut (Fy p) [58]=(p.1,[p.2],true)))=true:=by kernel_rfl
 exact of_decide_eq_true (List.all_eq_true.1 h p hp)
def mg (p:Str×UInt8):Int:=IntKind.i64.wrap (IntKind.u8.wrap ((p.2.toNat:Int)-48))
def Aw (nm:Str):Int:=match arityList.find? (fun p=>p.1==nm) with|some p=>mg p|none => -1
theorem ce {α:Type} {p:α→Bool} {l:List α} {x:Nat} (h:x<l.length) (hp:p l[x]=true) (h2:∀(j:Nat) (y:α),j<x→l[j]? = some y→p y=false):l.find? p=some l[x]:=by
 rw [List.find?_eq_some_iff_getElem]
 exact ⟨hp,x,h,rfl,fun j hj=>by simpa using h2 j l[j] hj (List.getElem?_eq_getElem _)⟩
theorem Sj {α:Type} {p:α→Bool} {l:List α} (h:∀(j:Nat) (y:α),l[j]? = some y→p y=false):l.find? p=none:=by
 rw [List.find?_eq_none]
 intro y hy
 obtain ⟨j,hj⟩:=List.getElem?_of_mem hy
 simpa using h j y hj
theorem N1:arityList.length=8:=rfl
theorem gk {p:Str×UInt8} (hp:p∈arityList):(Fy p).length<4294967281:=by
 have h:(arityList.all fun p=>decide ((Fy p).length<4294967281))=true:=by kernel_rfl
 exact of_decide_eq_true (List.all_eq_true.1 h p hp)
theorem c145 (nm:Str) (Hp:List AObj):AFun Tryz.prog 145 [A8 nm] Hp (A2 (Aw nm)):=by
 refine ACall.body [.tmp 2] [0] Tryz.func145 Tryz.ntmps145 (fun d=>?_)
 refine Z48 ?_;refine Z49 ?_;refine R.call Tryz.call29 (Zb ▸ c29 Si [32] (by decide) (by decide) _) ?_;refine Z0 ?_;refine R.fin [0,8,9,10] ?_
 refine AW.loopC (α:=Nat) (fun x=>⟨28,A6 0 (A8 nm) (A6 8 (Ed (arityList.map Fy)) (A6 9 (A2 8) (A6 10 (A2 (x:Nat)) (fun _=>.any)))),Hp,[],[],none⟩) (fun x=>x≤8∧∀(j:Nat) (y:Str×UInt8),j<x→arityList[j]? = some y→(y.1==nm)=false) (fun x=>8-x) (0) (by simp) (StLe.refl _) rfl (fun x hx=>?_)
 refine Z3 ?_;refine R.fin [0,8,9,10,11] ?_
 refine W.condX (fun ht11=>?_) (fun ht11=>?_)
 ·have hlt:x<arityList.length:=by rw [N1];simp at ht11;omega
  have hal:=N1
  have hget:((arityList.map Fy).map A8)[x]? = some (A8 (Fy arityList[x])):=by rw [List.map_map];exact C4 hlt
  refine Z88 ?_
  refine R.go (h:=Q.indexAddr (x) (A8 (Fy arityList[x])) (fun _=>hget)) (hr:=?_)
  refine Z0 ?_;refine R.fin [0,4,8,9,10] ?_;refine Z3 ?_;refine R.call Tryz.call118 ((mf (List.getElem_mem hlt)) ▸ zv (Fy arityList[x]) [58] (gk (List.getElem_mem hlt)) _) ?_;refine Z0 ?_;refine Z45 ?_;refine R.fin [0,5,6,8,9,10] ?_;refine Z13 ?_;refine R.fin [0,6,8,9,10,22] ?_
  refine W.cond (fun ht22=>?_) (fun ht22=>?_)
  ·refine Z3 ?_
   refine R.go (h:=Q.sindex 0 arityList[x].2 (fun _=>rfl)) (hr:=?_)
   refine R.go (h:=Q.sub) (hr:=?_)
   refine Z0 ?_;refine Yq ?_;exact K.fin (V.one V.tmp) ⟨by rw [Aw,ce hlt ht22 hx.2];rfl,rfl⟩
  refine Z75 ?_;refine R.fin [0,8,9,10] ?_;exact K.lpN (x+1) ⟨by omega,Eh hlt hx.2 ht22⟩ (by omega) (StCut.of_eq rfl)
 have hal:=N1
 refine Z63 ?_;refine Z4 ?_;exact K.fin (V.one V.tmp) ⟨by rw [Aw,Sj (Lo (by simp at ht11;omega) hx.2)],rfl⟩

def Zc (s:Str):Int:=match Lib.parseIntB 64 s with|.ok v=>v|_=>Lib.intSat 64 s
def Rv (s:Str):Bool:=match Lib.parseIntB 64 s with|.ok _=>false|_=>true
def Rw (s:Str):AV:=bif Rv s then N0 s else .v .nilIface
theorem Zd (s:Str):(Rw s).strip=Rw s:=by unfold Rw;cases Rv s<;>rfl
attribute [go_sem] Zd
theorem c213 (s:Str) (hs:s.length≤1048576) (h:rk (Lib.parseIntB 64 s)=false) (Hp:List AObj):AFun Tryz.prog 213 [A8 s,A2 10,A2 64] Hp (.tup [A2 (Zc s),Rw s]):=by
 cases hp:Lib.parseIntB 64 s with
 | ok v =>
  have:=rl s hs v hp Hp
  rwa [show v=Zc s by unfold Zc;rw [hp],show AV.v .nilIface=Rw s by unfold Rw Rv;rw [hp];rfl] at this
 | range =>
  have:=Z6 s hs hp Hp
  rwa [show Lib.intSat 64 s=Zc s by unfold Zc;rw [hp],show N0 s=Rw s by unfold Rw Rv;rw [hp];rfl] at this
 | _=>rw [hp] at h;cases h
theorem AB7 (s:Str) (Hp:List AObj):AFun Tryz.prog 214 [Rw s,.v (.iface 271 (.pointer (some ErrAt.b)))] Hp (B2 (Rv s)):=by
 unfold Rw
 cases Rv s
 ·exact me Hp
 exact Za s Hp
theorem mh (s t:Str):(Lib.trimPrefix s t).length≤s.length:=by
 unfold Lib.trimPrefix;split<;>simp
theorem gm {d:Str} {b:Bool} (h:(((d==[]) || b)==false)=true):d≠[]:=by rintro rfl;simp at h
theorem L7:∀c∈digs,c.toNat<128:=by decide
theorem Pl (s:Str):((((Lib.trimPrefix s [45]==[]) || (Lib.trimS (Lib.trimPrefix s [45]) digs != [])) || ((((Lib.trimPrefix s [45]).headD 0).toNat:Int)==48&&decide ((1:Int)<s.length))))=Ev s:=by
 unfold Ev Ks
 have e1:((((Lib.trimPrefix s [45]).headD 0).toNat:Int)==48)=((Lib.trimPrefix s [45]).headD 0==48):=by
  rw [Bool.eq_iff_iff]
  simp only [beq_iff_eq]
  constructor
  ·intro h
   exact UInt8.toNat_inj.1 (by have:(48:UInt8).toNat=48:=rfl;omega)
  intro h;rw [h];rfl
 have e2:decide ((1:Int)<s.length)=decide (1<s.length):=by rw [decide_eq_decide];omega
 rw [e1,e2]
 rfl
theorem gn {s:Str} (hb:Ev s=false) (h:Rv s=true):Cd s=(0,4):=by
 unfold Cd
 rw [hb]
 have:=Jn hb
 unfold Rv at h
 revert h this
 cases Lib.parseIntB 64 s with
 | ok v=>intro h;cases h
 | range=>intro _ _;rfl
 | _=>intro _ h;cases h
theorem wj {s:Str} (hb:Ev s=false) (h:Rv s=false):Cd s=(Zc s,0):=by
 unfold Cd Zc
 rw [hb]
 unfold Rv at h
 revert h
 cases Lib.parseIntB 64 s with
 | ok v=>intro h;rfl
 | _=>intro h;cases h
theorem mi (s:Str):s.take (min s.length 200)=s.take 200:=by
 rcases Nat.le_total s.length 200 with h|h
 ·rw [Nat.min_eq_left h,List.take_of_length_le (Nat.le_refl _),List.take_of_length_le h]
 rw [Nat.min_eq_right h]
theorem AB8 (s:Str) (hs:s.length≤1048576) (Hp:List AObj):AFun Tryz.prog 189 [A8 s] Hp (.tup [A2 (Cd s).1,A2 (Cd s).2]):=by
 refine ACall.body [.tmp 2,.tmp 3] [0] Tryz.func189 Tryz.ntmps189 (fun d=>?_)
 refine Z1 ?_;refine R.fin [0] ?_;refine Z3 ?_;refine R.call Tryz.call211 (AB6 s [45] _) ?_;refine R.go ?_;refine R.fin [0,4] ?_;refine Z35 ?_;refine G.go ?_
 refine G.call Tryz.call212 (fun hB=>c212 (Lib.trimPrefix s [45]) digs (by have:=mh s [45];omega) (by decide) L7 _) ?_
 refine G.go ?_;refine Ui ?_
 refine G.go (h:=Q.sindex 0 ((Lib.trimPrefix s [45]).headD 0) (fun hB=>Sh (gm hB))) (hr:=?_)
 refine Z9 ?_;refine Z9 ?_;refine Rr ?_;refine R.fin [0,25] ?_
 refine W.cond (fun ht25=>?_) (fun ht25=>?_)
 ·have hb:Ev s=true:=by rw [←Pl];exact ht25
  refine Z1 ?_;refine Z70 ?_;exact K.fin (V.two V.tmp V.tmp) ⟨by rw [Cd,hb];rfl,rfl⟩
 have hb:Ev s=false:=by rw [←Pl];exact ht25
 refine Rt ?_;refine R.call Tryz.call213 (c213 s hs (Jn hb) _) ?_;refine Z45 ?_;refine R.fin [5,6] ?_;refine Z46 ?_;refine R.loadGlob Tryz.isAgg77 (fun w hg=>O4 hg) ?_;refine R.call Tryz.call214 (AB7 s _) ?_;refine R.fin [5,33] ?_
 refine W.cond (fun ht33=>?_) (fun ht33=>?_)
 ·refine Z1 ?_;refine Z70 ?_;exact K.fin (V.two V.tmp V.tmp) ⟨by rw [gn hb ht33],rfl⟩
 refine Uj ?_;refine Z34 ?_;exact K.fin (V.two V.tmp V.tmp) ⟨by rw [wj hb ht33],rfl⟩

theorem AB9 (n:Int) (h0 : -9223372036854775808≤n) (h1:n≤9223372036854775807) (Hp:List AObj):AFun Tryz.prog 200 [A2 n] Hp (A8 (Lib.itoa n)):=by
 refine ACall.body [.tmp 2] [0] Tryz.func200 Tryz.ntmps200 (fun d=>?_)
 refine Z48 ?_;refine Z3 ?_;refine R.call Tryz.call220 (AB3 n h0 h1 _) ?_;refine R.go ?_;exact Z73

theorem ABa (Hp:List AObj):AFun Tryz.prog 184 [] Hp (Um ⟨0,0,[]⟩):=by
 refine ACall.body [.cell 0 67] [] Tryz.func184 Tryz.ntmps184 (fun d=>?_)
 refine Z23 ?_;refine R.fin [0] ?_;refine Z52 ?_;refine Fk ?_;refine R.fin [0] ?_;refine AW.ret ?_;exact K.fin (V.one (V.cellN jA jS))

theorem ABb (n:Int) (Hp:List AObj):AFun Tryz.prog 190 [A2 n] Hp (Um ⟨1,n,[]⟩):=by
 refine ACall.body [.cell 2 67] [0] Tryz.func190 Tryz.ntmps190 (fun d=>?_)
 refine Z38 ?_;refine za ?_;exact r8

theorem ABc (b:Bool) (Hp:List AObj):AFun Tryz.prog 185 [B2 b] Hp (Um ⟨3,if b then 1 else 0,[]⟩):=by
 refine ACall.body [.cell 2 67] [0] Tryz.func185 Tryz.ntmps185 (fun d=>?_)
 refine Z38 ?_;refine Z52 ?_;refine Z83 ?_;refine Z46 ?_;refine R.fin [2,3,5] ?_
 refine W.cond (fun ht5=>?_) (fun ht5=>?_)
 ·refine AW.region ?_;refine Z51 ?_;refine Gn ?_;refine K.thN ?_;refine Z3 ?_;exact yx
 refine Rt ?_;exact yx

theorem c210 (s:Str) (Hp:List AObj):AFun Tryz.prog 210 [A8 s] Hp (Um ⟨2,0,s.take 200⟩):=by
 refine ACall.body [.cell 2 67] [0] Tryz.func210 Tryz.ntmps210 (fun d=>?_)
 refine Z38 ?_;refine Z13 ?_;refine R.minI ?_
 refine R.go (h:=Q.scutH (min s.length 200) (fun _=>Nat.zero_le _) (fun _=>Nat.min_le_left _ _) (hb:=fun _=>by split<;>omega)) (hr:=?_)
 refine ge ?_;refine Z7 ?_;exact K.fin (V.one (V.cellN jA jS)) ⟨by rw [mi],rfl⟩

theorem Ze {p s:Str} (h:p.isPrefixOf s=true):p.length≤s.length:=(List.isPrefixOf_iff_prefix.1 h).length_le
theorem Zf (s o:Str) (h:0≤Lib.index s o):(Lib.index s o).toNat+o.length≤s.length:=by
 induction s with
 | nil =>
  unfold Lib.index at h ⊢
  split at h
  ·rename_i he
   rw [if_pos he]
   cases o with
   | nil=>simp
   | cons a b=>simp at he
  omega
 | cons b l ih =>
  unfold Lib.index at h ⊢
  split at h
  ·rename_i hp
   rw [if_pos hp]
   have:=Ze hp
   simpa using this
  rename_i hp
  rw [if_neg hp]
  split at h
  ·omega
  rename_i hi
  rw [if_neg hi]
  have hg:=Lib.index_ge l o
  have hi':Lib.index l o ≠ -1:=by simpa using hi
  have:=ih (by omega)
  simp only [List.length_cons]
  omega
def cf:Val:=⟨0,0,[]⟩
def Wd (b:Bool):Val:=⟨3,if b then 1 else 0,[]⟩
def rm (n:Int):Prop := -9223372036854775808≤n∧n≤9223372036854775807
def Bq (v:Val):Str:=
 if !By v then [] else if v.kind==1 then Lib.itoa v.n else if v.kind==2 then [39]++Lib.replaceAll v.s [39] [39,39]++[39]
 else if v.kind==0 then [110,117,108,108] else if v.n==1 then [116,114,117,101] else [102,97,108,115,101]
theorem gq {v:Val} (h:By v=true) (h2:(v.kind==2)=true):v.s.length≤200:=by
 have e:v.kind=2:=by simpa using h2
 unfold By at h
 rw [e] at h
 simp at h
 omega
theorem We (s o:Str) (ho:1≤o.length):Lib.countB ⟨s.toArray⟩ ⟨o.toArray⟩≤s.length:=Lib.countB_le ⟨o.toArray⟩ (by simpa [ByteArray.size] using ho) s.length ⟨s.toArray⟩ (by simp [ByteArray.size])
theorem O7 (o n:Str) (B:Nat) (hn:n.length≤B*o.length) (hB:1≤B):∀(k:Nat) (s:Str),(Lib.replaceK o n k s).length≤B*s.length
 | 0,s=>by rw [Lib.replaceK];exact Nat.le_mul_of_pos_left _ hB
 | k+1,s=>by
  rw [Lib.replaceK]
  split
  ·exact Nat.le_mul_of_pos_left _ hB
  rename_i h
  have ih:=O7 o n B hn hB k (s.drop ((Lib.index s o).toNat+o.length))
  have hx:(Lib.index s o).toNat+o.length≤s.length:=by
   have hg:=Lib.index_ge s o
   have hi:Lib.index s o ≠ -1:=by simpa using h
   exact Zf s o (by omega)
  simp only [List.length_append,List.length_drop,List.length_take] at ih ⊢
  have h1:min (Lib.index s o).toNat s.length≤B*(Lib.index s o).toNat:=Nat.le_trans (Nat.min_le_left _ _) (Nat.le_mul_of_pos_left _ hB)
  have h2:B*s.length=B*(Lib.index s o).toNat+B*o.length+B*(s.length-((Lib.index s o).toNat+o.length)):=by
   rw [←Nat.mul_add,←Nat.mul_add];congr 1;omega
  omega
theorem Rx (s o n:Str) (B:Nat) (hn:n.length≤B*o.length) (hB:1≤B):(Lib.replaceAll s o n).length≤B*s.length:=by
 unfold Lib.replaceAll Lib.replace
 split
 ·exact Nat.le_mul_of_pos_left _ hB
 exact O7 o n B hn hB _ s
theorem zz (v:Val) (hn:rm v.n) (Hp:List AObj):AFun Tryz.prog 170 [Um v] Hp (A8 (Bq v)):=by
 refine ACall.body [.tmp 2] [0] Tryz.func170 Tryz.ntmps170 (fun d=>?_)
 refine Z89 ?_;refine Z92 ?_;refine R.call Tryz.call143 (c143 v _) ?_;refine Z0 ?_;refine R.fin [1,3] ?_
 refine W.cond (fun ht3=>?_) (fun ht3=>?_)
 ·refine Z3 ?_;refine Z29 ?_;exact K.fin (V.one V.tmp) ⟨by simp only [Bq,ht3,if_true],rfl⟩
 have hp:By v=true:=by simpa using ht3
 refine Z28 ?_;refine R.fin [1,7] ?_
 refine W.cond (fun ht7=>?_) (fun ht7=>?_)
 ·refine Z1 ?_;refine R.call Tryz.call200 (AB9 v.n hn.1 hn.2 _) ?_;refine R.go ?_;refine Z29 ?_;exact K.fin (V.one V.tmp) ⟨by simp only [Bq,hp,ht7,Bool.not_true,Bool.false_eq_true,if_false,if_true];try rfl,rfl⟩
 refine Z28 ?_;refine R.fin [1,14] ?_
 refine W.cond (fun ht14=>?_) (fun ht14=>?_)
 ·refine Z1 ?_
  have hl:=gq hp ht14
  have hrl:=Rx v.s [39] [39,39] 2 (by decide) (by decide)
  refine R.call Tryz.call201 (zw v.s [39] [39,39] (by omega) (by decide) (by have:=We v.s [39] (by decide);simp;omega) _) ?_
  refine Z19 ?_;refine Z29 ?_;exact K.fin (V.one V.tmp) ⟨by simp only [Bq,hp,ht7,ht14,Bool.not_true,Bool.false_eq_true,if_false,if_true];try rfl,rfl⟩
 refine Z28 ?_;refine R.fin [1,23] ?_
 refine W.cond (fun ht23=>?_) (fun ht23=>?_)
 ·refine Z3 ?_;refine Z29 ?_;exact K.fin (V.one V.tmp) ⟨by simp only [Bq,hp,ht7,ht14,ht23,Bool.not_true,Bool.false_eq_true,if_false,if_true];try rfl,rfl⟩
 refine Z28 ?_;refine R.fin [27] ?_
 refine W.cond (fun ht27=>?_) (fun ht27=>?_)
 ·refine Z3 ?_;refine Z29 ?_;exact zb
 refine Yp ?_;exact zb

def Uo (s:Str):Str:=Lib.replaceAll ((s.take (s.length-1)).drop 1) [39,39] [39]
def Lq (s:Str):Val:=⟨2,0,(Uo s).take 200⟩
def Sk (s:Str):Val×Int:=if !(Bq (Lq s)==s) then (cf,7) else (Lq s,0)
theorem ABd (s:Str) (h2:2≤s.length) (hs:s.length≤1048576) (Hp:List AObj):AFun Tryz.prog 188 [A8 s] Hp (.tup [Um (Sk s).1,A2 (Sk s).2]):=by
 refine ACall.body [.cell 2 67,.tmp 3] [0] Tryz.func188 Tryz.ntmps188 (fun d=>?_)
 refine Z23 ?_;refine R.go ?_;refine R.fin [0,2] ?_;refine Z28 ?_
 refine R.go (h:=Q.scutLH 1 (s.length-1) (fun _=>show 1≤s.length-1 by omega) (fun _=>show s.length-1≤s.length by omega)) (hr:=?_)
 refine R.call Tryz.call201 (zw ((s.take (s.length-1)).drop 1) [39,39] [39] (by simp;omega) (by decide) (by have:=We ((s.take (s.length-1)).drop 1) [39,39] (by decide);simp at this ⊢;omega) _) ?_
 refine R.go ?_;refine R.fin [0,2,4] ?_;refine Z3 ?_;refine R.call Tryz.call210 (c210 (Uo s) _) ?_;refine Z16 ?_;refine R.fin [0,2,5] ?_;refine Z46 ?_
 refine R.call Tryz.call170 (zz (Lq s) ⟨by show (-9223372036854775808:Int)≤0;decide,by show (0:Int)≤9223372036854775807;decide⟩ _) ?_
 refine Z0 ?_;refine R.fin [2,5,17] ?_
 refine W.cond (fun ht17=>?_) (fun ht17=>?_)
 ·refine Z52 ?_;refine Z99 ?_;refine Z70 ?_;exact zc
 refine Rt ?_;refine gc ?_;exact zc

def J5 (s:Str):Bool:=(decide ((1:Int)<s.length)&&Lib.hasPrefix s [39])&&Lib.hasSuffix s [39]
def Cl (s:Str):Val×Int:=
 if s==[110,117,108,108] then (cf,0) else if (s==[116,114,117,101]) || (s==[102,97,108,115,101]) then (Wd (s==[116,114,117,101]),0)
 else if J5 s then Sk s else if (Cd s).2==0 then (⟨1,(Cd s).1,[]⟩,0) else if (Cd s).2==4 then (cf,4) else (cf,7)
theorem mj {s:Str} (h:J5 s=true):2≤s.length:=by
 unfold J5 at h
 simp only [Bool.and_eq_true,decide_eq_true_eq] at h
 omega
theorem wl (s:Str) (hs:s.length≤1048576) (Hp:List AObj):AFun Tryz.prog 157 [A8 s] Hp (.tup [Um (Cl s).1,A2 (Cl s).2]):=by
 refine ACall.body [.cell 2 67,.tmp 3] [0] Tryz.func157 Tryz.ntmps157 (fun d=>?_)
 refine Z23 ?_;refine R.go ?_;refine R.fin [0,2] ?_;refine Z24 ?_;refine Z13 ?_;refine R.fin [0,2,6] ?_
 refine W.cond (fun ht6=>?_) (fun ht6=>?_)
 ·refine Dq ?_;refine R.call Tryz.call184 (ABa _) ?_;refine gc ?_;refine Z10 ?_;exact K.fin (V.two (V.cellN jA jS) V.tmp) ⟨by simp only [Cl,ht6,if_true,if_false,Bool.false_eq_true];try rfl,rfl⟩
 refine Yr ?_;refine R.fin [0,2,10] ?_
 refine W.cond (fun ht10=>?_) (fun ht10=>?_)
 ·refine Z1 ?_;refine R.call Tryz.call185 (ABc (s==[116,114,117,101]) _) ?_;refine gc ?_;refine Z10 ?_;exact K.fin (V.two (V.cellN jA jS) V.tmp) ⟨by simp only [Cl,ht6,ht10,if_true,if_false,Bool.false_eq_true];try rfl,rfl⟩
 refine Z28 ?_;refine G.go ?_;refine G.call Tryz.call186 (fun hB=>AAz s [39] _) ?_;refine Ui ?_;refine G.call Tryz.call187 (fun hB=>AB0 s [39] (by omega) _) ?_;refine Z0 ?_;refine R.fin [0,2,20] ?_
 refine W.cond (fun ht20=>?_) (fun ht20=>?_)
 ·have hq:J5 s=true:=ht20
  refine Z3 ?_;refine R.call Tryz.call188 (ABd s (mj hq) hs _) ?_;refine Z0 ?_;refine gc ?_;refine Z10 ?_;exact K.fin (V.two (V.cellN jA jS) V.tmp) ⟨by simp only [Cl,ht6,ht10,hq,if_true,if_false,Bool.false_eq_true];try rfl,rfl⟩
 have hq:J5 s=false:=ht20
 refine Z20 ?_;refine Z3 ?_;refine R.call Tryz.call189 (AB8 s hs _) ?_;refine Z45 ?_;refine R.fin [2,4,5] ?_;refine Z46 ?_;refine R.fin [2,4,5,41] ?_;refine Z69 ?_;refine R.fin [2,4,5,41,42] ?_
 refine W.cond (fun ht42=>?_) (fun ht42=>?_)
 ·refine Z3 ?_;refine R.call Tryz.call190 (ABb (Cd s).1 _) ?_;refine gc ?_;refine Z10 ?_;exact K.fin (V.two (V.cellN jA jS) V.tmp) ⟨by simp only [Cl,ht6,ht10,hq,ht42,if_true,if_false,Bool.false_eq_true];try rfl,rfl⟩
 refine Z1 ?_;refine R.fin [2,5,46] ?_
 refine W.cond (fun ht46=>?_) (fun ht46=>?_)
 ·refine Z52 ?_;refine Z51 ?_;refine R.go ?_;refine Z34 ?_;refine Z10 ?_;exact K.fin (V.two (V.cellN jA jS) V.tmp) ⟨by simp only [Cl,ht6,ht10,hq,ht42,ht46,if_true,if_false,Bool.false_eq_true];rw [show (Cd s).2=4 by simpa using ht46];rfl,rfl⟩
 refine Z20 ?_;refine Z52 ?_;refine gc ?_;exact K.fin (V.two (V.cellN jA jS) V.tmp) ⟨by simp only [Cl,ht6,ht10,hq,ht42,ht46,if_true,if_false,Bool.false_eq_true];try rfl,rfl⟩

def blanks:Str:=[32,9,10]
/-- What stands behind blanks and notes. -/
def Di:Str→Bool→Str
 | [],_=>[]
 | c::r,false=>if blanks.contains c then Di r false else if c==35 then Di r true else c::r
 | c::r,true=>if c==10 then Di r false else Di r true
def runN (s of:Str):Nat:=s.length-(Lib.trimLeftS s of).length
theorem Lr (s of:Str):Gq s of=(runN s of:Int):=by
 have:=Ow s of
 unfold Gq runN
 omega
theorem Up (s of:Str):runN s of≤s.length:=Nat.sub_le _ _
theorem ml (s of:Str):s.drop (runN s of)=Lib.trimLeftS s of:=by
 unfold runN Lib.trimLeftS
 have h:∀l:Str,l.drop (l.length-(l.dropWhile (of.contains ·)).length)=l.dropWhile (of.contains ·):=by
  intro l
  have e:=List.takeWhile_append_dropWhile (p:=(of.contains ·)) (l:=l)
  have hl:l.length-(l.dropWhile (of.contains ·)).length=(l.takeWhile (of.contains ·)).length:=by
   have:=congrArg List.length e
   simp only [List.length_append] at this
   omega
  rw [hl]
  conv=>lhs;rw [←e]
  rw [List.drop_left']
  rw [e]
 exact h s
theorem Wf (s of:Str):s.take (runN s of)=s.takeWhile (of.contains ·):=by
 have e:=List.takeWhile_append_dropWhile (p:=(of.contains ·)) (l:=s)
 have hl:runN s of=(s.takeWhile (of.contains ·)).length:=by
  unfold runN Lib.trimLeftS
  have:=congrArg List.length e
  simp only [List.length_append] at this
  omega
 rw [hl]
 conv=>lhs;rw [←e]
 rw [List.take_left']
 rw [e]
theorem N2:∀s:Str,Di (Lib.trimLeftS s blanks) false=Di s false
 | []=>rfl
 | c::r=>by
  unfold Lib.trimLeftS
  rw [List.dropWhile_cons]
  by_cases h:blanks.contains c=true
  ·rw [if_pos h,Di,if_pos h]
   exact N2 r
  rw [if_neg h]
theorem Sl (of:Str):∀(s:Str) (c:UInt8) (t:Str),Lib.trimLeftS s of=c::t→of.contains c=false
 | [],c,t,h=>by cases h
 | b::r,c,t,h=>by
  unfold Lib.trimLeftS at h
  rw [List.dropWhile_cons] at h
  split at h
  ·exact Sl of r c t h
  rename_i hb
  injection h with h1 h2
  subst h1
  simpa using hb
def Fz:Str→Str
 | []=>[]
 | c::r=>if c==10 then r else Fz r
theorem wm (s:Str):(Lib.cut s [10]).2.1=Fz s:=by
 unfold Lib.cut
 induction s with
 | nil=>rfl
 | cons c r ih =>
  have hg:=Lib.index_ge r [10]
  rw [Fz]
  unfold Lib.index
  by_cases hc:c=10
  ·subst hc
   simp [List.isPrefixOf]
  have h1:([10]:Str).isPrefixOf (c::r)=false:=by simp [List.isPrefixOf,Ne.symm hc]
  have h2:(c==10)=false:=by simpa using hc
  rw [h1,h2]
  simp only [Bool.false_eq_true,if_false]
  by_cases hi:Lib.index r [10] = -1
  ·rw [hi] at ih ⊢
   simpa using ih
  have h3:(Lib.index r [10] == -1)=false:=by simpa using hi
  rw [h3]
  simp only [Bool.false_eq_true,if_false]
  rw [if_pos (by omega)] at ih ⊢
  have e:(Lib.index r [10]+1).toNat=(Lib.index r [10]).toNat+1:=by omega
  rw [e]
  rw [←ih]
  show (c::r).drop _=_
  rw [show (Lib.index r [10]).toNat+1+([10]:Str).length=((Lib.index r [10]).toNat+([10]:Str).length)+1 by omega,List.drop_succ_cons]
theorem Sm:∀t:Str,Di t true=Di (Fz t) false
 | []=>rfl
 | c::r=>by
  rw [Di,Fz]
  split
  ·rfl
  exact Sm r
theorem Pm:∀t:Str,(Fz t).length≤t.length
 | []=>Nat.le_refl _
 | c::r=>by
  rw [Fz]
  split
  ·simp
  have:=Pm r;simp only [List.length_cons];omega
theorem Ke:∀(s:Str) (b:Bool),(Di s b).length≤s.length
 | [],b=>by simp [Di]
 | c::r,false=>by
  rw [Di]
  split
  ·have:=Ke r false;simp only [List.length_cons];omega
  split
  ·have:=Ke r true;simp only [List.length_cons];omega
  exact Nat.le_refl _
 | c::r,true=>by
  rw [Di]
  split
  ·have:=Ke r false;simp only [List.length_cons];omega
  have:=Ke r true;simp only [List.length_cons];omega
def gapM (s:Str):Nat:=s.length-(Di s false).length
theorem gr {d:Str} (h:((d==[])==false)=true):d≠[]:=by rintro rfl;simp at h
theorem Uq:∀c∈blanks,c.toNat<128:=by decide
/-- The gap is at its end. -/
theorem rn {x s:Str} (hx:Di x false=Di s false) (h:((Lib.trimLeftS x blanks==[]) || ((((Lib.trimLeftS x blanks).headD 0).toNat:Int) != 35))=true):Di s false=Lib.trimLeftS x blanks:=by
 rw [←hx,←N2]
 cases ht:Lib.trimLeftS x blanks with
 | nil=>rfl
 | cons c t =>
  rw [ht] at h
  have hb:=Sl blanks x c t ht
  have hc:(c==35)=false:=by
   simp at h
   rw [beq_eq_false_iff_ne]
   rintro rfl
   exact h rfl
  rw [Di,hb,hc]
  rfl
theorem wn {x s:Str} (hx:Di x false=Di s false) (h:((Lib.trimLeftS x blanks==[]) || ((((Lib.trimLeftS x blanks).headD 0).toNat:Int) != 35))=false):
  Di (Lib.cut (Lib.trimLeftS x blanks) [10]).2.1 false=Di s false∧(Lib.cut (Lib.trimLeftS x blanks) [10]).2.1.length<x.length:=by
 have hl:=Ow x blanks
 rw [wm,←hx,←N2 x]
 cases ht:Lib.trimLeftS x blanks with
 | nil=>rw [ht] at h;simp at h
 | cons c t =>
  rw [ht] at h hl
  have hc:c=35:=by
   simp at h
   exact UInt8.toNat_inj.1 (by have:(35:UInt8).toNat=35:=rfl;omega)
  subst hc
  have ha:=Pm t
  refine ⟨?_,?_⟩
  ·rw [Fz,Di]
   have e1:blanks.contains 35=false:=by decide
   rw [e1]
   exact (Sm t).symm
  rw [Fz]
  simp only [List.length_cons] at hl
  show (Fz t).length<_
  omega
theorem c88 (s:Str) (hs:s.length≤1048576) (Hp:List AObj):AFun Tryz.prog 88 [A8 s] Hp (A2 (gapM s)):=by
 refine ACall.body [.tmp 2] [0] Tryz.func88 Tryz.ntmps88 (fun d=>?_)
 refine Z48 ?_;refine ln ?_
 refine AW.loopC (α:=Str) (fun x=>⟨27,A6 0 (A8 s) (A6 3 (A8 x) (fun _=>.any)),Hp,[],[],none⟩) (fun x=>Di x false=Di s false∧x.length≤s.length) (fun x=>x.length) (s) (by simp) (StLe.refl _) rfl (fun x hx=>?_)
 refine AW.block ?_;refine Dq ?_
 have hx2:=hx.2
 have htl:=Ow x blanks
 refine Z0 ?_;refine R.call Tryz.call104 (Z5 x blanks (by omega) (by decide) Uq _) ?_
 refine R.go (h:=Q.scutL (runN x blanks) (fun _=>Up _ _) (fun _=>Nat.le_refl _) (ha:=fun _=>Lr x blanks)) (hr:=?_)
 rw [ml]
 refine R.go ?_;refine Kn ?_;refine Z35 ?_;refine G.go ?_
 refine G.go (h:=Q.sindex 0 ((Lib.trimLeftS x blanks).headD 0) (fun hB=>Sh (gr hB))) (hr:=?_)
 refine W6 ?_;refine R.fin [0,3,15] ?_
 refine W.cond (fun ht15=>?_) (fun ht15=>?_)
 ·have he:=rn hx.1 ht15
  refine Z28 ?_;refine Z0 ?_;refine Z4 ?_;refine K.thR ?_;refine K.blR ?_;refine K.lpR ?_;exact K.fin (V.one V.tmp) ⟨by rw [show ((s.length:Int)-(Lib.trimLeftS x blanks).length)=(gapM s:Int) by unfold gapM;rw [he];omega],rfl⟩
 have he:=wn hx.1 ht15
 refine Z8 ?_;refine Z86 ?_;refine R.call Tryz.call118 (zv (Lib.trimLeftS x blanks) [10] (by omega) _) ?_;refine Z45 ?_;refine Kn ?_;refine K.blN ?_;exact K.lpN _ ⟨he.1,by omega⟩ he.2 (StCut.of_eq rfl)

def Ba (s of:Str):Str:=s.take (runN s of)
theorem Fl (s of:Str):(Ba s of).length≤s.length:=by unfold Ba;simp;omega
def Ir (s:Str):Int×Str×Int×Int:=
 if Ck (Ba s tails) then (2,Ba s tails,(Ba s tails).length,0) else if !C5 (Ba s tails) then (0,[],0,3) else (1,Ba s tails,(Ba s tails).length,0)
abbrev mm (r:Int×Str×Int×Int):AV:=.tup [A2 r.1,A8 r.2.1,A2 r.2.2.1,A2 r.2.2.2]
theorem Wg:∀c∈tails,c.toNat<128:=by decide
theorem Ry:∀c∈letters,c.toNat<128:=by decide
theorem ABe (s:Str) (hs:s.length≤1048576) (Hp:List AObj):AFun Tryz.prog 119 [A8 s] Hp (mm (Ir s)):=by
 refine ACall.body [.tmp 2,.tmp 3,.tmp 4,.tmp 5] [0] Tryz.func119 Tryz.ntmps119 (fun d=>?_)
 refine lu ?_;refine Z1 ?_;refine R.call Tryz.call104 (Z5 s tails hs (by decide) Wg _) ?_
 refine R.go (h:=Q.scutH (runN s tails) (fun _=>Nat.zero_le _) (fun _=>Up _ _) (hb:=fun _=>Lr s tails)) (hr:=?_)
 refine R.go ?_;refine R.fin [6] ?_;refine Z92 ?_
 refine R.call Tryz.call105 (zx (Ba s tails) (by have:=Fl s tails;omega) _) ?_
 refine R.go ?_;refine R.fin [6,11] ?_
 refine W.cond (fun ht11=>?_) (fun ht11=>?_)
 ·refine Dq ?_
  have hwl:=Fl s tails
  refine Z0 ?_;refine Z45 ?_;refine lc ?_;exact K.fin (V.four V.tmp V.tmp V.tmp V.tmp) ⟨by simp only [Ir,ht11,if_true,if_false,Bool.false_eq_true];try rfl,rfl⟩
 refine Z3 ?_
 refine R.call Tryz.call67 (c67 (Ba s tails) (by have:=Fl s tails;omega) _) ?_
 refine Z0 ?_;refine R.fin [6,17] ?_
 refine W.cond (fun ht17=>?_) (fun ht17=>?_)
 ·refine Z28 ?_;refine lc ?_;exact zd
 refine Z20 ?_;refine Dq ?_
 have hwl:=Fl s tails
 refine Z0 ?_;refine Z45 ?_;refine la ?_;exact zd

def Ls (s:Str):Int×Str×Int×Int:=(3,Ba s digs,(Ba s digs).length,(Cl (Ba s digs)).2)
theorem ABf (s:Str) (hs:s.length≤1048576) (Hp:List AObj):AFun Tryz.prog 120 [A8 s] Hp (mm (Ls s)):=by
 refine ACall.body [.tmp 2,.tmp 3,.tmp 4,.tmp 5] [0] Tryz.func120 Tryz.ntmps120 (fun d=>?_)
 refine lu ?_;refine Z1 ?_;refine R.call Tryz.call104 (Z5 s digs hs (by decide) L7 _) ?_
 refine R.go (h:=Q.scutH (runN s digs) (fun _=>Nat.zero_le _) (fun _=>Up _ _) (hb:=fun _=>Lr s digs)) (hr:=?_)
 refine R.go ?_;refine R.fin [6] ?_;refine Z3 ?_
 refine R.call Tryz.call157 (wl (Ba s digs) (by have:=Fl s digs;omega) _) ?_
 refine Z19 ?_;refine Z16 ?_;refine R.go ?_;refine R.fin [6,8] ?_;refine Z28 ?_;refine Z62 ?_;refine la ?_;exact K.fin (V.four V.tmp V.tmp V.tmp V.tmp) ⟨rfl,rfl⟩

/-- Behind a mark: how many bytes up to the one that vt, it too. -/
def Bg:Str→Option Nat
 | []=>none
 | [c]=>if c==39 then some 1 else none
 | c::d::t=>if c==39 then (if d==39 then (Bg t).map (·+2) else some 1) else (Bg (d::t)).map (·+1)
theorem Jo {c:UInt8} (h:¬(c==39)=true) (r:Str):Bg (c::r)=(Bg r).map (·+1):=by
 cases r with
 | nil=>simp [Bg,h]
 | cons d t=>rw [Bg,if_neg h]
theorem Pn (r:Str):Bg (39::r)=match r with
   | []=>some 1
   | d::t=>if d==39 then (Bg t).map (·+2) else some 1:=by
 cases r with
 | nil=>rfl
 | cons d t=>rw [Bg];simp
def G5 (s:Str):Int×Str×Int×Int:=
 match Bg (s.drop 1) with
 | none=>(0,[],0,7)
 | some n=>if (Cl (s.take (n+1))).2 != 0 then (0,[],0,3) else (4,(Cl (s.take (n+1))).1.s,((n+1:Nat):Int),0)
theorem Po:∀l:Str,Lib.indexByte l 39 = -1→Bg l=none
 | [],_=>by rw [Bg]
 | c::r,h=>by
  rw [Lib.indexByte] at h
  split at h
  ·omega
  rename_i hc
  rw [Jo hc]
  split at h
  ·rename_i hi
   rw [Po r (by simpa using hi)]
   rfl
  have:=Lib.indexByte_ge r 39;omega
theorem Wh:∀(l:Str) (k:Nat),Lib.indexByte l 39=(k:Int)→k<l.length∧Bg l=(Bg (l.drop k)).map (·+k)∧l[k]? = some 39
 | [],k,h=>by rw [Lib.indexByte] at h;omega
 | c::r,k,h=>by
  rw [Lib.indexByte] at h
  split at h
  ·rename_i hc
   have:k=0:=by omega
   subst this
   refine ⟨by simp,?_,by simpa using hc⟩
   rw [List.drop_zero]
   cases Bg (c::r)<;>simp
  rename_i hc
  split at h
  ·omega
  have hg:=Lib.indexByte_ge r 39
  rename_i hi
  have hi':Lib.indexByte r 39 ≠ -1:=by simpa using hi
  obtain ⟨m,rfl⟩:∃m,k=m+1:=⟨k-1,by omega⟩
  obtain ⟨h1,h2,h3⟩:=Wh r m (by omega)
  refine ⟨by simpa using h1,?_,by simpa using h3⟩
  rw [Jo hc,List.drop_succ_cons,h2]
  cases Bg (r.drop m)<;>simp [Nat.add_assoc]
theorem Is {s:Str} {n:Nat} {c:UInt8} (h:s[n]? = some c):s.drop n=c::s.drop (n+1):=by
 obtain ⟨hlt,he⟩:=List.getElem?_eq_some_iff.1 h
 rw [List.drop_eq_getElem_cons hlt,he]
theorem Lt {s:Str} {n:Nat} (h:n<s.length):s[n]? = some (s.getD n 0):=by
 rw [List.getD_eq_getElem?_getD,List.getElem?_eq_getElem h];rfl
theorem mn {s:Str} {x k:Nat} (h:(decide (((x:Int)+((k:Int)+1))<s.length)==true)=true):x+(k+1)<s.length:=by
 have:=of_decide_eq_true (by simpa using h:decide (((x:Int)+((k:Int)+1))<s.length)=true)
 omega
/-- What a round of the search for the mark that vt comes to. -/
theorem Zg {s:Str} {x k:Nat} (h1:1≤x) (hx:Bg (s.drop 1)=(Bg (s.drop x)).map (·+(x-1))) (hk:Lib.indexByte (s.drop x) 39=(k:Int)):
  x+(k+1)≤s.length ∧
   ((decide (((x:Int)+((k:Int)+1))<s.length)&&(((s.getD (x+(k+1)) 0).toNat:Int)==39))=true→x+(k+1)+1≤s.length∧Bg (s.drop 1)=(Bg (s.drop (x+(k+1)+1))).map (·+(x+(k+1)+1-1))) ∧
   ((decide (((x:Int)+((k:Int)+1))<s.length)&&(((s.getD (x+(k+1)) 0).toNat:Int)==39))=false→Bg (s.drop 1)=some (x+k)):=by
 obtain ⟨g1,g2,g3⟩:=Wh _ k hk
 rw [List.length_drop] at g1
 rw [List.getElem?_drop] at g3
 have e0:(s.drop x).drop k=39::s.drop (x+(k+1)):=by rw [List.drop_drop,Is g3,Nat.add_assoc]
 rw [e0] at g2
 refine ⟨by omega,fun h=>?_,fun h=>?_⟩
 ·simp only [Bool.and_eq_true,decide_eq_true_eq,beq_iff_eq] at h
  have hlt:x+(k+1)<s.length:=by omega
  have hc:s.getD (x+(k+1)) 0=39:=UInt8.toNat_inj.1 (by have:(39:UInt8).toNat=39:=rfl;omega)
  have hd:=Is (Lt hlt)
  rw [hc] at hd
  refine ⟨by omega,?_⟩
  rw [hx,g2,hd,Pn]
  simp only [beq_self_eq_true,if_true]
  cases Bg (s.drop (x+(k+1)+1)) with
  | none=>rfl
  | some m=>simp;omega
 rw [hx,g2,Pn]
 cases hd:s.drop (x+(k+1)) with
 | nil=>simp;omega
 | cons d t =>
  have hlt:x+(k+1)<s.length:=by
   have:=congrArg List.length hd
   simp at this;omega
  have hg:=Is (Lt hlt)
  rw [hd] at hg
  injection hg with hg1 hg2
  have hne:(d==39)=false:=by
   rw [hg1,beq_eq_false_iff_ne]
   intro e
   rw [e] at h
   simp at h
   omega
  simp [hne];omega
theorem ABg (s:Str) (h0:1≤s.length) (hs:s.length≤1048576) (Hp:List AObj):AFun Tryz.prog 121 [A8 s] Hp (mm (G5 s)):=by
 refine ACall.body [.tmp 2,.tmp 3,.tmp 4,.tmp 5] [0] Tryz.func121 Tryz.ntmps121 (fun d=>?_)
 refine lu ?_;refine Z3 ?_;refine R.fin [0,6] ?_
 refine AW.loopC (α:=Nat) (fun x=>⟨44,A6 0 (A8 s) (A6 6 (A2 (x:Nat)) (fun _=>.any)),Hp,[],[],none⟩) (fun x=>1≤x∧x≤s.length∧Bg (s.drop 1)=(Bg (s.drop x)).map (·+(x-1))) (fun x=>s.length-x) (1) ⟨Nat.le_refl _,h0,by cases Bg (s.drop 1)<;>rfl⟩ (StLe.refl _) rfl (fun x hx=>?_)
 refine Z69 ?_
 refine R.go (h:=Q.scutL x (fun _=>hx.2.1) (fun _=>Nat.le_refl _)) (hr:=?_)
 refine R.call Tryz.call158 (AB1 (s.drop x) 39 _) ?_;refine R.go ?_;refine R.fin [0,6,7] ?_;refine Z21 ?_;refine R.fin [0,6,7,15] ?_
 refine W.cond (fun ht15=>?_) (fun ht15=>?_)
 ·have hk:Lib.indexByte (s.drop x) 39 = -1:=by have:=Lib.indexByte_ge (s.drop x) 39;simp at ht15;omega
  have hcq:Bg (s.drop 1)=none:=by rw [hx.2.2,Po _ hk];rfl
  refine Z28 ?_;refine r9 ?_;refine K.blR ?_;refine K.lpR ?_;exact K.fin (V.four V.tmp V.tmp V.tmp V.tmp) ⟨by simp only [G5,hcq],rfl⟩
 obtain ⟨k0,hk⟩:=Int.eq_ofNat_of_zero_le (show 0≤Lib.indexByte (s.drop x) 39 by simp at ht15;omega)
 rw [hk]
 refine Uf ?_
 have hst:=Zg hx.1 hx.2.2 hk
 refine Z45 ?_;refine R.fin [0,6] ?_;refine Z21 ?_;refine Z19 ?_;refine Z9 ?_
 refine G.go (h:=Q.sindex (x+(k0+1)) (s.getD (x+(k0+1)) 0) (fun hB=>Lt (mn hB))) (hr:=?_)
 refine W6 ?_;refine R.fin [0,6,29] ?_
 refine W.cond (fun ht29=>?_) (fun ht29=>?_)
 ·have hon:=hst.2.1 ht29
  refine Z13 ?_;refine R.fin [0,6] ?_;refine Z79 ?_;refine K.blE ?_;exact K.lpN ((x+(k0+1))+1) ⟨by omega,hon.1,hon.2⟩ (by omega) (StCut.of_eq rfl)
 have hcq:=hst.2.2 ht29
 refine Z8 ?_;refine Z1 ?_
 refine R.go (h:=Q.scutH (x+(k0+1)) (fun _=>Nat.zero_le _) (fun _=>hst.1)) (hr:=?_)
 refine R.call Tryz.call157 (wl (s.take (x+(k0+1))) (by simp;omega) _) ?_
 refine Z19 ?_;refine Z16 ?_;refine R.go ?_;refine R.fin [6,8,9] ?_;refine Z21 ?_;refine R.fin [6,8,40] ?_
 refine W.cond (fun ht40=>?_) (fun ht40=>?_)
 ·refine Z28 ?_;refine r9 ?_;refine K.blR ?_;refine K.lpR ?_;exact K.fin (V.four V.tmp V.tmp V.tmp V.tmp) ⟨by simp only [G5,hcq,show x+k0+1=x+(k0+1) by omega];rw [if_pos ht40],rfl⟩
 refine Z8 ?_;refine W.drawQ [0,1,0,0,11,31,63] 5 Ac (by kernel_rfl) ?_;refine Ys ?_;refine D.tail ?_;refine Z0 ?_;refine la ?_;refine K.blR ?_;refine K.lpR ?_;exact K.fin (V.four V.tmp V.tmp V.tmp V.tmp) ⟨by simp only [G5,hcq,show x+k0+1=x+(k0+1) by omega];rw [if_neg (by rw [ht40];simp)];rfl,rfl⟩

def Ur:Str:=[60,61,32,62,61,32,33,61]
def Us:Str:=[40,41,44,59,61,60,62,43,45,42,47,37,38,58]
def Jp (s:Str):Int×Str×Int×Int:=
 if (decide ((1:Int)<s.length)&&Lib.contains Ur (s.take 2))&&(((s.getD 1 0).toNat:Int)==61) then (5,s.take 2,2,0)
 else if Lib.contains Us (s.take 1) then (5,s.take 1,1,0) else (0,[],0,7)
theorem gt {s:Str} {b c:Bool} (h:(((decide ((1:Int)<s.length)&&b)&&c)==true)=true):1<s.length:=by
 revert h
 cases hd:decide ((1:Int)<s.length) with
 | true=>intro _;have:=of_decide_eq_true hd;omega
 | false=>intro h;simp at h
theorem Pp {s:Str} {b:Bool} (h:((decide ((1:Int)<s.length)&&b)==true)=true):1<s.length:=gt (c:=true) (by rw [Bool.and_true];exact h)
theorem Zh {s:Str} (h:(decide ((1:Int)<s.length)==true)=true):2≤s.length:=Pp (b:=true) (by rw [Bool.and_true];exact h)
theorem ABh (s:Str) (h0:1≤s.length) (Hp:List AObj):AFun Tryz.prog 122 [A8 s] Hp (mm (Jp s)):=by
 refine ACall.body [.tmp 2,.tmp 3,.tmp 4,.tmp 5] [0] Tryz.func122 Tryz.ntmps122 (fun d=>?_)
 refine lu ?_;refine Z77 ?_;refine G.go ?_
 refine G.go (h:=Q.scutH 2 (fun _=>Nat.zero_le _) (fun hB=>Zh hB)) (hr:=?_)
 refine G.call Tryz.call140 (fun hB=>gh Ur (s.take 2) (by decide) _) ?_;refine Ui ?_
 refine G.go (h:=Q.sindex 1 (s.getD 1 0) (fun hB=>Lt (Pp hB))) (hr:=?_)
 refine W6 ?_;refine R.fin [0,18] ?_
 refine W.cond (fun ht18=>?_) (fun ht18=>?_)
 ·have h2:2≤s.length:=by revert ht18;cases hd:decide ((1:Int)<s.length) with
   | true=>intro _;have:=of_decide_eq_true hd;omega
   | false=>intro h;simp at h
  refine W.drawQ [0,1,0,7,15,31] 3 Ac (by kernel_rfl) ?_;refine D.go ?_
  refine D.go (h:=Q.scutH 2 (fun _=>Nat.zero_le _) (fun _=>h2)) (hr:=?_)
  refine D.go ?_;refine D.tail ?_;refine Z19 ?_;refine r9 ?_;exact K.fin (V.four V.tmp V.tmp V.tmp V.tmp) ⟨by simp only [Jp,ht18,if_true,if_false,Bool.false_eq_true];try rfl,rfl⟩
 refine Z8 ?_;refine Z46 ?_
 refine R.go (h:=Q.scutH 1 (fun _=>Nat.zero_le _) (fun _=>h0)) (hr:=?_)
 refine R.call Tryz.call140 (gh Us (s.take 1) (by decide) _) ?_;refine R.fin [0,23] ?_
 refine W.cond (fun ht23=>?_) (fun ht23=>?_)
 ·refine W.drawQ [0,1,0,7,15,31] 3 Ac (by kernel_rfl) ?_;refine D.go ?_
  refine D.go (h:=Q.scutH 1 (fun _=>Nat.zero_le _) (fun _=>h0)) (hr:=?_)
  refine D.go ?_;refine D.tail ?_;refine Z19 ?_;refine r9 ?_;exact ze
 refine Z8 ?_;refine Z28 ?_;refine la ?_;exact ze

def As (s:Str):Int×Str×Int×Int:=
 if decide (0<Gq (s.take 1) letters) then Ir s else if decide (0<Gq (s.take 1) digs) then Ls s else if ((s.getD 0 0).toNat:Int)==39 then G5 s else Jp s
theorem c89 (s:Str) (h0:1≤s.length) (hs:s.length≤1048576) (Hp:List AObj):AFun Tryz.prog 89 [A8 s] Hp (mm (As s)):=by
 refine ACall.body [.tmp 2,.tmp 3,.tmp 4,.tmp 5] [0] Tryz.func89 Tryz.ntmps89 (fun d=>?_)
 refine lu ?_;refine Z92 ?_
 refine R.go (h:=Q.scutH 1 (fun _=>Nat.zero_le _) (fun _=>h0)) (hr:=?_)
 refine R.call Tryz.call104 (Z5 (s.take 1) letters (by simp;omega) (by decide) Ry _) ?_
 refine Z0 ?_;refine R.fin [0,6] ?_
 refine W.cond (fun ht6=>?_) (fun ht6=>?_)
 ·refine Z3 ?_;refine R.call Tryz.call119 (ABe s hs _) ?_;refine Z62 ?_;refine Z62 ?_;refine lc ?_;exact K.fin (V.four V.tmp V.tmp V.tmp V.tmp) ⟨by simp only [As,ht6,if_true,if_false,Bool.false_eq_true],rfl⟩
 refine Z3 ?_
 refine R.go (h:=Q.scutH 1 (fun _=>Nat.zero_le _) (fun _=>h0)) (hr:=?_)
 refine R.call Tryz.call104 (Z5 (s.take 1) digs (by simp;omega) (by decide) L7 _) ?_
 refine Z0 ?_;refine R.fin [0,17] ?_
 refine W.cond (fun ht17=>?_) (fun ht17=>?_)
 ·refine Z3 ?_;refine R.call Tryz.call120 (ABf s hs _) ?_;refine Z62 ?_;refine Z62 ?_;refine lc ?_;exact K.fin (V.four V.tmp V.tmp V.tmp V.tmp) ⟨by simp only [As,ht6,ht17,if_true,if_false,Bool.false_eq_true],rfl⟩
 refine Z3 ?_
 refine R.go (h:=Q.sindex 0 (s.getD 0 0) (fun _=>Lt h0)) (hr:=?_)
 refine Z0 ?_;refine R.fin [0,28] ?_
 refine W.cond (fun ht28=>?_) (fun ht28=>?_)
 ·refine Z3 ?_;refine R.call Tryz.call121 (ABg s h0 hs _) ?_;refine Z62 ?_;refine Z62 ?_;refine lc ?_;exact zf
 refine Z20 ?_;refine Z3 ?_;refine R.call Tryz.call122 (ABh s h0 _) ?_;refine Z62 ?_;refine Z62 ?_;refine la ?_;exact zf

structure Tok where
 kind:Int
 text:Str
 at_:Nat
 deriving DecidableEq
abbrev Gv (t:Tok):AV:=.agg [.v (.int .i64 t.kind),.v (sv t.text),.v (.int .i64 (t.at_:Int))]
abbrev cg (l:List Tok):AV:=.slice false 3 (l.map Gv)
theorem cj {c:UInt8} {of:Str} (h:decide (0<Gq ([c]:Str) of)=true):of.contains c=true:=by
 have:=of_decide_eq_true h
 unfold Gq Lib.trimLeftS at this
 rw [List.dropWhile_cons] at this
 cases hc:of.contains c with
 | true=>rfl
 | false=>rw [hc] at this;simp at this
theorem Pq {c:UInt8} {r of:Str} (h:of.contains c=true):1≤(Ba (c::r) of).length:=by
 unfold Ba
 rw [Wf,List.takeWhile_cons,h]
 simp
theorem Rz:∀c:UInt8,letters.contains c=true→tails.contains c=true:=by
 have h:((List.range 256).all fun n => !letters.contains (UInt8.ofNat n) || tails.contains (UInt8.ofNat n))=true:=by kernel_rfl
 intro c hc
 have:=List.all_eq_true.1 h c.toNat (List.mem_range.2 c.toNat_lt)
 rw [show UInt8.ofNat c.toNat=c by simp,hc] at this
 simpa using this
theorem Pr:∀(l:Str) (n:Nat),Bg l=some n→1≤n∧n≤l.length
 | [],n,h=>by cases h
 | [c],n,h=>by
  rw [Bg] at h
  split at h
  ·injection h with h;subst h;simp
  cases h
 | c::d::t,n,h=>by
  rw [Bg] at h
  split at h
  ·split at h
   ·rw [Option.map_eq_some_iff] at h
    obtain ⟨m,hm,rfl⟩:=h
    have:=Pr t m hm
    simp only [List.length_cons];omega
   injection h with h;subst h;simp
  rw [Option.map_eq_some_iff] at h
  obtain ⟨m,hm,rfl⟩:=h
  have:=Pr (d::t) m hm
  simp only [List.length_cons] at this ⊢;omega
theorem Ut {s:Str} (h0:1≤s.length) (h:(As s).2.2.2=0):∃n:Nat,(As s).2.2.1=(n:Int)∧1≤n∧n≤s.length:=by
 cases s with
 | nil=>simp at h0
 | cons c r =>
  unfold As at h ⊢
  split at h
  ·rename_i h1
   rw [if_pos h1]
   have hc:=Rz c (cj h1)
   have hw:=Pq (r:=r) hc
   have hl:=Fl (c::r) tails
   unfold Ir at h ⊢
   split at h
   ·rename_i h2;rw [if_pos h2];exact ⟨_,rfl,hw,hl⟩
   rename_i h2
   rw [if_neg h2]
   split at h
   ·exact lx
   rename_i h3;rw [if_neg h3];exact ⟨_,rfl,hw,hl⟩
  rename_i h1
  rw [if_neg h1]
  split at h
  ·rename_i h2
   rw [if_pos h2]
   exact ⟨_,rfl,Pq (r:=r) (cj h2),Fl _ _⟩
  rename_i h2
  rw [if_neg h2]
  split at h
  ·rename_i h3
   rw [if_pos h3]
   unfold G5 at h ⊢
   split at h
   ·exact lx
   rename_i n hn
   split at h
   ·exact lx
   rename_i h4
   simp only [if_neg h4]
   have:=Pr _ n hn
   simp at this
   exact ⟨n+1,rfl,by omega,by simp only [List.length_cons];omega⟩
  rename_i h3
  rw [if_neg h3]
  unfold Jp at h ⊢
  split at h
  ·rename_i h4
   rw [if_pos h4]
   refine ⟨2,rfl,by omega,?_⟩
   simp only [Bool.and_eq_true,decide_eq_true_eq] at h4
   have:=h4.1.1
   omega
  rename_i h4
  rw [if_neg h4]
  split at h
  ·rename_i h5;rw [if_pos h5];exact ⟨1,rfl,by omega,h0⟩
  exact lx
/-- The words from a place on, up to one that is wrong. -/
def Dx:Nat→Nat→Str→List (Tok×Int)
 | 0,_,_=>[]
 | f+1,k,s=>if s==[] then [] else
  (⟨(As s).1,(As s).2.1,k⟩,(As s).2.2.2)::(if (As s).2.2.2==0 then Dx f (k+(As s).2.2.1.toNat+gapM (s.drop (As s).2.2.1.toNat)) ((s.drop (As s).2.2.1.toNat).drop (gapM (s.drop (As s).2.2.1.toNat))) else [])
def Ax (s:Str):List (Tok×Int):=Dx (s.length+1) (gapM s) (s.drop (gapM s))
theorem Uu (s:Str):gapM s≤s.length:=Nat.sub_le _ _
end Go.SX.Nb
namespace Go.SX
variable [GI:GlobInv]
open Classical
@[simp] theorem ABi {n o k m c:Nat}:Low n (.sl o k m c)↔o<n:=⟨fun h=>by cases h;assumption,fun h=>.sl o k m c h⟩
/-- The cells of elements, one behind the other. -/
abbrev J6 (xs:List AV):List AV:=xs.flatMap AV.cells
theorem L8 (x:AV) (r:List AV):J6 (x::r)=x.cells++J6 r:=by simp [J6]
theorem N3 {k:Nat}:∀{xs:List AV},(∀x∈xs,x.cells.length=k)→(J6 xs).length=xs.length*k
 | [],_=>by simp
 | x::r,h=>by
  rw [L8,List.length_append,h x List.mem_cons_self,N3 (fun y hy=>h y (List.mem_cons_of_mem _ hy)),List.length_cons,Nat.add_mul]
  omega
theorem N4 {k:Nat}:∀{xs:List AV},(∀x∈xs,x.cells.length=k)→∀{i j:Nat} {x y:AV},xs[i]? = some x→x.cells[j]? = some y→(J6 xs)[i*k+j]? = some y
 | [],_,i,j,x,y,h,_=>by simp at h
 | a::r,hk,0,j,x,y,h,h2=>by
  simp at h
  subst h
  rw [L8,Nat.zero_mul,Nat.zero_add,List.getElem?_append_left (List.getElem?_eq_some_iff.1 h2).1]
  exact h2
 | a::r,hk,i+1,j,x,y,h,h2=>by
  rw [List.getElem?_cons_succ] at h
  have ha:=hk a List.mem_cons_self
  have hh:=N4 (fun y hy=>hk y (List.mem_cons_of_mem _ hy)) h h2
  rw [L8,List.getElem?_append_right (by rw [ha,Nat.add_mul];omega),ha]
  rw [show (i+1)*k+j-k=i*k+j by rw [Nat.add_mul];omega]
  exact hh
section
variable {P:Program} {d:Nat} {st:St} {dst:Option Tmp} {ty:TypeId} {pos:String} {aft:Array Edge} {gd:Option (Nat×Bool)}
/-- The address of an element. -/
theorem OpV.indexAddrSl {t e:TypeId} {x i:Operand} {o k n c m:Nat} {q:IntKind} (hu:P.underlying t=some (.slice e)) (hsz:∀w,(sizeOf e).run P w=.ok k w) (hm:m<n)
  (hx:st.ev x=.sl o k n c) (hi:st.ev i=.v (.int q (m:Int))):OpV P d ⟨dst,.indexAddr t x i,ty,pos,aft,gd⟩ st (.ptr o (m*k)):=
 OpV.pure (by intro c h;cases h) fun G a w h=>by
  have hr:=hx ▸ h.eval x
  have hi':=Bx h hi
  generalize hv:a.eval x=u at hr
  cases hr with
  | sl l o k n c ho =>
   have hlt':(m:Int)<n:=by omega
   refine ⟨.pointer (some ((⟨G.blk o,0,none⟩:Addr).add (m*k))),by simp [execOp,Instr.indexAt,asIntOf,hi',hv,run_underlying hu,hm,hlt',hsz],?_⟩
   rw [Bd rfl,Nat.zero_add]
   exact .ptr _ o _ ho
/-- An empty slice, over an object of its own. -/
theorem AOp.buildObj0 {t e:TypeId} {k s n:Nat} (hu:P.underlying t=some (.slice e)) (hsz:∀w,(sizeOf e).run P w=.ok k w) (hn:st.own.length=n) (hs:s<st.sz):
  AOp P d ⟨some s,.buildSlice t 0 #[],ty,pos,aft,gd⟩ st (·=({ st with own:=st.own++[.cells e []] }:St).set s (.sl (st.up.length+n) k 0 0)):=by
 intro G a w h Q'
 obtain ⟨G',h1,T,hb,hlt⟩:=K7 h e [] #[] rfl (fun j y u h1 _=>by simp at h1)
 have hlen:(st.up++st.own).length=st.up.length+n:=by rw [List.length_append,hn]
 rw [hlen] at hb hlt
 have hrun:(execOp a.eval (⟨some s,.buildSlice t 0 #[],ty,pos,aft,gd⟩:Oper)).run P w=.ok (.value (.slice (some ⟨w.heap.size,0,none⟩) 0 0)) (w.alloc (.cells #[] e)):=by
  have hfl:∀f:Nat→Option (Nat×Nat),Instr.fill f ((Array.range 0).map fun _=>(default:Value)) []=some #[]:=fun f=>by simp [Instr.fill]
  simp [execOp,Instr.buildSlice,run_underlying hu,hsz,newRow,hfl]
 refine Bp (by intro c h;cases h) hrun ⟨G',_,h1.put (s:=s) (y:=.sl (st.up.length+n) k 0 0) hs ?_,T.keep d,rfl,rfl,rfl,rfl⟩
 rw [←hb]
 exact .sl _ _ _ _ _ hlt
/-- What is appended to an empty slice lies in a new object of ours; of its spare cells nothing is known. -/
theorem AOp.appendObj {t e:TypeId} {i:TypeInfo} {z:Value} {k by' s o n:Nat} {xr x:Operand} {o2:Bool} {ys:List AV}
  (hu:P.underlying t=some (.slice e)) (hi:P.info? e=some i) (hz:i.zero=some z) (hsz:i.size=k) (hby:i.bytes=by') (hzk:z.cells.size=k) (hk:0<k)
  (hb:st.ev xr=.sl o k 0 0) (hx:Fj (st.ev x) o2 k ys) (hne:ys≠[]) (hn:st.own.length=n) (hs:s<st.sz) (hl:ys.length*by'≤140737488355328) (hl2:ys.length≤4611686018427387904):
  AOp P d ⟨some s,.call ⟨.builtin .append,#[xr,x],#[t,t]⟩,ty,pos,aft,gd⟩ st (fun st'=>∃c,ys.length≤c∧st'=({ st with own:=st.own++[.cells e (J6 ys++List.replicate ((c-ys.length)*k) .any)] }:St).set s (.sl (st.up.length+n) k ys.length c)):=by
 subst hsz
 subst hby
 intro G a w h Q'
 have hrb:=hb ▸ h.eval xr
 have hrx:=h.eval x
 have hm:ys.length≠0:=fun e=>hne (List.eq_nil_of_length_eq_zero e)
 generalize hvb:a.eval xr=vb at hrb
 cases hrb with
 | sl l o k n' c ho =>
  rcases Et hx hrx with ⟨_,e0⟩|⟨ad2,c2,f2,hvx,hc2,F2,_⟩
  ·exact absurd e0 hne
  have hge:=Fb w (0+ys.length) 0 e
  have hv:=run_append_grow (P:=P) w t ty e i z hu hi hz ⟨G.blk o,0,none⟩ 0 0 [] (by simp) (by simp) ad2 ys.length c2 (B8 i.size ys.length f2) (Aj _ _ _) (F2.vals hk) (by omega) (by omega) (growslice_fits (by omega) (by rw [Nat.zero_add];exact hl))
  rw [Nat.zero_add] at hv hge
  let c':=grownCap w ys.length 0 e
  have hfl:(J6 ys).length=ys.length*i.size:=N3 F2.k
  have hd':StRel d G st a w.drew:=h.drew (w.drawn+1)
  obtain ⟨G',h1,T,hbk,hlt⟩:=K7 hd' e (J6 ys++List.replicate ((c'-ys.length)*i.size) .any) (([]:List Value).toArray++(B8 i.size ys.length f2).toArray++Builtin.zeroCells z.cells (c'-ys.length)) (by
    simp only [Array.size_append,List.size_toArray,Aj,Value.oneSize _ hzk,List.length_append,List.length_replicate,hfl,List.length_nil]
    omega) (fun j y u hy hu'=>by
    by_cases hj:j<ys.length*i.size
    ·rw [List.getElem?_append_left (by rw [hfl];exact hj)] at hy
     have hq:j / i.size<ys.length:=by rw [Nat.div_lt_iff_lt_mul hk];exact hj
     have hjm:j % i.size<i.size:=Nat.mod_lt _ hk
     have hx0:ys[j / i.size]? = some (ys[j / i.size]):=List.getElem?_eq_getElem hq
     have hcl:=F2.k _ (List.getElem_mem hq)
     have hy0:(ys[j / i.size]).cells[j % i.size]? = some ((ys[j / i.size]).cells[j % i.size]'(by omega)):=List.getElem?_eq_getElem _
     have e1:j / i.size*i.size+j % i.size=j:=by have:=Nat.div_add_mod j i.size;rw [Nat.mul_comm] at this;exact this
     have hfg:=N4 F2.k hx0 hy0
     rw [e1,hy] at hfg
     injection hfg with hfg
     have hval:(B8 i.size ys.length f2)[j]? = some (f2 (j / i.size) (j % i.size)):=Gu hj
     rw [Array.getElem?_append_left (by simp only [Array.size_append,List.size_toArray,Aj,List.length_nil];omega)] at hu'
     have e2:u=f2 (j / i.size) (j % i.size):=by
      have:(([]:List Value).toArray++(B8 i.size ys.length f2).toArray)[j]? = (B8 i.size ys.length f2)[j]? := by simp
      rw [this,hval] at hu'
      injection hu' with hu'
      exact hu'.symm
     rw [e2,hfg]
     exact (I7 G w (w.drawn+1)).rep (F2.rep _ _ _ _ hx0 hy0)
    rw [List.getElem?_append_right (by rw [hfl];omega)] at hy
    rw [List.getElem?_replicate] at hy
    split at hy
    ·injection hy with hy;subst hy;exact .any _ _
    cases hy)
  have hlen:(st.up++st.own).length=st.up.length+n:=by rw [List.length_append,hn]
  rw [hlen] at hbk hlt
  have hrun:(execOp a.eval (⟨some s,.call ⟨.builtin .append,#[xr,x],#[t,t]⟩,ty,pos,aft,gd⟩:Oper)).run P w=.ok (.value (.slice (some ⟨w.heap.size,0,none⟩) ys.length c')) (w.drew.alloc (.cells (([]:List Value).toArray++(B8 i.size ys.length f2).toArray++Builtin.zeroCells z.cells (c'-ys.length)) e)):=by
   simp only [execOp,resolve,invoke,builtin,Sem.run_bind,Sem.run_pure,Result.andThen_ok,List.map_toArray,List.map_cons,List.map_nil,hvb,hvx,hv]
   rfl
  have K0:=(I7 G w (w.drawn+1)).keep d
  refine Bp (by intro c h;cases h) hrun ⟨G',_,h1.put (s:=s) (y:=.sl (st.up.length+n) i.size ys.length c') hs ?_,K0.trans (T.keep d),rfl,rfl,rfl,c',hge,rfl⟩
  have hsz':w.drew.heap.size=w.heap.size:=rfl
  rw [←hsz',←hbk]
  exact .sl _ _ _ _ _ hlt

/-- The elements are written no more: the object goes, and the slice is one of known elements. -/
theorem StRel.freeze {G:Gh} {a:Act} {w:World} (h:StRel d G st a w) {r i k c:Nat} {t:TypeId} {cs xs:List AV} (hr:st.fr r=.sl (st.up.length+i) k xs.length c) (ho:st.own[i]? = some (.cells t cs)) (hnc:xs.length≤c)
  (hcs:cs.take (xs.length*k)=J6 xs) (hk:∀x∈xs,x.cells.length=k) (h1:∀x∈xs,∀y∈x.cells,y.one=true) (hst:∀x∈xs,∀y∈x.cells,y.strip=y):
  ∃G',StRel d G' { st with fr:=A6 r (.slice false k xs) st.fr,own:=st.own.set i .gone } a w∧Keep d G w G' w:=by
 let G':Gh:={ G with tag:=fun b q=>if G.tag b q=.obj (st.up.length+i) then .fix else G.tag b q }
 have hto:(st.up++st.own)[st.up.length+i]? = some (.cells t cs):=by rw [C3];exact ho
 have hol:st.up.length+i<(st.up++st.own).length:=(List.getElem?_eq_some_iff.1 hto).1
 have htag:∀b q,G.tag b q≠.obj (st.up.length+i)→G'.tag b q=G.tag b q:=fun b q hb=>by simp only [G'];rw [if_neg hb]
 have htagO:∀b q,G.tag b q=.obj (st.up.length+i)→G'.tag b q=.fix:=fun b q hb=>by simp only [G'];rw [if_pos hb]
 have hfix:∀b q,G.tag b q=.fix→G'.tag b q=.fix:=fun b q hb=>by rw [htag b q (by rw [hb];simp)];exact hb
 have htail:∀b q L,G.tag b q=.tail L→G'.tag b q=.tail L:=fun b q L hb=>by rw [htag b q (by rw [hb];simp)];exact hb
 have hrep:∀{l:Option Loc} {y:AV} {u:Value},Rep G w l y u→Rep G' w l y u:=fun hy =>
  hy.mono (G':=G') (fun b q e=>⟨hfix b q e,rfl⟩) (Nat.le_refl _) (fun _ _=>rfl) (fun L _ b q e=>htail b q L e)
 have hst':Still G w G' w:=fun b hb=>⟨rfl,hb.1,fun q=>by
  rcases hb.2.1 q with e|e
  ·exact .inl (hfix b q e)
  exact .inr (by rw [htag b q (by rw [e];simp)];exact e),hb.2.2⟩
 obtain ⟨vs,q1,q2,q3,q4⟩:=h.heap.obj _ _ hto
 refine ⟨G',⟨h.size,fun s=>?_,⟨fun j x hx=>?_,?_,h.heap.inj⟩,h.defs,fun q hq=>?_,h.defsNodup,h.defsGe,⟨fun b q hb=>h.tags.ex b q (fun e=>?_),fun b q j hb=>?_,fun b q L hb=>?_,h.tags.globKeep hst'⟩,h.rnd,h.low,h.top⟩,
  ⟨fun b q e=>⟨hfix b q e,rfl⟩,fun b q e s _ ht=>htail b q _ ht,Nat.le_refl _,fun _ _=>rfl,rfl,rfl,rfl,Nat.le_refl _,hst'⟩⟩
 ·show Rep G' w _ (A6 r (.slice false k xs) st.fr s) _
  unfold A6
  by_cases hs:s=r
  ·subst hs
   rw [if_pos rfl]
   have hsl:=h.slots s
   rw [hr] at hsl
   generalize a.tmps.getD s undef=v at hsl
   cases hsl with
   | sl l o k n c ho' =>
    refine .slice _ false k xs ⟨G.blk (st.up.length+i),0,none⟩ _ c (fun q j=>vs.getD (q*k+j) undef) rfl rfl hnc hk h1 (fun q x j y hx hy=>?_) (fun q x j y hx hy=>?_) (fun e=>by cases e)
    all_goals
     have hfg:=N4 hk hx hy
     have hlt:q*k+j<xs.length*k:=by
      have:=(List.getElem?_eq_some_iff.1 hfg).1
      rw [N3 hk] at this;exact this
     rw [←hcs,List.getElem?_take_of_lt hlt] at hfg
     have hcl:=(List.getElem?_eq_some_iff.1 hfg).1
    ·refine ⟨htagO _ _ (by simpa using q4 _ hcl),?_⟩
     simp only [Nat.zero_add]
     simp [World.cell?,q1,show q*k+j<vs.size by omega]
    have hu:=q3 _ y (vs[q*k+j]'(by omega)) hfg (Array.getElem?_eq_getElem (by omega))
    have e1:vs.getD (q*k+j) undef=vs[q*k+j]'(by omega):=by simp [show q*k+j<vs.size by omega]
    rw [e1]
    have:=hrep (hu.strip (l':=none))
    rw [hst x (List.mem_of_getElem? hx) y (List.mem_of_getElem? hy)] at this
    exact this
  rw [if_neg hs]
  exact hrep (h.slots s)
 ·have hx':(st.up++st.own.set i .gone)[j]? = some x:=hx
  rw [←Ak,List.getElem?_set] at hx'
  by_cases hj:st.up.length+i=j
  ·rw [if_pos hj,if_pos hol] at hx'
   injection hx' with hx'
   subst hx'
   subst hj
   exact ⟨vs,t,(0,0),q1,fun q hq=>htagO _ _ (q4 q (by omega))⟩
  rw [if_neg hj] at hx'
  exact (h.heap.obj j x hx').free (fun e=>hj e.symm) htag rfl rfl
 ·show G.n=(st.up++st.own.set i .gone).length
  have:=h.heap.n
  simpa using this
 ·show (st.up++st.own.set i .gone)[q]? = _
  have h2:=h.defsAt q hq
  rw [←Ak,List.getElem?_set]
  by_cases hj:st.up.length+i=q
  ·subst hj;rw [hto] at h2;cases h2
  rw [if_neg hj];exact h2
 ·simp only [G'] at hb
  split at hb
  ·rename_i e';rw [e] at e';cases e'
  exact hb e
 ·simp only [G'] at hb
  split at hb
  ·cases hb
  exact h.tags.obj b q j hb
 simp only [G'] at hb
 split at hb
 ·cases hb
 exact h.tags.tail b q L hb
end
section
variable {P:Program} {d:Nat} {ops:Array Oper}
theorem ARun.turnSt {l:List Oper} {st st':St} {Q:St→Prop} (h:∀(G:Gh) (a:Act) (w:World),StRel d G st a w→∃G',StRel d G' st' a w∧Keep d G w G' w) (e1:st'.up.length=st.up.length) (e2:st'.rnd=st.rnd) (e3:st'.sz=st.sz) (hr:ARun P d ops l st' Q):ARun P d ops l st Q:=by
 intro G a w hrel idx hidx
 obtain ⟨G',h1,k⟩:=h G a w hrel
 have:=hr G' a w h1 idx hidx
 rw [Dp hrel k e2] at this
 exact Bo (fun e a' w' hp=>⟨hp.1,hp.2.next k e1 e2 e3⟩) _ _ _ this
variable {sz:Nat} {fr:Nat→AV} {up own own':List AObj} {dfs:List Nat} {rnd:Option Nat} {Q:St→Prop} {rest:List Oper} {s:Nat} {ty:TypeId} {pos:String} {aft:Array Edge}
theorem R.indexAddrSl {t e:TypeId} {x i:Operand} {o k n c:Nat} {q:IntKind} {z:Int} (m:Nat) (ht:P.underlying t=some (.slice e)) (hsz:∀w,(Go.sizeOf e).run P w=.ok k w) (hm:m<n) (hr:ARun P d ops rest ⟨sz,A6 s (.ptr o (m*k)) fr,up,own,dfs,rnd⟩ Q)
  (hx:Ae fr x=.sl o k n c:=by exact sL0) (hi:Ae fr i=.v (.int q z):=by exact sL0) (hz:z=(m:Int):=by first|rfl|omega) (hs:Nat.blt s sz=true:=by rfl):
  ARun P d ops (⟨some s,.indexAddr t x i,ty,pos,aft,none⟩::rest) ⟨sz,fr,up,own,dfs,rnd⟩ Q:=
 ARun.vv rfl rfl hs (OpV.indexAddrSl ht hsz hm hx (by subst hz;exact hi)) hr
theorem R.buildObj0 {t e:TypeId} {k n:Nat} (ht:P.underlying t=some (.slice e)) (hsz:∀w,(Go.sizeOf e).run P w=.ok k w) (hr:ARun P d ops rest ⟨sz,A6 s (.sl (oid up.length n) k 0 0) fr,up,own',dfs,rnd⟩ Q)
  (hn:own.length=n:=by rfl) (ho:own++[.cells e []]=own':=by rfl) (hs:Nat.blt s sz=true:=by rfl):
  ARun P d ops (⟨some s,.buildSlice t 0 #[],ty,pos,aft,none⟩::rest) ⟨sz,fr,up,own,dfs,rnd⟩ Q:=by
 subst ho
 exact ARun.aop rfl (AOp.buildObj0 (st:=⟨sz,fr,up,own,dfs,rnd⟩) ht hsz hn (by simpa using hs)) hr
theorem R.appendObj {t e:TypeId} {i:TypeInfo} {z:Value} {k o n:Nat} {xr x:Operand} {o2:Bool} {y:AV} {ys:List AV} (hu:P.underlying t=some (.slice e)) (hi:P.info? e=some i) (hne:ys≠[]) (hl:ys.length*i.bytes≤140737488355328) (hl2:ys.length≤4611686018427387904)
  (hr:∀c,ys.length≤c→ARun P d ops rest ⟨sz,A6 s (.sl (oid up.length n) k ys.length c) fr,up,own++[.cells e (J6 ys++List.replicate ((c-ys.length)*k) .any)],dfs,rnd⟩ Q)
  (hz:i.zero=some z:=by rfl) (hsz:i.size=k:=by rfl) (hzk:z.cells.size=k:=by rfl) (hk:0<k:=by decide) (hb:Ae fr xr=.sl o k 0 0:=by exact sL0)
  (hx:Ae fr x=y:=by exact sL0) (hx':Fj y o2 k ys:=by first|exact .inl rfl|exact .inr ⟨rfl,rfl⟩) (hn:own.length=n:=by rfl) (hs:Nat.blt s sz=true:=by rfl):
  ARun P d ops (⟨some s,.call ⟨.builtin .append,#[xr,x],#[t,t]⟩,ty,pos,aft,none⟩::rest) ⟨sz,fr,up,own,dfs,rnd⟩ Q:=by
 subst hx
 refine ARun.op rfl (AOp.appendObj (st:=⟨sz,fr,up,own,dfs,rnd⟩) hu hi hz hsz rfl hzk hk hb hx' hne hn (by simpa using hs) hl hl2) (fun s' hs'=>?_)
 obtain ⟨c,hc,rfl⟩:=hs'
 exact hr c hc
/-- The elements of the slice in slot r, over object i of ours, are written no more. -/
theorem R.freeze {l:List Oper} (r i:Nat) {k n c:Nat} {t:TypeId} {cs:List AV} (xs:List AV) (hnc:n≤c) (hn:n=xs.length) (hcs:cs.take (n*k)=J6 xs) (hk:∀x∈xs,x.cells.length=k) (h1:∀x∈xs,∀y∈x.cells,y.one=true) (hst:∀x∈xs,∀y∈x.cells,y.strip=y)
  (hr:ARun P d ops l ⟨sz,A6 r (.slice false k xs) fr,up,own',dfs,rnd⟩ Q) (hf:fr r=.sl (oid up.length i) k n c:=by exact sL0) (ho:own[i]? = some (.cells t cs):=by rfl) (hset:own.set i .gone=own':=by rfl):
  ARun P d ops l ⟨sz,fr,up,own,dfs,rnd⟩ Q:=by
 subst hset
 subst hn
 exact ARun.turnSt (fun G a w h=>h.freeze (st:=⟨sz,fr,up,own,dfs,rnd⟩) hf ho hnc hcs hk h1 hst) rfl rfl rfl hr
end
end Go.SX
namespace Go.SX
variable [GI:GlobInv]
open Classical
variable {P:Program} {d:Nat} {l0:List Oper} {kd:Nat} {ops:Array Oper} {rest:List Oper} {sz:Nat} {fr:Nat→AV} {up own:List AObj} {dfs:List Nat} {rnd:Option Nat} {Q:St→Prop} {s:Nat} {ty:TypeId} {pos:String} {aft:Array Edge} {E:List Oper→(Nat→AV)→Prop}
theorem R.nilTmp {l:List Oper} (s k:Nat) (o:Bool) (hr:ARun P d ops l ⟨sz,A6 s (.slice o k []) fr,up,own,dfs,rnd⟩ Q) (h:fr s=.nil:=by exact sL0):
  ARun P d ops l ⟨sz,fr,up,own,dfs,rnd⟩ Q:=
 ARun.le (st':=⟨sz,A6 s (.slice o k []) fr,up,own,dfs,rnd⟩) (StLe.frame (s:=⟨sz,fr,up,own,dfs,rnd⟩) fun i=>by
  show Le (fr i) (A6 s (.slice o k []) fr i)
  unfold A6
  by_cases hi:i=s
  ·subst hi;rw [if_pos rfl,h];exact .nil _ _
  rw [if_neg hi];exact .refl _) hr
/-! A slice without room behind its end: whoever appends to it gets a new one. -/
theorem Zi (k:Nat) (xs:List AV):(AV.full k xs).strip=.full k xs:=rfl
theorem Zj (k:Nat) (xs:List AV):(AV.full k xs).cells=[.full k xs]:=rfl
theorem mo (k:Nat) (xs:List AV):(AV.full k xs).one=true:=rfl
attribute [go_sem] Zi Zj mo
section
variable {KP:List PanicEntry→St→Prop} {up own:(Nat→Bool)→List AObj} {S:List SegY} {l:List Oper} {T F:List Nat}
/-- The p-th of those that turn the heap: a store into an object of whoever waits. -/
theorem Y.storeUp {t t':TypeId} {p x:Operand} {o off k pn:Nat} {y:AV} {ys cs cs':List AV} (hsz:∀w,(Go.sizeOf t).run P w=.ok k w)
  (hU:∀B:Nat→Bool,B pn=false→(up B)[o]? = some (.cells t' cs)∧up (upd B pn)=(up B).set o (.cells t' cs')∧own (upd B pn)=own B∧∀y∈ys,Low (up B).length y)
  (h:ChainY P d l0 sz up own dfs rnd KP E S l fr)
  (hp:Ae fr p=.ptr o off:=by exact sL0) (hx:Ae fr x=y:=by exact sL0) (hc:y.cells=ys:=by exact sL0) (hk:ys.length=k:=by rfl)
  (h1:ys.all AV.one=true:=by exact sL2) (hfit:off+k≤cs.length:=by exact sL1) (hput:B9 cs off ys=cs':=by exact sL0):
  ChainY P d l0 sz up own dfs rnd KP E (.s [] (some pn) T F::S) (⟨none,.store t p x,ty,pos,aft,none⟩::l) fr:=by
 subst hput
 subst hc
 refine ⟨_,l,[],rfl,⟨rfl,rfl,fun B f _ _ hB hf=>.of ?_⟩,h⟩
 obtain ⟨a1,a2,a3,a4⟩:=hU B (hB pn rfl)
 have e:Ae f p=.ptr o off:=by rw [agr hf (by simp [Op.operands])];exact hp
 have ex:Ae f x=y:=by rw [agr hf (by simp [Op.operands])];exact hx
 refine AOp.eqTo (AOp.storeUp (st:=⟨sz,f,up B,own B,dfs,rnd⟩) hsz e a1 ex hk h1 hfit a4) ?_
 show _=St.mk sz f (up (upd B pn)) (own (upd B pn)) dfs rnd
 rw [a2,a3]
end
end Go.SX
