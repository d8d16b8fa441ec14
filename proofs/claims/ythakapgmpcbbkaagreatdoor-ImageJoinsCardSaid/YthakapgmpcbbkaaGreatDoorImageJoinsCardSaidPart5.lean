/- Texts on the way to this: ImageJoins answers true for whatever it is handed: of any moves, cut in two at any place: a row forth through both parts, one behind the other, is the row forth; back likewise (up to 50 columns and values, 8 moves). (part 5) -/
import Derived.Below
import Derived.Test.YthakapgmpcbbkaaGreatDoorProg
import Derived.KernelRfl
import Derived.Shelf.Strconv.Itoa4
import Derived.Shelf.Strings.SplitShaped
import Derived.Shelf.Strings.SlTrimAscii
import Derived.Shelf.Strings.OnBuilder
import Derived.Shelf.Strings.Replace
import Derived.Shelf.Small.Strs
import Derived.Shelf.Strings.Prefix
import Derived.Shelf.Strconv.ErrVarParseInt
import Derived.Shelf.Bits.Mul64
import Derived.Shelf.Strings.Builder1
import Derived.Shelf.Strings.Cut
import Derived.Lib.SplitLaws
import Derived.LaidEql
import Derived.Stop.Asserts
import Derived.RowKitTokens
import Derived.WalkKit
import Derived.Lib.AtoiErrMem
import Derived.Lib.Strings
import Derived.BigCall
import Derived.Lib.ParseIntB
import Derived.Test.YthakapgmpcbbkaaGreatDoorImageJoinsCardSaidPart4
set_option linter.all false
namespace Go.SX
variable [GI:GlobInv]
open Classical Go.RowKit
section
variable {P:Program} {g:FuncId} {Hp:List AObj}

/-- What is known of package-level variables, of a world alone. -/
def Hm (w:World):Prop:=∀x∈GI.blocks,∃o,w.heap[x.1]? = some o∧x.2 o

theorem V4 {G:Gh} {w:World} {xs:List Value} {vs:Array Value} (hn:vs.size=(xs.map AV.v).length) (h:∀(i:Nat) (y:AV) (u:Value),(xs.map AV.v)[i]? = some y→vs[i]? = some u→∃l,Rep G w l y u):vs=xs.toArray:=by
 apply Array.ext
 ·simpa using hn
 intro i h1 h2
 have hi:i<xs.length:=by simpa using h2
 obtain ⟨l,hr⟩:=h i (.v xs[i]) vs[i] (by simp [hi]) (Array.getElem?_eq_getElem h1)
 have:=M4 hr
 simpa using this

theorem Ek {G:Gh} {w w':World} (hT:TagOK G w) (hb:Below w.heap.size w w') {b o:Nat} (h:G.tag b o≠.free):w'.cell? ⟨b,o,none⟩=w.cell? ⟨b,o,none⟩∧w'.frozen? ⟨b,o,none⟩=w.frozen? ⟨b,o,none⟩:=by
 obtain ⟨u,hu⟩:=hT.ex b o h
 have hlt:b<w.heap.size:=World.block_lt_of_cell? _ _ hu
 have:=hb.block b hlt
 exact ⟨Ge this,G7 this⟩

theorem Qb {G:Gh} {w w':World} (hT:TagOK G w) (hb:Below w.heap.size w w'):Turn G w G w':=
 ⟨fun b o h=>⟨h,(Ek hT hb (by rw [h];simp)).1⟩,fun _ _ _ h=>h,fun _ _ _ h=>h,Nat.le_refl _,fun _ _=>rfl,hb.os,hb.tape,hb.output,hb.size,Still.tags (fun b hv=>hb.block b hv.1) hb.size (fun _ _ _=>.inl rfl) (fun _ hi=>.inl ⟨hi,rfl⟩)⟩

theorem Zl {G:Gh} {H:List AObj} {w w':World} (hH:HeapRel G H w) (hT:TagOK G w) (hb:Below w.heap.size w w'):HeapRel G H w'∧TagOK G w':=by
 have T:=Qb hT hb
 refine ⟨⟨fun i x hx=>?_,hH.n,hH.inj⟩,⟨fun b o h=>?_,fun b o i h=>?_,fun b o L h=>?_,hT.globKeep T.old⟩⟩
 ·have hi:i<G.n:=by rw [hH.n];exact (List.getElem?_eq_some_iff.1 hx).1
  exact T.objRel hi (hb.block _ (Jv hH i hi)) (hH.obj i x hx) (fun b h=>hb.block b h.lt)
 ·rw [(Ek hT hb h).1];exact hT.ex b o h
 ·rw [(Ek hT hb (by rw [h];simp)).2];exact hT.obj b o i h
 rw [(Ek hT hb (by rw [h];simp)).2];exact hT.tail b o L h

/-- A function of plain values that hands back a plain value. -/
theorem AFun.lib {xs:List Value} {r:AV} {v:Value} (hr:∀G w,Rep G w none r v) (h:∀w,Hm w→Calls P g xs.toArray w (fun e w'=>e=.returned v∧Below w.heap.size w w')):AFun P g (xs.map .v) Hp r:=by
 intro d G w vs hn hv hH hT hTop
 have hvs:=V4 hn (fun i y u a b=>⟨_,hv i y u a b⟩)
 subst hvs
 refine (callsIn_wide.2 (h w (fun x hx=>let ⟨_,u,a,b⟩:=hT.glob x hx;⟨u,a,b⟩))).mono ?_
 rintro e w' ⟨rfl,hb⟩
 obtain ⟨h1,h2⟩:=Zl hH hT hb
 exact ⟨v,G,r,Hp,rfl,(hr G w').lift,h1,h2,(Qb hT hb).keep _,rfl,rfl,rfl⟩


/-- A function of plain values that hands back a new slice of plain values. -/
theorem AFun.libSlice {xs ys:List Value} {t:TypeId} (hone:∀y∈ys,y.oneCell'=true) (h:∀w,Hm w→Calls P g xs.toArray w (fun e w'=>e=.returned (.slice (some ⟨w.heap.size,0,none⟩) ys.length ys.length)∧w'=w.alloc (.cells ys.toArray t))):
  AFun P g (xs.map .v) Hp (.slice false 1 (ys.map .v)):=by
 intro d G w vs hn hv hH hT hTop
 have hvs:=V4 hn (fun i y u a b=>⟨_,hv i y u a b⟩)
 subst hvs
 refine (callsIn_wide.2 (h w (fun x hx=>let ⟨_,u,a,b⟩:=hT.glob x hx;⟨u,a,b⟩))).mono ?_
 rintro e w' ⟨rfl,rfl⟩
 have hst:StRel (d+1) G ⟨0,fun _=>.any,Hp,[],[],none⟩ { tmps:=#[],defers:=[] } w:=
  ⟨rfl,fun s=>.any _ _,by simpa using hH,(by rw [Cy hTop];rfl),(fun o ho=>by simp at ho),List.nodup_nil,(fun o ho=>by simp at ho),hT,(fun l hl=>by cases hl),Q0 hH,Nat.le_succ_of_le hTop⟩
 obtain ⟨G',g1,T,g2⟩:=N5 hst t ys.toArray
 refine ⟨_,G',_,Hp,rfl,?_,by simpa using g1.heap,g1.tags,T.keep _,rfl,rfl,rfl⟩
 refine .slice _ false 1 _ _ _ _ (fun i j=>ys.toArray.getD i undef) rfl (by simp) (Nat.le_refl _) (fun x hx=>?_) (fun x hx y hy=>?_) (fun i x j y hx hy=>?_) (fun i x j y hx hy=>?_) (fun h=>by cases h)
 ·obtain ⟨z,_,rfl⟩:=List.mem_map.1 hx
  rfl
 ·obtain ⟨z,hz,rfl⟩:=List.mem_map.1 hx
  have:y=.v z:=by simpa [AV.cells] using hy
  subst this
  exact hone z hz
 all_goals
  rw [List.getElem?_map,Option.map_eq_some_iff] at hx
  obtain ⟨z,hz,rfl⟩:=hx
  have hlt:i<ys.length:=(List.getElem?_eq_some_iff.1 hz).1
  have hj:j=0:=by
   match j,hy with
   | 0,_=>rfl
   | j+1,hy=>simp [AV.cells] at hy
  subst hj
 ·refine ⟨by simpa using g2 i (by simpa using hlt),?_⟩
  rw [World.cell?_alloc_new]
  simp [hlt]
 have:y=.v z:=by simpa [AV.cells] using hy.symm
 subst this
 have e:ys.toArray.getD i undef=z:=by
  have:=List.getElem?_eq_getElem hlt
  rw [this] at hz
  injection hz with hz
  simp [hlt,hz]
 rw [e]
 exact .v _ _
/-- A function that hands back a plain value and, behind an interface value, a new record of plain values. -/
theorem AFun.libErr {xs cs:List Value} {n:Value} {T te:TypeId} (hone:∀y∈cs,y.oneCell'=true) (h:∀w,Hm w→Calls P g xs.toArray w (fun e w'=>∃N,e=.returned (.tuple #[n,.iface T (.pointer (some ⟨N,0,none⟩))])∧w.heap.size≤N∧w'.heap[N]? = some (.cells cs.toArray te (0,0))∧Below w.heap.size w w')):
  AFun P g (xs.map .v) Hp (.tup [.v n,.iface T (.ro (cs.map .v))]):=by
 intro d G w vs hn hv hH hT hTop
 have hvs:=V4 hn (fun i y u a b=>⟨_,hv i y u a b⟩)
 subst hvs
 refine (callsIn_wide.2 (h w (fun x hx=>let ⟨_,u,a,b⟩:=hT.glob x hx;⟨u,a,b⟩))).mono ?_
 rintro e w' ⟨N,rfl,hN,hcell,hb⟩
 have hfree:∀o,G.tag N o=.free:=fun o=>Dx hT _ o hN
 let G':Gh:={ G with tag:=fun b o=>if b=N∧o<cs.length then .fix else G.tag b o }
 have hne:∀b o,G.tag b o≠.free→¬(b=N∧o<cs.length):=fun b o hb hc=>by rw [hc.1] at hb;exact hb (hfree o)
 have hnew:∀o,o<cs.length→w'.cell? ⟨N,o,none⟩=cs[o]? := fun o ho=>by simp [World.cell?,hcell,ho]
 have T1:Turn G w G' w':=by
  refine ⟨fun b o h=>⟨?_,(Ek hT hb (by rw [h];simp)).1⟩,fun b o L h=>?_,fun b o i h=>?_,Nat.le_refl _,fun _ _=>rfl,hb.os,hb.tape,hb.output,hb.size,
   Still.tags (fun b hv=>hb.block b hv.1) hb.size (fun b o hlt=>.inl ?_) (fun _ hi=>.inl ⟨hi,rfl⟩)⟩
  ·simp only [G'];rw [if_neg (hne b o (by rw [h];simp))];exact h
  ·simp only [G'];rw [if_neg (hne b o (by rw [h];simp))];exact h
  ·simp only [G'];rw [if_neg (hne b o (by rw [h];simp))];exact h
  simp only [G'];rw [if_neg (by omega)]
 have hH':HeapRel G' Hp w':=⟨fun i x hx=>by
  have hi:i<G.n:=by rw [hH.n];exact (List.getElem?_eq_some_iff.1 hx).1
  exact T1.objRel hi (hb.block _ (Jv hH i hi)) (hH.obj i x hx) (fun b h=>hb.block b h.lt),hH.n,hH.inj⟩
 have hT':TagOK G' w':=by
  refine ⟨fun b o h=>?_,fun b o i h=>?_,fun b o L h=>?_,hT.globKeep T1.old⟩
  ·simp only [G'] at h
   split at h
   ·rename_i hc;obtain ⟨rfl,ho⟩:=hc;exact ⟨_,(hnew o ho).trans (List.getElem?_eq_getElem ho)⟩
   rw [(Ek hT hb h).1];exact hT.ex b o h
  ·simp only [G'] at h
   split at h
   ·cases h
   rw [(Ek hT hb (by rw [h];simp)).2];exact hT.obj b o i h
  simp only [G'] at h
  split at h
  ·cases h
  rw [(Ek hT hb (by rw [h];simp)).2];exact hT.tail b o L h
 refine ⟨_,G',_,Hp,rfl,?_,hH',hT',T1.keep _,rfl,rfl,rfl⟩
 refine .tup _ _ _ rfl (fun i y u hy hu=>?_)
 match i with
 | 0=>simp at hy hu;subst hy;subst hu;exact .v _ _
 | 1 =>
  simp at hy hu;subst hy;subst hu
  refine .iface _ _ _ _ (.ro _ _ ⟨N,0,none⟩ (fun j=>cs.getD j undef) rfl (fun y hy=>?_) (fun j y hy=>?_) (fun j y hy=>?_))
  ·obtain ⟨z,hz,rfl⟩:=List.mem_map.1 hy
   exact hone z hz
  all_goals
   rw [List.getElem?_map,Option.map_eq_some_iff] at hy
   obtain ⟨z,hz,rfl⟩:=hy
   have hlt:j<cs.length:=(List.getElem?_eq_some_iff.1 hz).1
   have e:cs.getD j undef=z:=by rw [List.getD_eq_getElem?_getD,hz];rfl
  ·refine ⟨by simp [G',hlt],?_⟩
   rw [Nat.zero_add,hnew j hlt,hz,e]
  rw [e];exact .v _ _
 | i+2=>simp at hy
theorem TagOK.globIn {G:Gh} {w:World} (h:TagOK G w):Hm w:=fun x hx=>(h.glob x hx).2
/-- A package-level variable of which something is known. -/
theorem R.loadGlob {d:Nat} {ops:Array Oper} {rest:List Oper} {sz:Nat} {fr:Nat→AV} {up own:List AObj} {dfs:List Nat} {rnd:Option Nat} {Q:St→Prop} {s:Nat} {ty:TypeId} {pos:String} {aft:Array Edge} {t:TypeId} {gl:Nat} {v:Value}
  (hagg:∀w,(isAgg t).run P w=.ok false w) (hv:∀w,Hm w→w.cell? ⟨gl,0,none⟩=some v) (hr:ARun P d ops rest ⟨sz,A3 s (.v v) fr,up,own,dfs,rnd⟩ Q) (hs:Nat.blt s sz=true:=by rfl):
  ARun P d ops (⟨some s,.load t (.global gl),ty,pos,aft,none⟩::rest) ⟨sz,fr,up,own,dfs,rnd⟩ Q:=by
 refine ARun.v rfl rfl (by simpa using hs) (OpV.pure (by intro c h;cases h) fun G a w h=>⟨v,?_,.v _ _⟩) hr
 have hc:=hv w h.tags.globIn
 have e:a.eval (.global gl)=.pointer (some ⟨gl,0,none⟩):=rfl
 simp [execOp,e,Instr.loadAt,Instr.sureAddr,loadVar,hagg,hc]
end
end Go.SX
namespace Go.SX.Nb
open Go Go.SX Go.Proofs
set_option maxRecDepth 4000

/-- Where strconv.ErrRange points. -/
class ErrAt where
 b:Addr
 bd:Nat:=0
 bl:List Deferred:=[]
/-- The package-level variables of which something is known: bytealg.MaxLen is a number; strconv.ErrRange is an error of errors.New's make; the table of powers of ten. -/
def T6 [E:ErrAt]:List (Nat×(Obj→Prop)):=[(0,fun o=>∃m t f,o=.cells #[.int .i64 m] t f),(3,fun o=>∃t f,o=.cells #[.iface 310 (.pointer (some E.b))] t f),(5,fun o=>∃t f,o=.cells (Lib.pow10Tab.map fun z=>Value.int .u64 z).toArray t f)]
instance globInv [E:ErrAt]:GlobInv:={ blocks:=T6,bd:=E.bd,bl:=E.bl }
variable [ErrAt]

abbrev Str:=List UInt8
structure Col where
 name:Str
 kind:Int
 deriving DecidableEq
structure Val where
 kind:Int
 n:Int
 s:Str
 deriving DecidableEq
structure Row where
 key:Int
 l:List Val
 deriving DecidableEq
abbrev A9 (s:Str):AV:=.v (sv s)
abbrev A2 (n:Int):AV:=.v (.int .i64 n)
abbrev mq (n:Int):AV:=.v (.int .u64 n)
abbrev At (b:Bool):AV:=.v (.bool b)
abbrev B0 (c:Col):AV:=.agg [.v (sv c.name),.v (.int .i64 c.kind)]
abbrev Ac (c:List Col):AV:=.slice false 2 (c.map B0)
abbrev Am (v:Val):AV:=.agg [.v (.int .i64 v.kind),.v (.int .i64 v.n),.v (sv v.s)]
abbrev B1 (l:List Val):AV:=.slice false 3 (l.map Am)
abbrev Fe (l:List Str):AV:=.slice false 1 (l.map A9)
theorem An {α β:Type} {f:α→β} {l:List α} {i:Nat} (h:i<l.length):(l.map f)[i]? = some (f l[i]):=by simp [h]
theorem Aa:Tryz.prog.follows .mixedOrders=true:=by kernel_rfl
theorem Si:Tryz.prog.eqGuardType Tryz.prog.depth 63=false:=by kernel_rfl
theorem G8 (k n k' n':Int) (s s':List UInt8) (w:World):(Op.equal 63 (.agg #[.int .i64 k,.int .i64 n,.string ⟨s.toArray⟩]) (.agg #[.int .i64 k',.int .i64 n',.string ⟨s'.toArray⟩])).run Tryz.prog w=.ok (k==k'&&n==n'&&s==s') w:=by
 have h1:Tryz.prog.stoodInHeld 63=false:=by kernel_rfl
 show (Op.equalIn (9999+1) _ _ _).run _ _=_
 rw [Op.equalIn]
 generalize hd:(9999:Nat)=d
 obtain ⟨d,rfl⟩:∃e,d=e+1:=⟨9998,hd.symm⟩
 clear hd
 simp [run_underlying Tryz.underlying63,h1,part,vk _ _ _ _ _ _ Tryz.underlying3,vk _ _ _ _ _ _ Tryz.underlying2,z6 _ _ _ _ _ Tryz.underlying9,Tryz.isAgg3,Tryz.isAgg2,Tryz.isAgg9]
 by_cases e1:k=k'<;>by_cases e2:n=n'<;>by_cases e3:s=s'<;>simp [e1,e2,e3]
end Go.SX.Nb
namespace Go.Proofs
open Go Go.Shelf
def Tryz.ren144:Ren where
 f:=fun x=>match x with|144=>151|143=>92|219=>127|217=>158|225=>159|224=>160|267=>161|266=>175|314=>176|n=>n
 t:=fun x=>match x with|9=>9|4=>4|3=>3|5=>5|46=>38|146=>215|51=>214|n=>n
 g:=fun x=>match x with|1=>0|n=>n
theorem Tryz.lays144:Lays.n144 Tryz.prog Tryz.ren144 where
 mixed:=by kernel_rfl
 f143:=Tryz.func92
 f144:=Tryz.func151
 f217:=Tryz.func158
 f219:=Tryz.func127
 f224:=Tryz.func160
 f225:=Tryz.func159
 f266:=Tryz.func175
 f267:=Tryz.func161
 f314:=Tryz.func176
 t3:=Tryz.underlying3
 a3:=Tryz.isAgg3
 z3:=Tryz.sizeOf3
 v3:=Tryz.zeroValue3
 t4:=Tryz.underlying4
 a4:=Tryz.isAgg4
 z4:=Tryz.sizeOf4
 v4:=Tryz.zeroValue4
 t5:=Tryz.underlying5
 a5:=Tryz.isAgg5
 z5:=Tryz.sizeOf5
 v5:=Tryz.zeroValue5
 t9:=Tryz.underlying9
 a9:=Tryz.isAgg9
 z9:=Tryz.sizeOf9
 v9:=Tryz.zeroValue9
 t46:=Tryz.underlying38
 a46:=Tryz.isAgg38
 z46:=Tryz.sizeOf38
 v46:=Tryz.zeroValue38
 t51:=Tryz.underlying214
 a51:=Tryz.isAgg214
 z51:=Tryz.sizeOf214
 v51:=Tryz.zeroValue214
 t146:=Tryz.underlying215
 a146:=Tryz.isAgg215
 z146:=Tryz.sizeOf215
 v146:=Tryz.zeroValue215
 g1:=by kernel_rfl
def Tryz.ren145:Ren where
 f:=fun x=>match x with|145=>132|220=>165|219=>127|217=>158|225=>159|224=>160|267=>161|266=>175|314=>176|n=>n
 t:=fun x=>match x with|9=>9|4=>4|59=>187|3=>3|5=>5|46=>38|146=>215|51=>214|n=>n
 g:=fun x=>match x with|1=>0|n=>n
theorem Tryz.lays145:Lays.n145 Tryz.prog Tryz.ren145 where
 mixed:=by kernel_rfl
 f145:=Tryz.func132
 f217:=Tryz.func158
 f219:=Tryz.func127
 f220:=Tryz.func165
 f224:=Tryz.func160
 f225:=Tryz.func159
 f266:=Tryz.func175
 f267:=Tryz.func161
 f314:=Tryz.func176
 t3:=Tryz.underlying3
 a3:=Tryz.isAgg3
 z3:=Tryz.sizeOf3
 v3:=Tryz.zeroValue3
 t4:=Tryz.underlying4
 a4:=Tryz.isAgg4
 z4:=Tryz.sizeOf4
 v4:=Tryz.zeroValue4
 t5:=Tryz.underlying5
 a5:=Tryz.isAgg5
 z5:=Tryz.sizeOf5
 v5:=Tryz.zeroValue5
 t9:=Tryz.underlying9
 a9:=Tryz.isAgg9
 z9:=Tryz.sizeOf9
 v9:=Tryz.zeroValue9
 t46:=Tryz.underlying38
 a46:=Tryz.isAgg38
 z46:=Tryz.sizeOf38
 v46:=Tryz.zeroValue38
 t51:=Tryz.underlying214
 a51:=Tryz.isAgg214
 z51:=Tryz.sizeOf214
 v51:=Tryz.zeroValue214
 t59:=Tryz.underlying187
 a59:=Tryz.isAgg187
 z59:=Tryz.sizeOf187
 v59:=Tryz.zeroValue187
 t146:=Tryz.underlying215
 a146:=Tryz.isAgg215
 z146:=Tryz.sizeOf215
 v146:=Tryz.zeroValue215
 g1:=by kernel_rfl
def Tryz.ren146:Ren where
 f:=fun x=>match x with|146=>44|221=>63|268=>90|138=>91|143=>92|195=>124|197=>125|218=>126|219=>127|260=>157|217=>158|225=>159|224=>160|267=>161|266=>175|314=>176|n=>n
 t:=fun x=>match x with|9=>9|31=>74|3=>3|4=>4|0=>0|105=>180|21=>21|5=>5|46=>38|119=>210|139=>213|138=>212|146=>215|51=>214|n=>n
 g:=fun x=>match x with|1=>0|3=>1|4=>2|n=>n
theorem Tryz.lays146:Lays.n146 Tryz.prog Tryz.ren146 where
 mixed:=by kernel_rfl
 f138:=Tryz.func91
 f143:=Tryz.func92
 f146:=Tryz.func44
 f195:=Tryz.func124
 f197:=Tryz.func125
 f217:=Tryz.func158
 f218:=Tryz.func126
 f219:=Tryz.func127
 f221:=Tryz.func63
 f224:=Tryz.func160
 f225:=Tryz.func159
 f260:=Tryz.func157
 f266:=Tryz.func175
 f267:=Tryz.func161
 f268:=Tryz.func90
 f314:=Tryz.func176
 t0:=Tryz.underlying0
 a0:=Tryz.isAgg0
 z0:=Tryz.sizeOf0
 v0:=Tryz.zeroValue0
 t3:=Tryz.underlying3
 a3:=Tryz.isAgg3
 z3:=Tryz.sizeOf3
 v3:=Tryz.zeroValue3
 t4:=Tryz.underlying4
 a4:=Tryz.isAgg4
 z4:=Tryz.sizeOf4
 v4:=Tryz.zeroValue4
 t5:=Tryz.underlying5
 a5:=Tryz.isAgg5
 z5:=Tryz.sizeOf5
 v5:=Tryz.zeroValue5
 t9:=Tryz.underlying9
 a9:=Tryz.isAgg9
 z9:=Tryz.sizeOf9
 v9:=Tryz.zeroValue9
 t21:=Tryz.underlying21
 a21:=Tryz.isAgg21
 z21:=Tryz.sizeOf21
 v21:=Tryz.zeroValue21
 t31:=Tryz.underlying74
 a31:=Tryz.isAgg74
 z31:=Tryz.sizeOf74
 v31:=Tryz.zeroValue74
 t46:=Tryz.underlying38
 a46:=Tryz.isAgg38
 z46:=Tryz.sizeOf38
 v46:=Tryz.zeroValue38
 t51:=Tryz.underlying214
 a51:=Tryz.isAgg214
 z51:=Tryz.sizeOf214
 v51:=Tryz.zeroValue214
 t105:=Tryz.underlying180
 a105:=Tryz.isAgg180
 z105:=Tryz.sizeOf180
 v105:=Tryz.zeroValue180
 t119:=Tryz.underlying210
 a119:=Tryz.isAgg210
 z119:=Tryz.sizeOf210
 t138:=Tryz.underlying212
 a138:=Tryz.isAgg212
 z138:=Tryz.sizeOf212
 v138:=Tryz.zeroValue212
 t139:=Tryz.underlying213
 a139:=Tryz.isAgg213
 z139:=Tryz.sizeOf213
 v139:=Tryz.zeroValue213
 t146:=Tryz.underlying215
 a146:=Tryz.isAgg215
 z146:=Tryz.sizeOf215
 v146:=Tryz.zeroValue215
 g1:=by kernel_rfl
 g3:=by kernel_rfl
 g4:=by kernel_rfl
def Tryz.ren161:Ren where
 f:=fun x=>match x with|161=>164|231=>181|227=>182|233=>183|235=>184|228=>204|197=>125|151=>205|260=>157|152=>224|137=>167|119=>244|224=>160|225=>159|217=>158|266=>175|n=>n
 t:=fun x=>match x with|9=>9|4=>4|3=>3|5=>5|117=>224|116=>223|0=>0|124=>227|105=>180|21=>21|119=>210|46=>38|139=>213|138=>212|n=>n
 g:=fun x=>match x with|3=>1|4=>2|n=>n
theorem Tryz.lays161:Lays.n161 Tryz.prog Tryz.ren161 where
 mixed:=by kernel_rfl
 f119:=Tryz.func244
 f137:=Tryz.func167
 f151:=Tryz.func205
 f152:=Tryz.func224
 f161:=Tryz.func164
 f197:=Tryz.func125
 f217:=Tryz.func158
 f224:=Tryz.func160
 f225:=Tryz.func159
 f227:=Tryz.func182
 f228:=Tryz.func204
 f231:=Tryz.func181
 f233:=Tryz.func183
 f235:=Tryz.func184
 f260:=Tryz.func157
 f266:=Tryz.func175
 t0:=Tryz.underlying0
 a0:=Tryz.isAgg0
 z0:=Tryz.sizeOf0
 v0:=Tryz.zeroValue0
 t3:=Tryz.underlying3
 a3:=Tryz.isAgg3
 z3:=Tryz.sizeOf3
 v3:=Tryz.zeroValue3
 t4:=Tryz.underlying4
 a4:=Tryz.isAgg4
 z4:=Tryz.sizeOf4
 v4:=Tryz.zeroValue4
 t5:=Tryz.underlying5
 a5:=Tryz.isAgg5
 z5:=Tryz.sizeOf5
 v5:=Tryz.zeroValue5
 t9:=Tryz.underlying9
 a9:=Tryz.isAgg9
 z9:=Tryz.sizeOf9
 v9:=Tryz.zeroValue9
 t21:=Tryz.underlying21
 a21:=Tryz.isAgg21
 z21:=Tryz.sizeOf21
 v21:=Tryz.zeroValue21
 t46:=Tryz.underlying38
 a46:=Tryz.isAgg38
 z46:=Tryz.sizeOf38
 v46:=Tryz.zeroValue38
 t105:=Tryz.underlying180
 a105:=Tryz.isAgg180
 z105:=Tryz.sizeOf180
 v105:=Tryz.zeroValue180
 t116:=Tryz.underlying223
 a116:=Tryz.isAgg223
 z116:=Tryz.sizeOf223
 t117:=Tryz.underlying224
 a117:=Tryz.isAgg224
 z117:=Tryz.sizeOf224
 v117:=Tryz.zeroValue224
 t119:=Tryz.underlying210
 a119:=Tryz.isAgg210
 z119:=Tryz.sizeOf210
 t124:=Tryz.underlying227
 a124:=Tryz.isAgg227
 z124:=Tryz.sizeOf227
 v124:=Tryz.zeroValue227
 t138:=Tryz.underlying212
 a138:=Tryz.isAgg212
 z138:=Tryz.sizeOf212
 v138:=Tryz.zeroValue212
 t139:=Tryz.underlying213
 a139:=Tryz.isAgg213
 z139:=Tryz.sizeOf213
 v139:=Tryz.zeroValue213
 g3:=by kernel_rfl
 g4:=by kernel_rfl
def Tryz.ren99:Ren where
 f:=fun x=>match x with|99=>185|206=>206|n=>n
 t:=fun x=>match x with|9=>9|4=>4|3=>3|n=>n
 g:=fun x=>x
theorem Tryz.lays99:Lays.n99 Tryz.prog Tryz.ren99 where
 mixed:=by kernel_rfl
 f99:=Tryz.func185
 f206:=Tryz.func206
 t3:=Tryz.underlying3
 a3:=Tryz.isAgg3
 z3:=Tryz.sizeOf3
 v3:=Tryz.zeroValue3
 t4:=Tryz.underlying4
 a4:=Tryz.isAgg4
 z4:=Tryz.sizeOf4
 v4:=Tryz.zeroValue4
 t9:=Tryz.underlying9
 a9:=Tryz.isAgg9
 z9:=Tryz.sizeOf9
 v9:=Tryz.zeroValue9
def Tryz.ren100:Ren where
 f:=fun x=>match x with|100=>186|207=>207|n=>n
 t:=fun x=>match x with|9=>9|4=>4|3=>3|n=>n
 g:=fun x=>x
theorem Tryz.lays100:Lays.n100 Tryz.prog Tryz.ren100 where
 mixed:=by kernel_rfl
 f100:=Tryz.func186
 f207:=Tryz.func207
 t3:=Tryz.underlying3
 a3:=Tryz.isAgg3
 z3:=Tryz.sizeOf3
 v3:=Tryz.zeroValue3
 t4:=Tryz.underlying4
 a4:=Tryz.isAgg4
 z4:=Tryz.sizeOf4
 v4:=Tryz.zeroValue4
 t9:=Tryz.underlying9
 a9:=Tryz.isAgg9
 z9:=Tryz.sizeOf9
 v9:=Tryz.zeroValue9
def Tryz.ren101:Ren where
 f:=fun x=>match x with|101=>209|208=>225|206=>206|n=>n
 t:=fun x=>match x with|9=>9|4=>4|3=>3|n=>n
 g:=fun x=>x
theorem Tryz.lays101:Lays.n101 Tryz.prog Tryz.ren101 where
 mixed:=by kernel_rfl
 f101:=Tryz.func209
 f206:=Tryz.func206
 f208:=Tryz.func225
 t3:=Tryz.underlying3
 a3:=Tryz.isAgg3
 z3:=Tryz.sizeOf3
 v3:=Tryz.zeroValue3
 t4:=Tryz.underlying4
 a4:=Tryz.isAgg4
 z4:=Tryz.sizeOf4
 v4:=Tryz.zeroValue4
 t9:=Tryz.underlying9
 a9:=Tryz.isAgg9
 z9:=Tryz.sizeOf9
 v9:=Tryz.zeroValue9
def Tryz.ren160:Ren where
 f:=fun x=>match x with|160=>210|232=>226|231=>181|227=>182|234=>227|233=>183|236=>228|235=>184|228=>204|271=>245|151=>205|197=>125|120=>263|152=>224|260=>157|137=>167|119=>244|224=>160|225=>159|217=>158|266=>175|n=>n
 t:=fun x=>match x with|9=>9|4=>4|3=>3|5=>5|117=>224|116=>223|0=>0|124=>227|21=>21|105=>180|46=>38|119=>210|139=>213|138=>212|n=>n
 g:=fun x=>match x with|3=>1|4=>2|n=>n
theorem Tryz.lays160:Lays.n160 Tryz.prog Tryz.ren160 where
 mixed:=by kernel_rfl
 f119:=Tryz.func244
 f120:=Tryz.func263
 f137:=Tryz.func167
 f151:=Tryz.func205
 f152:=Tryz.func224
 f160:=Tryz.func210
 f197:=Tryz.func125
 f217:=Tryz.func158
 f224:=Tryz.func160
 f225:=Tryz.func159
 f227:=Tryz.func182
 f228:=Tryz.func204
 f231:=Tryz.func181
 f232:=Tryz.func226
 f233:=Tryz.func183
 f234:=Tryz.func227
 f235:=Tryz.func184
 f236:=Tryz.func228
 f260:=Tryz.func157
 f266:=Tryz.func175
 f271:=Tryz.func245
 t0:=Tryz.underlying0
 a0:=Tryz.isAgg0
 z0:=Tryz.sizeOf0
 v0:=Tryz.zeroValue0
 t3:=Tryz.underlying3
 a3:=Tryz.isAgg3
 z3:=Tryz.sizeOf3
 v3:=Tryz.zeroValue3
 t4:=Tryz.underlying4
 a4:=Tryz.isAgg4
 z4:=Tryz.sizeOf4
 v4:=Tryz.zeroValue4
 t5:=Tryz.underlying5
 a5:=Tryz.isAgg5
 z5:=Tryz.sizeOf5
 v5:=Tryz.zeroValue5
 t9:=Tryz.underlying9
 a9:=Tryz.isAgg9
 z9:=Tryz.sizeOf9
 v9:=Tryz.zeroValue9
 t21:=Tryz.underlying21
 a21:=Tryz.isAgg21
 z21:=Tryz.sizeOf21
 v21:=Tryz.zeroValue21
 t46:=Tryz.underlying38
 a46:=Tryz.isAgg38
 z46:=Tryz.sizeOf38
 v46:=Tryz.zeroValue38
 t105:=Tryz.underlying180
 a105:=Tryz.isAgg180
 z105:=Tryz.sizeOf180
 v105:=Tryz.zeroValue180
 t116:=Tryz.underlying223
 a116:=Tryz.isAgg223
 z116:=Tryz.sizeOf223
 t117:=Tryz.underlying224
 a117:=Tryz.isAgg224
 z117:=Tryz.sizeOf224
 v117:=Tryz.zeroValue224
 t119:=Tryz.underlying210
 a119:=Tryz.isAgg210
 z119:=Tryz.sizeOf210
 t124:=Tryz.underlying227
 a124:=Tryz.isAgg227
 z124:=Tryz.sizeOf227
 v124:=Tryz.zeroValue227
 t138:=Tryz.underlying212
 a138:=Tryz.isAgg212
 z138:=Tryz.sizeOf212
 v138:=Tryz.zeroValue212
 t139:=Tryz.underlying213
 a139:=Tryz.isAgg213
 z139:=Tryz.sizeOf213
 v139:=Tryz.zeroValue213
 g3:=by kernel_rfl
 g4:=by kernel_rfl
def Tryz.ren155:Ren where
 f:=fun x=>match x with|155=>203|154=>223|138=>91|165=>129|143=>92|166=>66|197=>125|169=>68|195=>124|218=>126|240=>97|241=>163|219=>127|260=>157|276=>130|277=>180|217=>158|225=>159|224=>160|267=>161|266=>175|314=>176|n=>n
 t:=fun x=>match x with|9=>9|3=>3|4=>4|72=>116|0=>0|76=>120|105=>180|21=>21|5=>5|70=>113|20=>20|37=>114|75=>119|127=>153|164=>185|46=>38|119=>210|139=>213|138=>212|146=>215|51=>214|80=>123|n=>n
 g:=fun x=>match x with|1=>0|3=>1|4=>2|n=>n
theorem Tryz.lays155:Lays.n155 Tryz.prog Tryz.ren155 where
 mixed:=by kernel_rfl
 f138:=Tryz.func91
 f143:=Tryz.func92
 f154:=Tryz.func223
 f155:=Tryz.func203
 f165:=Tryz.func129
 f166:=Tryz.func66
 f169:=Tryz.func68
 f195:=Tryz.func124
 f197:=Tryz.func125
 f217:=Tryz.func158
 f218:=Tryz.func126
 f219:=Tryz.func127
 f224:=Tryz.func160
 f225:=Tryz.func159
 f240:=Tryz.func97
 f241:=Tryz.func163
 f260:=Tryz.func157
 f266:=Tryz.func175
 f267:=Tryz.func161
 f276:=Tryz.func130
 f277:=Tryz.func180
 f314:=Tryz.func176
 t0:=Tryz.underlying0
 a0:=Tryz.isAgg0
 z0:=Tryz.sizeOf0
 v0:=Tryz.zeroValue0
 t3:=Tryz.underlying3
 a3:=Tryz.isAgg3
 z3:=Tryz.sizeOf3
 v3:=Tryz.zeroValue3
 t4:=Tryz.underlying4
 a4:=Tryz.isAgg4
 z4:=Tryz.sizeOf4
 v4:=Tryz.zeroValue4
 t5:=Tryz.underlying5
 a5:=Tryz.isAgg5
 z5:=Tryz.sizeOf5
 v5:=Tryz.zeroValue5
 t9:=Tryz.underlying9
 a9:=Tryz.isAgg9
 z9:=Tryz.sizeOf9
 v9:=Tryz.zeroValue9
 t20:=Tryz.underlying20
 a20:=Tryz.isAgg20
 z20:=Tryz.sizeOf20
 v20:=Tryz.zeroValue20
 t21:=Tryz.underlying21
 a21:=Tryz.isAgg21
 z21:=Tryz.sizeOf21
 v21:=Tryz.zeroValue21
 t37:=Tryz.underlying114
 a37:=Tryz.isAgg114
 z37:=Tryz.sizeOf114
 v37:=Tryz.zeroValue114
 t46:=Tryz.underlying38
 a46:=Tryz.isAgg38
 z46:=Tryz.sizeOf38
 v46:=Tryz.zeroValue38
 t51:=Tryz.underlying214
 a51:=Tryz.isAgg214
 z51:=Tryz.sizeOf214
 v51:=Tryz.zeroValue214
 t70:=Tryz.underlying113
 a70:=Tryz.isAgg113
 z70:=Tryz.sizeOf113
 v70:=Tryz.zeroValue113
 t72:=Tryz.underlying116
 a72:=Tryz.isAgg116
 z72:=Tryz.sizeOf116
 v72:=Tryz.zeroValue116
 t75:=Tryz.underlying119
 a75:=Tryz.isAgg119
 z75:=Tryz.sizeOf119
 v75:=Tryz.zeroValue119
 t76:=Tryz.underlying120
 a76:=Tryz.isAgg120
 z76:=Tryz.sizeOf120
 v76:=Tryz.zeroValue120
 t105:=Tryz.underlying180
 a105:=Tryz.isAgg180
 z105:=Tryz.sizeOf180
 v105:=Tryz.zeroValue180
 t119:=Tryz.underlying210
 a119:=Tryz.isAgg210
 z119:=Tryz.sizeOf210
 t127:=Tryz.underlying153
 a127:=Tryz.isAgg153
 z127:=Tryz.sizeOf153
 v127:=Tryz.zeroValue153
 t138:=Tryz.underlying212
 a138:=Tryz.isAgg212
 z138:=Tryz.sizeOf212
 v138:=Tryz.zeroValue212
 t139:=Tryz.underlying213
 a139:=Tryz.isAgg213
 z139:=Tryz.sizeOf213
 v139:=Tryz.zeroValue213
 t146:=Tryz.underlying215
 a146:=Tryz.isAgg215
 z146:=Tryz.sizeOf215
 v146:=Tryz.zeroValue215
 t164:=Tryz.underlying185
 a164:=Tryz.isAgg185
 z164:=Tryz.sizeOf185
 v164:=Tryz.zeroValue185
 g1:=by kernel_rfl
 g3:=by kernel_rfl
 g4:=by kernel_rfl
def Tryz.ren174:Ren where
 f:=fun x=>match x with|174=>211|247=>229|245=>230|287=>246|279=>247|280=>248|281=>249|282=>250|321=>264|322=>265|316=>266|171=>268|205=>267|243=>278|246=>243|283=>259|284=>260|285=>261|286=>262|129=>274|317=>273|318=>275|319=>276|320=>277|337=>280|338=>281|n=>n
 t:=fun x=>match x with|9=>9|3=>3|2=>2|75=>119|85=>247|4=>4|167=>273|5=>5|53=>274|175=>275|46=>38|168=>277|37=>114|0=>0|210=>303|21=>21|127=>153|145=>312|143=>310|171=>295|173=>298|212=>307|51=>214|20=>20|213=>308|232=>314|233=>315|80=>123|n=>n
 g:=fun x=>match x with|15=>4|16=>3|17=>5|18=>6|19=>7|n=>n
theorem Tryz.lays174:LaysC.n174 Tryz.prog Tryz.ren174 where
 mixed:=by kernel_rfl
 f129:=Tryz.func274
 f171:=Tryz.func268
 f174:=Tryz.func211
 f205:=Tryz.func267
 f243:=Tryz.func278
 f245:=Tryz.func230
 f246:=Tryz.func243
 f247:=Tryz.func229
 f279:=Tryz.func247
 f280:=Tryz.func248
 f281:=Tryz.func249
 f282:=Tryz.func250
 f283:=Tryz.func259
 f284:=Tryz.func260
 f285:=Tryz.func261
 f286:=Tryz.func262
 f287:=Tryz.func246
 f316:=Tryz.func266
 f317:=Tryz.func273
 f318:=Tryz.func275
 f319:=Tryz.func276
 f320:=Tryz.func277
 f321:=Tryz.func264
 f322:=Tryz.func265
 f337:=Tryz.func280
 f338:=Tryz.func281
 t0:=Tryz.underlying0
 a0:=Tryz.isAgg0
 z0:=Tryz.sizeOf0
 v0:=Tryz.zeroValue0
 t2:=Tryz.underlying2
 a2:=Tryz.isAgg2
 z2:=Tryz.sizeOf2
 v2:=Tryz.zeroValue2
 t3:=Tryz.underlying3
 a3:=Tryz.isAgg3
 z3:=Tryz.sizeOf3
 v3:=Tryz.zeroValue3
 t4:=Tryz.underlying4
 a4:=Tryz.isAgg4
 z4:=Tryz.sizeOf4
 v4:=Tryz.zeroValue4
 t5:=Tryz.underlying5
 a5:=Tryz.isAgg5
 z5:=Tryz.sizeOf5
 v5:=Tryz.zeroValue5
 t9:=Tryz.underlying9
 a9:=Tryz.isAgg9
 z9:=Tryz.sizeOf9
 v9:=Tryz.zeroValue9
 t20:=Tryz.underlying20
 a20:=Tryz.isAgg20
 z20:=Tryz.sizeOf20
 v20:=Tryz.zeroValue20
 t21:=Tryz.underlying21
 a21:=Tryz.isAgg21
 z21:=Tryz.sizeOf21
 v21:=Tryz.zeroValue21
 t37:=Tryz.underlying114
 a37:=Tryz.isAgg114
 z37:=Tryz.sizeOf114
 v37:=Tryz.zeroValue114
 t46:=Tryz.underlying38
 a46:=Tryz.isAgg38
 z46:=Tryz.sizeOf38
 v46:=Tryz.zeroValue38
 t51:=Tryz.underlying214
 a51:=Tryz.isAgg214
 z51:=Tryz.sizeOf214
 v51:=Tryz.zeroValue214
 t53:=Tryz.underlying274
 a53:=Tryz.isAgg274
 z53:=Tryz.sizeOf274
 v53:=Tryz.zeroValue274
 t75:=Tryz.underlying119
 a75:=Tryz.isAgg119
 z75:=Tryz.sizeOf119
 v75:=Tryz.zeroValue119
 t85:=Tryz.underlying247
 a85:=Tryz.isAgg247
 z85:=Tryz.sizeOf247
 v85:=Tryz.zeroValue247
 t127:=Tryz.underlying153
 a127:=Tryz.isAgg153
 z127:=Tryz.sizeOf153
 v127:=Tryz.zeroValue153
 t143:=Tryz.underlying310
 a143:=Tryz.isAgg310
 z143:=Tryz.sizeOf310
 v143:=Tryz.zeroValue310
 t145:=Tryz.underlying312
 a145:=Tryz.isAgg312
 z145:=Tryz.sizeOf312
 v145:=Tryz.zeroValue312
 t167:=Tryz.underlying273
 a167:=Tryz.isAgg273
 z167:=Tryz.sizeOf273
 v167:=Tryz.zeroValue273
 t168:=Tryz.underlying277
 a168:=Tryz.isAgg277
 z168:=Tryz.sizeOf277
 v168:=Tryz.zeroValue277
 t171:=Tryz.underlying295
 a171:=Tryz.isAgg295
 z171:=Tryz.sizeOf295
 v171:=Tryz.zeroValue295
 t173:=Tryz.underlying298
 a173:=Tryz.isAgg298
 z173:=Tryz.sizeOf298
 v173:=Tryz.zeroValue298
 t175:=Tryz.underlying275
 a175:=Tryz.isAgg275
 z175:=Tryz.sizeOf275
 v175:=Tryz.zeroValue275
 t210:=Tryz.underlying303
 a210:=Tryz.isAgg303
 z210:=Tryz.sizeOf303
 v210:=Tryz.zeroValue303
 t212:=Tryz.underlying307
 a212:=Tryz.isAgg307
 z212:=Tryz.sizeOf307
 v212:=Tryz.zeroValue307
 t213:=Tryz.underlying308
 a213:=Tryz.isAgg308
 z213:=Tryz.sizeOf308
 t232:=Tryz.underlying314
 a232:=Tryz.isAgg314
 z232:=Tryz.sizeOf314
 v232:=Tryz.zeroValue314
 t233:=Tryz.underlying315
 a233:=Tryz.isAgg315
 z233:=Tryz.sizeOf315
 v233:=Tryz.zeroValue315
 g15:=by kernel_rfl
 g16:=by kernel_rfl
 g17:=by kernel_rfl
 g18:=by kernel_rfl
 g19:=by kernel_rfl
 t80:=Tryz.underlying123
 a80:=Tryz.isAgg123
 z80:=Tryz.sizeOf123
 v80:=Tryz.zeroValue123
 i0:=by kernel_rfl
 i2:=by kernel_rfl
 i3:=by kernel_rfl
 i4:=by kernel_rfl
 i5:=by kernel_rfl
 i9:=by kernel_rfl
 i20:=by kernel_rfl
 i21:=by kernel_rfl
 i37:=by kernel_rfl
 i46:=by kernel_rfl
 i51:=by kernel_rfl
 i53:=by kernel_rfl
 i75:=by kernel_rfl
 i80:=by kernel_rfl
 i85:=by kernel_rfl
 i127:=by kernel_rfl
 i143:=by kernel_rfl
 i145:=by kernel_rfl
 i167:=by kernel_rfl
 i168:=by kernel_rfl
 i171:=by kernel_rfl
 i173:=by kernel_rfl
 i175:=by kernel_rfl
 i210:=by kernel_rfl
 i212:=by kernel_rfl
 i232:=by kernel_rfl
 i233:=by kernel_rfl
 m15:=by kernel_rfl
 m16:=by kernel_rfl
 m17:=by kernel_rfl
 m18:=by kernel_rfl
 m19:=by kernel_rfl
 c0:=by kernel_rfl
 c2:=by kernel_rfl
 c3:=by kernel_rfl
 c4:=by kernel_rfl
 c5:=by kernel_rfl
 c9:=by kernel_rfl
 c20:=by kernel_rfl
 c21:=by kernel_rfl
 c37:=by kernel_rfl
 c46:=by kernel_rfl
 c51:=by kernel_rfl
 c53:=by kernel_rfl
 c75:=by kernel_rfl
 c80:=by kernel_rfl
 c85:=by kernel_rfl
 c127:=by kernel_rfl
 c143:=by kernel_rfl
 c145:=by kernel_rfl
 c167:=by kernel_rfl
 c168:=by kernel_rfl
 c171:=by kernel_rfl
 c173:=by kernel_rfl
 c175:=by kernel_rfl
 c210:=by kernel_rfl
 c212:=by kernel_rfl
 c213:=by kernel_rfl
 c232:=by kernel_rfl
 c233:=by kernel_rfl
def Tryz.ren173:Ren where
 f:=fun x=>match x with|173=>222|246=>243|283=>259|284=>260|285=>261|286=>262|129=>274|317=>273|318=>275|319=>276|320=>277|337=>280|338=>281|n=>n
 t:=fun x=>match x with|2=>2|3=>3|9=>9|4=>4|171=>295|0=>0|53=>274|37=>114|5=>5|173=>298|212=>307|51=>214|20=>20|213=>308|46=>38|232=>314|233=>315|n=>n
 g:=fun x=>match x with|17=>5|18=>6|19=>7|n=>n
theorem Tryz.lays173:LaysM.n173 Tryz.prog Tryz.ren173 where
 mixed:=by kernel_rfl
 f129:=Tryz.func274
 f173:=Tryz.func222
 f246:=Tryz.func243
 f283:=Tryz.func259
 f284:=Tryz.func260
 f285:=Tryz.func261
 f286:=Tryz.func262
 f317:=Tryz.func273
 f318:=Tryz.func275
 f319:=Tryz.func276
 f320:=Tryz.func277
 f337:=Tryz.func280
 f338:=Tryz.func281
 t0:=Tryz.underlying0
 a0:=Tryz.isAgg0
 z0:=Tryz.sizeOf0
 v0:=Tryz.zeroValue0
 t2:=Tryz.underlying2
 a2:=Tryz.isAgg2
 z2:=Tryz.sizeOf2
 v2:=Tryz.zeroValue2
 t3:=Tryz.underlying3
 a3:=Tryz.isAgg3
 z3:=Tryz.sizeOf3
 v3:=Tryz.zeroValue3
 t4:=Tryz.underlying4
 a4:=Tryz.isAgg4
 z4:=Tryz.sizeOf4
 v4:=Tryz.zeroValue4
 t5:=Tryz.underlying5
 a5:=Tryz.isAgg5
 z5:=Tryz.sizeOf5
 v5:=Tryz.zeroValue5
 t9:=Tryz.underlying9
 a9:=Tryz.isAgg9
 z9:=Tryz.sizeOf9
 v9:=Tryz.zeroValue9
 t20:=Tryz.underlying20
 a20:=Tryz.isAgg20
 z20:=Tryz.sizeOf20
 v20:=Tryz.zeroValue20
 t37:=Tryz.underlying114
 a37:=Tryz.isAgg114
 z37:=Tryz.sizeOf114
 v37:=Tryz.zeroValue114
 t46:=Tryz.underlying38
 a46:=Tryz.isAgg38
 z46:=Tryz.sizeOf38
 v46:=Tryz.zeroValue38
 t51:=Tryz.underlying214
 a51:=Tryz.isAgg214
 z51:=Tryz.sizeOf214
 v51:=Tryz.zeroValue214
 t53:=Tryz.underlying274
 a53:=Tryz.isAgg274
 z53:=Tryz.sizeOf274
 v53:=Tryz.zeroValue274
 t171:=Tryz.underlying295
 a171:=Tryz.isAgg295
 z171:=Tryz.sizeOf295
 v171:=Tryz.zeroValue295
 t173:=Tryz.underlying298
 a173:=Tryz.isAgg298
 z173:=Tryz.sizeOf298
 v173:=Tryz.zeroValue298
 t212:=Tryz.underlying307
 a212:=Tryz.isAgg307
 z212:=Tryz.sizeOf307
 v212:=Tryz.zeroValue307
 t213:=Tryz.underlying308
 a213:=Tryz.isAgg308
 z213:=Tryz.sizeOf308
 t232:=Tryz.underlying314
 a232:=Tryz.isAgg314
 z232:=Tryz.sizeOf314
 v232:=Tryz.zeroValue314
 t233:=Tryz.underlying315
 a233:=Tryz.isAgg315
 z233:=Tryz.sizeOf315
 v233:=Tryz.zeroValue315
 g17:=by kernel_rfl
 g18:=by kernel_rfl
 g19:=by kernel_rfl
 i0:=by kernel_rfl
 i2:=by kernel_rfl
 i3:=by kernel_rfl
 i4:=by kernel_rfl
 i5:=by kernel_rfl
 i9:=by kernel_rfl
 i20:=by kernel_rfl
 i37:=by kernel_rfl
 i46:=by kernel_rfl
 i51:=by kernel_rfl
 i53:=by kernel_rfl
 i171:=by kernel_rfl
 i173:=by kernel_rfl
 i212:=by kernel_rfl
 i232:=by kernel_rfl
 i233:=by kernel_rfl
 m17:=by kernel_rfl
 m18:=by kernel_rfl
 m19:=by kernel_rfl
def Tryz.ren137:Ren where
 f:=fun x=>match x with|137=>167|217=>158|266=>175|n=>n
 t:=fun x=>match x with|9=>9|5=>5|3=>3|n=>n
 g:=fun x=>x
theorem Tryz.lays137:Lays.n137 Tryz.prog Tryz.ren137 where
 mixed:=by kernel_rfl
 f137:=Tryz.func167
 f217:=Tryz.func158
 f266:=Tryz.func175
 t3:=Tryz.underlying3
 a3:=Tryz.isAgg3
 z3:=Tryz.sizeOf3
 v3:=Tryz.zeroValue3
 t5:=Tryz.underlying5
 a5:=Tryz.isAgg5
 z5:=Tryz.sizeOf5
 v5:=Tryz.zeroValue5
 t9:=Tryz.underlying9
 a9:=Tryz.isAgg9
 z9:=Tryz.sizeOf9
 v9:=Tryz.zeroValue9
def Tryz.ren264:Ren where
 f:=fun x=>match x with|264=>257|n=>n
 t:=fun x=>match x with|53=>274|46=>38|n=>n
 g:=fun x=>x
theorem Tryz.lays264:Lays.n264 Tryz.prog Tryz.ren264 where
 mixed:=by kernel_rfl
 f264:=Tryz.func257
 t46:=Tryz.underlying38
 a46:=Tryz.isAgg38
 z46:=Tryz.sizeOf38
 v46:=Tryz.zeroValue38
 t53:=Tryz.underlying274
 a53:=Tryz.isAgg274
 z53:=Tryz.sizeOf274
 v53:=Tryz.zeroValue274
def Tryz.ren106:Ren where
 f:=fun x=>match x with|106=>238|213=>256|265=>272|n=>n
 t:=fun x=>match x with|9=>9|3=>3|n=>n
 g:=fun x=>x
theorem Tryz.lays106:Lays.n106 Tryz.prog Tryz.ren106 where
 mixed:=by kernel_rfl
 f106:=Tryz.func238
 f213:=Tryz.func256
 f265:=Tryz.func272
 t3:=Tryz.underlying3
 a3:=Tryz.isAgg3
 z3:=Tryz.sizeOf3
 v3:=Tryz.zeroValue3
 t9:=Tryz.underlying9
 a9:=Tryz.isAgg9
 z9:=Tryz.sizeOf9
 v9:=Tryz.zeroValue9
end Go.Proofs
namespace Go.SX.Nb
open Go Go.SX Go.Proofs Go.RowKit
variable [ErrAt]
set_option maxRecDepth 4000
theorem Ks {w:World} (h:Hm w):∃m,w.cell? ⟨0,0,none⟩=some (.int .i64 m):=by
 obtain ⟨_,a,m,t,f,rfl⟩:=h (0,fun o=>∃m t f,o=.cells #[.int .i64 m] t f) (by simp [GlobInv.blocks,T6])
 exact ⟨m,by simp [World.cell?,a]⟩
theorem Om {w:World} (h:Hm w):w.cell? ⟨3,0,none⟩=some (.iface 310 (.pointer (some ErrAt.b))):=by
 obtain ⟨_,a,t,f,rfl⟩:=h (3,fun o=>∃t f,o=.cells #[.iface 310 (.pointer (some ErrAt.b))] t f) (by simp [GlobInv.blocks,T6])
 simp [World.cell?,a]
theorem mr {w:World} (h:Hm w):Lib.TabIs Tryz.prog w "internal/strconv.uint64pow10" .u64 Lib.pow10Tab:=by
 obtain ⟨_,a,t,f,rfl⟩:=h (5,fun o=>∃t f,o=.cells (Lib.pow10Tab.map fun z=>Value.int .u64 z).toArray t f) (by simp [GlobInv.blocks,T6])
 have hg:Tryz.prog.globalNamed "internal/strconv.uint64pow10" = some 5:=by kernel_rfl
 simp only at a
 simp [Lib.TabIs,World.var?,hg,a]
theorem Wr (w:World) (n:Nat):Below w.heap.size w (w.drewN n):=⟨rfl,rfl,rfl,Nat.le_refl _,fun _ _=>rfl⟩
theorem gz (s t:Str) (hs:s.length<4294967281) (Hp:List AObj):AFun Tryz.prog 151 [A9 s,A9 t] Hp (At (Lib.contains s t)):=by
 refine AFun.lib (xs:=[sv s,sv t]) (v:=.bool (Lib.contains s t)) (fun G w=>.v _ _) (fun w hg=>?_)
 obtain ⟨m,hm⟩:=Ks hg
 refine (Any.strings_Contains Tryz.lays144 ⟨s.toArray⟩ ⟨t.toArray⟩ m w (by simpa [ByteArray.size] using hs) hm).mono ?_
 rintro e w' ⟨rfl,rfl⟩
 exact gt
theorem AAs (s t:Str) (hs:s.length<4294967281) (Hp:List AObj):AFun Tryz.prog 132 [A9 s,A9 t] Hp (.tup [A9 (Lib.cut s t).1,A9 (Lib.cut s t).2.1,At (Lib.cut s t).2.2]):=by
 refine AFun.lib (xs:=[sv s,sv t]) (v:=.tuple #[sv (Lib.cut s t).1,sv (Lib.cut s t).2.1,.bool (Lib.cut s t).2.2]) (fun G w=>J1 rfl (fun i y u hy hu=>?_)) (fun w hg=>?_)
 ·match i with
  | 0=>simp at hy hu;subst hy;subst hu;exact .v _ _
  | 1=>simp at hy hu;subst hy;subst hu;exact .v _ _
  | 2=>simp at hy hu;subst hy;subst hu;exact .v _ _
  | i+3=>simp at hy
 obtain ⟨m,hm⟩:=Ks hg
 refine (Any.strings_Cut Tryz.lays145 ⟨s.toArray⟩ ⟨t.toArray⟩ m w (by simpa [ByteArray.size] using hs) hm).mono ?_
 rintro e w' ⟨rfl,n,rfl⟩
 exact ⟨rfl,Wr _ _⟩
theorem ABy (s t:Str) (ht:t.length<4294967281) (ha:∀c∈t,c.toNat<128) (Hp:List AObj):AFun Tryz.prog 164 [A9 s,A9 t] Hp (A9 (Lib.trimLeftS s t)):=by
 refine AFun.lib (xs:=[sv s,sv t]) (v:=sv (Lib.trimLeftS s t)) (fun G w=>.v _ _) (fun w hg=>?_)
 refine (Any.strings_TrimLeft_laid Tryz.lays161 (by kernel_rfl) ⟨s.toArray⟩ ⟨t.toArray⟩ w (by simpa [ByteArray.size] using ht) (fun j b hj=>ha b (List.mem_of_getElem? hj))).mono ?_
 rintro e w' ⟨rfl,hb⟩
 exact ⟨rfl,hb⟩
/-- The pieces of a split. -/
def K2 (s t:Str):List Str:=(Lib.splitB ⟨t.toArray⟩ 0 (Lib.countB ⟨s.toArray⟩ ⟨t.toArray⟩) ⟨s.toArray⟩).map (·.data.toList)
theorem c44 (s t:Str) (hs:s.length<4294967281) (ht:1≤t.length) (Hp:List AObj):AFun Tryz.prog 44 [A9 s,A9 t] Hp (Fe (K2 s t)):=by
 have:=AFun.libSlice (P:=Tryz.prog) (g:=44) (Hp:=Hp) (xs:=[sv s,sv t]) (ys:=(K2 s t).map sv) (t:=9) (by intro y hy;obtain ⟨z,_,rfl⟩:=List.mem_map.1 hy;rfl) (fun w hg=>by
  obtain ⟨m,hm⟩:=Ks hg
  refine (Any.strings_Split Tryz.lays146 (by kernel_rfl) ⟨s.toArray⟩ ⟨t.toArray⟩ m w (by simpa [ByteArray.size] using hs) hm (by simpa [ByteArray.size] using ht)).mono ?_
  rintro e w' ⟨rfl,rfl⟩
  have hl:((K2 s t).map sv).length=Lib.countB ⟨s.toArray⟩ ⟨t.toArray⟩+1:=by
   rw [List.length_map]
   unfold K2
   rw [List.length_map]
   exact Lib.splitB_all _ (by simpa [ByteArray.size] using ht) _ _ _ rfl
  refine ⟨by rw [hl],?_⟩
  unfold K2
  rw [List.map_map]
  rfl)
 rw [List.map_map] at this
 exact this
end Go.SX.Nb
namespace Go.Proofs
open Go Go.RowKit Go.Extern.Stop Go.Stop Go.Extern
theorem Tryz.isTypeOf (v:Value) (w:World):(Extern.ReflectliteType.typeOf #[.iface 310 v]).run Tryz.prog w=.ok (.iface 281 (.agg #[.pointer (some ⟨8,310,none⟩)])) w:=by kernel_rfl
def Tryz.cmpOf:Array Value→Sem Value:=Extern.ReflectliteType.method fun t=>do Extern.Rtype.noPackHeld "Comparable" t;pure (.bool (←typeInfo t).comparable)
theorem Tryz.isComparable (w:World):(Tryz.cmpOf #[.agg #[.pointer (some ⟨8,310,none⟩)]]).run Tryz.prog w=.ok (.bool true) w:=by kernel_rfl
theorem Tryz.isMethodComparable (v:Value) (w:World):(Go.method 447 281 v "Comparable").run Tryz.prog w=.ok (311,v) w:=by kernel_rfl
theorem Tryz.isComp:(Tryz.prog.info? 310).map (·.comparable)=some true:=by kernel_rfl
theorem Tryz.isSize:(Tryz.prog.info? 312).map (·.size)=some 1:=by kernel_rfl
theorem Tryz.noIsW (v:Value) (xT:TypeId) (w:World):(Instr.typeAssert (.iface 277 v) xT 283 true).run Tryz.prog w=.ok (.tuple #[.nilIface,.bool false]) w:=run_typeAssert_lacksB Tryz.underlying283 (by kernel_rfl) (by kernel_rfl) v xT w
theorem Tryz.hasUnwrapW (v:Value) (xT:TypeId) (w:World):(Instr.typeAssert (.iface 277 v) xT 286 true).run Tryz.prog w=.ok (.tuple #[.iface 277 v,.bool true]) w:=run_typeAssert_hasB Tryz.underlying286 (by kernel_rfl) v xT w
theorem Tryz.methodUnwrap (v:Value) (w:World):(Go.method 447 277 v "Unwrap").run Tryz.prog w=.ok (307,v) w:=by kernel_rfl
namespace Tryz
theorem is_nil (b:Addr) (w:World):
  Calls Tryz.prog 212 #[.nilIface,.iface 310 (.pointer (some b))] w fun e w'=>e=.returned (.bool false)∧w'=w:=by
 have hn:=run_eql_iface_nil_left (P:=Tryz.prog) w 310 (.pointer (some b)) Tryz.underlying119
 go_enter Tryz.func212,Tryz.ntmps212
 go_wp2
 go_ret
 exact ⟨rfl,rfl⟩
set_option maxRecDepth 100000 in
theorem is_range (pb po:Nat) (b:Addr) (w:World) (h1:w.cell? ⟨pb,po+2,none⟩=some (.iface 310 (.pointer (some b)))):
  Calls Tryz.prog 212 #[.iface 277 (.pointer (some ⟨pb,po,none⟩)),.iface 310 (.pointer (some b))] w fun e w'=>e=.returned (.bool true)∧w'=w:=by
 obtain ⟨i,hi,hcmp⟩:=Option.map_eq_some_iff.1 Tryz.isComp
 obtain ⟨j,hj,hjs⟩:=Option.map_eq_some_iff.1 Tryz.isSize
 have h8:=@run_callFunc_extern Tryz.prog 231 _ Extern.ReflectliteType.typeOf Tryz.func231 (by kernel_rfl) (by kernel_rfl) (by kernel_rfl) (by kernel_rfl)
 have h32:=@run_callFunc_extern Tryz.prog 311 _ Tryz.cmpOf Tryz.func311 (by kernel_rfl) (by kernel_rfl) (by kernel_rfl) (by kernel_rfl)
 have tT:=Tryz.isTypeOf
 have cT:=Tryz.isComparable
 have mR:=Tryz.isMethodComparable
 have nW:=Tryz.noIsW
 have uW:=Tryz.hasUnwrapW
 have mU:=Tryz.methodUnwrap
 have heq:=run_eql_iface_ptr_same (P:=Tryz.prog) w b Tryz.underlying119 Tryz.underlying310 hi hcmp hj
 have hty:=run_eql_iface_types (P:=Tryz.prog) 277 310 (.pointer (some ⟨pb,po,none⟩)) (.pointer (some b)) Tryz.underlying119 (by decide) w
 go_enter Tryz.func212,Tryz.ntmps212
 go_wp2
 refine wp_loop_rounds 2 ?_
 rw [rounds_succ]
 go_wp2
 rw [rounds_succ]
 go_wp2
 go_ret
 exact ⟨rfl,rfl⟩
end Tryz
end Go.Proofs
namespace Go.SX.Nb
open Go Go.SX Go.Proofs Go.RowKit Go.Sort
variable [ErrAt]
set_option maxRecDepth 4000
theorem ABz (s t:Str) (Hp:List AObj):AFun Tryz.prog 185 [A9 s,A9 t] Hp (At (Lib.hasPrefix s t)):=by
 refine AFun.lib (xs:=[sv s,sv t]) (v:=.bool (Lib.hasPrefix s t)) (fun G w=>.v _ _) (fun w hg=>?_)
 refine (Any.strings_HasPrefix Tryz.lays99 ⟨s.toArray⟩ ⟨t.toArray⟩ w).mono ?_
 rintro e w' ⟨rfl,rfl⟩
 exact gt
theorem AC0 (s t:Str) (hs:s.length≤9223372036854775807) (Hp:List AObj):AFun Tryz.prog 186 [A9 s,A9 t] Hp (At (Lib.hasSuffix s t)):=by
 refine AFun.lib (xs:=[sv s,sv t]) (v:=.bool (Lib.hasSuffix s t)) (fun G w=>.v _ _) (fun w hg=>?_)
 refine (Any.strings_HasSuffix Tryz.lays100 ⟨s.toArray⟩ ⟨t.toArray⟩ w (by simpa [ByteArray.size] using hs)).mono ?_
 rintro e w' ⟨rfl,rfl⟩
 exact gt
theorem c167 (s:Str) (c:UInt8) (Hp:List AObj):AFun Tryz.prog 167 [A9 s,.v (.int .u8 (c.toNat:Int))] Hp (A2 (Lib.indexByte s c)):=by
 refine AFun.lib (xs:=[sv s,.int .u8 (c.toNat:Int)]) (v:=.int .i64 (Lib.indexByte s c)) (fun G w=>.v _ _) (fun w hg=>?_)
 refine (Any.strings_IndexByte Tryz.lays137 ⟨s.toArray⟩ (c.toNat:Int) w).mono ?_
 rintro e w' ⟨rfl,rfl⟩
 exact ⟨by simp,Below.refl _ _⟩
theorem AC1:Builder.Extra Tryz.prog Tryz.ren155:={ sizeBuilder:=by kernel_rfl,liesBuilder:=by kernel_rfl,t5:=Tryz.underlying5,a5:=Tryz.isAgg5,z5:=Tryz.sizeOf5,v5:=Tryz.zeroValue5,infoByte:=by kernel_rfl,cellsByte:=by kernel_rfl,sizeByte:=by kernel_rfl,neB5:=by decide }
theorem AAt (s o n:Str) (hs:s.length<4294967281) (ho:1≤o.length) (hl:s.length+Lib.countB ⟨s.toArray⟩ ⟨o.toArray⟩*n.length≤140737488355328) (Hp:List AObj):AFun Tryz.prog 203 [A9 s,A9 o,A9 n] Hp (A9 (Lib.replaceAll s o n)):=by
 refine AFun.lib (xs:=[sv s,sv o,sv n]) (v:=sv (Lib.replaceAll s o n)) (fun G w=>.v _ _) (fun w hg=>?_)
 obtain ⟨m,hm⟩:=Ks hg
 refine (Any.strings_ReplaceAll Tryz.lays155 AC1 ⟨s.toArray⟩ ⟨o.toArray⟩ ⟨n.toArray⟩ m w (by simpa [ByteArray.size] using hs) hm (by simpa [ByteArray.size] using ho) (by simpa [ByteArray.size] using hl)).mono ?_
 rintro e w' ⟨rfl,hb⟩
 exact ⟨rfl,hb⟩
theorem Zm (w:World) (k:Nat) (os:Array Obj):Below w.heap.size w (grow (w.drewN k) os):=by
 refine ⟨rfl,rfl,rfl,by simp [grow],fun b hb=>?_⟩
 show ((w.drewN k).heap++os)[b]? = w.heap[b]?
 rw [Array.getElem?_append_left (by exact hb)]
 rfl
theorem AC2 (n:Int) (h0 : -9223372036854775808≤n) (h1:n≤9223372036854775807) (Hp:List AObj):AFun Tryz.prog 222 [.v (.int .i64 n),A2 10] Hp (A9 (Lib.itoa n)):=by
 refine AFun.lib (xs:=[.int .i64 n,.int .i64 10]) (v:=sv (Lib.itoa n)) (fun G w=>.v _ _) (fun w hg=>?_)
 refine (Any.strconv_FormatInt_10 Tryz.lays173 n h0 h1 w (mr hg)).mono ?_
 rintro e w' ⟨rfl,k,os,rfl⟩
 exact ⟨rfl,Zm _ _ _⟩
end Go.SX.Nb
namespace Go.SX.Nb
open Go Go.SX Go.Proofs Go.RowKit
variable [ErrAt]
set_option maxRecDepth 4000
def digs:Str:=[48,49,50,51,52,53,54,55,56,57]
def On (s:Str):Str:=Lib.trimPrefix s [45]
def Fv (s:Str):Bool:=(On s==[]) || !(Lib.trimS (On s) digs==[]) || (((On s).headD 0==48)&&decide (1<s.length))
def Bc (s:Str):Int×Int:=if Fv s then (0,6) else match Lib.parseIntB 64 s with|.ok v=>(v,0)|.range=>(0,4)|_=>(0,0)
def se {α:Type}:Lib.NumEnd α→Bool|.ok _=>false|.range=>false|_=>true
theorem mt {p:UInt8→Bool}:∀{l:Str},l.dropWhile p=[]↔∀b∈l,p b=true
 | []=>by simp
 | b::r=>by
  rw [List.dropWhile_cons]
  by_cases h:p b=true
  ·rw [if_pos h,mt]
   simp [h]
  rw [if_neg h]
  simp [h]
theorem mu {p:UInt8→Bool}:∀{l:Str} {b:UInt8},b∈l→p b=false→b∈l.dropWhile p
 | x::r,b,h,hb=>by
  rw [List.dropWhile_cons]
  by_cases hx:p x=true
  ·rw [if_pos hx]
   rcases List.mem_cons.1 h with rfl|h
   ·rw [hb] at hx;cases hx
   exact mu h hb
  rw [if_neg hx];exact h
theorem T7 {l cs:Str}:Lib.trimS l cs=[]↔∀b∈l,cs.contains b=true:=by
 unfold Lib.trimS Lib.trimLeftS Lib.trimRightS
 rw [mt]
 constructor
 ·intro h b hb
  cases hc:cs.contains b with
  | true=>rfl
  | false =>
   have:=h b (List.mem_reverse.2 (mu (p:=(cs.contains ·)) (List.mem_reverse.2 hb) hc))
   rw [hc] at this;exact this
 intro h b hb
 exact h b (List.mem_reverse.1 ((List.dropWhile_sublist (cs.contains ·)).subset (List.mem_reverse.1 hb)))
theorem L8 (c:UInt8):digs.contains c=(decide (48≤c.toNat)&&decide (c.toNat≤57)):=by
 have h:((List.range 256).all fun n=>digs.contains (UInt8.ofNat n)==(decide (48≤(UInt8.ofNat n).toNat)&&decide ((UInt8.ofNat n).toNat≤57)))=true:=by kernel_rfl
 have:=List.all_eq_true.1 h c.toNat (List.mem_range.2 c.toNat_lt)
 simpa using this
theorem T8 (M:Nat):∀(l:Str) (acc:Nat),(∀b∈l,digs.contains b=true)→se (Lib.parseUintM M acc l)=false
 | [],acc,_=>by rw [Lib.parseUintM];rfl
 | c::r,acc,h=>by
  have hc:=h c (by simp)
  rw [L8] at hc
  simp only [Bool.and_eq_true,decide_eq_true_eq] at hc
  rw [Lib.parseUintM,if_pos hc]
  split
  ·rfl
  split
  ·rfl
  exact T8 M r _ (fun b hb=>h b (by simp [hb]))
theorem Oo (s:Str):(s.head? ≠ some 45∧On s=s)∨∃r,s=45::r∧On s=r:=by
 unfold On Lib.trimPrefix Lib.hasPrefix
 cases s with
 | nil=>exact .inl ⟨by simp,rfl⟩
 | cons c r =>
  by_cases hc:c=45
  ·subst hc;exact .inr ⟨r,rfl,by simp [List.isPrefixOf]⟩
  refine .inl ⟨by simpa using hc,?_⟩
  rw [if_neg]
  simp [List.isPrefixOf,Ne.symm hc]
theorem K3 {s:Str} (h:Fv s=false):se (Lib.parseIntB 64 s)=false:=by
 unfold Fv at h
 simp only [Bool.or_eq_false_iff,Bool.not_eq_false',beq_iff_eq,beq_eq_false_iff_ne] at h
 obtain ⟨⟨h1,h2⟩,_⟩:=h
 rw [T7] at h2
 have key:∀l:Str,l≠[]→(∀b∈l,digs.contains b=true)→se (Lib.parseUintB 64 l)=false:=fun l hl ha=>by
  unfold Lib.parseUintB
  rw [if_neg hl]
  exact T8 _ l 0 ha
 rcases Oo s with ⟨h3,h4⟩|⟨r,rfl,h4⟩
 ·rw [h4] at h1 h2
  cases s with
  | nil=>exact absurd rfl h1
  | cons c r =>
   have hcd:=h2 c (by simp)
   rw [L8] at hcd
   simp only [Bool.and_eq_true,decide_eq_true_eq] at hcd
   have e1:¬(c.toNat=43∨c.toNat=45):=by omega
   have:=key (c::r) (by simp) h2
   simp only [Lib.parseIntB,if_neg e1]
   revert this
   cases Lib.parseUintB 64 (c::r) with
   | range=>intro _;rfl
   | ok u=>intro _;simp only;split<;>(try split)<;>rfl
   | _=>intro h;cases h
 rw [h4] at h1 h2
 have:=key r h1 h2
 have e1:((45:UInt8).toNat=43∨(45:UInt8).toNat=45):=.inr rfl
 simp only [Lib.parseIntB,if_pos e1]
 revert this
 cases Lib.parseUintB 64 r with
 | range=>intro _;rfl
 | ok u=>intro _;simp only;split<;>(try split)<;>rfl
 | _=>intro h;cases h
end Go.SX.Nb
namespace Go.SX.Nb
open Go Go.SX Go.Proofs
variable [ErrAt]
set_option maxRecDepth 4000
def J6 (c:UInt8):Bool:=decide ((97:Int)≤c.toNat)&&decide ((c.toNat:Int)≤122)
def x6 (c:UInt8):Bool:=decide ((48:Int)≤c.toNat)&&decide ((c.toNat:Int)≤57)
def words:List Str:=[[97,100,100],[100,114,111,112],[114,101,110,97,109,101],[115,112,108,105,116],[109,101,114,103,101],[114,101,116,121,112,101],[105,110,116,111],[116,111],[98,97,99,107],[97,110,100],[111,114],[110,111,116],[116,114,117,101],[102,97,108,115,101],[110,117,108,108],[105,110,116],[116,101,120,116],[98,111,111,108],[115,101,108,101,99,116],[119,104,101,114,101],[102,114,111,109],[108,105,109,105,116]]
def Na (s:Str):Bool:=words.any (·==s)
theorem x7 {α:Type} {p:α→Bool} {l:List α} {i:Nat} (h:i<l.length) (hp:p l[i]=true):l.any p=true:=by
 rw [List.any_eq_true];exact ⟨l[i],List.getElem_mem h,hp⟩
theorem mv {α:Type} {p:α→Bool} {l:List α} (h:∀(j:Nat) (y:α),l[j]? = some y→p y=false):l.any p=false:=by
 rw [List.any_eq_false]
 intro x hx
 obtain ⟨j,hj⟩:=List.getElem?_of_mem hx
 simp [h j x hj]
theorem Cn {α:Type} {l:List α} {x:Nat} {p:α→Prop} (hlt:x<l.length) (h:∀(j:Nat) (y:α),j<x→l[j]? = some y→p y) (hx:p l[x]):∀(j:Nat) (y:α),j<x+1→l[j]? = some y→p y:=by
 intro j y hj hy
 rcases Nat.lt_or_ge j x with h'|h'
 ·exact h j y h' hy
 have:j=x:=by omega
 subst this
 rw [List.getElem?_eq_getElem hlt] at hy
 injection hy with hy
 subst hy
 exact hx
theorem Md {α:Type} {l:List α} {x:Nat} {p:α→Prop} (hge:l.length≤x) (h:∀(j:Nat) (y:α),j<x→l[j]? = some y→p y):∀(j:Nat) (y:α),l[j]? = some y→p y:=
 fun j y hy=>h j y (by have:=(List.getElem?_eq_some_iff.1 hy).1;omega) hy
def Qc (c:UInt8):Bool:=J6 c || x6 c || c==95
def Ff (s:Str):Bool:=match s with
 | []=>false
 | c::_=>decide (s.length≤16)&&J6 c && !Na s&&s.all Qc
theorem T9 {s:Str} (h:s≠[]):s[0]? = some (s.headD 0):=by cases s with
 | nil=>exact absurd rfl h
 | cons c r=>rfl
def B3 (nm:Str) (c:List Col):Int:=match c.findIdx? (fun y=>y.name==nm) with|some i=>i|none => -1
theorem Ws {nm:List UInt8} {c:List Col} {x:Nat} (h:x<c.length) (h1:c[x].name=nm) (h2:∀(j:Nat) (y:Col),j<x→c[j]? = some y→¬(y.name=nm)):B3 nm c=x:=by
 have:c.findIdx? (fun y=>y.name==nm)=some x:=by
  rw [List.findIdx?_eq_some_iff_getElem]
  exact ⟨h,by simpa using h1,fun j hj=>by simpa using h2 j c[j] hj (List.getElem?_eq_getElem _)⟩
 simp [B3,this]
theorem Zn {nm:List UInt8} {c:List Col} (h:∀(j:Nat) (y:Col),c[j]? = some y→¬(y.name=nm)):B3 nm c = -1:=by
 have:c.findIdx? (fun y=>y.name==nm)=none:=by
  rw [List.findIdx?_eq_none_iff]
  intro y hy
  obtain ⟨j,hj⟩:=List.getElem?_of_mem hy
  simpa using h j y hj
 simp [B3,this]
structure OkCols (c:List Col):Prop where
 len:c.length≤1048576
 names:∀y∈c,y.name.length≤1048576
def ce (c:List Col) (x:Nat) (y:Col):Bool := !(((!Ff y.name || decide (y.kind<1)) || decide ((3:Int)<y.kind)) || (B3 y.name c != (x:Int)))
def Gj (c:List Col):Bool:=c.zipIdx.all fun x=>ce c x.2 x.1
theorem Zo {c:List Col}:Gj c=true↔∀(j:Nat) (y:Col),c[j]? = some y→ce c j y=true:=by
 unfold Gj
 rw [List.all_eq_true]
 constructor
 ·intro h j y hj
  exact AA8
 rintro h ⟨y,j⟩ hx
 rw [List.mem_zipIdx_iff_getElem?] at hx
 exact h j y hx
theorem Hn {α:Type} {l:List α} {x:Nat} {p:Nat→α→Prop} (hlt:x<l.length) (h:∀(j:Nat) (y:α),j<x→l[j]? = some y→p j y) (hx:p x l[x]):∀(j:Nat) (y:α),j<x+1→l[j]? = some y→p j y:=by
 intro j y hj hy
 rcases Nat.lt_or_ge j x with h'|h'
 ·exact h j y h' hy
 have:j=x:=by omega
 subst this
 rw [List.getElem?_eq_getElem hlt] at hy
 injection hy with hy
 subst hy
 exact hx
theorem Ig {α:Type} {l:List α} {x:Nat} {p:Nat→α→Prop} (hge:l.length≤x) (h:∀(j:Nat) (y:α),j<x→l[j]? = some y→p j y):∀(j:Nat) (y:α),l[j]? = some y→p j y:=
 fun j y hy=>h j y (by have:=(List.getElem?_eq_some_iff.1 hy).1;omega) hy
def Cb (c:List Col):Bool:=decide ((c.length:Int)≤12)&&Gj c
def C5 (v:Val):Bool:=if v.kind==0 then v.n==0&&v.s==[] else if v.kind==1 then v.s==[] else if v.kind==2 then v.n==0&&decide ((v.s.length:Int)≤200) else v.kind==3&&v.s==[]&&decide (0≤v.n)&&decide (v.n≤1)
theorem x8 (e:Bool) (n:Int):(e&&(n==0 || n==1))=(e&&decide (0≤n)&&decide (n≤1)):=by
 cases e
 ·rfl
 rw [Bool.eq_iff_iff]
 simp
 omega
theorem c38 (v:Val) (Hp:List AObj):AFun Tryz.prog 38 [Am v] Hp (At (C5 v)):=by
 refine ACall.body [.tmp 2] [0] Tryz.func38 Tryz.ntmps38 (fun d=>?_)
 refine Cz ?_;refine R.box ?_;refine R.go ?_;refine R.fin [1] ?_;refine Z31 ?_;refine R.fin [1,4] ?_;refine Z90 ?_;refine R.fin [1,4,5] ?_
 refine W.cond (fun ht5=>?_) (fun ht5=>?_)
 ·refine Z2 ?_;refine gu ?_
  refine R.go (h:=Q.eqlAgg Si (G8 v.kind v.n 0 0 v.s [])) (hr:=?_)
  refine R.go ?_;refine Z4 ?_;refine Z5 ?_;exact K.fin (V.one V.tmp) ⟨by simp [C5,ht5],rfl⟩
 refine Z1 ?_;refine R.fin [1,4,10] ?_
 refine W.cond (fun ht10=>?_) (fun ht10=>?_)
 ·refine Z19 ?_;refine Z4 ?_;refine Z5 ?_;exact K.fin (V.one V.tmp) ⟨by simp [C5,ht5,ht10],rfl⟩
 refine Z1 ?_;refine R.fin [1,4,15] ?_
 refine W.cond (fun ht15=>?_) (fun ht15=>?_)
 ·refine Z19 ?_;refine Z95 ?_;refine Ze ?_;exact K.fin (V.one V.tmp) ⟨by simp [C5,ht5,ht10,ht15],rfl⟩
 refine Z1 ?_;refine R.fin [1,26] ?_
 refine W.cond (fun ht26=>?_) (fun ht26=>?_)
 ·refine Z19 ?_;refine Z95 ?_;refine Z95 ?_;refine Ze ?_;exact K.fin (V.one V.tmp) ⟨by simp [C5,ht5,ht10,ht15,ht26];rw [x8],rfl⟩
 refine Z18 ?_;refine Z49 ?_;exact K.fin (V.one V.tmp) ⟨by simp [C5,ht5,ht10,ht15,ht26],rfl⟩

def Eu (c:List Col):Bool:=decide ((50:Int)<c.length) || c.any fun y=>decide ((100:Int)<y.name.length)
theorem AAu {α:Type} [DecidableEq α] {a b:List α} (h:((a.length:Int) != b.length)=true):decide (a=b)=false:=by
 rw [decide_eq_false_iff_not]
 rintro rfl
 simp at h
theorem AAv {α:Type} [DecidableEq α] {a b:List α} {x:Nat} (h1:x<a.length) (h2:x<b.length) (h:a[x]≠b[x]):decide (a=b)=false:=by
 rw [decide_eq_false_iff_not]
 rintro rfl
 exact h rfl
theorem AAw {α β:Type} {a:List α} {b:List β} (hl:((a.length:Int) != b.length)=false):a.length=b.length:=by simp at hl;omega
theorem vl {α:Type} [DecidableEq α] {a b:List α} (hl:((a.length:Int) != b.length)=false) (h:∀(j:Nat) (y:α),a[j]? = some y→b[j]? = some y):decide (a=b)=true:=by
 rw [decide_eq_true_eq]
 have hl':a.length=b.length:=AAw hl
 apply List.ext_getElem? fun i=>?_
 cases hi:a[i]? with
 | some y=>exact (h i y hi).symm
 | none=>rw [List.getElem?_eq_none_iff] at hi;exact (List.getElem?_eq_none (by omega)).symm
theorem mw {α β γ δ:Type} {a:List α} {b:List β} {f:α→γ} {g:β→δ} (hl:(((a.map f).length:Int) != (b.map g).length)=false):a.length=b.length:=by simp at hl;omega
theorem Pk {a b:Val}:(a.kind==b.kind&&a.n==b.n&&a.s==b.s)=decide (a=b):=by
 rw [Bool.eq_iff_iff]
 cases a;cases b
 simp [and_assoc]
theorem Lq {α:Type} {c:List α} {p:Nat→α→Bool}:(c.zipIdx.all fun x=>p x.2 x.1)=true↔∀(j:Nat) (y:α),c[j]? = some y→p j y=true:=by
 rw [List.all_eq_true]
 constructor
 ·intro h j y hj
  exact AA8
 rintro h ⟨y,j⟩ hx
 rw [List.mem_zipIdx_iff_getElem?] at hx
 exact h j y hx
theorem c87 (y:Col) (nm:Str) (Hp:List AObj):AFun Tryz.prog 87 [B0 y,.ro [A9 nm]] Hp (At (y.name==nm)):=by
 refine ACall.body [.tmp 3] [0,1] Tryz.func87 Tryz.ntmps87 (fun d=>?_)
 refine Z1 ?_;refine R.fin [1,2] ?_;refine Z19 ?_;refine R.go ?_;refine R.fin [3] ?_;refine AW.ret ?_;exact md

theorem c86 (c:List Col) (hc:OkCols c) (nm:Str) (Hp:List AObj):AFun Tryz.prog 86 [Ac c,.fn (.func 87) [] [.ro [A9 nm]]] Hp (A2 (B3 nm c)):=by
 refine ACall.body [.tmp 4] [0,1] Tryz.func86 Tryz.ntmps86 (fun d=>?_)
 refine Z51 ?_;refine ly ?_
 refine AW.loopC (α:=Nat) (fun x=>⟨19,A3 0 (Ac c) (A3 1 (.fn (.func 87) [] [.ro [A9 nm]]) (A3 7 (A2 c.length) (A3 8 (A2 (x:Nat)) (fun _=>.any)))),Hp,[],[],none⟩) (fun x=>x≤c.length∧∀(j:Nat) (y:Col),j<x→c[j]? = some y→¬(y.name=nm)) (fun x=>c.length-x) (0) (by simp) (StLe.of_eq (by simp)) rfl (fun x hx=>?_)
 refine lw ?_
 refine W.condX (fun ht9=>?_) (fun ht9=>?_)
 ·have hlt:x<c.length:=by simpa using ht9
  have hcl:=hc.len
  refine Z23 ?_;refine Z1 ?_;refine lv ?_
  refine R.go (h:=Q.indexAddr (x) (B0 c[x]) (fun _=>An hlt)) (hr:=?_)
  refine R.go ?_;refine R.callV Tryz.call87 (c87 c[x] nm _) ?_;refine me ?_
  refine W.cond (fun ht16=>?_) (fun ht16=>?_)
  ·refine gq ?_;refine Z54 ?_;exact K.fin (V.one V.tmp) ⟨by rw [Ws hlt (by simpa using ht16) hx.2],rfl⟩
  refine Z57 ?_;refine R.fin [0,1,7,8] ?_;exact K.lpN (x+1) ⟨hlt,Cn hlt hx.2 (by simpa using ht16)⟩ (by omega) (StCut.of_eq rfl)
 refine Z35 ?_;refine Z63 ?_;exact K.fin (V.one V.tmp) ⟨by rw [Zn (Md (by simp at ht9;omega) hx.2)],rfl⟩

theorem c58 (c:List Col) (hc:OkCols c) (nm:Str) (Hp:List AObj):AFun Tryz.prog 58 [Ac c,A9 nm] Hp (A2 (B3 nm c)):=by
 refine ACall.body [.tmp 4] [0,1] Tryz.func58 Tryz.ntmps58 (fun d=>?_)
 refine m9 ?_;refine Z2 ?_;refine R.makeFunc ?_;refine R.call Tryz.call86 (c86 c hc nm _) ?_;refine R.go ?_;exact w4

def Jl (s of:Str):Int:=(s.length:Int)-(Lib.trimLeftS s of).length
theorem Pl (s of:Str):(Lib.trimLeftS s of).length≤s.length:=by
 unfold Lib.trimLeftS
 exact (List.dropWhile_sublist _).length_le
def J7:Str:=[32,97,100,100,32,100,114,111,112,32,114,101,110,97,109,101,32,115,112,108,105,116,32,109,101,114,103,101,32,114,101,116,121,112,101,32,105,110,116,111,32,116,111,32,98,97,99,107,32,97,110,100,32,111,114,32,110,111,116,32,116,114,117,101,32,102,97,108,115,101,32,110,117,108,108,32,105,110,116,32,116,101,120,116,32,98,111,111,108,32,115,101,108,101,99,116,32,119,104,101,114,101,32,102,114,111,109,32,108,105,109,105,116,32]
def letters:Str:=[97,98,99,100,101,102,103,104,105,106,107,108,109,110,111,112,113,114,115,116,117,118,119,120,121,122]
def tails:Str:=[97,98,99,100,101,102,103,104,105,106,107,108,109,110,111,112,113,114,115,116,117,118,119,120,121,122,48,49,50,51,52,53,54,55,56,57,95]
theorem Zp (s of:Str) (hs:s.length≤1048576) (ho:of.length≤1048576) (ha:∀c∈of,c.toNat<128) (Hp:List AObj):AFun Tryz.prog 131 [A9 s,A9 of] Hp (A2 (Jl s of)):=by
 refine ACall.body [.tmp 4] [0,1] Tryz.func131 Tryz.ntmps131 (fun d=>?_)
 refine Z51 ?_;refine Z19 ?_;refine R.call Tryz.call164 (ABy s of (by omega) ha _) ?_;refine R.go ?_
 have htl:=Pl s of
 exact sa

def E0 (s:Str):Bool:=(!(s==[]) && !Lib.contains s [32])&&Lib.contains J7 ([32]++s++[32])
theorem c145 (s:Str) (hs:s.length≤1048576) (Hp:List AObj):AFun Tryz.prog 145 [A9 s] Hp (At (E0 s)):=by
 refine ACall.body [.tmp 2] [0] Tryz.func145 Tryz.ntmps145 (fun d=>?_)
 refine Z47 ?_;refine Z13 ?_;refine G.go ?_;refine G.call Tryz.call151 (fun hB=>gz s [32] (by omega) _) ?_;refine G.go ?_;refine Z0 ?_;refine Z41 ?_;refine G.call Tryz.call151 (fun hB=>gz J7 ([32]++s++[32]) (by decide) _) ?_;exact lu

theorem x9 {s:Str} {b c:Bool} (h:(((!(s==[])&&b)&&c)==true)=true):1≤s.length:=by
 cases s with
 | nil=>simp at h
 | cons x r=>simp
def Cm (s:Str):Bool:=((((!(s==[])&&decide ((s.length:Int)≤16))&&(Jl s tails==(s.length:Int)))&&(Jl (s.take 1) letters==1)) && !E0 s)
theorem mx (s:Str) (hs:s.length≤1048576) (Hp:List AObj):AFun Tryz.prog 106 [A9 s] Hp (At (Cm s)):=by
 refine ACall.body [.tmp 2] [0] Tryz.func106 Tryz.ntmps106 (fun d=>?_)
 refine Z47 ?_;refine Z13 ?_;refine Z97 ?_;refine G.go ?_;refine G.call Tryz.call131 (fun hB=>Zp s tails hs (by decide) (by decide) _) ?_;refine Z97 ?_;refine G.go ?_
 refine G.go (h:=Q.scutH 1 (fun _=>Nat.zero_le _) (fun hB=>x9 hB)) (hr:=?_)
 refine G.call Tryz.call131 (fun hB=>Zp (s.take 1) letters (by simp;omega) (by decide) (by decide) _) ?_
 refine G.go ?_;refine V1 ?_;refine G.call Tryz.call145 (fun hB=>c145 s hs _) ?_;refine G.go ?_;exact lu

end Go.SX.Nb
namespace Go.SX.Nb
open Go Go.SX Go.Proofs Go.RowKit
variable [ErrAt]
set_option maxRecDepth 4000
theorem AC3 (s t:Str) (Hp:List AObj):AFun Tryz.prog 209 [A9 s,A9 t] Hp (A9 (Lib.trimPrefix s t)):=by
 refine AFun.lib (xs:=[sv s,sv t]) (v:=sv (Lib.trimPrefix s t)) (fun G w=>.v _ _) (fun w hg=>?_)
 refine (Any.strings_TrimPrefix Tryz.lays101 ⟨s.toArray⟩ ⟨t.toArray⟩ w).mono ?_
 rintro e w' ⟨rfl,rfl⟩
 exact gt
theorem c210 (s t:Str) (hs:s.length≤9223372036854775807) (ht:t.length<4294967281) (ha:∀c∈t,c.toNat<128) (Hp:List AObj):AFun Tryz.prog 210 [A9 s,A9 t] Hp (A9 (Lib.trimS s t)):=by
 refine AFun.lib (xs:=[sv s,sv t]) (v:=sv (Lib.trimS s t)) (fun G w=>.v _ _) (fun w hg=>?_)
 refine (Any.strings_Trim_laid Tryz.lays160 (by kernel_rfl) ⟨s.toArray⟩ ⟨t.toArray⟩ w (by simpa [ByteArray.size] using hs) (by simpa [ByteArray.size] using ht) (fun j b hj=>ha b (List.mem_of_getElem? hj))).mono ?_
 rintro e w' ⟨rfl,hb⟩
 exact ⟨rfl,hb⟩
theorem sg (s:Str) (hs:s.length≤1048576) (v:Int) (h:Lib.parseIntB 64 s=.ok v) (Hp:List AObj):AFun Tryz.prog 211 [A9 s,A2 10,A2 64] Hp (.tup [A2 v,.v .nilIface]):=by
 refine AFun.lib (xs:=[sv s,.int .i64 10,.int .i64 64]) (v:=.tuple #[.int .i64 v,.nilIface]) (fun G w=>J1 rfl (fun i y u hy hu=>?_)) (fun w hg=>?_)
 ·match i with
  | 0=>simp at hy hu;subst hy;subst hu;exact .v _ _
  | 1=>simp at hy hu;subst hy;subst hu;exact .v _ _
  | i+2=>simp at hy
 refine (Any.strconv_ParseInt_10_at64_ok Tryz.lays174 ⟨s.toArray⟩ (by simp [ByteArray.size];omega) v h w).mono ?_
 rintro e w' ⟨rfl,rfl|⟨t,rfl⟩⟩
 ·exact gt
 exact ⟨rfl,Lib.bytesWorld_below _ _ _⟩
def Nc (s:Str):AV:=.iface 277 (.ro [.v (sv [80,97,114,115,101,73,110,116]),.v (sv s),.v (.iface 310 (.pointer (some ErrAt.b)))])
theorem Zq (s:Str) (hs:s.length≤1048576) (h:Lib.parseIntB 64 s=.range) (Hp:List AObj):AFun Tryz.prog 211 [A9 s,A2 10,A2 64] Hp (.tup [A2 (Lib.intSat 64 s),Nc s]):=by
 refine AFun.libErr (xs:=[sv s,.int .i64 10,.int .i64 64]) (n:=.int .i64 (Lib.intSat 64 s)) (cs:=[sv [80,97,114,115,101,73,110,116],sv s,.iface 310 (.pointer (some ErrAt.b))]) (te:=303) (fun y hy=>?_) (fun w hg=>?_)
 ·simp only [List.mem_cons,List.mem_nil_iff,or_false] at hy
  rcases hy with rfl|rfl|rfl<;>rfl
 refine (Any.strconv_ParseInt_10_at64_range Tryz.lays174 ⟨s.toArray⟩ (by simp [ByteArray.size];omega) h (.iface 310 (.pointer (some ErrAt.b))) w (Om hg) (.inr ⟨_,_,rfl⟩)).mono ?_
 rintro e w' ⟨N,rfl,h1,h2,h3⟩
 exact ⟨N,rfl,h1,h2,h3⟩
theorem my (Hp:List AObj):AFun Tryz.prog 212 [.v .nilIface,.v (.iface 310 (.pointer (some ErrAt.b)))] Hp (At false):=by
 refine AFun.lib (xs:=[.nilIface,.iface 310 (.pointer (some ErrAt.b))]) (v:=.bool false) (fun G w=>.v _ _) (fun w hg=>?_)
 refine (Tryz.is_nil _ w).mono ?_
 rintro e w' ⟨rfl,rfl⟩
 exact gt
theorem Zr (s:Str) (Hp:List AObj):AFun Tryz.prog 212 [Nc s,.v (.iface 310 (.pointer (some ErrAt.b)))] Hp (At true):=by
 intro d G w vs hn hv hH hT _
 have hsz:vs.size=2:=hn
 have h0:=hv 0 (Nc s) vs[0] rfl (Array.getElem?_eq_getElem (by omega))
 have h1:=M4 (hv 1 (.v (.iface 310 (.pointer (some ErrAt.b)))) vs[1] rfl (Array.getElem?_eq_getElem (by omega)))
 have hvs:vs=#[vs[0],vs[1]]:=by
  apply Array.ext
  ·exact hsz
  intro i hi1 hi2
  match i with
  | 0=>rfl
  | 1=>rfl
  | i+2=>omega
 unfold Nc at h0
 generalize vs[0]=u0 at h0 hvs
 cases h0 with
 | iface _ _ _ u h =>
  cases h with
  | ro _ _ ad f hs h1' hf hr =>
   obtain ⟨ab,ao,asp⟩:=ad
   simp only at hs
   subst hs
   have hc:=(hf 2 _ rfl).2
   have he:=M4 (hr 2 _ rfl)
   rw [he] at hc
   rw [hvs,h1]
   refine (callsIn_wide.2 (Tryz.is_range ab ao ErrAt.b w hc)).mono ?_
   rintro e w' ⟨rfl,rfl⟩
   exact ⟨_,G,_,Hp,rfl,.v _ _,hH,hT,Keep.refl _ _ _,rfl,rfl,rfl⟩
end Go.SX.Nb
namespace Go.SX.Nb
open Go Go.SX Go.Proofs
variable [ErrAt]
set_option maxRecDepth 4000
def Wt:Str:=[32,105,110,116,32,116,101,120,116,32,98,111,111,108]
def kindNames:List Str:=[[],[105,110,116],[116,101,120,116],[98,111,111,108]]
theorem i6:K2 Wt [32]=kindNames:=by kernel_rfl
def Bp (k:Int):Str:=if k<1∨3<k then [] else kindNames.getD k.toNat []
theorem c57 (k:Int) (Hp:List AObj):AFun Tryz.prog 57 [A2 k] Hp (A9 (Bp k)):=by
 refine ACall.body [.tmp 2] [0] Tryz.func57 Tryz.ntmps57 (fun d=>?_)
 refine Wo ?_;refine Sf ?_;refine R.fin [0,8] ?_
 refine W.cond (fun ht8=>?_) (fun ht8=>?_)
 ·refine Z49 ?_;refine K.thR ?_;exact K.fin (V.one V.tmp) ⟨by rw [show Bp k=[] from if_pos (by simpa using ht8)],rfl⟩
 refine Zd ?_
 have hk:1≤k∧k≤3:=by simp at ht8;omega
 have hget:(kindNames.map A9)[k.toNat]? = some (A9 (kindNames.getD k.toNat [])):=by
  have hlt:k.toNat<kindNames.length:=by show k.toNat<4;omega
  rw [List.getElem?_map,List.getElem?_eq_getElem hlt,List.getD_eq_getElem?_getD,List.getElem?_eq_getElem hlt]
  rfl
 refine R.call Tryz.call44 (i6 ▸ c44 Wt [32] (by decide) (by decide) _) ?_;refine R.go ?_
 refine R.go (h:=Q.indexAddr (k.toNat) (A9 (kindNames.getD k.toNat [])) (fun _=>hget)) (hr:=?_)
 refine Z64 ?_;exact K.fin (V.one V.tmp) ⟨by rw [show Bp k=kindNames.getD k.toNat [] from if_neg (by omega)],rfl⟩

def Gy (s of:Str):Bool:=(!(s==[]) && !Lib.contains s [32])&&Lib.contains of ([32]++s++[32])
theorem AAx (s of:Str) (hs:s.length≤1048576) (ho:of.length≤1048576) (Hp:List AObj):AFun Tryz.prog 120 [A9 s,A9 of] Hp (At (Gy s of)):=by
 refine ACall.body [.tmp 4] [0,1] Tryz.func120 Tryz.ntmps120 (fun d=>?_)
 refine Z51 ?_;refine Z13 ?_;refine G.go ?_;refine G.call Tryz.call151 (fun hB=>gz s [32] (by omega) _) ?_;refine G.go ?_;refine Wi ?_;refine G.call Tryz.call151 (fun hB=>gz of ([32]++s++[32]) (by omega) _) ?_;exact sa

def Ta:Str:=[108,101,110,58,49,32,115,116,114,58,49,32,110,117,109,58,49,32,105,115,110,117,108,108,58,49,32,110,118,108,58,50,32,108,101,102,116,58,50,32,114,105,103,104,116,58,50,32,105,102,58,51]
def arityList:List (Str×UInt8):=[([108,101,110],49),([115,116,114],49),([110,117,109],49),([105,115,110,117,108,108],49),([110,118,108],50),([108,101,102,116],50),([114,105,103,104,116],50),([105,102],51)]
def G9 (p:Str×UInt8):Str:=p.1++[58,p.2]
theorem Zs:K2 Ta [32]=arityList.map G9:=by kernel_rfl
theorem mz {p:Str×UInt8} (hp:p∈arityList):Lib.cut (G9 p) [58]=(p.1,[p.2],true):=by
 have h:(arityList.all fun p=>decide (Lib.cut (G9 p) [58]=(p.1,[p.2],true)))=true:=by kernel_rfl
 exact of_decide_eq_true (List.all_eq_true.1 h p hp)
def xa (p:Str×UInt8):Int:=IntKind.i64.wrap (IntKind.u8.wrap ((p.2.toNat:Int)-48))
def B4 (nm:Str):Int:=match arityList.find? (fun p=>p.1==nm) with|some p=>xa p|none => -1
theorem V5 {α:Type} {p:α→Bool} {l:List α} {x:Nat} (h:x<l.length) (hp:p l[x]=true) (h2:∀(j:Nat) (y:α),j<x→l[j]? = some y→p y=false):l.find? p=some l[x]:=by
 rw [List.find?_eq_some_iff_getElem]
 exact ⟨hp,x,h,rfl,fun j hj=>by simpa using h2 j l[j] hj (List.getElem?_eq_getElem _)⟩
theorem Nd {α:Type} {p:α→Bool} {l:List α} (h:∀(j:Nat) (y:α),l[j]? = some y→p y=false):l.find? p=none:=by
 rw [List.find?_eq_none]
 intro y hy
 obtain ⟨j,hj⟩:=List.getElem?_of_mem hy
 simpa using h j y hj
theorem Nf:arityList.length=8:=rfl
theorem i7 {p:Str×UInt8} (hp:p∈arityList):(G9 p).length<4294967281:=by
 have h:(arityList.all fun p=>decide ((G9 p).length<4294967281))=true:=by kernel_rfl
 exact of_decide_eq_true (List.all_eq_true.1 h p hp)
theorem xb (nm:Str) (Hp:List AObj):AFun Tryz.prog 121 [A9 nm] Hp (A2 (B4 nm)):=by
 refine ACall.body [.tmp 2] [0] Tryz.func121 Tryz.ntmps121 (fun d=>?_)
 refine Z47 ?_;refine Z66 ?_;refine R.call Tryz.call44 (Zs ▸ c44 Ta [32] (by decide) (by decide) _) ?_;refine Z0 ?_;refine R.fin [0,8,9,10] ?_
 refine AW.loopC (α:=Nat) (fun x=>⟨28,A3 0 (A9 nm) (A3 8 (Fe (arityList.map G9)) (A3 9 (A2 8) (A3 10 (A2 (x:Nat)) (fun _=>.any)))),Hp,[],[],none⟩) (fun x=>x≤8∧∀(j:Nat) (y:Str×UInt8),j<x→arityList[j]? = some y→(y.1==nm)=false) (fun x=>8-x) (0) (by simp) (StLe.refl _) rfl (fun x hx=>?_)
 refine Z2 ?_;refine R.fin [0,8,9,10,11] ?_
 refine W.condX (fun ht11=>?_) (fun ht11=>?_)
 ·have hlt:x<arityList.length:=by rw [Nf];simp at ht11;omega
  have hal:=Nf
  have hget:((arityList.map G9).map A9)[x]? = some (A9 (G9 arityList[x])):=by rw [List.map_map];exact An hlt
  refine Z87 ?_
  refine R.go (h:=Q.indexAddr (x) (A9 (G9 arityList[x])) (fun _=>hget)) (hr:=?_)
  refine Z0 ?_;refine R.fin [0,4,8,9,10] ?_;refine Z2 ?_;refine R.call Tryz.call132 ((mz (List.getElem_mem hlt)) ▸ AAs (G9 arityList[x]) [58] (i7 (List.getElem_mem hlt)) _) ?_;refine Z0 ?_;refine Z65 ?_;refine R.fin [0,5,6,8,9,10] ?_;refine Z13 ?_;refine R.fin [0,6,8,9,10,22] ?_
  refine W.cond (fun ht22=>?_) (fun ht22=>?_)
  ·refine Z2 ?_
   refine R.go (h:=Q.sindex 0 arityList[x].2 (fun _=>rfl)) (hr:=?_)
   refine R.go (h:=Q.sub) (hr:=?_)
   refine Z64 ?_;refine Z54 ?_;exact K.fin (V.one V.tmp) ⟨by rw [B4,V5 hlt ht22 hx.2];rfl,rfl⟩
  refine Z57 ?_;refine R.fin [0,8,9,10] ?_;exact K.lpN (x+1) ⟨by omega,Cn hlt hx.2 ht22⟩ (by omega) (StCut.of_eq rfl)
 have hal:=Nf
 refine Z35 ?_;refine Z49 ?_;exact K.fin (V.one V.tmp) ⟨by rw [B4,Nd (Md (by simp at ht11;omega) hx.2)],rfl⟩

def Zt (s:Str):Int:=match Lib.parseIntB 64 s with|.ok v=>v|_=>Lib.intSat 64 s
def Sj (s:Str):Bool:=match Lib.parseIntB 64 s with|.ok _=>false|_=>true
def Sk (s:Str):AV:=bif Sj s then Nc s else .v .nilIface
theorem Zu (s:Str):(Sk s).strip=Sk s:=by unfold Sk;cases Sj s<;>rfl
attribute [go_sem] Zu
theorem AC4 (s:Str) (hs:s.length≤1048576) (h:se (Lib.parseIntB 64 s)=false) (Hp:List AObj):AFun Tryz.prog 211 [A9 s,A2 10,A2 64] Hp (.tup [A2 (Zt s),Sk s]):=by
 cases hp:Lib.parseIntB 64 s with
 | ok v =>
  have:=sg s hs v hp Hp
  rwa [show v=Zt s by unfold Zt;rw [hp],show AV.v .nilIface=Sk s by unfold Sk Sj;rw [hp];rfl] at this
 | range =>
  have:=Zq s hs hp Hp
  rwa [show Lib.intSat 64 s=Zt s by unfold Zt;rw [hp],show Nc s=Sk s by unfold Sk Sj;rw [hp];rfl] at this
 | _=>rw [hp] at h;cases h
theorem c212 (s:Str) (Hp:List AObj):AFun Tryz.prog 212 [Sk s,.v (.iface 310 (.pointer (some ErrAt.b)))] Hp (At (Sj s)):=by
 unfold Sk
 cases Sj s
 ·exact my Hp
 exact Zr s Hp
theorem n5 (s t:Str):(Lib.trimPrefix s t).length≤s.length:=by
 unfold Lib.trimPrefix;split<;>simp
theorem i8 {d:Str} {b:Bool} (h:(((d==[]) || b)==false)=true):d≠[]:=by rintro rfl;simp at h
theorem Lr:∀c∈digs,c.toNat<128:=by decide
theorem Qd (s:Str):((((Lib.trimPrefix s [45]==[]) || (Lib.trimS (Lib.trimPrefix s [45]) digs != [])) || ((((Lib.trimPrefix s [45]).headD 0).toNat:Int)==48&&decide ((1:Int)<s.length))))=Fv s:=by
 unfold Fv On
 have e1:((((Lib.trimPrefix s [45]).headD 0).toNat:Int)==48)=((Lib.trimPrefix s [45]).headD 0==48):=by
  rw [Bool.eq_iff_iff]
  simp only [beq_iff_eq]
  constructor
  ·intro h
   exact UInt8.toNat_inj.1 (by have:(48:UInt8).toNat=48:=rfl;omega)
  intro h;rw [h];rfl
 have e2:decide ((1:Int)<s.length)=decide (1<s.length):=by rw [decide_eq_decide];omega
 rw [e1,e2]
 rfl
theorem ib {s:Str} (hb:Fv s=false) (h:Sj s=true):Bc s=(0,4):=by
 unfold Bc
 rw [hb]
 have:=K3 hb
 unfold Sj at h
 revert h this
 cases Lib.parseIntB 64 s with
 | ok v=>intro h;cases h
 | range=>intro _ _;rfl
 | _=>intro _ h;cases h
theorem xc {s:Str} (hb:Fv s=false) (h:Sj s=false):Bc s=(Zt s,0):=by
 unfold Bc Zt
 rw [hb]
 unfold Sj at h
 revert h
 cases Lib.parseIntB 64 s with
 | ok v=>intro h;rfl
 | _=>intro h;cases h
theorem n6 (s:Str):s.take (min s.length 200)=s.take 200:=by
 rcases Nat.le_total s.length 200 with h|h
 ·rw [Nat.min_eq_left h,List.take_of_length_le (Nat.le_refl _),List.take_of_length_le h]
 rw [Nat.min_eq_right h]
theorem AAy (s:Str) (hs:s.length≤1048576) (Hp:List AObj):AFun Tryz.prog 188 [A9 s] Hp (.tup [A2 (Bc s).1,A2 (Bc s).2]):=by
 refine ACall.body [.tmp 2,.tmp 3] [0] Tryz.func188 Tryz.ntmps188 (fun d=>?_)
 refine Z1 ?_;refine R.fin [0] ?_;refine Z2 ?_;refine R.call Tryz.call209 (AC3 s [45] _) ?_;refine R.go ?_;refine R.fin [0,4] ?_;refine Z30 ?_;refine G.go ?_
 refine G.call Tryz.call210 (fun hB=>c210 (Lib.trimPrefix s [45]) digs (by have:=n5 s [45];omega) (by decide) Lr _) ?_
 refine G.go ?_;refine V1 ?_
 refine G.go (h:=Q.sindex 0 ((Lib.trimPrefix s [45]).headD 0) (fun hB=>T9 (i8 hB))) (hr:=?_)
 refine Z95 ?_;refine Sf ?_;refine R.fin [0,25] ?_
 refine W.cond (fun ht25=>?_) (fun ht25=>?_)
 ·have hb:Fv s=true:=by rw [←Qd];exact ht25
  refine Z1 ?_;refine Z40 ?_;refine K.thR ?_;exact K.fin (V.two V.tmp V.tmp) ⟨by rw [Bc,hb];rfl,rfl⟩
 have hb:Fv s=false:=by rw [←Qd];exact ht25
 refine Z99 ?_;refine R.call Tryz.call211 (AC4 s hs (K3 hb) _) ?_;refine Z65 ?_;refine R.fin [5,6] ?_;refine Z36 ?_;refine R.loadGlob Tryz.isAgg119 (fun w hg=>Om hg) ?_;refine R.call Tryz.call212 (c212 s _) ?_;refine R.fin [5,33] ?_
 refine W.cond (fun ht33=>?_) (fun ht33=>?_)
 ·refine Z1 ?_;refine Z40 ?_;refine K.thR ?_;exact K.fin (V.two V.tmp V.tmp) ⟨by rw [ib hb ht33],rfl⟩
 refine Mb ?_;refine Z40 ?_;exact K.fin (V.two V.tmp V.tmp) ⟨by rw [xc hb ht33],rfl⟩

theorem AAz (n:Int) (h0 : -9223372036854775808≤n) (h1:n≤9223372036854775807) (Hp:List AObj):AFun Tryz.prog 202 [A2 n] Hp (A9 (Lib.itoa n)):=by
 refine ACall.body [.tmp 2] [0] Tryz.func202 Tryz.ntmps202 (fun d=>?_)
 refine Z47 ?_;refine Z2 ?_;refine R.call Tryz.call222 (AC2 n h0 h1 _) ?_;refine R.go ?_;exact wn

theorem AC5 (Hp:List AObj):AFun Tryz.prog 152 [] Hp (Am ⟨0,0,[]⟩):=by
 refine ACall.body [.cell 0 63] [] Tryz.func152 Tryz.ntmps152 (fun d=>?_)
 refine Z27 ?_;refine R.fin [0] ?_;refine Z69 ?_;refine Fu ?_;refine R.fin [0] ?_;refine AW.ret ?_;exact wr

theorem xd (n:Int) (Hp:List AObj):AFun Tryz.prog 189 [A2 n] Hp (Am ⟨1,n,[]⟩):=by
 refine ACall.body [.cell 2 63] [0] Tryz.func189 Tryz.ntmps189 (fun d=>?_)
 refine Z52 ?_;refine Z2 ?_;refine wc ?_;exact wr

theorem Zv (b:Bool) (Hp:List AObj):AFun Tryz.prog 154 [At b] Hp (Am ⟨3,if b then 1 else 0,[]⟩):=by
 refine ACall.body [.cell 2 63] [0] Tryz.func154 Tryz.ntmps154 (fun d=>?_)
 refine Z52 ?_;refine Z69 ?_;refine Wh ?_;refine Z36 ?_;refine R.fin [2,3,5] ?_
 refine W.cond (fun ht5=>?_) (fun ht5=>?_)
 ·refine Z81 ?_;refine Fu ?_;refine Hl ?_;refine K.thN ?_;refine Z2 ?_;exact zp
 refine Z99 ?_;exact zp

theorem ic (s:Str) (Hp:List AObj):AFun Tryz.prog 208 [A9 s] Hp (Am ⟨2,0,s.take 200⟩):=by
 refine ACall.body [.cell 2 63] [0] Tryz.func208 Tryz.ntmps208 (fun d=>?_)
 refine Z52 ?_;refine Z13 ?_;refine R.minI ?_
 refine R.go (h:=Q.scutH (min s.length 200) (fun _=>Nat.zero_le _) (fun _=>Nat.min_le_left _ _) (hb:=fun _=>by split<;>omega)) (hr:=?_)
 refine wc ?_;exact K.fin (V.one (V.cellN jA jS)) ⟨by rw [n6],rfl⟩

theorem Zw {p s:Str} (h:p.isPrefixOf s=true):p.length≤s.length:=(List.isPrefixOf_iff_prefix.1 h).length_le
theorem Zx (s o:Str) (h:0≤Lib.index s o):(Lib.index s o).toNat+o.length≤s.length:=by
 induction s with
 | nil =>
  unfold Lib.index at h ⊢
  split at h
  ·rename_i he
   rw [if_pos he]
   cases o with
   | nil=>simp
   | cons a b=>simp at he
  omega
 | cons b l ih =>
  unfold Lib.index at h ⊢
  split at h
  ·rename_i hp
   rw [if_pos hp]
   have:=Zw hp
   simpa using this
  rename_i hp
  rw [if_neg hp]
  split at h
  ·omega
  rename_i hi
  rw [if_neg hi]
  have hg:=Lib.index_ge l o
  have hi':Lib.index l o ≠ -1:=by simpa using hi
  have:=ih (by omega)
  simp only [List.length_cons]
  omega
def cf:Val:=⟨0,0,[]⟩
def Fl (b:Bool):Val:=⟨3,if b then 1 else 0,[]⟩
def AC6 (n:Int):Prop := -9223372036854775808≤n∧n≤9223372036854775807
def Gu (v:Val):Str:=
 if !C5 v then [] else if v.kind==1 then Lib.itoa v.n else if v.kind==2 then [39]++Lib.replaceAll v.s [39] [39,39]++[39]
 else if v.kind==0 then [110,117,108,108] else if v.n==1 then [116,114,117,101] else [102,97,108,115,101]
theorem ie {v:Val} (h:C5 v=true) (h2:(v.kind==2)=true):v.s.length≤200:=by
 have e:v.kind=2:=by simpa using h2
 unfold C5 at h
 rw [e] at h
 simp at h
 omega
theorem Wu (s o:Str) (ho:1≤o.length):Lib.countB ⟨s.toArray⟩ ⟨o.toArray⟩≤s.length:=Lib.countB_le ⟨o.toArray⟩ (by simpa [ByteArray.size] using ho) s.length ⟨s.toArray⟩ (by simp [ByteArray.size])
theorem Oq (o n:Str) (B:Nat) (hn:n.length≤B*o.length) (hB:1≤B):∀(k:Nat) (s:Str),(Lib.replaceK o n k s).length≤B*s.length
 | 0,s=>by rw [Lib.replaceK];exact Nat.le_mul_of_pos_left _ hB
 | k+1,s=>by
  rw [Lib.replaceK]
  split
  ·exact Nat.le_mul_of_pos_left _ hB
  rename_i h
  have ih:=Oq o n B hn hB k (s.drop ((Lib.index s o).toNat+o.length))
  have hx:(Lib.index s o).toNat+o.length≤s.length:=by
   have hg:=Lib.index_ge s o
   have hi:Lib.index s o ≠ -1:=by simpa using h
   exact Zx s o (by omega)
  simp only [List.length_append,List.length_drop,List.length_take] at ih ⊢
  have h1:min (Lib.index s o).toNat s.length≤B*(Lib.index s o).toNat:=Nat.le_trans (Nat.min_le_left _ _) (Nat.le_mul_of_pos_left _ hB)
  have h2:B*s.length=B*(Lib.index s o).toNat+B*o.length+B*(s.length-((Lib.index s o).toNat+o.length)):=by
   rw [←Nat.mul_add,←Nat.mul_add];congr 1;omega
  omega
theorem Sl (s o n:Str) (B:Nat) (hn:n.length≤B*o.length) (hB:1≤B):(Lib.replaceAll s o n).length≤B*s.length:=by
 unfold Lib.replaceAll Lib.replace
 split
 ·exact Nat.le_mul_of_pos_left _ hB
 exact Oq o n B hn hB _ s
theorem AC7 (v:Val) (hn:AC6 v.n) (Hp:List AObj):AFun Tryz.prog 178 [Am v] Hp (A9 (Gu v)):=by
 refine ACall.body [.tmp 2] [0] Tryz.func178 Tryz.ntmps178 (fun d=>?_)
 refine Z96 ?_;refine Ma ?_;refine R.call Tryz.call38 (c38 v _) ?_;refine Z0 ?_;refine R.fin [1,3] ?_
 refine W.cond (fun ht3=>?_) (fun ht3=>?_)
 ·refine Z49 ?_;refine Z5 ?_;exact K.fin (V.one V.tmp) ⟨by simp only [Gu,ht3,if_true],rfl⟩
 have hp:C5 v=true:=by simpa using ht3
 refine Z19 ?_;refine R.fin [1,7] ?_
 refine W.cond (fun ht7=>?_) (fun ht7=>?_)
 ·refine Z1 ?_;refine R.call Tryz.call202 (AAz v.n hn.1 hn.2 _) ?_;refine R.go ?_;refine Z4 ?_;refine Z5 ?_;exact K.fin (V.one V.tmp) ⟨by simp only [Gu,hp,ht7,Bool.not_true,Bool.false_eq_true,if_false,if_true];try rfl,rfl⟩
 refine Z19 ?_;refine R.fin [1,14] ?_
 refine W.cond (fun ht14=>?_) (fun ht14=>?_)
 ·refine Z1 ?_
  have hl:=ie hp ht14
  have hrl:=Sl v.s [39] [39,39] 2 (by decide) (by decide)
  refine R.call Tryz.call203 (AAt v.s [39] [39,39] (by omega) (by decide) (by have:=Wu v.s [39] (by decide);simp;omega) _) ?_
  refine Z29 ?_;refine Z4 ?_;refine Z5 ?_;exact K.fin (V.one V.tmp) ⟨by simp only [Gu,hp,ht7,ht14,Bool.not_true,Bool.false_eq_true,if_false,if_true];try rfl,rfl⟩
 refine Z19 ?_;refine R.fin [1,23] ?_
 refine W.cond (fun ht23=>?_) (fun ht23=>?_)
 ·refine Z49 ?_;refine Z5 ?_;exact K.fin (V.one V.tmp) ⟨by simp only [Gu,hp,ht7,ht14,ht23,Bool.not_true,Bool.false_eq_true,if_false,if_true];try rfl,rfl⟩
 refine Z19 ?_;refine R.fin [27] ?_
 refine W.cond (fun ht27=>?_) (fun ht27=>?_)
 ·refine Z49 ?_;refine Z5 ?_;exact AA9
 refine Z18 ?_;refine Z49 ?_;exact AA9

def n7 (s:Str):Str:=Lib.replaceAll ((s.take (s.length-1)).drop 1) [39,39] [39]
def Qe (s:Str):Val:=⟨2,0,(n7 s).take 200⟩
def Wv (s:Str):Val×Int:=if !(Gu (Qe s)==s) then (cf,7) else (Qe s,0)
theorem AC8 (s:Str) (h2:2≤s.length) (hs:s.length≤1048576) (Hp:List AObj):AFun Tryz.prog 187 [A9 s] Hp (.tup [Am (Wv s).1,A2 (Wv s).2]):=by
 refine ACall.body [.cell 2 63,.tmp 3] [0] Tryz.func187 Tryz.ntmps187 (fun d=>?_)
 refine Wl ?_;refine R.fin [0,2] ?_;refine Z19 ?_
 refine R.go (h:=Q.scutLH 1 (s.length-1) (fun _=>show 1≤s.length-1 by omega) (fun _=>show s.length-1≤s.length by omega)) (hr:=?_)
 refine R.call Tryz.call203 (AAt ((s.take (s.length-1)).drop 1) [39,39] [39] (by simp;omega) (by decide) (by have:=Wu ((s.take (s.length-1)).drop 1) [39,39] (by decide);simp at this ⊢;omega) _) ?_
 refine R.go ?_;refine R.fin [0,2,4] ?_;refine Z2 ?_;refine R.call Tryz.call208 (ic (n7 s) _) ?_;refine Z21 ?_;refine R.fin [0,2,5] ?_;refine Z36 ?_
 refine R.call Tryz.call178 (AC7 (Qe s) ⟨by show (-9223372036854775808:Int)≤0;decide,by show (0:Int)≤9223372036854775807;decide⟩ _) ?_
 refine Z0 ?_;refine R.fin [2,5,17] ?_
 refine W.cond (fun ht17=>?_) (fun ht17=>?_)
 ·refine Z69 ?_;refine Pd ?_;refine K.thR ?_;exact AAa
 refine Z99 ?_;refine Pd ?_;exact AAa

def Ot (s:Str):Bool:=(decide ((1:Int)<s.length)&&Lib.hasPrefix s [39])&&Lib.hasSuffix s [39]
def Dd (s:Str):Val×Int:=
 if s==[110,117,108,108] then (cf,0) else if (s==[116,114,117,101]) || (s==[102,97,108,115,101]) then (Fl (s==[116,114,117,101]),0)
 else if Ot s then Wv s else if (Bc s).2==0 then (⟨1,(Bc s).1,[]⟩,0) else if (Bc s).2==4 then (cf,4) else (cf,7)
theorem n8 {s:Str} (h:Ot s=true):2≤s.length:=by
 unfold Ot at h
 simp only [Bool.and_eq_true,decide_eq_true_eq] at h
 omega
theorem xe (s:Str) (hs:s.length≤1048576) (Hp:List AObj):AFun Tryz.prog 166 [A9 s] Hp (.tup [Am (Dd s).1,A2 (Dd s).2]):=by
 refine ACall.body [.cell 2 63,.tmp 3] [0] Tryz.func166 Tryz.ntmps166 (fun d=>?_)
 refine Wl ?_;refine R.fin [0,2] ?_;refine Wm ?_;refine R.fin [0,2,6] ?_
 refine W.cond (fun ht6=>?_) (fun ht6=>?_)
 ·refine wo ?_;refine Pd ?_;refine Z5 ?_;exact K.fin (V.two (V.cellN jA jS) V.tmp) ⟨by simp only [Dd,ht6,if_true,if_false,Bool.false_eq_true];try rfl,rfl⟩
 refine Wp ?_;refine Z0 ?_;refine R.fin [0,2,10] ?_
 refine W.cond (fun ht10=>?_) (fun ht10=>?_)
 ·refine Z1 ?_;refine R.call Tryz.call154 (Zv (s==[116,114,117,101]) _) ?_;refine Pd ?_;refine Z5 ?_;exact K.fin (V.two (V.cellN jA jS) V.tmp) ⟨by simp only [Dd,ht6,ht10,if_true,if_false,Bool.false_eq_true];try rfl,rfl⟩
 refine gr ?_;refine G.call Tryz.call185 (fun hB=>ABz s [39] _) ?_;refine V1 ?_;refine G.call Tryz.call186 (fun hB=>AC0 s [39] (by omega) _) ?_;refine Z0 ?_;refine R.fin [0,2,20] ?_
 refine W.cond (fun ht20=>?_) (fun ht20=>?_)
 ·have hq:Ot s=true:=ht20
  refine Z2 ?_;refine R.call Tryz.call187 (AC8 s (n8 hq) hs _) ?_;refine Z0 ?_;refine Pd ?_;refine Z5 ?_;exact K.fin (V.two (V.cellN jA jS) V.tmp) ⟨by simp only [Dd,ht6,ht10,hq,if_true,if_false,Bool.false_eq_true];try rfl,rfl⟩
 have hq:Ot s=false:=ht20
 refine Z18 ?_;refine Z2 ?_;refine R.call Tryz.call188 (AAy s hs _) ?_;refine Z65 ?_;refine R.fin [2,4,5] ?_;refine Z36 ?_;refine R.fin [2,4,5,41] ?_;refine Z90 ?_;refine R.fin [2,4,5,41,42] ?_
 refine W.cond (fun ht42=>?_) (fun ht42=>?_)
 ·refine Z2 ?_;refine R.call Tryz.call189 (xd (Bc s).1 _) ?_;refine Pd ?_;refine Z5 ?_;exact K.fin (V.two (V.cellN jA jS) V.tmp) ⟨by simp only [Dd,ht6,ht10,hq,ht42,if_true,if_false,Bool.false_eq_true];try rfl,rfl⟩
 refine Z1 ?_;refine R.fin [2,5,46] ?_
 refine W.cond (fun ht46=>?_) (fun ht46=>?_)
 ·refine Z69 ?_;refine R.go ?_;refine Pd ?_;refine Z5 ?_;exact K.fin (V.two (V.cellN jA jS) V.tmp) ⟨by simp only [Dd,ht6,ht10,hq,ht42,ht46,if_true,if_false,Bool.false_eq_true];rw [show (Bc s).2=4 by simpa using ht46];rfl,rfl⟩
 refine Z18 ?_;refine Z69 ?_;refine Pd ?_;exact K.fin (V.two (V.cellN jA jS) V.tmp) ⟨by simp only [Dd,ht6,ht10,hq,ht42,ht46,if_true,if_false,Bool.false_eq_true];try rfl,rfl⟩

def blanks:Str:=[32,9,10]
/-- What stands behind blanks and notes. -/
def Et:Str→Bool→Str
 | [],_=>[]
 | c::r,false=>if blanks.contains c then Et r false else if c==35 then Et r true else c::r
 | c::r,true=>if c==10 then Et r false else Et r true
def runN (s of:Str):Nat:=s.length-(Lib.trimLeftS s of).length
theorem Pm (s of:Str):Jl s of=(runN s of:Int):=by
 have:=Pl s of
 unfold Jl runN
 omega
theorem V6 (s of:Str):runN s of≤s.length:=Nat.sub_le _ _
theorem n9 (s of:Str):s.drop (runN s of)=Lib.trimLeftS s of:=by
 unfold runN Lib.trimLeftS
 have h:∀l:Str,l.drop (l.length-(l.dropWhile (of.contains ·)).length)=l.dropWhile (of.contains ·):=by
  intro l
  have e:=List.takeWhile_append_dropWhile (p:=(of.contains ·)) (l:=l)
  have hl:l.length-(l.dropWhile (of.contains ·)).length=(l.takeWhile (of.contains ·)).length:=by
   have:=congrArg List.length e
   simp only [List.length_append] at this
   omega
  rw [hl]
  conv=>lhs;rw [←e]
  rw [List.drop_left']
  rw [e]
 exact h s
theorem Ww (s of:Str):s.take (runN s of)=s.takeWhile (of.contains ·):=by
 have e:=List.takeWhile_append_dropWhile (p:=(of.contains ·)) (l:=s)
 have hl:runN s of=(s.takeWhile (of.contains ·)).length:=by
  unfold runN Lib.trimLeftS
  have:=congrArg List.length e
  simp only [List.length_append] at this
  omega
 rw [hl]
 conv=>lhs;rw [←e]
 rw [List.take_left']
 rw [e]
theorem Ng:∀s:Str,Et (Lib.trimLeftS s blanks) false=Et s false
 | []=>rfl
 | c::r=>by
  unfold Lib.trimLeftS
  rw [List.dropWhile_cons]
  by_cases h:blanks.contains c=true
  ·rw [if_pos h,Et,if_pos h]
   exact Ng r
  rw [if_neg h]
theorem Tb (of:Str):∀(s:Str) (c:UInt8) (t:Str),Lib.trimLeftS s of=c::t→of.contains c=false
 | [],c,t,h=>by cases h
 | b::r,c,t,h=>by
  unfold Lib.trimLeftS at h
  rw [List.dropWhile_cons] at h
  split at h
  ·exact Tb of r c t h
  rename_i hb
  injection h with h1 h2
  subst h1
  simpa using hb
def Ga:Str→Str
 | []=>[]
 | c::r=>if c==10 then r else Ga r
theorem xf (s:Str):(Lib.cut s [10]).2.1=Ga s:=by
 unfold Lib.cut
 induction s with
 | nil=>rfl
 | cons c r ih =>
  have hg:=Lib.index_ge r [10]
  rw [Ga]
  unfold Lib.index
  by_cases hc:c=10
  ·subst hc
   simp [List.isPrefixOf]
  have h1:([10]:Str).isPrefixOf (c::r)=false:=by simp [List.isPrefixOf,Ne.symm hc]
  have h2:(c==10)=false:=by simpa using hc
  rw [h1,h2]
  simp only [Bool.false_eq_true,if_false]
  by_cases hi:Lib.index r [10] = -1
  ·rw [hi] at ih ⊢
   simpa using ih
  have h3:(Lib.index r [10] == -1)=false:=by simpa using hi
  rw [h3]
  simp only [Bool.false_eq_true,if_false]
  rw [if_pos (by omega)] at ih ⊢
  have e:(Lib.index r [10]+1).toNat=(Lib.index r [10]).toNat+1:=by omega
  rw [e]
  rw [←ih]
  show (c::r).drop _=_
  rw [show (Lib.index r [10]).toNat+1+([10]:Str).length=((Lib.index r [10]).toNat+([10]:Str).length)+1 by omega,List.drop_succ_cons]
theorem Tc:∀t:Str,Et t true=Et (Ga t) false
 | []=>rfl
 | c::r=>by
  rw [Et,Ga]
  split
  ·rfl
  exact Tc r
theorem Qf:∀t:Str,(Ga t).length≤t.length
 | []=>Nat.le_refl _
 | c::r=>by
  rw [Ga]
  split
  ·simp
  have:=Qf r;simp only [List.length_cons];omega
def gapM (s:Str):Nat:=s.length-(Et s false).length
theorem ig {d:Str} (h:((d==[])==false)=true):d≠[]:=by rintro rfl;simp at h
theorem V7:∀c∈blanks,c.toNat<128:=by decide
/-- The gap is at its end. -/
theorem sh {x s:Str} (hx:Et x false=Et s false) (h:((Lib.trimLeftS x blanks==[]) || ((((Lib.trimLeftS x blanks).headD 0).toNat:Int) != 35))=true):Et s false=Lib.trimLeftS x blanks:=by
 rw [←hx,←Ng]
 cases ht:Lib.trimLeftS x blanks with
 | nil=>rfl
 | cons c t =>
  rw [ht] at h
  have hb:=Tb blanks x c t ht
  have hc:(c==35)=false:=by
   simp at h
   rw [beq_eq_false_iff_ne]
   rintro rfl
   exact h rfl
  rw [Et,hb,hc]
  rfl
theorem xg {x s:Str} (hx:Et x false=Et s false) (h:((Lib.trimLeftS x blanks==[]) || ((((Lib.trimLeftS x blanks).headD 0).toNat:Int) != 35))=false):
  Et (Lib.cut (Lib.trimLeftS x blanks) [10]).2.1 false=Et s false∧(Lib.cut (Lib.trimLeftS x blanks) [10]).2.1.length<x.length:=by
 have hl:=Pl x blanks
 rw [xf,←hx,←Ng x]
 cases ht:Lib.trimLeftS x blanks with
 | nil=>rw [ht] at h;simp at h
 | cons c t =>
  rw [ht] at h hl
  have hc:c=35:=by
   simp at h
   exact UInt8.toNat_inj.1 (by have:(35:UInt8).toNat=35:=rfl;omega)
  subst hc
  have ha:=Qf t
  refine ⟨?_,?_⟩
  ·rw [Ga,Et]
   have e1:blanks.contains 35=false:=by decide
   rw [e1]
   exact (Tc t).symm
  rw [Ga]
  simp only [List.length_cons] at hl
  show (Ga t).length<_
  omega
theorem c99 (s:Str) (hs:s.length≤1048576) (Hp:List AObj):AFun Tryz.prog 99 [A9 s] Hp (A2 (gapM s)):=by
 refine ACall.body [.tmp 2] [0] Tryz.func99 Tryz.ntmps99 (fun d=>?_)
 refine Z47 ?_;refine m9 ?_
 refine AW.loopC (α:=Str) (fun x=>⟨27,A3 0 (A9 s) (A3 3 (A9 x) (fun _=>.any)),Hp,[],[],none⟩) (fun x=>Et x false=Et s false∧x.length≤s.length) (fun x=>x.length) (s) (by simp) (StLe.refl _) rfl (fun x hx=>?_)
 refine Gx ?_;refine Cz ?_
 have hx2:=hx.2
 have htl:=Pl x blanks
 refine Z0 ?_;refine R.call Tryz.call131 (Zp x blanks (by omega) (by decide) V7 _) ?_
 refine R.go (h:=Q.scutL (runN x blanks) (fun _=>V6 _ _) (fun _=>Nat.le_refl _) (ha:=fun _=>Pm x blanks)) (hr:=?_)
 rw [n9]
 refine ge ?_;refine Z30 ?_;refine G.go ?_
 refine G.go (h:=Q.sindex 0 ((Lib.trimLeftS x blanks).headD 0) (fun hB=>T9 (ig hB))) (hr:=?_)
 refine Z93 ?_;refine R.fin [0,3,15] ?_
 refine W.cond (fun ht15=>?_) (fun ht15=>?_)
 ·have he:=sh hx.1 ht15
  refine Z19 ?_;refine Z64 ?_;refine K.thR ?_;refine gj ?_;exact K.fin (V.one V.tmp) ⟨by rw [show ((s.length:Int)-(Lib.trimLeftS x blanks).length)=(gapM s:Int) by unfold gapM;rw [he];omega],rfl⟩
 have he:=xg hx.1 ht15
 refine Z6 ?_;refine Z81 ?_;refine R.call Tryz.call132 (AAs (Lib.trimLeftS x blanks) [10] (by omega) _) ?_;refine Z65 ?_;refine Mc ?_;refine K.blN ?_;exact K.lpN _ ⟨he.1,by omega⟩ he.2 (StCut.of_eq rfl)

def Bt (s of:Str):Str:=s.take (runN s of)
theorem Fw (s of:Str):(Bt s of).length≤s.length:=by unfold Bt;simp;omega
def K4 (s:Str):Int×Str×Int×Int:=
 if E0 (Bt s tails) then (2,Bt s tails,(Bt s tails).length,0) else if !Cm (Bt s tails) then (0,[],0,3) else (1,Bt s tails,(Bt s tails).length,0)
abbrev na (r:Int×Str×Int×Int):AV:=.tup [A2 r.1,A9 r.2.1,A2 r.2.2.1,A2 r.2.2.2]
theorem Wx:∀c∈tails,c.toNat<128:=by decide
theorem Sm:∀c∈letters,c.toNat<128:=by decide
theorem AC9 (s:Str) (hs:s.length≤1048576) (Hp:List AObj):AFun Tryz.prog 133 [A9 s] Hp (na (K4 s)):=by
 refine ACall.body [.tmp 2,.tmp 3,.tmp 4,.tmp 5] [0] Tryz.func133 Tryz.ntmps133 (fun d=>?_)
 refine mb ?_;refine Z1 ?_;refine R.call Tryz.call131 (Zp s tails hs (by decide) Wx _) ?_
 refine R.go (h:=Q.scutH (runN s tails) (fun _=>Nat.zero_le _) (fun _=>V6 _ _) (hb:=fun _=>Pm s tails)) (hr:=?_)
 refine R.go ?_;refine R.fin [6] ?_;refine Ma ?_
 refine R.call Tryz.call145 (c145 (Bt s tails) (by have:=Fw s tails;omega) _) ?_
 refine R.go ?_;refine R.fin [6,11] ?_
 refine W.cond (fun ht11=>?_) (fun ht11=>?_)
 ·refine Cz ?_
  have hwl:=Fw s tails
  refine Z0 ?_;refine Z65 ?_;refine Z56 ?_;refine Z5 ?_;exact K.fin (V.four V.tmp V.tmp V.tmp V.tmp) ⟨by simp only [K4,ht11,if_true,if_false,Bool.false_eq_true];try rfl,rfl⟩
 refine Z2 ?_
 refine R.call Tryz.call106 (mx (Bt s tails) (by have:=Fw s tails;omega) _) ?_
 refine Z0 ?_;refine R.fin [6,17] ?_
 refine W.cond (fun ht17=>?_) (fun ht17=>?_)
 ·refine Z19 ?_;refine Z56 ?_;refine Z5 ?_;exact AAb
 refine Z18 ?_;refine Cz ?_
 have hwl:=Fw s tails
 refine Z0 ?_;refine Z65 ?_;refine Z56 ?_;exact AAb

def Pn (s:Str):Int×Str×Int×Int:=(3,Bt s digs,(Bt s digs).length,(Dd (Bt s digs)).2)
theorem ACa (s:Str) (hs:s.length≤1048576) (Hp:List AObj):AFun Tryz.prog 134 [A9 s] Hp (na (Pn s)):=by
 refine ACall.body [.tmp 2,.tmp 3,.tmp 4,.tmp 5] [0] Tryz.func134 Tryz.ntmps134 (fun d=>?_)
 refine mb ?_;refine Z1 ?_;refine R.call Tryz.call131 (Zp s digs hs (by decide) Lr _) ?_
 refine R.go (h:=Q.scutH (runN s digs) (fun _=>Nat.zero_le _) (fun _=>V6 _ _) (hb:=fun _=>Pm s digs)) (hr:=?_)
 refine R.go ?_;refine R.fin [6] ?_;refine Z2 ?_
 refine R.call Tryz.call166 (xe (Bt s digs) (by have:=Fw s digs;omega) _) ?_
 refine gm ?_;refine R.fin [6,8] ?_;refine Z19 ?_;refine Z73 ?_;refine Z56 ?_;exact K.fin (V.four V.tmp V.tmp V.tmp V.tmp) ⟨rfl,rfl⟩

/-- Behind a mark: how many bytes up to the one that vu, it too. -/
def Ce:Str→Option Nat
 | []=>none
 | [c]=>if c==39 then some 1 else none
 | c::d::t=>if c==39 then (if d==39 then (Ce t).map (·+2) else some 1) else (Ce (d::t)).map (·+1)
theorem Ou {c:UInt8} (h:¬(c==39)=true) (r:Str):Ce (c::r)=(Ce r).map (·+1):=by
 cases r with
 | nil=>simp [Ce,h]
 | cons d t=>rw [Ce,if_neg h]
theorem Qg (r:Str):Ce (39::r)=match r with
   | []=>some 1
   | d::t=>if d==39 then (Ce t).map (·+2) else some 1:=by
 cases r with
 | nil=>rfl
 | cons d t=>rw [Ce];simp
def Gz (s:Str):Int×Str×Int×Int:=
 match Ce (s.drop 1) with
 | none=>(0,[],0,7)
 | some n=>if (Dd (s.take (n+1))).2 != 0 then (0,[],0,3) else (4,(Dd (s.take (n+1))).1.s,((n+1:Nat):Int),0)
theorem Qh:∀l:Str,Lib.indexByte l 39 = -1→Ce l=none
 | [],_=>by rw [Ce]
 | c::r,h=>by
  rw [Lib.indexByte] at h
  split at h
  ·omega
  rename_i hc
  rw [Ou hc]
  split at h
  ·rename_i hi
   rw [Qh r (by simpa using hi)]
   rfl
  have:=Lib.indexByte_ge r 39;omega
theorem Wy:∀(l:Str) (k:Nat),Lib.indexByte l 39=(k:Int)→k<l.length∧Ce l=(Ce (l.drop k)).map (·+k)∧l[k]? = some 39
 | [],k,h=>by rw [Lib.indexByte] at h;omega
 | c::r,k,h=>by
  rw [Lib.indexByte] at h
  split at h
  ·rename_i hc
   have:k=0:=by omega
   subst this
   refine ⟨by simp,?_,by simpa using hc⟩
   rw [List.drop_zero]
   cases Ce (c::r)<;>simp
  rename_i hc
  split at h
  ·omega
  have hg:=Lib.indexByte_ge r 39
  rename_i hi
  have hi':Lib.indexByte r 39 ≠ -1:=by simpa using hi
  obtain ⟨m,rfl⟩:∃m,k=m+1:=⟨k-1,by omega⟩
  obtain ⟨h1,h2,h3⟩:=Wy r m (by omega)
  refine ⟨by simpa using h1,?_,by simpa using h3⟩
  rw [Ou hc,List.drop_succ_cons,h2]
  cases Ce (r.drop m)<;>simp [Nat.add_assoc]
theorem J8 {s:Str} {n:Nat} {c:UInt8} (h:s[n]? = some c):s.drop n=c::s.drop (n+1):=by
 obtain ⟨hlt,he⟩:=List.getElem?_eq_some_iff.1 h
 rw [List.drop_eq_getElem_cons hlt,he]
theorem Me {s:Str} {n:Nat} (h:n<s.length):s[n]? = some (s.getD n 0):=by
 rw [List.getD_eq_getElem?_getD,List.getElem?_eq_getElem h];rfl
theorem nb {s:Str} {x k:Nat} (h:(decide (((x:Int)+((k:Int)+1))<s.length)==true)=true):x+(k+1)<s.length:=by
 have:=of_decide_eq_true (by simpa using h:decide (((x:Int)+((k:Int)+1))<s.length)=true)
 omega
/-- What a round of the search for the mark that vu comes to. -/
theorem Zy {s:Str} {x k:Nat} (h1:1≤x) (hx:Ce (s.drop 1)=(Ce (s.drop x)).map (·+(x-1))) (hk:Lib.indexByte (s.drop x) 39=(k:Int)):
  x+(k+1)≤s.length ∧
   ((decide (((x:Int)+((k:Int)+1))<s.length)&&(((s.getD (x+(k+1)) 0).toNat:Int)==39))=true→x+(k+1)+1≤s.length∧Ce (s.drop 1)=(Ce (s.drop (x+(k+1)+1))).map (·+(x+(k+1)+1-1))) ∧
   ((decide (((x:Int)+((k:Int)+1))<s.length)&&(((s.getD (x+(k+1)) 0).toNat:Int)==39))=false→Ce (s.drop 1)=some (x+k)):=by
 obtain ⟨g1,g2,g3⟩:=Wy _ k hk
 rw [List.length_drop] at g1
 rw [List.getElem?_drop] at g3
 have e0:(s.drop x).drop k=39::s.drop (x+(k+1)):=by rw [List.drop_drop,J8 g3,Nat.add_assoc]
 rw [e0] at g2
 refine ⟨by omega,fun h=>?_,fun h=>?_⟩
 ·simp only [Bool.and_eq_true,decide_eq_true_eq,beq_iff_eq] at h
  have hlt:x+(k+1)<s.length:=by omega
  have hc:s.getD (x+(k+1)) 0=39:=UInt8.toNat_inj.1 (by have:(39:UInt8).toNat=39:=rfl;omega)
  have hd:=J8 (Me hlt)
  rw [hc] at hd
  refine ⟨by omega,?_⟩
  rw [hx,g2,hd,Qg]
  simp only [beq_self_eq_true,if_true]
  cases Ce (s.drop (x+(k+1)+1)) with
  | none=>rfl
  | some m=>simp;omega
 rw [hx,g2,Qg]
 cases hd:s.drop (x+(k+1)) with
 | nil=>simp;omega
 | cons d t =>
  have hlt:x+(k+1)<s.length:=by
   have:=congrArg List.length hd
   simp at this;omega
  have hg:=J8 (Me hlt)
  rw [hd] at hg
  injection hg with hg1 hg2
  have hne:(d==39)=false:=by
   rw [hg1,beq_eq_false_iff_ne]
   intro e
   rw [e] at h
   simp at h
   omega
  simp [hne];omega
theorem ACb (s:Str) (h0:1≤s.length) (hs:s.length≤1048576) (Hp:List AObj):AFun Tryz.prog 135 [A9 s] Hp (na (Gz s)):=by
 refine ACall.body [.tmp 2,.tmp 3,.tmp 4,.tmp 5] [0] Tryz.func135 Tryz.ntmps135 (fun d=>?_)
 refine mb ?_;refine Z2 ?_;refine R.fin [0,6] ?_
 refine AW.loopC (α:=Nat) (fun x=>⟨44,A3 0 (A9 s) (A3 6 (A2 (x:Nat)) (fun _=>.any)),Hp,[],[],none⟩) (fun x=>1≤x∧x≤s.length∧Ce (s.drop 1)=(Ce (s.drop x)).map (·+(x-1))) (fun x=>s.length-x) (1) ⟨Nat.le_refl _,h0,by cases Ce (s.drop 1)<;>rfl⟩ (StLe.refl _) rfl (fun x hx=>?_)
 refine Z90 ?_
 refine R.go (h:=Q.scutL x (fun _=>hx.2.1) (fun _=>Nat.le_refl _)) (hr:=?_)
 refine R.call Tryz.call167 (c167 (s.drop x) 39 _) ?_;refine R.go ?_;refine R.fin [0,6,7] ?_;refine Z31 ?_;refine R.fin [0,6,7,15] ?_
 refine W.cond (fun ht15=>?_) (fun ht15=>?_)
 ·have hk:Lib.indexByte (s.drop x) 39 = -1:=by have:=Lib.indexByte_ge (s.drop x) 39;simp at ht15;omega
  have hcq:Ce (s.drop 1)=none:=by rw [hx.2.2,Qh _ hk];rfl
  refine Z19 ?_;refine Z56 ?_;refine K.thR ?_;refine gj ?_;exact K.fin (V.four V.tmp V.tmp V.tmp V.tmp) ⟨by simp only [Gz,hcq],rfl⟩
 obtain ⟨k0,hk⟩:=Int.eq_ofNat_of_zero_le (show 0≤Lib.indexByte (s.drop x) 39 by simp at ht15;omega)
 rw [hk]
 refine Zd ?_
 have hst:=Zy hx.1 hx.2.2 hk
 refine Z65 ?_;refine R.fin [0,6] ?_;refine Zg ?_;refine Z9 ?_
 refine G.go (h:=Q.sindex (x+(k0+1)) (s.getD (x+(k0+1)) 0) (fun hB=>Me (nb hB))) (hr:=?_)
 refine Z93 ?_;refine R.fin [0,6,29] ?_
 refine W.cond (fun ht29=>?_) (fun ht29=>?_)
 ·have hon:=hst.2.1 ht29
  refine Z13 ?_;refine R.fin [0,6] ?_;refine Z59 ?_;refine K.blE ?_;exact K.lpN ((x+(k0+1))+1) ⟨by omega,hon.1,hon.2⟩ (by omega) (StCut.of_eq rfl)
 have hcq:=hst.2.2 ht29
 refine Sg ?_
 refine R.go (h:=Q.scutH (x+(k0+1)) (fun _=>Nat.zero_le _) (fun _=>hst.1)) (hr:=?_)
 refine R.call Tryz.call166 (xe (s.take (x+(k0+1))) (by simp;omega) _) ?_
 refine gm ?_;refine R.fin [6,8,9] ?_;refine Z31 ?_;refine R.fin [6,8,40] ?_
 refine W.cond (fun ht40=>?_) (fun ht40=>?_)
 ·refine Z19 ?_;refine Z56 ?_;refine K.thR ?_;refine gj ?_;exact K.fin (V.four V.tmp V.tmp V.tmp V.tmp) ⟨by simp only [Gz,hcq,show x+k0+1=x+(k0+1) by omega];rw [if_pos ht40],rfl⟩
 refine Z6 ?_;refine W.drawQ [0,1,0,0,11,31,63] 5 Aa (by kernel_rfl) ?_;refine Z10 ?_;refine Z37 ?_;refine D.tail ?_;refine Z0 ?_;refine Z56 ?_;refine gj ?_;exact K.fin (V.four V.tmp V.tmp V.tmp V.tmp) ⟨by simp only [Gz,hcq,show x+k0+1=x+(k0+1) by omega];rw [if_neg (by rw [ht40];simp)];rfl,rfl⟩

def cg:Str:=[60,61,32,62,61,32,33,61]
def cj:Str:=[40,41,44,59,61,60,62,43,45,42,47,37,38,58]
def Ov (s:Str):Int×Str×Int×Int:=
 if (decide ((1:Int)<s.length)&&Lib.contains cg (s.take 2))&&(((s.getD 1 0).toNat:Int)==61) then (5,s.take 2,2,0)
 else if Lib.contains cj (s.take 1) then (5,s.take 1,1,0) else (0,[],0,7)
theorem ii {s:Str} {b c:Bool} (h:(((decide ((1:Int)<s.length)&&b)&&c)==true)=true):1<s.length:=by
 revert h
 cases hd:decide ((1:Int)<s.length) with
 | true=>intro _;have:=of_decide_eq_true hd;omega
 | false=>intro h;simp at h
theorem Qi {s:Str} {b:Bool} (h:((decide ((1:Int)<s.length)&&b)==true)=true):1<s.length:=ii (c:=true) (by rw [Bool.and_true];exact h)
theorem Zz {s:Str} (h:(decide ((1:Int)<s.length)==true)=true):2≤s.length:=Qi (b:=true) (by rw [Bool.and_true];exact h)
theorem ACc (s:Str) (h0:1≤s.length) (Hp:List AObj):AFun Tryz.prog 136 [A9 s] Hp (na (Ov s)):=by
 refine ACall.body [.tmp 2,.tmp 3,.tmp 4,.tmp 5] [0] Tryz.func136 Tryz.ntmps136 (fun d=>?_)
 refine mb ?_;refine Z48 ?_;refine G.go ?_
 refine G.go (h:=Q.scutH 2 (fun _=>Nat.zero_le _) (fun hB=>Zz hB)) (hr:=?_)
 refine G.call Tryz.call151 (fun hB=>gz cg (s.take 2) (by decide) _) ?_;refine V1 ?_
 refine G.go (h:=Q.sindex 1 (s.getD 1 0) (fun hB=>Me (Qi hB))) (hr:=?_)
 refine Z93 ?_;refine R.fin [0,18] ?_
 refine W.cond (fun ht18=>?_) (fun ht18=>?_)
 ·have h2:2≤s.length:=by revert ht18;cases hd:decide ((1:Int)<s.length) with
   | true=>intro _;have:=of_decide_eq_true hd;omega
   | false=>intro h;simp at h
  refine W.drawQ [0,1,0,7,15,31] 3 Aa (by kernel_rfl) ?_;refine D.go ?_
  refine D.go (h:=Q.scutH 2 (fun _=>Nat.zero_le _) (fun _=>h2)) (hr:=?_)
  refine mc ?_;refine Z29 ?_;refine Z56 ?_;refine K.thR ?_;exact K.fin (V.four V.tmp V.tmp V.tmp V.tmp) ⟨by simp only [Ov,ht18,if_true,if_false,Bool.false_eq_true];try rfl,rfl⟩
 refine Q9 ?_
 refine R.go (h:=Q.scutH 1 (fun _=>Nat.zero_le _) (fun _=>h0)) (hr:=?_)
 refine R.call Tryz.call151 (gz cj (s.take 1) (by decide) _) ?_;refine R.fin [0,23] ?_
 refine W.cond (fun ht23=>?_) (fun ht23=>?_)
 ·refine W.drawQ [0,1,0,7,15,31] 3 Aa (by kernel_rfl) ?_;refine D.go ?_
  refine D.go (h:=Q.scutH 1 (fun _=>Nat.zero_le _) (fun _=>h0)) (hr:=?_)
  refine mc ?_;refine Z29 ?_;refine Z56 ?_;refine K.thR ?_;exact AAc
 refine Z6 ?_;refine Z19 ?_;refine Z56 ?_;exact AAc

def B5 (s:Str):Int×Str×Int×Int:=
 if decide (0<Jl (s.take 1) letters) then K4 s else if decide (0<Jl (s.take 1) digs) then Pn s else if ((s.getD 0 0).toNat:Int)==39 then Gz s else Ov s
theorem ACd (s:Str) (h0:1≤s.length) (hs:s.length≤1048576) (Hp:List AObj):AFun Tryz.prog 100 [A9 s] Hp (na (B5 s)):=by
 refine ACall.body [.tmp 2,.tmp 3,.tmp 4,.tmp 5] [0] Tryz.func100 Tryz.ntmps100 (fun d=>?_)
 refine mb ?_;refine Ma ?_
 refine R.go (h:=Q.scutH 1 (fun _=>Nat.zero_le _) (fun _=>h0)) (hr:=?_)
 refine R.call Tryz.call131 (Zp (s.take 1) letters (by simp;omega) (by decide) Sm _) ?_
 refine Z0 ?_;refine R.fin [0,6] ?_
 refine W.cond (fun ht6=>?_) (fun ht6=>?_)
 ·refine Z2 ?_;refine R.call Tryz.call133 (AC9 s hs _) ?_;refine Z73 ?_;refine Z73 ?_;refine Z56 ?_;refine Z5 ?_;exact K.fin (V.four V.tmp V.tmp V.tmp V.tmp) ⟨by simp only [B5,ht6,if_true,if_false,Bool.false_eq_true],rfl⟩
 refine Z2 ?_
 refine R.go (h:=Q.scutH 1 (fun _=>Nat.zero_le _) (fun _=>h0)) (hr:=?_)
 refine R.call Tryz.call131 (Zp (s.take 1) digs (by simp;omega) (by decide) Lr _) ?_
 refine Z0 ?_;refine R.fin [0,17] ?_
 refine W.cond (fun ht17=>?_) (fun ht17=>?_)
 ·refine Z2 ?_;refine R.call Tryz.call134 (ACa s hs _) ?_;refine Z73 ?_;refine Z73 ?_;refine Z56 ?_;refine Z5 ?_;exact K.fin (V.four V.tmp V.tmp V.tmp V.tmp) ⟨by simp only [B5,ht6,ht17,if_true,if_false,Bool.false_eq_true],rfl⟩
 refine Z2 ?_
 refine R.go (h:=Q.sindex 0 (s.getD 0 0) (fun _=>Me h0)) (hr:=?_)
 refine Z0 ?_;refine R.fin [0,28] ?_
 refine W.cond (fun ht28=>?_) (fun ht28=>?_)
 ·refine Z2 ?_;refine R.call Tryz.call135 (ACb s h0 hs _) ?_;refine Z73 ?_;refine Z73 ?_;refine Z56 ?_;refine Z5 ?_;exact AAd
 refine Z18 ?_;refine Z2 ?_;refine R.call Tryz.call136 (ACc s h0 _) ?_;refine Z73 ?_;refine Z73 ?_;refine Z56 ?_;exact AAd

structure Tok where
 kind:Int
 text:Str
 at_:Nat
 deriving DecidableEq
abbrev H0 (t:Tok):AV:=.agg [.v (.int .i64 t.kind),.v (sv t.text),.v (.int .i64 (t.at_:Int))]
abbrev ck (l:List Tok):AV:=.slice false 3 (l.map H0)
theorem cl {c:UInt8} {of:Str} (h:decide (0<Jl ([c]:Str) of)=true):of.contains c=true:=by
 have:=of_decide_eq_true h
 unfold Jl Lib.trimLeftS at this
 rw [List.dropWhile_cons] at this
 cases hc:of.contains c with
 | true=>rfl
 | false=>rw [hc] at this;simp at this
theorem Qj {c:UInt8} {r of:Str} (h:of.contains c=true):1≤(Bt (c::r) of).length:=by
 unfold Bt
 rw [Ww,List.takeWhile_cons,h]
 simp
theorem Sn:∀c:UInt8,letters.contains c=true→tails.contains c=true:=by
 have h:((List.range 256).all fun n => !letters.contains (UInt8.ofNat n) || tails.contains (UInt8.ofNat n))=true:=by kernel_rfl
 intro c hc
 have:=List.all_eq_true.1 h c.toNat (List.mem_range.2 c.toNat_lt)
 rw [show UInt8.ofNat c.toNat=c by simp,hc] at this
 simpa using this
theorem Qk:∀(l:Str) (n:Nat),Ce l=some n→1≤n∧n≤l.length
 | [],n,h=>by cases h
 | [c],n,h=>by
  rw [Ce] at h
  split at h
  ·injection h with h;subst h;simp
  cases h
 | c::d::t,n,h=>by
  rw [Ce] at h
  split at h
  ·split at h
   ·rw [Option.map_eq_some_iff] at h
    obtain ⟨m,hm,rfl⟩:=h
    have:=Qk t m hm
    simp only [List.length_cons];omega
   injection h with h;subst h;simp
  rw [Option.map_eq_some_iff] at h
  obtain ⟨m,hm,rfl⟩:=h
  have:=Qk (d::t) m hm
  simp only [List.length_cons] at this ⊢;omega
theorem cm {s:Str} (h0:1≤s.length) (h:(B5 s).2.2.2=0):∃n:Nat,(B5 s).2.2.1=(n:Int)∧1≤n∧n≤s.length:=by
 cases s with
 | nil=>simp at h0
 | cons c r =>
  unfold B5 at h ⊢
  split at h
  ·rename_i h1
   rw [if_pos h1]
   have hc:=Sn c (cl h1)
   have hw:=Qj (r:=r) hc
   have hl:=Fw (c::r) tails
   unfold K4 at h ⊢
   split at h
   ·rename_i h2;rw [if_pos h2];exact ⟨_,rfl,hw,hl⟩
   rename_i h2
   rw [if_neg h2]
   split at h
   ·exact mf
   rename_i h3;rw [if_neg h3];exact ⟨_,rfl,hw,hl⟩
  rename_i h1
  rw [if_neg h1]
  split at h
  ·rename_i h2
   rw [if_pos h2]
   exact ⟨_,rfl,Qj (r:=r) (cl h2),Fw _ _⟩
  rename_i h2
  rw [if_neg h2]
  split at h
  ·rename_i h3
   rw [if_pos h3]
   unfold Gz at h ⊢
   split at h
   ·exact mf
   rename_i n hn
   split at h
   ·exact mf
   rename_i h4
   simp only [if_neg h4]
   have:=Qk _ n hn
   simp at this
   exact ⟨n+1,rfl,by omega,by simp only [List.length_cons];omega⟩
  rename_i h3
  rw [if_neg h3]
  unfold Ov at h ⊢
  split at h
  ·rename_i h4
   rw [if_pos h4]
   refine ⟨2,rfl,by omega,?_⟩
   simp only [Bool.and_eq_true,decide_eq_true_eq] at h4
   have:=h4.1.1
   omega
  rename_i h4
  rw [if_neg h4]
  split at h
  ·rename_i h5;rw [if_pos h5];exact ⟨1,rfl,by omega,h0⟩
  exact mf
/-- The words from a place on, up to one that is wrong. -/
def F1:Nat→Nat→Str→List (Tok×Int)
 | 0,_,_=>[]
 | f+1,k,s=>if s==[] then [] else
  (⟨(B5 s).1,(B5 s).2.1,k⟩,(B5 s).2.2.2)::(if (B5 s).2.2.2==0 then F1 f (k+(B5 s).2.2.1.toNat+gapM (s.drop (B5 s).2.2.1.toNat)) ((s.drop (B5 s).2.2.1.toNat).drop (gapM (s.drop (B5 s).2.2.1.toNat))) else [])
def Bf (s:Str):List (Tok×Int):=F1 (s.length+1) (gapM s) (s.drop (gapM s))
theorem aa (s:Str):gapM s≤s.length:=Nat.sub_le _ _
end Go.SX.Nb
namespace Go.SX
variable [GI:GlobInv]
open Classical
@[simp] theorem ACe {n o k m c:Nat}:Low n (.sl o k m c)↔o<n:=⟨fun h=>by cases h;assumption,fun h=>.sl o k m c h⟩
/-- The cells of elements, one behind the other. -/
abbrev Jk (xs:List AV):List AV:=xs.flatMap AV.cells
theorem Ls (x:AV) (r:List AV):Jk (x::r)=x.cells++Jk r:=by simp [Jk]
theorem Nh {k:Nat}:∀{xs:List AV},(∀x∈xs,x.cells.length=k)→(Jk xs).length=xs.length*k
 | [],_=>by simp
 | x::r,h=>by
  rw [Ls,List.length_append,h x List.mem_cons_self,Nh (fun y hy=>h y (List.mem_cons_of_mem _ hy)),List.length_cons,Nat.add_mul]
  omega
theorem Ni {k:Nat}:∀{xs:List AV},(∀x∈xs,x.cells.length=k)→∀{i j:Nat} {x y:AV},xs[i]? = some x→x.cells[j]? = some y→(Jk xs)[i*k+j]? = some y
 | [],_,i,j,x,y,h,_=>by simp at h
 | a::r,hk,0,j,x,y,h,h2=>by
  simp at h
  subst h
  rw [Ls,Nat.zero_mul,Nat.zero_add,List.getElem?_append_left (List.getElem?_eq_some_iff.1 h2).1]
  exact h2
 | a::r,hk,i+1,j,x,y,h,h2=>by
  rw [List.getElem?_cons_succ] at h
  have ha:=hk a List.mem_cons_self
  have hh:=Ni (fun y hy=>hk y (List.mem_cons_of_mem _ hy)) h h2
  rw [Ls,List.getElem?_append_right (by rw [ha,Nat.add_mul];omega),ha]
  rw [show (i+1)*k+j-k=i*k+j by rw [Nat.add_mul];omega]
  exact hh
section
variable {P:Program} {d:Nat} {st:St} {dst:Option Tmp} {ty:TypeId} {pos:String} {aft:Array Edge} {gd:Option (Nat×Bool)}
/-- The address of an element. -/
theorem OpV.indexAddrSl {t e:TypeId} {x i:Operand} {o k n c m:Nat} {q:IntKind} (hu:P.underlying t=some (.slice e)) (hsz:∀w,(sizeOf e).run P w=.ok k w) (hm:m<n)
  (hx:st.ev x=.sl o k n c) (hi:st.ev i=.v (.int q (m:Int))):OpV P d ⟨dst,.indexAddr t x i,ty,pos,aft,gd⟩ st (.ptr o (m*k)):=
 OpV.pure (by intro c h;cases h) fun G a w h=>by
  have hr:=hx ▸ h.eval x
  have hi':=Bk h hi
  generalize hv:a.eval x=u at hr
  cases hr with
  | sl l o k n c ho =>
   have hlt':(m:Int)<n:=by omega
   refine ⟨.pointer (some ((⟨G.blk o,0,none⟩:Addr).add (m*k))),by simp [execOp,Instr.indexAt,asIntOf,hi',hv,run_underlying hu,hm,hlt',hsz],?_⟩
   rw [Bg rfl,Nat.zero_add]
   exact .ptr _ o _ ho
/-- An empty slice, over an object of its own. -/
theorem AOp.buildObj0 {t e:TypeId} {k s n:Nat} (hu:P.underlying t=some (.slice e)) (hsz:∀w,(sizeOf e).run P w=.ok k w) (hn:st.own.length=n) (hs:s<st.sz):
  AOp P d ⟨some s,.buildSlice t 0 #[],ty,pos,aft,gd⟩ st (·=({ st with own:=st.own++[.cells e []] }:St).set s (.sl (st.up.length+n) k 0 0)):=by
 intro G a w h Q'
 obtain ⟨G',h1,T,hb,hlt⟩:=Kn h e [] #[] rfl (fun j y u h1 _=>by simp at h1)
 have hlen:(st.up++st.own).length=st.up.length+n:=by rw [List.length_append,hn]
 rw [hlen] at hb hlt
 have hrun:(execOp a.eval (⟨some s,.buildSlice t 0 #[],ty,pos,aft,gd⟩:Oper)).run P w=.ok (.value (.slice (some ⟨w.heap.size,0,none⟩) 0 0)) (w.alloc (.cells #[] e)):=by
  have hfl:∀f:Nat→Option (Nat×Nat),Instr.fill f ((Array.range 0).map fun _=>(default:Value)) []=some #[]:=fun f=>by simp [Instr.fill]
  simp [execOp,Instr.buildSlice,run_underlying hu,hsz,newRow,hfl]
 refine Bx (by intro c h;cases h) hrun ⟨G',_,h1.put (s:=s) (y:=.sl (st.up.length+n) k 0 0) hs ?_,T.keep d,rfl,rfl,rfl,rfl⟩
 rw [←hb]
 exact .sl _ _ _ _ _ hlt
/-- What is appended to an empty slice lies in a new object of ours; of its spare cells nothing is known. -/
theorem AOp.appendObj {t e:TypeId} {i:TypeInfo} {z:Value} {k by' s o n:Nat} {xr x:Operand} {o2:Bool} {ys:List AV}
  (hu:P.underlying t=some (.slice e)) (hi:P.info? e=some i) (hz:i.zero=some z) (hsz:i.size=k) (hby:i.bytes=by') (hzk:z.cells.size=k) (hk:0<k)
  (hb:st.ev xr=.sl o k 0 0) (hx:Fs (st.ev x) o2 k ys) (hne:ys≠[]) (hn:st.own.length=n) (hs:s<st.sz) (hl:ys.length*by'≤140737488355328) (hl2:ys.length≤4611686018427387904):
  AOp P d ⟨some s,.call ⟨.builtin .append,#[xr,x],#[t,t]⟩,ty,pos,aft,gd⟩ st (fun st'=>∃c,ys.length≤c∧st'=({ st with own:=st.own++[.cells e (Jk ys++List.replicate ((c-ys.length)*k) .any)] }:St).set s (.sl (st.up.length+n) k ys.length c)):=by
 subst hsz
 subst hby
 intro G a w h Q'
 have hrb:=hb ▸ h.eval xr
 have hrx:=h.eval x
 have hm:ys.length≠0:=fun e=>hne (List.eq_nil_of_length_eq_zero e)
 generalize hvb:a.eval xr=vb at hrb
 cases hrb with
 | sl l o k n' c ho =>
  rcases Ft hx hrx with ⟨_,e0⟩|⟨ad2,c2,f2,hvx,hc2,F2,_⟩
  ·exact absurd e0 hne
  have hge:=Fd w (0+ys.length) 0 e
  have hv:=run_append_grow (P:=P) w t ty e i z hu hi hz ⟨G.blk o,0,none⟩ 0 0 [] (by simp) (by simp) ad2 ys.length c2 (Bh i.size ys.length f2) (Aj _ _ _) (F2.vals hk) (by omega) (by omega) (growslice_fits (by omega) (by rw [Nat.zero_add];exact hl))
  rw [Nat.zero_add] at hv hge
  let c':=grownCap w ys.length 0 e
  have hfl:(Jk ys).length=ys.length*i.size:=Nh F2.k
  have hd':StRel d G st a w.drew:=h.drew (w.drawn+1)
  obtain ⟨G',h1,T,hbk,hlt⟩:=Kn hd' e (Jk ys++List.replicate ((c'-ys.length)*i.size) .any) (([]:List Value).toArray++(Bh i.size ys.length f2).toArray++Builtin.zeroCells z.cells (c'-ys.length)) (by
    simp only [Array.size_append,List.size_toArray,Aj,Value.oneSize _ hzk,List.length_append,List.length_replicate,hfl,List.length_nil]
    omega) (fun j y u hy hu'=>by
    by_cases hj:j<ys.length*i.size
    ·rw [List.getElem?_append_left (by rw [hfl];exact hj)] at hy
     have hq:j / i.size<ys.length:=by rw [Nat.div_lt_iff_lt_mul hk];exact hj
     have hjm:j % i.size<i.size:=Nat.mod_lt _ hk
     have hx0:ys[j / i.size]? = some (ys[j / i.size]):=List.getElem?_eq_getElem hq
     have hcl:=F2.k _ (List.getElem_mem hq)
     have hy0:(ys[j / i.size]).cells[j % i.size]? = some ((ys[j / i.size]).cells[j % i.size]'(by omega)):=List.getElem?_eq_getElem _
     have e1:j / i.size*i.size+j % i.size=j:=by have:=Nat.div_add_mod j i.size;rw [Nat.mul_comm] at this;exact this
     have hfg:=Ni F2.k hx0 hy0
     rw [e1,hy] at hfg
     injection hfg with hfg
     have hval:(Bh i.size ys.length f2)[j]? = some (f2 (j / i.size) (j % i.size)):=Gw hj
     rw [Array.getElem?_append_left (by simp only [Array.size_append,List.size_toArray,Aj,List.length_nil];omega)] at hu'
     have e2:u=f2 (j / i.size) (j % i.size):=by
      have:(([]:List Value).toArray++(Bh i.size ys.length f2).toArray)[j]? = (Bh i.size ys.length f2)[j]? := by simp
      rw [this,hval] at hu'
      injection hu' with hu'
      exact hu'.symm
     rw [e2,hfg]
     exact (H9 G w (w.drawn+1)).rep (F2.rep _ _ _ _ hx0 hy0)
    rw [List.getElem?_append_right (by rw [hfl];omega)] at hy
    rw [List.getElem?_replicate] at hy
    split at hy
    ·injection hy with hy;subst hy;exact .any _ _
    cases hy)
  have hlen:(st.up++st.own).length=st.up.length+n:=by rw [List.length_append,hn]
  rw [hlen] at hbk hlt
  have hrun:(execOp a.eval (⟨some s,.call ⟨.builtin .append,#[xr,x],#[t,t]⟩,ty,pos,aft,gd⟩:Oper)).run P w=.ok (.value (.slice (some ⟨w.heap.size,0,none⟩) ys.length c')) (w.drew.alloc (.cells (([]:List Value).toArray++(Bh i.size ys.length f2).toArray++Builtin.zeroCells z.cells (c'-ys.length)) e)):=by
   simp only [execOp,resolve,invoke,builtin,Sem.run_bind,Sem.run_pure,Result.andThen_ok,List.map_toArray,List.map_cons,List.map_nil,hvb,hvx,hv]
   rfl
  have K0:=(H9 G w (w.drawn+1)).keep d
  refine Bx (by intro c h;cases h) hrun ⟨G',_,h1.put (s:=s) (y:=.sl (st.up.length+n) i.size ys.length c') hs ?_,K0.trans (T.keep d),rfl,rfl,rfl,c',hge,rfl⟩
  have hsz':w.drew.heap.size=w.heap.size:=rfl
  rw [←hsz',←hbk]
  exact .sl _ _ _ _ _ hlt

/-- The elements are written no more: the object goes, and the slice is one of known elements. -/
theorem StRel.freeze {G:Gh} {a:Act} {w:World} (h:StRel d G st a w) {r i k c:Nat} {t:TypeId} {cs xs:List AV} (hr:st.fr r=.sl (st.up.length+i) k xs.length c) (ho:st.own[i]? = some (.cells t cs)) (hnc:xs.length≤c)
  (hcs:cs.take (xs.length*k)=Jk xs) (hk:∀x∈xs,x.cells.length=k) (h1:∀x∈xs,∀y∈x.cells,y.one=true) (hst:∀x∈xs,∀y∈x.cells,y.strip=y):
  ∃G',StRel d G' { st with fr:=A3 r (.slice false k xs) st.fr,own:=st.own.set i .gone } a w∧Keep d G w G' w:=by
 let G':Gh:={ G with tag:=fun b q=>if G.tag b q=.obj (st.up.length+i) then .fix else G.tag b q }
 have hto:(st.up++st.own)[st.up.length+i]? = some (.cells t cs):=by rw [Cr];exact ho
 have hol:st.up.length+i<(st.up++st.own).length:=(List.getElem?_eq_some_iff.1 hto).1
 have htag:∀b q,G.tag b q≠.obj (st.up.length+i)→G'.tag b q=G.tag b q:=fun b q hb=>by simp only [G'];rw [if_neg hb]
 have htagO:∀b q,G.tag b q=.obj (st.up.length+i)→G'.tag b q=.fix:=fun b q hb=>by simp only [G'];rw [if_pos hb]
 have hfix:∀b q,G.tag b q=.fix→G'.tag b q=.fix:=fun b q hb=>by rw [htag b q (by rw [hb];simp)];exact hb
 have htail:∀b q L,G.tag b q=.tail L→G'.tag b q=.tail L:=fun b q L hb=>by rw [htag b q (by rw [hb];simp)];exact hb
 have hrep:∀{l:Option Loc} {y:AV} {u:Value},Rep G w l y u→Rep G' w l y u:=fun hy =>
  hy.mono (G':=G') (fun b q e=>⟨hfix b q e,rfl⟩) (Nat.le_refl _) (fun _ _=>rfl) (fun L _ b q e=>htail b q L e)
 have hst':Still G w G' w:=fun b hb=>⟨rfl,hb.1,fun q=>by
  rcases hb.2.1 q with e|e
  ·exact .inl (hfix b q e)
  exact .inr (by rw [htag b q (by rw [e];simp)];exact e),hb.2.2⟩
 obtain ⟨vs,q1,q2,q3,q4⟩:=h.heap.obj _ _ hto
 refine ⟨G',⟨h.size,fun s=>?_,⟨fun j x hx=>?_,?_,h.heap.inj⟩,h.defs,fun q hq=>?_,h.defsNodup,h.defsGe,⟨fun b q hb=>h.tags.ex b q (fun e=>?_),fun b q j hb=>?_,fun b q L hb=>?_,h.tags.globKeep hst'⟩,h.rnd,h.low,h.top⟩,
  ⟨fun b q e=>⟨hfix b q e,rfl⟩,fun b q e s _ ht=>htail b q _ ht,Nat.le_refl _,fun _ _=>rfl,rfl,rfl,rfl,Nat.le_refl _,hst'⟩⟩
 ·show Rep G' w _ (A3 r (.slice false k xs) st.fr s) _
  unfold A3
  by_cases hs:s=r
  ·subst hs
   rw [if_pos rfl]
   have hsl:=h.slots s
   rw [hr] at hsl
   generalize a.tmps.getD s undef=v at hsl
   cases hsl with
   | sl l o k n c ho' =>
    refine .slice _ false k xs ⟨G.blk (st.up.length+i),0,none⟩ _ c (fun q j=>vs.getD (q*k+j) undef) rfl rfl hnc hk h1 (fun q x j y hx hy=>?_) (fun q x j y hx hy=>?_) (fun e=>by cases e)
    all_goals
     have hfg:=Ni hk hx hy
     have hlt:q*k+j<xs.length*k:=by
      have:=(List.getElem?_eq_some_iff.1 hfg).1
      rw [Nh hk] at this;exact this
     rw [←hcs,List.getElem?_take_of_lt hlt] at hfg
     have hcl:=(List.getElem?_eq_some_iff.1 hfg).1
    ·refine ⟨htagO _ _ (by simpa using q4 _ hcl),?_⟩
     simp only [Nat.zero_add]
     simp [World.cell?,q1,show q*k+j<vs.size by omega]
    have hu:=q3 _ y (vs[q*k+j]'(by omega)) hfg (Array.getElem?_eq_getElem (by omega))
    have e1:vs.getD (q*k+j) undef=vs[q*k+j]'(by omega):=by simp [show q*k+j<vs.size by omega]
    rw [e1]
    have:=hrep (hu.strip (l':=none))
    rw [hst x (List.mem_of_getElem? hx) y (List.mem_of_getElem? hy)] at this
    exact this
  rw [if_neg hs]
  exact hrep (h.slots s)
 ·have hx':(st.up++st.own.set i .gone)[j]? = some x:=hx
  rw [←Au,List.getElem?_set] at hx'
  by_cases hj:st.up.length+i=j
  ·rw [if_pos hj,if_pos hol] at hx'
   injection hx' with hx'
   subst hx'
   subst hj
   exact ⟨vs,t,(0,0),q1,fun q hq=>htagO _ _ (q4 q (by omega))⟩
  rw [if_neg hj] at hx'
  exact (h.heap.obj j x hx').free (fun e=>hj e.symm) htag rfl rfl
 ·show G.n=(st.up++st.own.set i .gone).length
  have:=h.heap.n
  simpa using this
 ·show (st.up++st.own.set i .gone)[q]? = _
  have h2:=h.defsAt q hq
  rw [←Au,List.getElem?_set]
  by_cases hj:st.up.length+i=q
  ·subst hj;rw [hto] at h2;cases h2
  rw [if_neg hj];exact h2
 ·simp only [G'] at hb
  split at hb
  ·rename_i e';rw [e] at e';cases e'
  exact hb e
 ·simp only [G'] at hb
  split at hb
  ·cases hb
  exact h.tags.obj b q j hb
 simp only [G'] at hb
 split at hb
 ·cases hb
 exact h.tags.tail b q L hb
end
section
variable {P:Program} {d:Nat} {ops:Array Oper}
theorem ARun.turnSt {l:List Oper} {st st':St} {Q:St→Prop} (h:∀(G:Gh) (a:Act) (w:World),StRel d G st a w→∃G',StRel d G' st' a w∧Keep d G w G' w) (e1:st'.up.length=st.up.length) (e2:st'.rnd=st.rnd) (e3:st'.sz=st.sz) (hr:ARun P d ops l st' Q):ARun P d ops l st Q:=by
 intro G a w hrel idx hidx
 obtain ⟨G',h1,k⟩:=h G a w hrel
 have:=hr G' a w h1 idx hidx
 rw [D3 hrel k e2] at this
 exact Bl (fun e a' w' hp=>⟨hp.1,hp.2.next k e1 e2 e3⟩) _ _ _ this
variable {sz:Nat} {fr:Nat→AV} {up own own':List AObj} {dfs:List Nat} {rnd:Option Nat} {Q:St→Prop} {rest:List Oper} {s:Nat} {ty:TypeId} {pos:String} {aft:Array Edge}
theorem R.indexAddrSl {t e:TypeId} {x i:Operand} {o k n c:Nat} {q:IntKind} {z:Int} (m:Nat) (ht:P.underlying t=some (.slice e)) (hsz:∀w,(Go.sizeOf e).run P w=.ok k w) (hm:m<n) (hr:ARun P d ops rest ⟨sz,A3 s (.ptr o (m*k)) fr,up,own,dfs,rnd⟩ Q)
  (hx:Ae fr x=.sl o k n c:=by exact sL0) (hi:Ae fr i=.v (.int q z):=by exact sL0) (hz:z=(m:Int):=by first|rfl|omega) (hs:Nat.blt s sz=true:=by rfl):
  ARun P d ops (⟨some s,.indexAddr t x i,ty,pos,aft,none⟩::rest) ⟨sz,fr,up,own,dfs,rnd⟩ Q:=
 ARun.vv rfl rfl hs (OpV.indexAddrSl ht hsz hm hx (by subst hz;exact hi)) hr
theorem R.buildObj0 {t e:TypeId} {k n:Nat} (ht:P.underlying t=some (.slice e)) (hsz:∀w,(Go.sizeOf e).run P w=.ok k w) (hr:ARun P d ops rest ⟨sz,A3 s (.sl (oid up.length n) k 0 0) fr,up,own',dfs,rnd⟩ Q)
  (hn:own.length=n:=by rfl) (ho:own++[.cells e []]=own':=by rfl) (hs:Nat.blt s sz=true:=by rfl):
  ARun P d ops (⟨some s,.buildSlice t 0 #[],ty,pos,aft,none⟩::rest) ⟨sz,fr,up,own,dfs,rnd⟩ Q:=by
 subst ho
 exact ARun.aop rfl (AOp.buildObj0 (st:=⟨sz,fr,up,own,dfs,rnd⟩) ht hsz hn (by simpa using hs)) hr
theorem R.appendObj {t e:TypeId} {i:TypeInfo} {z:Value} {k o n:Nat} {xr x:Operand} {o2:Bool} {y:AV} {ys:List AV} (hu:P.underlying t=some (.slice e)) (hi:P.info? e=some i) (hne:ys≠[]) (hl:ys.length*i.bytes≤140737488355328) (hl2:ys.length≤4611686018427387904)
  (hr:∀c,ys.length≤c→ARun P d ops rest ⟨sz,A3 s (.sl (oid up.length n) k ys.length c) fr,up,own++[.cells e (Jk ys++List.replicate ((c-ys.length)*k) .any)],dfs,rnd⟩ Q)
  (hz:i.zero=some z:=by rfl) (hsz:i.size=k:=by rfl) (hzk:z.cells.size=k:=by rfl) (hk:0<k:=by decide) (hb:Ae fr xr=.sl o k 0 0:=by exact sL0)
  (hx:Ae fr x=y:=by exact sL0) (hx':Fs y o2 k ys:=by first|exact .inl rfl|exact .inr ⟨rfl,rfl⟩) (hn:own.length=n:=by rfl) (hs:Nat.blt s sz=true:=by rfl):
  ARun P d ops (⟨some s,.call ⟨.builtin .append,#[xr,x],#[t,t]⟩,ty,pos,aft,none⟩::rest) ⟨sz,fr,up,own,dfs,rnd⟩ Q:=by
 subst hx
 refine ARun.op rfl (AOp.appendObj (st:=⟨sz,fr,up,own,dfs,rnd⟩) hu hi hz hsz rfl hzk hk hb hx' hne hn (by simpa using hs) hl hl2) (fun s' hs'=>?_)
 obtain ⟨c,hc,rfl⟩:=hs'
 exact hr c hc
/-- The elements of the slice in slot r, over object i of ours, are written no more. -/
theorem R.freeze {l:List Oper} (r i:Nat) {k n c:Nat} {t:TypeId} {cs:List AV} (xs:List AV) (hnc:n≤c) (hn:n=xs.length) (hcs:cs.take (n*k)=Jk xs) (hk:∀x∈xs,x.cells.length=k) (h1:∀x∈xs,∀y∈x.cells,y.one=true) (hst:∀x∈xs,∀y∈x.cells,y.strip=y)
  (hr:ARun P d ops l ⟨sz,A3 r (.slice false k xs) fr,up,own',dfs,rnd⟩ Q) (hf:fr r=.sl (oid up.length i) k n c:=by exact sL0) (ho:own[i]? = some (.cells t cs):=by rfl) (hset:own.set i .gone=own':=by rfl):
  ARun P d ops l ⟨sz,fr,up,own,dfs,rnd⟩ Q:=by
 subst hset
 subst hn
 exact ARun.turnSt (fun G a w h=>h.freeze (st:=⟨sz,fr,up,own,dfs,rnd⟩) hf ho hnc hcs hk h1 hst) rfl rfl rfl hr
end
end Go.SX
namespace Go.SX
variable [GI:GlobInv]
open Classical
variable {P:Program} {d:Nat} {l0:List Oper} {kd:Nat} {ops:Array Oper} {rest:List Oper} {sz:Nat} {fr:Nat→AV} {up own:List AObj} {dfs:List Nat} {rnd:Option Nat} {Q:St→Prop} {s:Nat} {ty:TypeId} {pos:String} {aft:Array Edge} {E:List Oper→(Nat→AV)→Prop}
theorem R.nilTmp {l:List Oper} (s k:Nat) (o:Bool) (hr:ARun P d ops l ⟨sz,A3 s (.slice o k []) fr,up,own,dfs,rnd⟩ Q) (h:fr s=.nil:=by exact sL0):
  ARun P d ops l ⟨sz,fr,up,own,dfs,rnd⟩ Q:=
 ARun.le (st':=⟨sz,A3 s (.slice o k []) fr,up,own,dfs,rnd⟩) (StLe.frame (s:=⟨sz,fr,up,own,dfs,rnd⟩) fun i=>by
  show Le (fr i) (A3 s (.slice o k []) fr i)
  unfold A3
  by_cases hi:i=s
  ·subst hi;rw [if_pos rfl,h];exact .nil _ _
  rw [if_neg hi];exact .refl _) hr
/-! A slice without room behind its end: whoever appends to it gets a new one. -/
theorem ac (k:Nat) (xs:List AV):(AV.full k xs).strip=.full k xs:=rfl
theorem ae (k:Nat) (xs:List AV):(AV.full k xs).cells=[.full k xs]:=rfl
theorem nd (k:Nat) (xs:List AV):(AV.full k xs).one=true:=rfl
attribute [go_sem] ac ae nd
section
variable {KP:List PanicEntry→St→Prop} {up own:(Nat→Bool)→List AObj} {S:List SegY} {l:List Oper} {T F:List Nat}
/-- The p-th of those that turn the heap: a store into an object of whoever waits. -/
theorem Y.storeUp {t t':TypeId} {p x:Operand} {o off k pn:Nat} {y:AV} {ys cs cs':List AV} (hsz:∀w,(Go.sizeOf t).run P w=.ok k w)
  (hU:∀B:Nat→Bool,B pn=false→(up B)[o]? = some (.cells t' cs)∧up (upd B pn)=(up B).set o (.cells t' cs')∧own (upd B pn)=own B∧∀y∈ys,Low (up B).length y)
  (h:ChainY P d l0 sz up own dfs rnd KP E S l fr)
  (hp:Ae fr p=.ptr o off:=by exact sL0) (hx:Ae fr x=y:=by exact sL0) (hc:y.cells=ys:=by exact sL0) (hk:ys.length=k:=by rfl)
  (h1:ys.all AV.one=true:=by exact sL2) (hfit:off+k≤cs.length:=by exact sL1) (hput:Bb cs off ys=cs':=by exact sL0):
  ChainY P d l0 sz up own dfs rnd KP E (.s [] (some pn) T F::S) (⟨none,.store t p x,ty,pos,aft,none⟩::l) fr:=by
 subst hput
 subst hc
 refine ⟨_,l,[],rfl,⟨rfl,rfl,fun B f _ _ hB hf=>.of ?_⟩,h⟩
 obtain ⟨a1,a2,a3,a4⟩:=hU B (hB pn rfl)
 have e:Ae f p=.ptr o off:=by rw [agr hf (by simp [Op.operands])];exact hp
 have ex:Ae f x=y:=by rw [agr hf (by simp [Op.operands])];exact hx
 refine AOp.eqTo (AOp.storeUp (st:=⟨sz,f,up B,own B,dfs,rnd⟩) hsz e a1 ex hk h1 hfit a4) ?_
 show _=St.mk sz f (up (upd B pn)) (own (upd B pn)) dfs rnd
 rw [a2,a3]
end
end Go.SX
