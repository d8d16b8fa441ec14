/- On the way (part 7). -/
import Derived.ReadAgain
import Derived.ChangeSame
import Derived.ChangeArms
import Derived.ChangeOld
import Derived.ChangeFn
import Derived.MapPlaces
import Derived.DataReads
import Derived.OpenShut
import Derived.RowKit
import Derived.Deep.DeepHandedRow
import Derived.Test.YtofbdcbjpdpllaaGreatDoorCards
import Derived.Test.YtofbdcbjpdpllaaGreatDoorTie
import Derived.Lay
import Derived.Lib.LaidTab
import Derived.Stop.LaidErr
import Derived.Shelf.Vars
import Derived.ChangeBears
import Derived.Lib.SliceRun
import Derived.Test.YtofbdcbjpdpllaaGreatDoorFuseForthCardSaidPart6
set_option linter.all false
namespace Go.SX
variable [GI:GlobInv]
open Classical Go.RowKit Go.ChangeShapes
section
variable {P:Program} {H:Type} {enc:TypeId×Value→H}

/-- The first ghost: whatever lies there is read for good. -/
noncomputable def G0 (W:World):Gh:=⟨fun b o=>if (W.cell? ⟨b,o,none⟩).isSome then .fix else .free,fun _=>0,0⟩
theorem AJo {W:World} {b o:Nat} {u:Value} (h:W.cell? ⟨b,o,none⟩=some u):(G0 W).tag b o=.fix:=by simp [G0,h]
theorem Ui {W:World} {b:Nat} (h:b<W.heap.size):L8 (G0 W) W b:=⟨h,fun o=>by simp only [G0];split<;>simp,fun i hi=>absurd hi (Nat.not_lt_zero _)⟩
theorem AG3 (W:World):HeapRel (G0 W) [] W:=⟨fun i x h=>by simp at h,rfl,fun i j hi=>absurd hi (Nat.not_lt_zero _)⟩
theorem AG4 {W:World} (h:Mb W):TagOK (G0 W) W:=by
 refine ⟨fun b o hb=>?_,fun b o i hb=>?_,fun b o L hb=>?_,fun x hx=>?_⟩
 ·simp only [G0] at hb
  split at hb
  ·rename_i hs;exact Option.isSome_iff_exists.1 hs
  exact absurd rfl hb
 ·simp only [G0] at hb;split at hb<;>cases hb
 ·simp only [G0] at hb;split at hb<;>cases hb
 obtain ⟨v,h1,h2⟩:=h x hx
 exact ⟨Ui (On.1 h1).1,v,h1,h2⟩

/-- What a datum of a plain type AOx as. -/
inductive DRep (P:Program):TypeId→DataW H→AV→Prop
 | int {t:TypeId} {k:IntKind} {n:Int} (hu:P.underlying t=some (.int k)) (wf:(Lit.int k n).wf=true):DRep P t (.lit (.int k n)) (.v (.int k n))
 | bool {t:TypeId} {b:Bool} (hu:P.underlying t=some .bool):DRep P t (.lit (.bool b)) (.v (.bool b))
 | str {t:TypeId} {bs:List UInt8} (hu:P.underlying t=some .string):DRep P t (.lit (.string bs)) (.v (sv bs))
 | nil {t e:TypeId} (hu:P.underlying t=some (.slice e)):DRep P t .nil (.slice false (P.cellsOf e) [])
 | slice {t e:TypeId} {elems spare:List (DataW H)} {ys:List AV} (hu:P.underlying t=some (.slice e)) (hn:ys.length=elems.length)
   (h:∀(i:Nat) (d:DataW H) (y:AV),elems[i]? = some d→ys[i]? = some y→DRep P e d y):DRep P t (.slice elems spare) (.slice false (P.cellsOf e) ys)
 | struct {t:TypeId} {fs:Array Field} {parts:List (DataW H)} {ys:List AV} (hu:P.underlying t=some (.struct fs)) (hn:parts.length=fs.size) (hn':ys.length=fs.size)
   (h:∀(i:Nat) (f:Field) (d:DataW H) (y:AV),fs[i]? = some f→parts[i]? = some d→ys[i]? = some y→DRep P f.type d y):DRep P t (.agg parts) (.agg (ys.flatMap AV.cells))

/-- Types that are made of numbers, texts, bools, slices and structs alone. -/
structure PlainT (P:Program) (T:TypeId→Prop):Prop where
 look:∀t,T t→(P.cellsOf t=1∧((∃k,P.underlying t=some (.int k))∨P.underlying t=some .bool∨P.underlying t=some .string∨(∃e,P.underlying t=some (.slice e)∧T e∧0<P.cellsOf e))) ∨
  (∃fs,P.underlying t=some (.struct fs)∧(∀f∈fs.toList,T f.type)∧P.cellsOf t=(fs.toList.map fun f=>P.cellsOf f.type).sum ∧
   ∀(j:Nat) (f:Field),fs.toList[j]? = some f→f.offset=((fs.toList.take j).map fun f=>P.cellsOf f.type).sum)

/-- The reading of a row of cells. -/
def CRep (W:World) (y:AV) (cs:List Value):Prop:=
 y.cells.length=cs.length∧(∀c∈y.cells,c.one=true)∧∀(j:Nat) (c:AV) (v:Value),y.cells[j]? = some c→cs[j]? = some v→Rep (G0 W) W none c v

theorem CRep.v1 {W:World} {x:Value} (h:x.oneCell'=true):CRep W (.v x) [x]:=
 ⟨rfl,by simp [AV.cells,AV.one,h],fun j c v h1 h2=>by
  match j with
  | 0=>simp [AV.cells] at h1 h2;subst h1;subst h2;exact .v _ _
  | j+1=>simp [AV.cells] at h1⟩

theorem kw {f:AV→List AV}:∀(ys:List AV) (j:Nat) (c:AV),(ys.flatMap f)[j]? = some c→∃(i:Nat) (y:AV) (q:Nat),ys[i]? = some y∧(f y)[q]? = some c∧j=((ys.take i).map fun y=>(f y).length).sum+q
 | [],j,c,h=>by simp at h
 | y::r,j,c,h=>by
  rw [Ww] at h
  rcases Bv j (f y).length with h'|h'
  ·rw [Di h'] at h
   exact ⟨0,y,j,rfl,h,by simp⟩
  rw [Dd h'] at h
  obtain ⟨i,z,q,h1,h2,h3⟩:=kw r _ c h
  exact ⟨i+1,z,q,h1,h2,by simp only [List.take_succ_cons,Bz,List.sum_cons];omega⟩
theorem Ps {α:Type} {R:Nat→α→Prop}:∀(n:Nat),(∀i,i<n→∃y,R i y)→∃ys:List α,ys.length=n∧∀(i:Nat) (y:α),ys[i]? = some y→R i y
 | 0,_=>⟨[],rfl,fun i y h=>by simp at h⟩
 | n+1,h=>by
  obtain ⟨ys,h1,h2⟩:=Ps n (fun i hi=>h i (by omega))
  obtain ⟨y,hy⟩:=h n (by omega)
  refine ⟨ys++[y],by simp [h1],fun i z hz=>?_⟩
  rcases Bv i n with h'|h'
  ·rw [Di (by omega)] at hz;exact h2 i z hz
  rw [Dd (by omega)] at hz
  have:i=n:=by
   have:=(Ad.1 hz).1
   simp at this;omega
  subst this
  rw [h1] at hz
  simp at hz
  exact hz ▸ hy
theorem Rx {α β:Type} {f:α→Nat} {g:β→Nat}:∀(l:List α) (m:List β),l.length=m.length→(∀(i:Nat) (a:α) (b:β),l[i]? = some a→m[i]? = some b→f a=g b)→(l.map f).sum=(m.map g).sum
 | [],[],_,_=>rfl
 | [],b::m,h,_=>by simp at h
 | a::l,[],h,_=>by simp at h
 | a::l,b::m,h,hh=>by
  simp only [Bz,List.sum_cons]
  rw [hh 0 a b rfl rfl,Rx l m (by simpa using h) (fun i a b h1 h2=>hh (i+1) a b h1 h2)]

theorem ACe {T:TypeId→Prop} (PT:PlainT P T) {W:World}:∀(n:Nat) (t:TypeId) (cs:List Value) (x:DataW H×List MemPlace),T t→DataW.trod enc P W 0 (fun _=>true) true n t cs=some x →
  ∃y,DRep P t x.1 y∧CRep W y cs∧cs.length=P.cellsOf t:=by
 intro n
 induction n with
 | zero=>intro t cs x _ h;simp [DataW.trod] at h
 | succ n ih =>
  intro t cs x hT h
  rcases PT.look t hT with ⟨hc1,⟨k,hu⟩|hu|hu|⟨e,hu,he,hz⟩⟩|⟨fs,hu,hf,hsum,hoff⟩
  ·obtain ⟨m,rfl,rfl,hw⟩:=DataW.trod_int hu h
   exact ⟨_,.int hu hw,.v1 rfl,hc1.symm⟩
  ·obtain ⟨b,rfl,rfl⟩:=DataW.trod_bool hu h
   exact ⟨_,.bool hu,.v1 rfl,hc1.symm⟩
  ·obtain ⟨s,rfl,rfl,_⟩:=DataW.trod_string hu h
   exact ⟨_,.str hu,.v1 rfl,hc1.symm⟩
  ·rcases DataW.trod_slice hu h with ⟨rfl,rfl⟩|⟨a,len,cap,elems,rest,m,hm,rfl,rfl,hb,hlc,hcm,hel,hE,_,_⟩
   ·refine ⟨_,.nil hu,⟨rfl,by simp [AV.cells,AV.one],fun j c v h1 h2=>?_⟩,hc1.symm⟩
    match j with
    | 0=>simp [AV.cells] at h1 h2;subst h1;subst h2;exact .slice0 _ _ _
    | j+1=>simp [AV.cells] at h1
   injection hm with hm
   subst hm
   subst hel
   have hEi:∀i,i<elems.length→∃y,(∀d,elems[i]? = some d→DRep P e d.1 y)∧∃ci,W.cells? 0 (a.add (i*P.cellsOf e)) (P.cellsOf e)=some ci∧CRep W y ci:=fun i hi=>by
    have h1:=hE i hi
    rw [Ab hi,Option.bind_eq_some_iff] at h1
    obtain ⟨ci,h2,h3⟩:=h1
    obtain ⟨y,h4,h5,_⟩:=ih e ci _ he h3
    exact ⟨y,fun d hd=>by rw [Ab hi] at hd;injection hd with hd;subst hd;exact h4,ci,h2,h5⟩
   obtain ⟨ys,hyl,hys⟩:=Ps elems.length hEi
   refine ⟨.slice false (P.cellsOf e) ys,.slice hu (by simp [hyl]) (fun i d y hd hy=>?_),⟨rfl,by simp [AV.cells,AV.one],fun j c v h1 h2=>?_⟩,hc1.symm⟩
   ·rw [Cf,F6] at hd
    obtain ⟨d',hd',rfl⟩:=hd
    exact (hys i y hy).1 d' hd'
   match j with
   | j+1=>simp [AV.cells] at h1
   | 0 =>
    simp [AV.cells] at h1 h2
    subst h1;subst h2
    by_cases h0:elems.length=0
    ·have:ys=[]:=Tu (by omega)
     subst this
     rw [h0]
     exact .sliceE _ _ _ _
    have hspot:a.spot=none:=by
     obtain ⟨ci,hci,_⟩:=(hys 0 ys[0] (Ab (by omega))).2
     obtain ⟨_,g1,g2⟩:=World.cells?_some hci
     have g3:=g2 0 hz
     rw [Ab (by omega)] at g3
     simp only [Nat.zero_mul,Addr.add,if_true] at g3
     unfold World.cell? at g3
     split at g3
     ·split at g3
      ·cases g3
      rename_i hs;simpa using hs
     cases g3
    refine .slice _ false _ ys a _ cap (fun i j=>(W.cell? ⟨a.block,a.off+i*P.cellsOf e+j,none⟩).getD undef) hspot hyl.symm hlc (fun x hx=>?_) (fun x hx=>?_) (fun i x j y hx hy=>?_) (fun i x j y hx hy=>?_) (fun h=>by cases h)
    ·obtain ⟨i,hi⟩:=Cm hx
     obtain ⟨ci,hci,hcr⟩:=(hys i x hi).2
     rw [hcr.1]
     exact (World.cells?_some hci).2.1
    ·obtain ⟨i,hi⟩:=Cm hx
     obtain ⟨ci,hci,hcr⟩:=(hys i x hi).2
     exact hcr.2.1
    ·obtain ⟨ci,hci,hcr⟩:=(hys i x hx).2
     obtain ⟨_,g1,g2⟩:=World.cells?_some hci
     have hj:j<P.cellsOf e:=by
      have:=(Ad.1 hy).1
      rw [hcr.1] at this;omega
     have g3:=g2 j hj
     rw [Ab (by omega),D9 hspot,D9 rfl] at g3
     exact ⟨AJo g3,by rw [g3];rfl⟩
    obtain ⟨ci,hci,hcr⟩:=(hys i x hx).2
    obtain ⟨_,g1,g2⟩:=World.cells?_some hci
    have hj:j<P.cellsOf e:=by
     have:=(Ad.1 hy).1
     rw [hcr.1] at this;omega
    have g3:=g2 j hj
    rw [Ab (by omega),D9 hspot,D9 rfl] at g3
    simp only at g3
    rw [g3]
    exact hcr.2.2 j y _ hy (Ab (by omega))
  obtain ⟨xs,m,hm,rfl,hcl,hxl,hX⟩:=DataW.trod_struct hu h
  injection hm with hm
  subst hm
  have hXi:∀i,i<fs.size→∃y,∀(f:Field),fs[i]? = some f→(∀d,xs[i]? = some d→DRep P f.type d.1 y)∧CRep W y ((cs.drop f.offset).take (P.cellsOf f.type))∧y.cells.length=P.cellsOf f.type:=fun i hi=>by
   have h1:=hX i fs[i] (F9 hi)
   rw [Ab (by omega)] at h1
   obtain ⟨y,h2,h3,h4⟩:=ih _ _ _ (hf _ (by simp)) h1
   refine ⟨y,fun f hf'=>?_⟩
   rw [F9 hi] at hf'
   injection hf' with hf'
   subst hf'
   exact ⟨fun d hd=>by rw [Ab (by omega)] at hd;injection hd with hd;subst hd;exact h2,h3,by rw [h3.1,h4]⟩
  obtain ⟨ys,hyl,hys⟩:=Ps fs.size hXi
  have hlenI:∀(i:Nat),((ys.take i).map fun y=>y.cells.length).sum=((fs.toList.take i).map fun f=>P.cellsOf f.type).sum:=fun i=>by
   refine Rx _ _ (by simp [hyl]) (fun j y f h1 h2=>?_)
   rw [Im] at h1 h2
   split at h1
   ·rename_i hj
    rw [if_pos hj] at h2
    exact (hys j y h1 f (by simpa using h2)).2.2
   cases h1
  have htot:(ys.flatMap AV.cells).length=cs.length:=by
   rw [List.length_flatMap,hcl,hsum]
   refine Rx _ _ (by simp [hyl]) (fun j y f h1 h2=>(hys j y h1 f (by simpa using h2)).2.2)
  refine ⟨.agg (ys.flatMap AV.cells),.struct hu (by simp [hxl]) hyl (fun i f d y hf' hd hy=>?_),⟨htot,fun c hc=>?_,fun j c v h1 h2=>?_⟩,hcl⟩
  ·rw [Cf,F6] at hd
   obtain ⟨d',hd',rfl⟩:=hd
   exact (hys i y hy f hf').1 d' hd'
  ·obtain ⟨y,hy,hcy⟩:=List.mem_flatMap.1 hc
   obtain ⟨i,hi⟩:=Cm hy
   have hlt:i<fs.size:=by rw [←hyl];exact (Ad.1 hi).1
   exact ((hys i y hi fs[i] (F9 hlt)).2.1).2.1 c hcy
  obtain ⟨i,y,q,g1,g2,rfl⟩:=kw ys j c h1
  have hlt:i<fs.size:=by rw [←hyl];exact (Ad.1 g1).1
  obtain ⟨_,k2,k3⟩:=hys i y g1 fs[i] (F9 hlt)
  have hq:q<P.cellsOf (fs[i]).type:=by have:=(Ad.1 g2).1;omega
  refine k2.2.2 q c v g2 ?_
  rw [Im,if_pos hq,Hn,hoff i fs[i] (by simp [hlt]),←hlenI i]
  exact h2

/-- A measure of data. -/
structure Bulk (B:DataW H→Nat):Prop where
 str:∀bs,bs.length≤B (.lit (.string bs))
 slice:∀elems spare,elems.length≤B (.slice elems spare)∧∀d∈elems,B d≤B (.slice elems spare)
 agg:∀parts,∀d∈parts,B d≤B (.agg parts)
theorem DRep.int' {t:TypeId} {k:IntKind} {d:DataW H} {y:AV} (hu:P.underlying t=some (.int k)) (h:DRep P t d y):∃n,d=.lit (.int k n)∧y=.v (.int k n)∧k.min≤n∧n≤k.max:=by
 cases h with
 | int hu' wf=>rw [hu] at hu';injection hu' with e;injection e with e;subst e;exact ⟨_,rfl,rfl,by simpa [Lit.wf] using wf⟩
 | _ hu'=>rw [hu] at hu';cases hu'
theorem DRep.str' {t:TypeId} {d:DataW H} {y:AV} (hu:P.underlying t=some .string) (h:DRep P t d y):∃s,d=.lit (.string s)∧y=.v (sv s):=by
 cases h with
 | str hu'=>exact ⟨_,rfl,rfl⟩
 | _ hu'=>rw [hu] at hu';cases hu'
theorem DRep.slice' {t e:TypeId} {d:DataW H} {y:AV} {B:DataW H→Nat} (hB:Bulk B) {α:Type} (A:α→AV) (R:α→Prop) {b:Nat} (hu:P.underlying t=some (.slice e)) (h:DRep P t d y) (hb:B d≤b)
  (hE:∀d y,B d≤b→DRep P e d y→∃x,y=A x∧R x):∃l:List α,y=.slice false (P.cellsOf e) (l.map A)∧l.length≤b∧∀x∈l,R x:=by
 cases h with
 | nil hu'=>rw [hu] at hu';injection hu' with e';injection e' with e';subst e';exact ⟨[],rfl,Ar _,fun x hx=>by cases hx⟩
 | slice hu' hn hh =>
  rw [hu] at hu';injection hu' with e';injection e' with e';subst e'
  rename_i elems spare ys
  obtain ⟨h1,h2⟩:=hB.slice elems spare
  have key:∀(ys:List AV) (es:List (DataW H)),ys.length=es.length→(∀d∈es,B d≤b)→(∀(i:Nat) (d:DataW H) (y:AV),es[i]? = some d→ys[i]? = some y→DRep P e d y)→∃l:List α,ys=l.map A∧∀x∈l,R x:=by
   intro ys
   induction ys with
   | nil=>exact fun es _ _ _=>⟨[],rfl,fun x hx=>by cases hx⟩
   | cons y ys ih =>
    intro es hl hb2 hr
    cases es with
    | nil=>simp at hl
    | cons d es =>
     obtain ⟨x,rfl,hx⟩:=hE d y (hb2 d (by simp)) (hr 0 d y rfl rfl)
     obtain ⟨l,rfl,hR⟩:=ih es (by simpa using hl) (fun d hd=>hb2 d (by simp [hd])) (fun i d y a c=>hr (i+1) d y a c)
     exact ⟨x::l,rfl,fun z hz=>by
      rcases B5.1 hz with rfl|hz
      ·exact hx
      exact hR z hz⟩
  obtain ⟨l,rfl,hR⟩:=key ys elems hn (fun d hd=>Jg (h2 d hd) hb) hh
  exact ⟨l,rfl,by simp at hn;omega,hR⟩
 | _ hu'=>rw [hu] at hu';cases hu'
theorem DRep.struct' {t:TypeId} {fs:Array Field} {d:DataW H} {y:AV} {B:DataW H→Nat} (hB:Bulk B) (hu:P.underlying t=some (.struct fs)) (h:DRep P t d y):
  ∃ys:List AV,ys.length=fs.size∧y=.agg (ys.flatMap AV.cells)∧∀(i:Nat) (f:Field) (z:AV),fs[i]? = some f→ys[i]? = some z→∃d',B d'≤B d∧DRep P f.type d' z:=by
 cases h with
 | struct hu' hn hn' hh =>
  rw [hu] at hu';injection hu' with e';injection e' with e';subst e'
  rename_i parts ys
  refine ⟨ys,hn',rfl,fun i f z h1 h2=>?_⟩
  have hlt:i<parts.length:=by rw [hn];exact (On.1 h1).1
  exact ⟨parts[i],hB.agg parts _ (B1 hlt),hh i f parts[i] z h1 (Ab hlt) h2⟩
 | _ hu'=>rw [hu] at hu';cases hu'

/-- An argument's reading. -/
theorem AG5 {T:TypeId→Prop} (PT:PlainT P T) {W:World} {t:TypeId} {v:Value} {d:DataW H} {ps:List MemPlace} {b0:Nat} (hT:T t) (hok:Value.okWide P W .any b0 t v) (h:DataW.Trod enc P W 0 (fun _=>true) true t v d ps):
  ∃y,DRep P t d y∧Rep (G0 W) W none y v:=by
 obtain ⟨n,hn⟩:=h
 obtain ⟨y,h1,h2,h3⟩:=ACe PT n t _ _ hT hn
 refine ⟨y,h1,?_⟩
 rcases PT.look t hT with ⟨hc1,hone⟩|⟨fs,hu,_⟩
 ·have hva:∀cs,v≠.agg cs:=fun cs e=>by
   subst e
   rcases hone with ⟨k,hu⟩|hu|hu|⟨e,hu,he,hz⟩<;>simp [Value.okWide,hu,Cell.okWide,Cell.ok] at hok
  have hvc:v.cells=#[v]:=by cases v<;>first|rfl|exact absurd rfl (hva _)
  have hyc:y.cells=[y]:=by
   cases h1 with
   | struct hu=>rcases hone with ⟨k,hu'⟩|hu'|hu'|⟨e,hu',he,hz⟩<;>rw [hu] at hu'<;>cases hu'
   | _=>rfl
  have:=h2.2.2 0 y v (by rw [hyc];rfl) (by rw [hvc];rfl)
  exact this
 obtain ⟨cs,rfl,hsz,_⟩:∃cs,v=.agg cs∧cs.size=P.cellsOf t∧Row.okWide P W .any b0 t cs:=by
  simp only [Value.okWide,hu] at hok
  exact hok
 cases h1 with
 | struct hu' hn1 hn2 hh =>
  refine .agg _ _ _ (by have:=h2.1;simp only [AV.cells,Value.cells,Array.length_toList] at this;exact this.symm) h2.2.1 (fun i c u a b=>h2.2.2 i c u a (by simpa [Value.cells] using b))
 | int hu'=>rw [hu] at hu';cases hu'
 | bool hu'=>rw [hu] at hu';cases hu'
 | str hu'=>rw [hu] at hu';cases hu'
 | nil hu'=>rw [hu] at hu';cases hu'
 | slice hu'=>rw [hu] at hu';cases hu'

def DReps (P:Program):List TypeId→List (DataW H)→List AV→Prop
 | [],[],[]=>True
 | t::ts,d::ds,y::ys=>DRep P t d y∧DReps P ts ds ys
 | _,_,_=>False

theorem DReps.cons' {t:TypeId} {ts:List TypeId} {ds:List (DataW H)} {ys:List AV} (h:DReps P (t::ts) ds ys):∃d ds' y ys',ds=d::ds'∧ys=y::ys'∧DRep P t d y∧DReps P ts ds' ys':=by
 match ds,ys,h with
 | d::ds',y::ys',⟨h1,h2⟩=>exact ⟨d,ds',y,ys',rfl,rfl,h1,h2⟩
 | [],_,h=>simp [DReps] at h
 | _::_,[],h=>simp [DReps] at h
theorem DReps.nil' {ds:List (DataW H)} {ys:List AV} (h:DReps P [] ds ys):ds=[]∧ys=[]:=by
 match ds,ys,h with
 | [],[],_=>exact ⟨rfl,rfl⟩
 | [],_::_,h=>simp [DReps] at h
 | _::_,_,h=>simp [DReps] at h
theorem cb {T:TypeId→Prop} (PT:PlainT P T) {W:World} {b0:Nat}:∀(ts:List TypeId) (vs:List Value) (ds:List (DataW H)) (ps:List MemPlace),(∀t∈ts,T t) →
  (∀(j:Nat) t v,ts[j]? = some t→vs[j]? = some v→Value.okWide P W .any b0 t v)→DataW.TrodAll enc P W 0 (fun _=>true) true ts vs ds ps →
  ∃ys,DReps P ts ds ys∧ys.length=vs.length∧∀(i:Nat) (y:AV) (u:Value),ys[i]? = some y→vs[i]? = some u→Rep (G0 W) W none y u
 | [],[],[],_,_,_,_=>⟨[],trivial,rfl,fun i y u h=>by simp at h⟩
 | t::ts,v::vs,d::ds,ps,hT,hok,⟨p,q,h1,h2,_⟩=>by
  obtain ⟨y,k1,k2⟩:=AG5 PT (hT t (by simp)) (hok 0 t v rfl rfl) h1
  obtain ⟨ys,k3,k4,k5⟩:=cb PT ts vs ds q (fun t ht=>hT t (by simp [ht])) (fun j t v a b=>hok (j+1) t v a b) h2
  refine ⟨y::ys,⟨k1,k3⟩,by simp [k4],fun i z u a b=>?_⟩
  match i with
  | 0=>simp at a b;subst a;subst b;exact k2
  | i+1=>exact k5 i z u a b
 | [],_::_,_,_,_,_,h=>by simp [DataW.TrodAll] at h
 | [],[],_::_,_,_,_,h=>by simp [DataW.TrodAll] at h
 | _::_,[],_,_,_,_,h=>by simp [DataW.TrodAll] at h
 | _::_,_::_,[],_,_,_,h=>by simp [DataW.TrodAll] at h

theorem Vh {W:World} {sp:Nat→Bool} {hd:Bool}:∀{ts:List TypeId} {vs:List Value} {ds:List (DataW H)} {ps:List MemPlace},DataW.TrodAll enc P W 0 sp hd ts vs ds ps→ds.length=ts.length
 | [],[],[],_,_=>rfl
 | _::_,_::_,_::_,_,⟨_,_,_,h,_⟩=>by rw [Aw,Aw,Vh h]
 | [],_::_,_,_,h=>by simp [DataW.TrodAll] at h
 | [],[],_::_,_,h=>by simp [DataW.TrodAll] at h
 | _::_,[],_,_,h=>by simp [DataW.TrodAll] at h
 | _::_,_::_,[],_,h=>by simp [DataW.TrodAll] at h
theorem Pt {W W':World} {sp:Nat→Bool}:∀{ts:List TypeId} {vs:List Value} {ds:List (DataW H)} {ps:List MemPlace},DataW.TrodAll enc P W 0 sp true ts vs ds ps→(∀p∈ps,W.sameAt W' p)→DataW.TrodAll enc P W' 0 sp true ts vs ds ps
 | [],[],[],_,h,_=>h
 | _::_,_::_,_::_,_,⟨p,q,⟨n,hn⟩,h2,e⟩,hs=>⟨p,q,⟨n,DataW.trod_carry n _ _ _ hn (fun x hx=>hs x (by rw [e];exact Wf _ hx))⟩,Pt h2 (fun x hx=>hs x (by rw [e];exact Sd _ hx)),e⟩
 | [],_::_,_,_,h,_=>by simp [DataW.TrodAll] at h
 | [],[],_::_,_,h,_=>by simp [DataW.TrodAll] at h
 | _::_,[],_,_,h,_=>by simp [DataW.TrodAll] at h
 | _::_,_::_,[],_,h,_=>by simp [DataW.TrodAll] at h

/-- **A law that answers true, for whatever can be read.** -/
theorem xv {f:FuncId} {fn:Func} {s:ChangeSpec} {T:TypeId→Prop} {tb:TypeId} {W:World} {base:Nat} {args:Array Value} {ds gs:List (DataW H)} {before:List MemPlace} (K:Kids P (·<P.types.size)) (hz:∀t e,t<P.types.size→P.underlying t=some (.slice e)→0<P.cellsOf e)
  (PT:PlainT P T) (hT:∀t∈fn.params.toList,T t∧t<P.types.size) (hb:P.underlying tb=some .bool) (hres:fn.resultTypes=#[tb]) (hvars:s.vars=[])
  (hspec:∀ds:List (DataW H),ds.length=fn.params.size→s.fn H ds={ results:=[.lit (.bool true)],args:=ds })
  (hval:∀(j:Nat) t v,fn.params[j]? = some t→args[j]? = some v→Value.okWide P W .any base t v) (hW:DataW.Whole enc P fn.params.toList s.vars false W args.toList ds gs before)
  (hglob:Mb W)
  (main:∀ys:List AV,DReps P fn.params.toList ds ys→AFun P f ys [] (.v (.bool true))) (hbd:GI.bd≤0:=by exact Ak 0):
  Calls P f args W (fun e W'=>∃v,e=.returned v∧s.post enc P fn false true false false W args v W'):=by
 have hW0:=hW
 obtain ⟨p,q,hA,hV,hpq,hfz,hnd⟩:=hW
 rw [hvars] at hV
 obtain ⟨rfl,rfl⟩:=trodVars_none hV
 rw [H4] at hpq
 subst hpq
 obtain ⟨ys,h1,h2,h3⟩:=cb PT _ _ _ _ (fun t ht=>(hT t ht).1) (fun j t v a b=>hval j t v (by simpa using a) (by simpa using b)) hA
 have hlen:=Vh hA
 have hc:=main ys h1 0 (G0 W) W args (by simpa using h2.symm) (fun i y u a b=>(h3 i y u a (by simpa using b)).lift) (AG3 W) (AG4 hglob)
 refine (callsIn_wide.1 (hc hbd)).mono ?_
 rintro e W' ⟨v,G',r,H',rfl,hr,hH,hTg,hk,hl,rfl,rfl⟩
 have hv:=P6 hr
 subst hv
 refine ⟨_,rfl,ds,[],before,[],before,[],hW0,?_,?_,?_,?_,fun h=>by cases h⟩
 ·rw [hres,H4,hspec ds (by simpa using hlen)]
  exact trodAll_cons_mk (p:=[]) (shut_bool hb true) trodAll_mk0
 ·rw [H4,hspec ds (by simpa using hlen)]
  refine Pt (DataW.TrodAll.respare K hz (fun t ht=>(hT t ht).2) hA (fun p hp=>by simpa using hW0.lt p hp)) (fun p hp=>?_)
  have hlt:=hW0.lt p hp
  have hb:=(hk.old _ (Ui hlt)).1
  cases p with
  | cell b o=>exact Fm hb
  | map b=>exact hb
 ·rw [hvars,H4,hspec ds (by simpa using hlen)]
  rfl
 refine ⟨hk.os,hk.output,fun i hi=>?_⟩
 have hb:=(hk.old i (Ui hi)).1
 rw [hb]
 cases ho:W.heap[i]? with
 | none=>simp
 | some o=>cases o<;>simp
end
end Go.SX
namespace Go.Proofs.YtofbdcbjpdpllaaGreatDoor
open Go Go.SX Go.SX.Nb Go.ChangeShapes Go.RowKit
set_option maxRecDepth 100000

theorem own:ownKnob Tryz.prog.godebug=none:=by kernel_rfl
theorem kids:Kids Tryz.prog (·<Tryz.prog.types.size):=kids_rows (by kernel_rfl) (by kernel_rfl)
theorem full:∀t e,t<Tryz.prog.types.size→Tryz.prog.underlying t=some (.slice e)→0<Tryz.prog.cellsOf e:=slices_full_of Tryz.prog (by kernel_rfl)
theorem ACf {H:Type}:∀d:DataW H,1≤Rows.uptoBulk d
 | .lit (.string b)=>by rw [Rows.uptoBulk];omega
 | .lit (.bool _)=>by simp [Rows.uptoBulk]
 | .lit (.int _ _)=>by simp [Rows.uptoBulk]
 | .lit (.float _ _)=>by simp [Rows.uptoBulk]
 | .lit .nil=>by simp [Rows.uptoBulk]
 | .nil=>by simp [Rows.uptoBulk]
 | .ptr d=>by rw [Rows.uptoBulk];omega
 | .slice a b=>by rw [Rows.uptoBulk];omega
 | .agg a=>by rw [Rows.uptoBulk];omega
 | .iface _ d=>by rw [Rows.uptoBulk];omega
 | .map a=>by rw [Rows.uptoBulk];omega
 | .held _=>by simp [Rows.uptoBulk]
theorem Y8 {H:Type}:∀l:List (DataW H),l.length≤Rows.uptoBulkAll l∧∀d∈l,Rows.uptoBulk d≤Rows.uptoBulkAll l
 | []=>⟨Nat.zero_le _,fun d h=>by cases h⟩
 | d::r=>by
  obtain ⟨h1,h2⟩:=Y8 r
  have:=ACf d
  rw [Rows.uptoBulkAll,List.length_cons]
  refine ⟨by omega,fun x hx=>?_⟩
  rcases List.mem_cons.1 hx with rfl|hx
  ·omega
  have:=h2 x hx;omega
theorem qf {H:Type}:Bulk (Rows.uptoBulk (H:=H)) where
 str:=fun bs=>by rw [Rows.uptoBulk];omega
 slice:=fun elems spare=>by
  obtain ⟨h1,h2⟩:=Y8 elems
  rw [Rows.uptoBulk]
  exact ⟨by omega,fun d hd=>by have:=h2 d hd;omega⟩
 agg:=fun parts d hd=>by
  have:=(Y8 parts).2 d hd
  rw [Rows.uptoBulk]
  omega

/-- What the rows of this seat list. -/
def ACg:List (String×DataW Unit):=Rows.invertComesUptoRow.laid
theorem xw:∀u,Tryz.prog.typeName? 3 u=some "*errors.errorString" → u=347:=by
 intro u hu
 exact typeName_ptr_named (nm := "errors.errorString") (by kernel_rfl) (by kernel_rfl) (by decide) u hu
theorem AG6 {W:World} (h:laidMet Tryz.prog ACg W):∃a:Addr,W.var? Tryz.prog "strconv.ErrRange" = some #[.iface 347 (.pointer (some a))]:=by
 have h':=h.tail.tail.tail.tail
 obtain ⟨a,s,h1,_⟩:=laid_sentinel (g:=1) (ti:=175) (tp:=347) (te:=349) (ts:=9) h' (by kernel_rfl) (by kernel_rfl) Tryz.underlying175 xw Tryz.underlying347 Tryz.underlying349 rfl rfl Tryz.underlying9 (by kernel_rfl) (by kernel_rfl)
 exact ⟨a,h1⟩
theorem AG7 {W:World} (h:laidMet Tryz.prog ACg W):Lib.TabIs Tryz.prog W "internal/strconv.uint64pow10" .u64 Lib.pow10Tab:=
 Lib.tabIs_of_head (g:=4) (t:=315) (e:=233) (n:=20) (by kernel_rfl) (by kernel_rfl) (by kernel_rfl) (by kernel_rfl) (by kernel_rfl) (by kernel_rfl) h.tail.tail
theorem cd {P:Program} {W:World} {n:String} {g:Nat} {cs:Array Value} (hg:P.globalNamed n=some g) (h:W.var? P n=some cs):∃t f,W.heap[g]? = some (.cells cs t f):=by
 unfold World.var? at h
 rw [hg] at h
 simp only [Option.bind_some] at h
 split at h
 ·rename_i cs' t f e
  injection h with h
  subst h
  exact ⟨t,f,e⟩
 cases h
theorem glob {W:World} [E:ErrAt] (h:W.ShapedOpen Tryz.prog) (hl:laidMet Tryz.prog ACg W) (he:W.var? Tryz.prog "strconv.ErrRange" = some #[.iface 347 (.pointer (some E.b))]):Mb W:=by
 intro x hx
 have hx':x∈bn:=hx
 unfold bn at hx'
 simp only [List.mem_cons,List.mem_nil_iff,or_false] at hx'
 rcases hx' with rfl|rfl|rfl
 ·obtain ⟨m,hm⟩:=cell_of_shapedOpen_int (g:=0) (t:=3) (zero:=#[.int .i64 0]) (k:=.i64) h (of_decide_eq_true (by kernel_rfl)) (by kernel_rfl) rfl (by kernel_rfl) (by kernel_rfl) Tryz.underlying3
  obtain ⟨cs,hh,hs,_⟩:=h.1 0 #[.int .i64 0] 3 (of_decide_eq_true (by kernel_rfl)) (by kernel_rfl)
  have hs':cs.size=1:=hs
  have h1:0<cs.size:=by omega
  have hc:cs[0]=.int .i64 m:=by
   simp [World.cell?,hh,h1] at hm
   exact hm
  have:cs=#[.int .i64 m]:=by
   apply Array.ext
   ·simpa using hs'
   intro i h1 h2
   have:i=0:=by omega
   subst this
   simpa using hc
  rw [this] at hh
  exact ⟨_,hh,m,3,_,rfl⟩
 ·obtain ⟨t,f,e⟩:=cd (g:=1) (by kernel_rfl) he
  exact ⟨_,e,t,f,rfl⟩
 obtain ⟨t,f,e⟩:=cd (g:=4) (by kernel_rfl) (AG7 hl)
 exact ⟨_,e,t,f,rfl⟩
end Go.Proofs.YtofbdcbjpdpllaaGreatDoor
namespace Go.SX.Nb
open Go Go.SX Go.Proofs
variable [ErrAt]
set_option maxRecDepth 4000
mutual
def depthE:Expr→Nat
 | .mk _ _ _ k=>Fi k+1
def Fi:List Expr→Nat
  | []=>0
  | e::r=>max (depthE e) (Fi r)
 end
mutual
def Dw (p:Expr→Bool):Expr→Bool
 | .mk o t v k=>p (.mk o t v k)&&Jo p k
def Jo (p:Expr→Bool):List Expr→Bool
  | []=>true
  | e::r=>Dw p e&&Jo p r
 end
mutual
def Uj:Expr→List Expr
 | .mk o t v k=>.mk o t v k::Uk k
def Uk:List Expr→List Expr
  | []=>[]
  | e::r=>Uj e++Uk r
 end
theorem Ql (e:Expr):depthE e=Fi e.kids+1:=by cases e;rfl
theorem Gg (p:Expr→Bool) (e:Expr):Dw p e=(p e&&Jo p e.kids):=by cases e;rfl
theorem R3:∀a b,Fi (a++b)=max (Fi a) (Fi b)
 | [],b=>by rw [Ec,Fi,Nat.zero_max]
 | e::r,b=>by rw [Et,Fi,Fi,R3 r b,Nat.max_assoc]
theorem Of:∀a b,Cs (a++b)=Cs a+Cs b
 | [],b=>by rw [Ec,Cs,C0]
 | e::r,b=>by rw [Et,Cs,Cs,Of r b,Mv]
theorem Vi (p:Expr→Bool):∀a b,Jo p (a++b)=(Jo p a&&Jo p b)
 | [],b=>by rw [Ec,Jo,Bs]
 | e::r,b=>by rw [Et,Jo,Jo,Vi p r b,Bool.and_assoc]
theorem Vj (l:List Expr) {x:Nat} (h:x<l.length):Fi (l.take (x+1))=max (Fi (l.take x)) (depthE l[x]):=by
 rw [Hv h,R3,Fi,Fi,Nat.max_zero]
theorem qg (l:List Expr) {x:Nat} (h:x<l.length):Cs (l.take (x+1))=Cs (l.take x)+sizeE l[x]:=by
 rw [Hv h,Of,Cs,Cs,Nat.add_zero]
theorem E3 (p:Expr→Bool):∀l:List Expr,Jo p l=true↔∀y∈l,Dw p y=true
 | []=>by simp [Jo]
 | e::r=>by rw [Jo,As,E3 p r];simp
mutual
theorem I7:∀(d:Int) (e:Expr),(C8 d e).length=sizeE e
 | d,.mk o t v k=>by rw [C8,sizeE,Aw,Y9 (d+1) k,Nat.add_comm]
theorem Y9:∀(d:Int) (l:List Expr),(C5 d l).length=Cs l
  | d,[]=>rfl
  | d,e::r=>by rw [C5,Cs,Ai,I7 d e,Y9 d r]
 end
mutual
theorem Ya:∀(d:Int) (e:Expr),(C8 d e).map (·.2)=Uj e
 | d,.mk o t v k=>by rw [C8,Uj,Bz,Yb (d+1) k]
theorem Yb:∀(d:Int) (l:List Expr),(C5 d l).map (·.2)=Uk l
  | d,[]=>rfl
  | d,e::r=>by rw [C5,Uk,By,Ya d e,Yb d r]
 end
mutual
theorem ce (p:Expr→Bool):∀e:Expr,(Uj e).all p=Dw p e
 | .mk o t v k=>by rw [Uj,Dw,List.all_cons,Yc p k]
theorem Yc (p:Expr→Bool):∀l:List Expr,(Uk l).all p=Jo p l
  | []=>rfl
  | e::r=>by rw [Uk,Jo,List.all_append,ce p e,Yc p r]
 end
theorem xy (p:Expr→Bool) (d:Int) (e:Expr):((C8 d e).all fun it=>p it.2)=Dw p e:=by
 rw [←ce p e,←Ya d e,List.all_map]
 rfl
def H3 (m:Int) (L:List (Int×Expr)):Int:=L.foldl (fun m it=>max m it.1) m
mutual
theorem Yd:∀(d m:Int) (e:Expr),H3 m (C8 d e)=max m (d-1+depthE e)
 | d,m,.mk o t v k=>by
  rw [C8,depthE]
  show H3 (max m d) (C5 (d+1) k)=_
  rw [Ye (d+1) (max m d) k (by omega)]
  omega
theorem Ye:∀(d m:Int) (l:List Expr),d-1≤m→H3 m (C5 d l)=max m (d-1+Fi l)
  | d,m,[],h=>by
    rw [C5,Fi]
    show m=_
    omega
  | d,m,e::r,h=>by
    rw [C5,Fi]
    unfold H3
    rw [nk]
    show H3 (H3 m (C8 d e)) (C5 d r)=_
    rw [Yd d m e,Ye d _ r (by omega)]
    omega
 end
theorem Vk (e:Expr):H3 0 (C8 1 e)=depthE e:=by rw [Yd];omega
theorem kx:∀(L:List (Int×Expr)) (m b:Int),m≤b→(H3 m L≤b↔∀it∈L,it.1≤b)
 | [],m,b,h=>by simp [H3,h]
 | it::r,m,b,h=>by
  show H3 (max m it.1) r≤b↔_
  rcases Decidable.em (it.1≤b) with h1|h1
  ·rw [kx r (max m it.1) b (by omega)]
   simp [h1]
  constructor
  ·intro h2
   have:∀(r:List (Int×Expr)) (m:Int),m≤H3 m r:=by
    intro r
    induction r with
    | nil=>intro m;exact Int.le_refl _
    | cons a r ih=>intro m;have:=ih (max m a.1);show m≤H3 (max m a.1) r;omega
   have:=this r (max m it.1)
   omega
  intro h2
  exact absurd (h2 it (by simp)) h1
theorem AG8 (e:Expr) {b:Nat}:(∀it∈C8 1 e,it.1≤(b:Int))↔depthE e≤b:=by
 rw [←kx (C8 1 e) 0 b (by omega),Vk]
 omega
def D3 (e:Expr):Bool:=(decide (depthE e≤30)&&decide (sizeE e≤300))&&Dw Dl e
theorem F8 (e:Expr):B3 e=D3 e:=by
 have hpos:1≤sizeE e:=by rw [Jn];omega
 rw [eg]
 unfold B3 D3
 rw [B2]
 simp only [As,decide_eq_true_eq,Qa,I7]
 rw [←AG8 e,←xy Dl 1 e,B2]
 constructor
 ·intro h
  have key:∀(k:Nat) (hk:k<(C8 1 e).length),Dl (C8 1 e)[k].2=true∧(C8 1 e)[k].1≤30∧(k:Int)+1≤300:=fun k hk=>by
   have:=h k (by rw [I7] at hk;exact hk)
   rw [gy (Ab hk)] at this
   simp only [Db,Ej,Dh,decide_eq_false_iff_not] at this
   exact ⟨this.1.1,by have:=this.1.2;omega,by have:=this.2;omega⟩
  refine ⟨⟨fun it hit=>?_,?_⟩,fun it hit=>?_⟩
  ·obtain ⟨k,hk,rfl⟩:=Tv hit
   exact (key k hk).2.1
  ·have:=(key (sizeE e-1) (by rw [I7];omega)).2.2
   omega
  obtain ⟨k,hk,rfl⟩:=Tv hit
  exact (key k hk).1
 rintro ⟨⟨h1,h2⟩,h3⟩ k hk
 have hk':k<(C8 1 e).length:=by rw [I7];exact hk
 rw [gy (Ab hk')]
 have a1:=h1 _ (B1 hk')
 have a3:=h3 _ (B1 hk')
 have a3':Dl (C8 1 e)[k].2=true:=a3
 rw [a3']
 simp only [Db,Ej,Il,decide_eq_false_iff_not]
 exact ⟨⟨trivial,by have:(C8 1 e)[k].1≤(30:Int):=a1;omega⟩,by omega⟩
/-- Its number is one of 64 bits. -/
def Hs (e:Expr):Bool:=decide (-9223372036854775808≤e.val.n)&&decide (e.val.n≤9223372036854775807)
/-! Names. -/
def named (s:Str) (e:Expr):Bool:=(Uj e).any fun y=>(y.op==2)&&(y.text==s)
mutual
def AJp (s:Str) (y:Expr):Expr→Expr
 | .mk o t v k=>if (o==2)&&(t==s) then y else .mk o t v (AG9 s y k)
def AG9 (s:Str) (y:Expr):List Expr→List Expr
  | []=>[]
  | e::r=>AJp s y e::AG9 s y r
 end
mutual
def eqE:Expr→Expr→Bool
 | .mk o t v k,.mk o' t' v' k'=>((((o==o')&&(t==t'))&&((v.kind==v'.kind&&v.n==v'.n)&&v.s==v'.s)))&&eqL k k'
def eqL:List Expr→List Expr→Bool
  | [],[]=>true
  | e::r,e'::r'=>eqE e e'&&eqL r r'
  | _,_=>false
 end
theorem ACh (x y:Expr):eqE x y=((((x.op==y.op)&&(x.text==y.text))&&((x.val.kind==y.val.kind&&x.val.n==y.val.n)&&x.val.s==y.val.s))&&eqL x.kids y.kids):=by
 cases x;cases y;rw [eqE];rfl
mutual
theorem i8:∀x y:Expr,eqE x y=true↔x=y
 | .mk o t v k,.mk o' t' v' k'=>by
  rw [eqE]
  simp only [As,beq_iff_eq,T0 k k',Expr.mk.injEq]
  constructor
  ·rintro ⟨⟨⟨rfl,rfl⟩,⟨h1,h2⟩,h3⟩,rfl⟩
   refine ⟨rfl,rfl,?_,rfl⟩
   cases v;cases v'
   simp_all
  rintro ⟨rfl,rfl,rfl,rfl⟩
  exact ⟨⟨⟨rfl,rfl⟩,⟨rfl,rfl⟩,rfl⟩,rfl⟩
theorem T0:∀x y:List Expr,eqL x y=true↔x=y
  | [],[]=>by simp [eqL]
  | [],e::r=>by simp [eqL]
  | e::r,[]=>by simp [eqL]
  | e::r,e'::r'=>by rw [eqL,As,i8 e e',T0 r r',Tr]
 end
theorem AGa:∀{x y:List Expr},eqL x y=true→x.length=y.length:=fun h=>by rw [(T0 _ _).1 h]
theorem ACi (x:Expr):eqE x x=true:=(i8 x x).2 rfl
/-! A node by itself, and marks. -/
theorem ia {of:Str} {ws:List Str} (h:of=Pr ws) (hp:∀w∈ws,(32:UInt8)∉w) (s:Str):Qj s of=(!(s==[])&&ws.contains s):=by
 unfold Qj
 rw [kv]
 cases hb:s.contains 32 with
 | false =>
  have h2:(32:UInt8)∉s:=by simpa using hb
  rw [h,Mf s h2 ws hp,Tq,To]
  congr 1
  rw [List.contains_eq_any_beq]
  congr 1
  funext w
  rw [eg,beq_iff_eq,beq_iff_eq]
  exact eq_comm
 | true =>
  have h2:(32:UInt8)∈s:=by simpa using hb
  have h3:ws.contains s=false:=by
   rw [Ik]
   intro h4
   exact hp s (by simpa using h4) h2
  rw [h3]
  simp
def levels:List (List Str):=[[[111,114]],[[97,110,100]],[],[[61],[33,61],[60],[60,61],[62],[62,61]],[[43],[45],[38]],[[42],[47],[37]]]
def Bw (s:Str):Int:=match levels.findIdx? (fun l=>l.contains s) with|some i=>i|none => -1
def Ul:List Str:=[[111,114],[],[97,110,100],[],[61],[33,61],[60],[60,61],[62],[62,61],[],[43],[45],[38],[],[42],[47],[37]]
theorem qh:Qk=Pr Ul:=by kernel_rfl
theorem ky:∀w∈Ul,(32:UInt8)∉w:=by decide
theorem qi (s:Str):Qj s Qk=decide (0≤Bw s):=by
 rw [ia qh ky s]
 have h1:decide (0≤Bw s)=levels.any (fun l=>l.contains s):=by
  unfold Bw
  cases h:levels.findIdx? (fun l=>l.contains s) with
  | some i =>
   have:levels.any (fun l=>l.contains s)=true:=by
    have:=L7.1 h
    obtain ⟨hi,hp,_⟩:=this
    exact K7.2 ⟨_,B1 hi,hp⟩
   rw [this]
   simp
  | none =>
   have:=P1.1 h
   have e:levels.any (fun l=>l.contains s)=false:=by
    rw [L4]
    intro l hl
    rw [this l hl]
    simp
   rw [e]
   rfl
 rw [h1]
 by_cases h0:s=[]
 ·subst h0;rfl
 have:(s==[])=false:=by simpa using h0
 rw [this,Tq,Bs]
 simp [levels,Ul,h0,Bool.or_assoc]
def I8 (e:Expr):Bool:=
 if e.op==1 then ((E2 e.val&&decide (0≤e.val.n))&&(e.text==[]))&&((e.kids.length:Int)==0)
 else if !(Nk e.val) then false
 else if e.op==2 then Md e.text&&((e.kids.length:Int)==0)
 else if e.op==3 || e.op==4 then (e.text==[])&&((e.kids.length:Int)==1)
 else if e.op==5 then decide (0≤Bw e.text)&&((e.kids.length:Int)==2)
 else if e.op==6 then Ch e.text==(e.kids.length:Int)
 else false
theorem T3 (e:Expr):Dl e=I8 e:=by
 unfold Dl I8
 rw [qi,Fw]
 cases Nk e.val<;>simp
/-! What is wide. -/
def Um (e:Expr):Bool:=((decide ((100:Int)<e.text.length) || decide ((400:Int)<e.val.s.length)) || decide ((100:Int)<e.kids.length))
/-- Among trees, when n have been seen: is one too much? -/
def R4 (l:List Expr) (n:Nat):Bool:=decide (500<n+l.length) || l.any Um
def It:Nat→List Expr→Nat→Bool
 | 0,l,n => !l.isEmpty
 | f+1,l,n=>if l.isEmpty then false else if R4 l n then true else if decide ((500:Int)<(l.flatMap Expr.kids).length) then true else It f (l.flatMap Expr.kids) (n+l.length)
theorem Yf:∀l:List Expr,Cs l=l.length+Cs (l.flatMap Expr.kids)
 | []=>rfl
 | e::r=>by
  rw [Cs,Jn,Ww,Of,Yf r,Aw]
  omega
theorem Yg {l:List Expr} {n:Nat} (h:R4 l n=false):n+l.length≤500∧∀e∈l,Um e=false:=by
 unfold R4 at h
 simp only [Ej,decide_eq_false_iff_not,L4,Tp] at h
 exact ⟨by omega,h.2⟩
theorem ib {e:Expr} (h:Um e=false):e.text.length≤100∧e.val.s.length≤400∧e.kids.length≤100:=by
 unfold Um at h
 simp only [Ej,decide_eq_false_iff_not] at h
 omega
theorem cf {f:Nat} {l:List Expr} {n:Nat} (h:It (f+1) l n=false) (hl:l.isEmpty=false):R4 l n=false∧(l.flatMap Expr.kids).length≤500∧It f (l.flatMap Expr.kids) (n+l.length)=false:=by
 rw [It,if_neg (by rw [hl];simp)] at h
 split at h
 ·cases h
 rename_i h1
 split at h
 ·cases h
 rename_i h2
 simp only [decide_eq_true_eq] at h2
 exact ⟨by simpa using h1,by omega,h⟩
theorem tq:∀(f:Nat) (l:List Expr) (n:Nat),It f l n=false→∀e∈l,okE f e∧Dw (fun y => !Um y) e=true
 | 0,l,n,h,e,he=>by
  have:l=[]:=by simpa [It] using h
  subst this
  cases he
 | f+1,l,n,h,e,he=>by
  have hl:l.isEmpty=false:=by cases l<;>simp_all
  obtain ⟨h1,h2,h3⟩:=cf h hl
  have h4:=ib ((Yg h1).2 e he)
  have ih:=tq f _ _ h3
  have hk:∀y∈e.kids,okE f y∧Dw (fun y => !Um y) y=true:=fun y hy=>ih y (List.mem_flatMap.2 ⟨e,he,hy⟩)
  refine ⟨⟨by omega,by omega,fun y hy=>(hk y hy).1⟩,?_⟩
  rw [Gg,(Yg h1).2 e he,(E3 _ _).2 fun y hy=>(hk y hy).2]
  rfl
theorem cg:∀(f:Nat) (l:List Expr) (n:Nat),n≤500→It f l n=false→n+Cs l≤500
 | 0,l,n,hn,h=>by
  have:l=[]:=by simpa [It] using h
  subst this
  simpa [Cs] using hn
 | f+1,l,n,hn,h=>by
  by_cases hl:l.isEmpty=true
  ·have:l=[]:=by simpa using hl
   subst this
   simpa [Cs] using hn
  have hl':l.isEmpty=false:=by simpa using hl
  obtain ⟨h1,h2,h3⟩:=cf h hl'
  have:=cg f _ _ (Yg h1).1 h3
  rw [Yf l]
  omega
def Vl (e:Expr):Bool:=It 61 [e] 0
/-- A tree that is gone through. -/
structure Slim (e:Expr):Prop where
 ok:okE 61 e
 size:sizeE e≤500
 slim:Dw (fun y => !Um y) e=true
theorem tr {e:Expr} (h:Vl e=false):Slim e:=by
 obtain ⟨h1,h2⟩:=tq _ _ _ h e (by simp)
 have:=cg _ _ _ (by decide) h
 exact ⟨h1,by simpa [Cs] using this,h2⟩
end Go.SX.Nb
namespace Go.Proofs.YtofbdcbjpdpllaaGreatDoor
open Go Go.SX Go.SX.Nb Go.ChangeShapes Go.RowKit
set_option maxRecDepth 100000
theorem qj {ys:List AV} (h:∀(i:Nat) (y:AV),ys[i]? = some y→∃e:Nb.Expr,y=A9 e∧Dw Hs e=true):∃l:List Nb.Expr,ys=l.map A9∧Jo Hs l=true:=by
 induction ys with
 | nil=>exact ⟨[],rfl,rfl⟩
 | cons y ys ih =>
  obtain ⟨e,rfl,he⟩:=h 0 y rfl
  obtain ⟨l,rfl,hl⟩:=ih (fun i z hz=>h (i+1) z hz)
  exact ⟨e::l,rfl,by rw [Jo,he,hl];rfl⟩
theorem tt {H:Type} [ErrAt] (d:DataW H) (y:AV) (h:DRep Tryz.prog 23 d y):∃v:Val,y=C3 v ∧ -9223372036854775808≤v.n∧v.n≤9223372036854775807:=by
 obtain ⟨ys,hn,rfl,hh⟩:=h.struct' qf Tryz.underlying23
 match ys,hn with
 | [y0,y1,y2],_ =>
  obtain ⟨d0,b0,h0⟩:=hh 0 _ y0 rfl rfl
  obtain ⟨d1,b1,h1⟩:=hh 1 _ y1 rfl rfl
  obtain ⟨d2,b2,h2⟩:=hh 2 _ y2 rfl rfl
  obtain ⟨k,rfl,rfl,_⟩:=h0.int' Tryz.underlying3
  obtain ⟨n,rfl,rfl,hn1,hn2⟩:=h1.int' Tryz.underlying2
  obtain ⟨s,rfl,rfl⟩:=h2.str' Tryz.underlying9
  exact ⟨⟨k,n,s⟩,rfl,hn1,hn2⟩
theorem ACj {H:Type} [ErrAt] {t:TypeId} {d:DataW H} {y:AV} (h:DRep Tryz.prog t d y):(t=26→∃e:Nb.Expr,y=A9 e∧Dw Hs e=true)∧(t=24→∃l:List Nb.Expr,y=.slice false 6 (l.map A9)∧Jo Hs l=true):=by
 induction h with
 | int hu _=>exact ⟨fun e=>(by subst e;rw [Tryz.underlying26] at hu;cases hu),fun e=>by subst e;rw [Tryz.underlying24] at hu;cases hu⟩
 | bool hu=>exact ⟨fun e=>(by subst e;rw [Tryz.underlying26] at hu;cases hu),fun e=>by subst e;rw [Tryz.underlying24] at hu;cases hu⟩
 | str hu=>exact ⟨fun e=>(by subst e;rw [Tryz.underlying26] at hu;cases hu),fun e=>by subst e;rw [Tryz.underlying24] at hu;cases hu⟩
 | nil hu =>
  refine ⟨fun e=>(by subst e;rw [Tryz.underlying26] at hu;cases hu),fun e=>?_⟩
  subst e
  rw [Tryz.underlying24] at hu
  injection hu with hu
  injection hu with hu
  subst hu
  exact ⟨[],by rw [show Tryz.prog.cellsOf 26=6 by kernel_rfl];rfl,rfl⟩
 | slice hu hn hh ih =>
  refine ⟨fun e=>(by subst e;rw [Tryz.underlying26] at hu;cases hu),fun e=>?_⟩
  subst e
  rw [Tryz.underlying24] at hu
  injection hu with hu
  injection hu with hu
  subst hu
  rename_i elems spare ys
  obtain ⟨l,rfl,hl⟩:=qj (ys:=ys) (fun i y hy=>by
   have hlt:i<elems.length:=by rw [←hn];exact (List.getElem?_eq_some_iff.1 hy).1
   exact (ih i elems[i] y (List.getElem?_eq_getElem hlt) hy).1 rfl)
  exact ⟨l,by rw [show Tryz.prog.cellsOf 26=6 by kernel_rfl],hl⟩
 | struct hu hn hn' hh ih =>
  refine ⟨fun e=>?_,fun e=>by subst e;rw [Tryz.underlying24] at hu;cases hu⟩
  subst e
  rw [Tryz.underlying26] at hu
  injection hu with hu
  injection hu with hu
  subst hu
  rename_i parts ys
  match parts,hn,ys,hn' with
  | [p0,p1,p2,p3],_,[y0,y1,y2,y3],_ =>
   obtain ⟨o,rfl,rfl,_⟩:=(hh 0 _ p0 y0 rfl rfl rfl).int' Tryz.underlying3
   obtain ⟨s,rfl,rfl⟩:=(hh 1 _ p1 y1 rfl rfl rfl).str' Tryz.underlying9
   obtain ⟨v,rfl,hv1,hv2⟩:=tt p2 y2 (hh 2 _ p2 y2 rfl rfl rfl)
   obtain ⟨l,rfl,hl⟩:=(ih 3 _ p3 y3 rfl rfl rfl).2 rfl
   refine ⟨.mk o s v l,?_,?_⟩
   ·rw [At];rfl
   rw [Dw,hl,Bool.and_true]
   show (decide (-9223372036854775808≤v.n)&&decide (v.n≤9223372036854775807))=true
   simp [hv1,hv2]
end Go.Proofs.YtofbdcbjpdpllaaGreatDoor
namespace Go.SX.Nb
open Go Go.SX Go.Proofs
variable [ErrAt]
set_option maxRecDepth 4000
/-- The lexer from a place between two words on. -/
def APs (f q:Nat) (s:Str):List (Tok×Int):=Kg f (q+gapM s) (s.drop (gapM s))
theorem kz {f q:Nat} {s:Str} (h:s≠[]):∃(n:Nat),Kg (f+1) q s=(⟨(D0 s).1,(D0 s).2.1,q⟩,(D0 s).2.2.2)::(if (D0 s).2.2.2=0 then APs f (q+n) (s.drop n) else [])∧((D0 s).2.2.2=0→(D0 s).2.2.1=(n:Int)∧1≤n∧n≤s.length):=by
 refine ⟨(D0 s).2.2.1.toNat,?_,fun he=>?_⟩
 ·rw [Pq h]
  simp only [beq_iff_eq]
  rfl
 obtain ⟨n,h1,h2,h3⟩:=tj (s:=s) (by cases s with|nil=>exact absurd rfl h|cons c r=>simp) he
 rw [h1]
 exact ⟨rfl,by simpa using h2,by simpa using h3⟩
/-! ### Gaps -/
/-! ### Words -/
theorem AGb {s:Str} (h:(Ic s).2.1=0):s.length≤4000∧(∀it∈Cy s,it.2=0)∧Ic s=((Cy s).map (·.1)++[⟨0,[],s.length⟩],0,0):=by
 unfold Ic at h ⊢
 split at h
 ·exact absurd h (show ¬(3:Int)=0 by decide)
 rename_i hl
 rw [if_neg hl]
 cases hf:(Cy s).find? (fun it=>it.2 != 0) with
 | some it =>
  rw [hf] at h
  have:=ep hf
  simp at this
  exact absurd h this
 | none =>
  rw [M2] at hf
  refine ⟨by omega,fun it hit=>by simpa using hf it hit,rfl⟩
def l3 (c:UInt8):Str:=if c=39 then [39,39] else [c]
def Qy (t:Str):Str:=t.flatMap l3
theorem l4:∀t:Str,(Qy t).length≤2*t.length
 | []=>Ak _
 | c::r=>by
  have:=l4 r
  unfold Qy at this ⊢
  rw [Ww,Ai,Aw]
  have h:(l3 c).length≤2:=by unfold l3;split<;>simp
  omega
theorem Un (c:UInt8) (r:Str):Qy (c::r)=l3 c++Qy r:=by unfold Qy;rw [Ww]
theorem tw:∀s:Str,(Lib.index s [39] = -1∧Qy s=s)∨∃i:Nat,Lib.index s [39]=(i:Int)∧i<s.length∧Qy s=s.take i++[39,39]++Qy (s.drop (i+1))
 | []=>.inl ⟨rfl,rfl⟩
 | b::l=>by
  by_cases hb:b=39
  ·subst hb
   refine .inr ⟨0,by simp [Lib.index,List.isPrefixOf],by simp,?_⟩
   rw [Un]
   simp [l3]
  have hp:([39]:Str).isPrefixOf (b::l)=false:=by
   simp [List.isPrefixOf,Ne.symm hb]
  have hd:Qy (b::l)=b::Qy l:=by
   rw [Un,l3,if_neg hb]
   rfl
  rcases tw l with ⟨h1,h2⟩|⟨i,h1,h2,h3⟩
  ·refine .inl ⟨?_,by rw [hd,h2]⟩
   rw [Lib.index,hp,h1];rfl
  refine .inr ⟨i+1,?_,by simp;omega,?_⟩
  ·rw [Lib.index,hp,h1,if_neg (by simp),if_neg (by simp)]
   rfl
  rw [hd,h3]
  simp
theorem T5:∀(n:Nat) (s:Str),s.length≤n→Lib.replaceK [39] [39,39] (Lib.count s [39]) s=Qy s
 | n,s,hn=>by
  rcases tw s with ⟨h1,h2⟩|⟨i,h1,h2,h3⟩
  ·rw [Lib.count_miss h1,h2];rfl
  cases n with
  | zero=>omega
  | succ n =>
   rw [Lib.count_hit (by decide) h1,Nat.add_comm,Lib.replaceK_hit _ _ _ _ i h1]
   have e:i+([39]:Str).length=i+1:=rfl
   rw [e,T5 n (s.drop (i+1)) (by rw [I1];omega),h3]
theorem Vm (s:Str):Lib.replaceAll s [39] [39,39]=Qy s:=by
 unfold Lib.replaceAll Lib.replace
 rw [if_neg (by decide)]
 have e:Lib.replaceNum s [39] (-1)=Lib.count s [39]:=by unfold Lib.replaceNum;rw [if_pos (.inl (by decide))]
 rw [e]
 exact T5 _ s (Ak _)
def tx (t:Tok):Str:=if t.kind=4 then [39]++Qy t.text++[39] else t.text
theorem ql {q:Str} (h0:q.headD 0=39) (h1:1≤q.length) (h:(Jm q).2=0):[39]++Qy (Jm q).1.s++[39]=q:=by
 cases q with
 | nil=>simp at h1
 | cons c r =>
  have hc:c=39:=h0
  subst hc
  unfold Jm at h ⊢
  have n1:((39::r:Str)==[110,117,108,108])=false:=by rw [beq_eq_false_iff_ne];intro e;injection e with e;exact absurd e (by decide)
  have n2:((39::r:Str)==[116,114,117,101])=false:=by rw [beq_eq_false_iff_ne];intro e;injection e with e;exact absurd e (by decide)
  have n3:((39::r:Str)==[102,97,108,115,101])=false:=by rw [beq_eq_false_iff_ne];intro e;injection e with e;exact absurd e (by decide)
  rw [n1,n2,n3] at h ⊢
  simp only [Aq,if_false,Bool.or_self] at h ⊢
  by_cases hq:bu (39::r)=true
  ·rw [if_pos hq] at h ⊢
   unfold kg at h ⊢
   split at h
   ·exact absurd h (show ¬(7:Int)=0 by decide)
   rename_i hp
   rw [if_neg hp]
   have hp':I6 (Xs (39::r))=39::r:=by simpa using hp
   have hk:(Xs (39::r)).kind=2:=rfl
   show [39]++Qy (Xs (39::r)).s++[39]=39::r
   generalize Xs (39::r)=v at hp' hk
   have hne:I6 v≠[]:=by rw [hp'];simp
   rw [←hp']
   unfold I6 at hne ⊢
   split at hne
   ·exact absurd rfl hne
   rename_i hpl
   rw [if_neg hpl,hk,if_neg (by decide),if_pos (by decide),Vm]
  rw [if_neg hq] at h
  have hd:Mc (39::r)=true:=by
   unfold Mc
   have e:Vb (39::r)=39::r:=by
    rcases Vc (39::r) with ⟨_,h4⟩|⟨r',h3,_⟩
    ·exact h4
    injection h3 with h3;exact absurd h3 (by decide)
   rw [e]
   have:(Lib.trimS (39::r) digs==[])=false:=by
    rw [beq_eq_false_iff_ne]
    intro e
    rw [bo] at e
    exact absurd (e 39 (by simp)) (by decide)
   rw [this]
   simp
  have hn:D5 (39::r)=(0,6):=by unfold D5;rw [if_pos hd]
  rw [hn] at h
  simp at h
theorem ax (s:Str) (m:Nat):s.take (s.take m).length=s.take m:=by
 rw [Ci]
 rcases Nat.le_total m s.length with h|h
 ·rw [su h]
 rw [Nat.min_eq_right h,E8 (Ak _),E8 h]
theorem Pu (s of:Str):s.take (Ez s of).length=Ez s of:=by
 unfold Ez
 exact ax s _
/-- What a word's print spells is what was read. -/
theorem qm {s:Str} {n p:Nat} (h0:1≤s.length) (he:(D0 s).2.2.2=0) (hn:(D0 s).2.2.1=(n:Int)):tx ⟨(D0 s).1,(D0 s).2.1,p⟩=s.take n:=by
 cases s with
 | nil=>simp at h0
 | cons c r =>
  unfold D0 at he hn ⊢
  by_cases c1:decide (0<Sw ((c::r).take 1) letters)=true
  ·rw [if_pos c1] at he hn
   simp only [if_pos c1]
   unfold Rr at he hn ⊢
   by_cases r1:Ib (Ez (c::r) tails)=true
   ·rw [if_pos r1] at hn
    simp only [if_pos r1]
    have hn':(((Ez (c::r) tails).length:Nat):Int)=n:=hn
    have e:n=(Ez (c::r) tails).length:=by omega
    rw [e,Pu]
    rfl
   rw [if_neg r1] at he hn
   simp only [if_neg r1]
   by_cases r2:(!Dk (Ez (c::r) tails))=true
   ·rw [if_pos r2] at he;exact absurd he (show ¬(3:Int)=0 by decide)
   rw [if_neg r2] at hn
   simp only [if_neg r2]
   have hn':(((Ez (c::r) tails).length:Nat):Int)=n:=hn
   have e:n=(Ez (c::r) tails).length:=by omega
   rw [e,Pu]
   rfl
  rw [if_neg c1] at he hn
  simp only [if_neg c1]
  by_cases c2:decide (0<Sw ((c::r).take 1) digs)=true
  ·rw [if_pos c2] at he hn
   simp only [if_pos c2]
   have hn':(((Ez (c::r) digs).length:Nat):Int)=n:=hn
   have e:n=(Ez (c::r) digs).length:=by omega
   rw [e,Pu]
   rfl
  rw [if_neg c2] at he hn
  simp only [if_neg c2]
  by_cases c3:(((((c::r)).getD 0 0).toNat:Int)==39)=true
  ·rw [if_pos c3] at he hn
   simp only [if_pos c3]
   have hc:c=39:=by
    have c3':((c.toNat:Int)==39)=true:=c3
    exact Sj.1 (by have:(39:UInt8).toNat=39:=rfl;simp at c3';omega)
   unfold N1 at he hn ⊢
   cases hq:Ed ((c::r).drop 1) with
   | none=>rw [hq] at he;exact absurd he (show ¬(7:Int)=0 by decide)
   | some m =>
    rw [hq] at he hn
    simp only at he hn ⊢
    split at he
    ·exact absurd he (show ¬(3:Int)=0 by decide)
    rename_i hr
    rw [if_neg hr] at hn
    simp only [if_neg hr]
    have hm':(((m+1:Nat)):Int)=n:=hn
    have hm:n=m+1:=by omega
    subst hm
    have hr':(Jm ((c::r).take (m+1))).2=0:=by simpa using hr
    have:=ql (q:=(c::r).take (m+1)) (by rw [hc];rfl) (by simp) hr'
    unfold tx
    rw [if_pos rfl]
    exact this
  rw [if_neg c3] at he hn
  simp only [if_neg c3]
  unfold Xw at he hn ⊢
  split at hn
  ·rename_i h2
   simp only [if_pos h2]
   have hn':(2:Int)=n:=hn
   have:n=2:=by omega
   subst this
   rfl
  rename_i h2
  rw [if_neg h2] at he
  simp only [if_neg h2]
  split at hn
  ·rename_i h3
   simp only [if_pos h3]
   have hn':(1:Int)=n:=hn
   have:n=1:=by omega
   subst this
   rfl
  rename_i h3
  rw [if_neg h3] at he
  exact absurd he (show ¬(7:Int)=0 by decide)
/-! What is printed of columns, word by word. -/
structure ColOk (x:Col):Prop where
 name:Dk x.name=true
 lo:1≤x.kind
 hi:x.kind≤3
def ktT (t:Tok):Int×Str:=(t.kind,t.text)
def Vn (s:Str):Int:=if Cl 1==s then 1 else if Cl 2==s then 2 else if Cl 3==s then 3 else 0
structure KindUpto (s:Str) (x:Nat):Prop where
 le:x≤3
 a:1≤x→(Cl 1==s)=false
 b:2≤x→(Cl 2==s)=false
 c:3≤x→(Cl 3==s)=false
theorem AGc {s:Str} {x:Nat} (h:KindUpto s x) (hx:x<3) (e:(Cl ((x:Int)+1)==s)=true):Vn s=(x:Int)+1:=by
 have h3:x=0∨x=1∨x=2:=by omega
 unfold Vn
 rcases h3 with rfl|rfl|rfl
 ·have e:(Cl 1==s)=true:=e
  rw [if_pos e];rfl
 ·have e:(Cl 2==s)=true:=e
  rw [if_neg (by rw [h.a (by omega)];simp),if_pos e];rfl
 have e:(Cl 3==s)=true:=e
 rw [if_neg (by rw [h.a (by omega)];simp),if_neg (by rw [h.b (by omega)];simp),if_pos e];rfl
theorem AGd {s:Str} {x:Nat} (h:KindUpto s x) (hx:x<3) (e:(Cl ((x:Int)+1)==s)=false):KindUpto s (x+1):=by
 have h3:x=0∨x=1∨x=2:=by omega
 rcases h3 with rfl|rfl|rfl
 ·exact ⟨by omega,fun _=>e,fun h=>by omega,fun h=>by omega⟩
 ·exact ⟨by omega,fun _=>h.a (by omega),fun _=>e,fun h=>by omega⟩
 exact ⟨by omega,fun _=>h.a (by omega),fun _=>h.b (by omega),fun _=>e⟩
theorem AGe {s:Str} {x:Nat} (h:KindUpto s x) (hx:3≤x):Vn s=0:=by
 unfold Vn
 rw [if_neg (by rw [h.a (by omega)];simp),if_neg (by rw [h.b (by omega)];simp),if_neg (by rw [h.c (by omega)];simp)]
theorem APt (s:Str) (Hp:List AObj):AFun Tryz.prog 314 [Ae s] Hp (A5 (Vn s)):=by
 refine Af [.tmp 2] [0] Tryz.func314 Tryz.ntmps314 (fun d=>?_)
 refine k8 ?_;refine Ln ?_
 refine B7 (α:=Nat) (fun x=>⟨13,A7 0 (Ae s) (A7 3 (A5 ((x:Nat)+1)) (fun _=>.any)),Hp,[],[],none⟩) (fun x=>KindUpto s x) (fun x=>3-x) (0) ⟨by omega,fun h=>by omega,fun h=>by omega,fun h=>by omega⟩ (G8 _) rfl (fun x hx=>?_)
 refine Z8 ?_;refine A2 [0,3,5] ?_
 refine A3 (fun ht5=>?_) (fun ht5=>?_)
 ·have hx3:x<3:=by simp at ht5;omega
  refine Z50 ?_;refine Z2 ?_;refine Aa Tryz.call76 (c76 _ _) ?_;refine Z0 ?_;refine A2 [0,3,11] ?_
  refine A3 (fun ht11=>?_) (fun ht11=>?_)
  ·refine gj ?_;refine Z45 ?_;exact A8 (Ah A6) ⟨by rw [AGc hx hx3 (by simpa using ht11)],rfl⟩
  refine wq ?_;exact Bb (x+1) (AGd hx hx3 (by simpa using ht11)) (by omega) (Cg (by simp))
 have hx3:3≤x:=by simp at ht5;omega
 refine ol ?_;exact A8 (Ah A6) ⟨by rw [AGe hx hx3],rfl⟩

theorem wrap_u64 {n:Int} (h1:0≤n) (h2:n<18446744073709551616):IntKind.u64.wrap n=n:=by
 have e1:(2 ^ IntKind.u64.bits:Int)=18446744073709551616:=rfl
 have e3:IntKind.u64.signed=false:=rfl
 unfold IntKind.wrap
 simp only [e1,e3,Ei]
 simp
 omega
theorem tz:∀t:Str,t.length≤(Qy t).length
 | []=>Ak _
 | c::r=>by
  have:=tz r
  rw [Un,Ai,Aw]
  have h:1≤(l3 c).length:=by unfold l3;split<;>simp
  omega
theorem AGf (t:Tok):t.text.length≤(tx t).length:=by
 unfold tx
 split
 ·have:=tz t.text
  simp only [Ai,Aw,Az]
  omega
 exact Ak _
/-- Words with an end. -/
structure TokEnd (l:List Tok):Prop where
 split:∃L z,l=L++[z]∧z.kind=0∧∀t∈L,t.kind≠0
 texts:∀t∈l,t.text.length≤1048576
theorem TokEnd.pos {l:List Tok} (h:TokEnd l):1≤l.length:=by
 obtain ⟨L,z,rfl,_,_⟩:=h.split
 simp
theorem TokEnd.text {l:List Tok} (h:TokEnd l) (i:Nat):(Ao l i).text.length≤1048576:=by
 unfold Ao
 rcases Bv i l.length with hi|hi
 ·rw [C9,Ab hi]
  exact h.texts _ (B1 hi)
 rw [C9,Ho hi]
 exact oz
theorem AGg (s:Str) (he:(D0 s).2.2.2=0):(D0 s).1≠0:=by
 revert he
 unfold D0 Rr gx N1 Xw
 repeat' split
 all_goals simp
theorem l5:∀(f q:Nat) (s:Str),(∀it∈Kg f q s,it.2=0)→∀it∈Kg f q s,it.1.kind≠0∧it.1.text.length≤s.length
 | 0,_,_,_,it,hm=>by cases hm
 | f+1,q,s,h,it,hm=>by
  by_cases hs:s=[]
  ·subst hs;cases hm
  obtain ⟨n,h1,h2⟩:=kz (f:=f) (q:=q) hs
  rw [h1] at hm h
  have h0:(D0 s).2.2.2=0:=h (⟨(D0 s).1,(D0 s).2.1,q⟩,(D0 s).2.2.2) (Hu ..)
  obtain ⟨hn,hn1,hn2⟩:=h2 h0
  rw [if_pos h0] at hm h
  rcases B5.1 hm with rfl|hm
  ·refine ⟨AGg s h0,?_⟩
   have hs1:1≤s.length:=by cases s with|nil=>exact absurd rfl hs|cons c r=>simp
   have:=qm (p:=q) hs1 h0 hn
   have h3:=AGf ⟨(D0 s).1,(D0 s).2.1,q⟩
   rw [this] at h3
   simp only [Ci] at h3
   show (D0 s).2.1.length≤s.length
   omega
  have:=l5 f _ _ (fun it hit=>h it (Kr _ hit)) it hm
  simp only [I1] at this
  exact ⟨this.1,by omega⟩
theorem AGh {s:Str} (h:(Ic s).2.1=0):TokEnd (Ic s).1:=by
 by_cases h4:4000<s.length
 ·unfold Ic at h
  rw [if_pos h4] at h
  exact ABj
 have e:Ic s=((Cy s).map (·.1)++[⟨0,[],s.length⟩],0,0)∧∀it∈Cy s,it.2=0:=by
  unfold Ic at h ⊢
  rw [if_neg h4] at h ⊢
  cases hf:(Cy s).find? (fun it=>it.2 != 0) with
  | none =>
   rw [M2] at hf
   exact ⟨rfl,fun it hit=>by simpa using hf it hit⟩
  | some it =>
   rw [hf] at h
   have:=ep hf
   simp only [bne_iff_ne] at this
   exact absurd h this
 obtain ⟨e,hz⟩:=e
 have hnz:=l5 _ _ _ hz
 rw [e]
 refine ⟨⟨_,_,rfl,rfl,fun t ht=>?_⟩,fun t ht=>?_⟩
 ·obtain ⟨it,hit,rfl⟩:=Cr.1 ht
  exact (hnz it hit).1
 rcases E7.1 ht with ht|ht
 ·obtain ⟨it,hit,rfl⟩:=Cr.1 ht
  have:=(hnz it hit).2
  simp only [I1] at this
  omega
 have e:t=⟨0,[],s.length⟩:=by simpa using ht
 subst e
 exact oz
/-! What is printed of a schema is read. -/
/-- What goes together: names of their own. -/
theorem ACk {c:List Col} (h:Hw c=true):(∀y∈c,ColOk y)∧(c.map (·.name)).Nodup:=by
 rw [colsM_true] at h
 have hat:∀(j:Nat) (y:Col),c[j]? = some y→Md y.name=true∧1≤y.kind∧y.kind≤3∧B6 y.name c=(j:Int):=by
  intro j y hj
  have:=h j y hj
  unfold Sv at this
  simp only [Db,Ej,Dh,decide_eq_false_iff_not,bne_eq_false_iff_eq] at this
  obtain ⟨⟨⟨h1,h2⟩,h3⟩,h4⟩:=this
  exact ⟨h1,by omega,by omega,h4⟩
 refine ⟨fun y hy=>?_,?_⟩
 ·obtain ⟨j,hj⟩:=Cm hy
  obtain ⟨h1,h2,h3,_⟩:=hat j y hj
  exact ⟨by rw [Fw];exact h1,h2,h3⟩
 show List.Pairwise _ _
 rw [so]
 intro i j hi hj hij e
 simp only [Aj] at hi hj
 simp only [Nz] at e
 have e1:=(hat i c[i] (Ab hi)).2.2.2
 have e2:=(hat j c[j] (Ab hj)).2.2.2
 rw [e] at e1
 omega
theorem l6 {c:List Col} (h:Y5 c=true):c.length≤12∧(∀y∈c,ColOk y)∧(c.map (·.name)).Nodup:=by
 rw [Nn] at h
 unfold Ct at h
 rw [As] at h
 obtain ⟨h1,h2⟩:=h
 have:=of_decide_eq_true h1
 exact ⟨by omega,ACk h2⟩
theorem u6 {c:List Col} (h:N0 c=false):OkCols c:=by
 unfold N0 at h
 simp only [Ej,decide_eq_false_iff_not,L4,decide_eq_true_eq] at h
 refine ⟨by omega,fun y hy=>?_⟩
 have:=h.2 y hy
 omega
def Jp {α:Type} [BEq α] (v:α) (l:List α):Int:=match l.findIdx? (·==v) with|some i=>i|none => -1
theorem ACl {α:Type} [BEq α] [LawfulBEq α] {v:α} {l:List α} {x:Nat} (h:x<l.length) (h1:l[x]=v) (h2:∀(j:Nat) (y:α),j<x→l[j]? = some y→¬(y=v)):Jp v l=x:=by
 have:l.findIdx? (·==v)=some x:=by
  rw [L7]
  exact ⟨h,by simpa using h1,fun j hj=>by simpa using h2 j l[j] hj (Ab _)⟩
 simp [Jp,this]
theorem ACm {α:Type} [BEq α] [LawfulBEq α] {v:α} {l:List α} (h:∀(j:Nat) (y:α),l[j]? = some y→¬(y=v)):Jp v l = -1:=by
 have:l.findIdx? (·==v)=none:=by
  rw [P1]
  intro y hy
  obtain ⟨j,hj⟩:=Cm hy
  simpa using h j y hj
 simp [Jp,this]
theorem ic {α:Type} [BEq α] [LawfulBEq α] (v:α) (l:List α):decide (0≤Jp v l)=l.contains v:=by
 unfold Jp
 cases h:l.findIdx? (·==v) with
 | none =>
  rw [P1] at h
  have:l.contains v=false:=by
   rw [Ik]
   intro hc
   have:=h v (by simpa using hc)
   simp at this
  rw [this];rfl
 | some i =>
  rw [L7] at h
  obtain ⟨hi,e,_⟩:=h
  have:l.contains v=true:=by
   have:l[i]=v:=by simpa using e
   rw [←this]
   simp
  rw [this]
  simp only [decide_eq_true_eq]
  omega
theorem c70 (l:List Str) (v:Str) (hl:l.length≤1048576) (Hp:List AObj):AFun Tryz.prog 70 [Gq l,Ae v] Hp (A5 (Jp v l)):=by
 refine Af [.tmp 4] [0,1] Tryz.func70 Tryz.ntmps70 (fun d=>?_)
 refine x9 ?_
 refine B7 (α:=Nat) (fun x=>⟨19,A7 0 (Gq l) (A7 1 (Ae v) (A7 7 (A5 l.length) (A7 8 (A5 (x:Nat)) (fun _=>.any)))),Hp,[],[],none⟩) (fun x=>x≤l.length∧∀(j:Nat) (y:Str),j<x→l[j]? = some y→¬(y=v)) (fun x=>l.length-x) (0) (by simp) (Bo (by simp)) rfl (fun x hx=>?_)
 refine wo ?_
 refine Dm (fun ht9=>?_) (fun ht9=>?_)
 ·have hlt:x<l.length:=by simpa using ht9
  refine x8 ?_
  refine A4 (h:=Ac (x) (Ae l[x]) (fun _=>Ax hlt)) (hr:=?_)
  refine Z0 ?_;refine xb ?_
  refine A3 (fun ht16=>?_) (fun ht16=>?_)
  ·refine AB6 ?_;refine Z45 ?_;exact A8 (Ah A6) ⟨by rw [ACl hlt (by simpa using (Eq.symm (by simpa using ht16):l[x]=v)) hx.2],rfl⟩
  refine Z97 ?_;refine A2 [0,1,7,8] ?_;exact Bb (x+1) ⟨hlt,Cc hlt hx.2 (fun e=>by rw [e] at ht16;simp at ht16)⟩ (by omega) (Cg rfl)
 refine Z28 ?_;refine Z86 ?_;exact A8 (Ah A6) ⟨by rw [ACm (Ng (by simp at ht9;omega) hx.2)],rfl⟩

theorem c96 (l:List Str) (v:Str) (hl:l.length≤1048576) (Hp:List AObj):AFun Tryz.prog 96 [Gq l,Ae v] Hp (Bk (l.contains v)):=by
 refine Af [.tmp 4] [0,1] Tryz.func96 Tryz.ntmps96 (fun d=>?_)
 refine Z61 ?_;refine Z1 ?_;refine Aa Tryz.call70 (c70 l v hl _) ?_;refine Z0 ?_;refine Z26 ?_;exact A8 (Ah A6) ⟨by rw [ic],rfl⟩

theorem xz {n k:Nat} {o:Bool} {l:List Col} {z:Col}:Low n (.slice o k (l.map Bq++[Bq z])):=by
 refine .slice _ _ _ (fun y hy=>?_)
 have key:∀c:Col,∀w∈(Bq c).cells,Low n w:=by
  intro c w hw
  have hw':w∈[AV.v (sv c.name),AV.v (.int .i64 c.kind)]:=hw
  simp only [B5,F5,or_false] at hw'
  rcases hw' with rfl|rfl
  ·exact .v _
  exact .v _
 rcases E7.1 hy with hy|hy
 ·obtain ⟨a,_,rfl⟩:=Cr.1 hy
  exact key a
 rw [Bl.1 hy]
 exact key z
def Iz (c:List Col) (take:List Str) (j:Nat) (nm:Str):Bool := !(decide (B6 nm c<0) || (Jp nm take != (j:Int)))
def Ht (c:List Col) (take:List Str):Bool:=take.zipIdx.all fun x=>Iz c take x.2 x.1
theorem takenM_true {c:List Col} {take:List Str}:Ht c take=true↔∀(j:Nat) (y:Str),take[j]? = some y→Iz c take j y=true:=Rp
def Jq (c:List Col) (x:Nat) (y:Col):Bool := !((!Md y.name) || (B6 y.name c != (x:Int)))
def J2 (c:List Col):Bool:=c.zipIdx.all fun x=>Jq c x.2 x.1
theorem namedC_true {c:List Col}:J2 c=true↔∀(j:Nat) (y:Col),c[j]? = some y→Jq c j y=true:=Rp
def D6 (c:List Col) (take:List Str):List Col:=c.filter fun y => !take.contains y.name
theorem u7 {c:List Col} {take:List Str} {k:Nat} {y:Col} (h:c[k]? = some y) (hn:take.contains y.name=false):D6 (c.take (k+1)) take=D6 (c.take k) take++[y]:=by
 unfold D6
 have e:c.take (k+1)=c.take k++[y]:=by rw [Wi,h];rfl
 have hm:¬y.name∈take:=by simpa using hn
 rw [e,eo]
 simp [L6,hm]
theorem cj {c:List Col} {take:List Str} {k:Nat} {y:Col} (h:c[k]? = some y) (hn:take.contains y.name=true):D6 (c.take (k+1)) take=D6 (c.take k) take:=by
 unfold D6
 have e:c.take (k+1)=c.take k++[y]:=by rw [Wi,h];rfl
 have hm:y.name∈take:=by simpa using hn
 rw [e,eo]
 simp [L6,hm]
theorem He (c:List Col) (take:List Str):(D6 c take).length≤c.length:=sj _ _
def Da (c:List Col) (take:List Str) (give:List Col):List Col×Int:=
 if Ct c=false then ([],1) else if Ht c take=false then ([],9) else if J2 (D6 c take++give)=false then ([],9)
 else if Hw (D6 c take++give)=false then ([],10) else if 12<(D6 c take++give).length then ([],3) else (D6 c take++give,0)
theorem ACn {c:List Col} {take:List Str} {give:List Col} (h:Ct c=false):Da c take give=([],1):=by unfold Da;rw [if_pos h]
theorem qn {c:List Col} {take:List Str} {give:List Col} (h:Ct c=true) (h2:Ht c take=false):Da c take give=([],9):=by unfold Da;rw [if_neg (by rw [h];simp),if_pos h2]
theorem qo {c:List Col} {take:List Str} {give out:List Col} (h:Ct c=true) (h2:Ht c take=true) (ho:D6 c take++give=out) (h3:J2 out=false):Da c take give=([],9):=by
 unfold Da;rw [ho,if_neg (by rw [h];simp),if_neg (by rw [h2];simp),if_pos h3]
theorem qq {c:List Col} {take:List Str} {give out:List Col} (h:Ct c=true) (h2:Ht c take=true) (ho:D6 c take++give=out) (h3:J2 out=true) (h4:Hw out=false):Da c take give=([],10):=by
 unfold Da;rw [ho,if_neg (by rw [h];simp),if_neg (by rw [h2];simp),if_neg (by rw [h3];simp),if_pos h4]
theorem qr {c:List Col} {take:List Str} {give out:List Col} (h:Ct c=true) (h2:Ht c take=true) (ho:D6 c take++give=out) (h3:J2 out=true) (h4:Hw out=true) (h5:12<out.length):Da c take give=([],3):=by
 unfold Da;rw [ho,if_neg (by rw [h];simp),if_neg (by rw [h2];simp),if_neg (by rw [h3];simp),if_neg (by rw [h4];simp),if_pos h5]
theorem qt {c:List Col} {take:List Str} {give out:List Col} (h:Ct c=true) (h2:Ht c take=true) (ho:D6 c take++give=out) (h3:J2 out=true) (h4:Hw out=true) (h5:¬12<out.length):Da c take give=(out,0):=by
 unfold Da;rw [ho,if_neg (by rw [h];simp),if_neg (by rw [h2];simp),if_neg (by rw [h3];simp),if_neg (by rw [h4];simp),if_neg h5]
theorem No {c:List Col} (h:Ct c=true):c.length≤12:=by
 unfold Ct at h
 simp at h
 omega
theorem qu {c give:List Col} {take:List Str} {out:List Col} (hc:OkCols c) (h:Ct c=true) (hg:OkCols give) (hg2:give.length≤1000000) (ho:D6 c take++give=out):OkCols out:=by
 subst ho
 have h1:=He c take
 have h2:=No h
 refine ⟨by simp only [Ai];omega,fun y hy=>?_⟩
 rcases E7.1 hy with hy|hy
 ·exact hc.2 y ((Se.1 hy).1)
 exact hg.2 y hy
theorem APu (c:List Col) (hc:OkCols c) (take:List Str) (ht:take.length≤1048576) (Hp:List AObj):AFun Tryz.prog 241 [Am c,Gq take] Hp (Bk (Ht c take)):=by
 refine Af [.tmp 4] [0,1] Tryz.func241 Tryz.ntmps241 (fun d=>?_)
 refine Z61 ?_;refine Z36 ?_;refine A2 [0,1,7,8,9] ?_
 refine B7 (α:=Nat) (fun x=>⟨26,A7 0 (Am c) (A7 1 (Gq take) (A7 7 (Gq take) (A7 8 (A5 take.length) (A7 9 (A5 (x:Nat)) (fun _=>.any))))),Hp,[],[],none⟩) (fun x=>x≤take.length∧∀(j:Nat) (y:Str),j<x→take[j]? = some y→Iz c take j y=true) (fun x=>take.length-x) (0) (by simp) (Bo (by simp)) rfl (fun x hx=>?_)
 refine Z2 ?_;refine A2 [0,1,7,8,9,10] ?_
 refine Dm (fun ht10=>?_) (fun ht10=>?_)
 ·have hlt:x<take.length:=by simpa using ht10
  refine Pl ?_
  refine A4 (h:=Ac (x) (Ae take[x]) (fun _=>Ax hlt)) (hr:=?_)
  refine Z22 ?_;refine A2 [0,1,5,6,7,8,9] ?_;refine Z1 ?_;refine Aa Tryz.call58 (c58 c hc _ _) ?_;refine Z47 ?_;refine Bt Tryz.call70 (fun hB=>c70 take _ ht _) ?_;refine Qw ?_;refine A2 [0,1,7,8,9,24] ?_
  refine A3 (fun ht24=>?_) (fun ht24=>?_)
  ·refine Z86 ?_;refine Z45 ?_
   exact A8 (Ah A6) ⟨by rw [show Ht c take=false from Ik.2 fun h=>by have:=takenM_true.1 h x take[x] (Ab hlt);unfold Iz at this;rw [ht24] at this;cases this],rfl⟩
  refine Z97 ?_;refine A2 [0,1,7,8,9] ?_;exact Bb (x+1) ⟨hlt,Ke hlt hx.2 (by unfold Iz;rw [ht24];rfl)⟩ (by omega) (Cg rfl)
 refine Z28 ?_;refine Z86 ?_;exact A8 (Ah A6) ⟨by rw [takenM_true.2 (Lx (by simp at ht10;omega) hx.2)],rfl⟩

theorem APv (c:List Col) (hc:OkCols c) (Hp:List AObj):AFun Tryz.prog 243 [Am c] Hp (Bk (J2 c)):=by
 refine Af [.tmp 2] [0] Tryz.func243 Tryz.ntmps243 (fun d=>?_)
 refine k9 ?_;refine A2 [0,5,6,7] ?_
 refine B7 (α:=Nat) (fun x=>⟨25,A7 0 (Am c) (A7 5 (Am c) (A7 6 (A5 c.length) (A7 7 (A5 (x:Nat)) (fun _=>.any)))),Hp,[],[],none⟩) (fun x=>x≤c.length∧∀(j:Nat) (y:Col),j<x→c[j]? = some y→Jq c j y=true) (fun x=>c.length-x) (0) (by simp) (Bo (by simp)) rfl (fun x hx=>?_)
 refine Z2 ?_;refine A2 [0,5,6,7,8] ?_
 refine Dm (fun ht8=>?_) (fun ht8=>?_)
 ·have hlt:x<c.length:=by simpa using ht8
  have hcl:=hc.len
  refine Pl ?_
  refine A4 (h:=Ac (x) (Bq c[x]) (fun _=>Ax hlt)) (hr:=?_)
  refine gi ?_;refine A2 [0,3,4,5,6,7] ?_;refine Z1 ?_;refine Aa Tryz.call40 (c40 _ (hc.names _ (B1 hlt)) _) ?_;refine Z0 ?_;refine Z39 ?_;refine Bt Tryz.call58 (fun hB=>c58 c hc _ _) ?_;refine Qw ?_;refine A2 [0,5,6,7,23] ?_
  refine A3 (fun ht23=>?_) (fun ht23=>?_)
  ·rw [Fw] at ht23
   refine gg ?_
   exact A8 (Ah A6) ⟨by rw [show J2 c=false from Ik.2 fun h=>by have:=namedC_true.1 h x c[x] (Ab hlt);unfold Jq at this;rw [ht23] at this;cases this],rfl⟩
  rw [Fw] at ht23
  refine Z97 ?_;refine A2 [0,5,6,7] ?_
  refine Bb (x+1) ⟨hlt,Ke hlt hx.2 (by unfold Jq;rw [ht23];rfl)⟩ (by omega) ?_
  exact D4 (own:=[]) (fun _=>.refl _) (by repeat (first|exact Be|refine Bd (by simp [or_imp,forall_and]) ?_)) (by simp) (by simp)
 refine Z28 ?_;refine Z25 ?_;exact A8 (Ah A6) ⟨by rw [namedC_true.2 (Lx (by simp at ht8;omega) hx.2)],rfl⟩

theorem APw (c:List Col) (take:List Str) (Hp:List AObj):AFun Tryz.prog 242 [Am c,Gq take] Hp (.fn (.func 286) [] [.ro [Am c],.ro [Gq take]]):=by
 refine Af [.tmp 4] [0,1] Tryz.func242 Tryz.ntmps242 (fun d=>?_)
 refine Z17 ?_;refine Lo ?_;refine ABi ?_;exact o9

theorem APx (l:Nat) (c:List Col) (take:List Str) (hc:c.length≤1048576) (ht:take.length≤1048576) (U:Nat→List AObj) (hlen:∀k,(U k).length=(U 0).length) (hll:l<(U 0).length)
  (hlw:∀k,∀x∈U k,ObjLow (U 0).length x) (hn:∀k y,c[k]? = some y→take.contains y.name=true→U (k+1)=U k)
  (hy:∀k y X,c[k]? = some y→take.contains y.name=false→AYield Tryz.prog l [Bq y] (U k++X) (fun b H'=>b=true∧H'=U (k+1)++X)):ACall Tryz.prog 286 [.yield l,.ro [Am c],.ro [Gq take]] (U 0) (fun _ H'=>H'=U c.length):=by
 refine Af [] [0,1,2] Tryz.func286 Tryz.ntmps286 (fun d=>?_)
 refine Z17 ?_;refine A2 [0,2,6,7,8] ?_
 refine B7 (α:=Nat) (fun x=>⟨24,A7 0 (.yield l) (A7 2 (.ro [Gq take]) (A7 6 (Am c) (A7 7 (A5 c.length) (A7 8 (A5 (x:Nat)) (fun _=>.any))))),U x,[],[],none⟩) (fun x=>x≤c.length) (fun x=>c.length-x) (0) (Ar _) (Bo (by simp)) rfl (fun x hx=>?_)
 refine Z2 ?_;refine A2 [0,2,6,7,8,9] ?_
 refine Dm (fun ht9=>?_) (fun ht9=>?_)
 ·have hlt:x<c.length:=by simpa using ht9
  refine Qr ?_
  refine A4 (h:=Ac (x) (Bq c[x]) (fun _=>Ax hlt)) (hr:=?_)
  refine Rn ?_;refine A2 [0,2,5,6,7,8] ?_;refine Z17 ?_;refine Aa Tryz.call96 (c96 take _ ht _) ?_;refine Z47 ?_
  refine G.yield (l:=l) (C:=((!take.contains c[x].name)==true)) (args:=[Bq c[x]]) (fun hC=>hy x c[x] _ (Ab hlt) (by simpa using hC)) ?_
  intro b V O hV hb hb0
  have hVO:V=U (x+1)∧O=[AObj.cells 41 [Ae c[x].name,A5 c[x].kind]]∧(take.contains c[x].name=false→b=true):=by
   cases hcn:take.contains c[x].name with
   | true =>
    obtain ⟨h1,h2⟩:=hb0 (by rw [hcn];rfl)
    exact ⟨h1.trans (hn x c[x] (Ab hlt) hcn).symm,h2,fun e=>by cases e⟩
   | false =>
    obtain ⟨h1,h2⟩:=hb (by rw [hcn];rfl)
    have h3:=Rd h2 (by rw [hV,hlen x,hlen (x+1)])
    exact ⟨h3.1,h3.2,fun _=>h1⟩
  obtain ⟨rfl,rfl,hbt⟩:=hVO
  refine ⟨fun _=>by rw [hlen (x+1)];exact hlw (x+1),fun o ho=>(by cases ho),?_⟩
  refine Qu ?_;refine A2 [0,2,6,7,8,22] ?_
  refine A3 (fun ht22=>?_) (fun ht22=>?_)
  ·exfalso
   have hcf:take.contains c[x].name=false:=by simp at ht22 ⊢;exact ht22.1
   rw [hbt hcf] at ht22
   simp at ht22
  refine Z97 ?_;refine A2 [0,2,6,7,8] ?_;refine gm ?_
  exact D4 (own:=[]) (fun _=>.refl _) (by repeat (first|exact Be|refine Bd (by first|(simp [or_imp,forall_and];done)|(have:=hlen (x+1);simp;omega)) ?_)) (by simp) (by simp)
 have hxe:x=c.length:=by simp at ht9;omega
 exact AMn

theorem l7 {c:List Col} {take:List Str} {x:Nat} (hlt:x<take.length) (h:Iz c take x take[x]=false):Ht c take=false:=
 Ik.2 fun h'=>by rw [takenM_true.1 h' x take[x] (Ab hlt)] at h;cases h
theorem qv {α:Type} [BEq α] [LawfulBEq α] {v:α} {l:List α} {k x:Nat} (hlk:k<l.length) (hkx:k<x) (h:l[k]=v):(Jp v l != (x:Int))=true:=by
 rw [bne_iff_ne]
 intro e
 unfold Jp at e
 cases hf:l.findIdx? (·==v) with
 | none=>rw [hf] at e;exact absurd (show (-1:Int)=(x:Int) from e) (by omega)
 | some i =>
  rw [hf] at e
  have hix:i=x:=by simp at e;omega
  subst hix
  rw [L7] at hf
  obtain ⟨_,_,h3⟩:=hf
  have:=h3 k hkx
  rw [h] at this
  simp at this
theorem ACo {α:Type} {p:α→Bool} {l:List α} {x:Nat} (h:x<l.length):(l.take (x+1)).all p=((l.take x).all p&&p l[x]):=by
 have e:l.take (x+1)=l.take x++[l[x]]:=by rw [Wi,Ab h];rfl
 rw [e,List.all_append]
 simp
theorem AJq (l:List Str) (n:Str):(l.all fun t => !(t==n)) = !l.contains n:=by
 induction l with
 | nil=>rfl
 | cons x r ih =>
  rw [List.all_cons,ih,List.contains_cons,Bool.not_or]
  congr 2
  exact Bool.beq_comm ..
def Ry (y:Col):Bool := !(decide (y.kind<1) || decide ((3:Int)<y.kind))
theorem l8 (c:List Col) (j:Nat) (y:Col):Sv c j y=(Jq c j y&&Ry y):=by
 unfold Sv Jq Ry
 cases Md y.name<;>cases decide (y.kind<1)<;>cases decide ((3:Int)<y.kind)<;>cases (B6 y.name c != (j:Int))<;>rfl
theorem qw {c:List Col} (h:J2 c=true) (hk:∀(j:Nat) (y:Col),c[j]? = some y→Ry y=true):Hw c=true:=
 colsM_true.2 fun j y hj=>by rw [l8,namedC_true.1 h j y hj,hk j y hj];rfl
theorem ie {c:List Col} {x:Nat} (hlt:x<c.length) (hk:Ry c[x]=false):Hw c=false:=
 Ik.2 fun h=>by have:=colsM_true.1 h x c[x] (Ab hlt);rw [l8,hk,Bool.and_false] at this;cases this
theorem ACp {c:List Col} {x:Nat} (hlt:x<c.length) (hk:Jq c x c[x]=false):J2 c=false:=
 Ik.2 fun h=>by rw [namedC_true.1 h x c[x] (Ab hlt)] at hk;cases hk
theorem APy (c:List Col) (hc:OkCols c) (take:List Str) (ht:take.length≤1048576) (give:List Col) (hg:OkCols give) (hg2:give.length≤1000000) (Hp:List AObj):AFun Tryz.prog 108 [Am c,Gq take,Am give] Hp (.tup [Am (Da c take give).1,A5 (Da c take give).2]):=by
 refine Af [.tmp 6,.tmp 7] [0,1,2] Tryz.func108 Tryz.ntmps108 (fun d=>?_)
 refine Z1 ?_;refine Wb ?_;refine Z32 ?_;refine Aa Tryz.call24 (c24 c hc _) ?_;refine A4 ?_;refine A2 [0,1,2,18] ?_
 refine A3 (fun ht18=>?_) (fun ht18=>?_)
 ·have hr:Ct c=false:=by simpa using ht18
  refine Xk ?_;exact ALk
 have hr:Ct c=true:=by simpa using ht18
 refine Rm ?_;refine A2 [0,1,2,8] ?_
 refine B7 (α:=Nat) (fun x=>⟨131,A7 0 (Am c) (A7 1 (Gq take) (A7 2 (Am give) (A7 8 (A5 (x:Nat)) (fun _=>.any)))),Hp,[],[],none⟩) (fun x=>x≤take.length∧∀(j:Nat) (y:Str),j<x→take[j]? = some y→Iz c take j y=true) (fun x=>take.length-x) (0) (by simp) (G8 _) rfl (fun x hx=>?_)
 refine Z60 ?_;refine A2 [0,1,2,8,22] ?_
 refine A3 (fun ht22=>?_) (fun ht22=>?_)
 ·have hlt:x<take.length:=by simpa using ht22
  refine Z50 ?_;refine Z36 ?_
  refine A4 (h:=Ac (x) (Ae take[x]) (fun _=>Ax hlt)) (hr:=?_)
  refine A4 ?_;refine Aa Tryz.call25 (c25 c hc _ _) ?_;refine A4 ?_;refine A2 [0,1,2,8,31] ?_
  refine A3 (fun ht31=>?_) (fun ht31=>?_)
  ·have hkn:Ht c take=false:=l7 hlt (by unfold Iz;rw [ht31];rfl)
   refine Xk ?_;refine C4 ?_;exact ALi
  refine Lm ?_;refine A2 [0,1,2,8,9] ?_
  refine B7 (α:=Nat) (fun k=>⟨131,A7 0 (Am c) (A7 1 (Gq take) (A7 2 (Am give) (A7 8 (A5 (x:Nat)) (A7 9 (A5 (k:Nat)) (fun _=>.any))))),Hp,[],[],none⟩) (fun k=>k≤x∧∀(j:Nat) (y:Str),j<k→take[j]? = some y→¬(y=take[x])) (fun k=>x-k) (0) (by simp) (G8 _) rfl (fun k hk=>?_)
  refine Z36 ?_;refine A2 [0,1,2,8,9,34] ?_
  refine A3 (fun ht34=>?_) (fun ht34=>?_)
  ·have hkx:k<x:=by simpa using ht34
   have hlk:k<take.length:=by omega
   refine Z50 ?_;refine De [0,0,3,7,0,0,48,112,255] 8 An (by kernel_rfl) ?_;refine Z11 ?_
   refine Al (h:=Ac (k) (Ae take[k]) (fun _=>Ax hlk)) (hr:=?_)
   refine Z40 ?_
   refine Al (h:=Ac (x) (Ae take[x]) (fun _=>Ax hlt)) (hr:=?_)
   refine Al ?_;refine jv ?_;refine A2 [0,1,2,8,9,45] ?_
   refine A3 (fun ht45=>?_) (fun ht45=>?_)
   ·have hkn:Ht c take=false:=l7 hlt (by unfold Iz;rw [qv hlk hkx (by simpa using ht45)];simp)
    refine Xk ?_;refine Z33 ?_;exact ALi
   refine Z81 ?_;refine A2 [0,1,2,8,9] ?_;exact Bb (k+1) ⟨hkx,Cc (l:=take) hlk hk.2 (by simpa using ht45)⟩ (by omega) (Cg rfl)
  have hkx:k=x:=by simp at ht34;omega
  have htk:Iz c take x take[x]=true:=by
   unfold Iz
   rw [ht31,ACl hlt rfl (fun j y hj=>hk.2 j y (by omega))]
   simp
  refine x7 ?_;refine Xl ?_;refine A2 [0,1,2,8] ?_;exact Bb (x+1) ⟨hlt,Ke hlt hx.2 htk⟩ (by omega) (Cg rfl)
 have hk0:Ht c take=true:=takenM_true.2 (Lx (by simp at ht22;omega) hx.2)
 refine Z55 ?_;refine jt ?_;refine L1 ?_;refine A2 [0,1,2,10] ?_;refine Z32 ?_;refine A2 [0,1,2,10,11] ?_
 refine B7 (α:=Nat) (fun i=>⟨131,A7 0 (Am c) (A7 1 (Gq take) (A7 2 (Am give) (A7 10 (.slice true 2 ((D6 (c.take i) take).map Bq)) (A7 11 (A5 (i:Nat)) (fun _=>.any))))),Hp,[],[],none⟩) (fun i=>i≤c.length) (fun i=>c.length-i) (0) (Ar _) (Bo (by simp [D6])) rfl (fun i hi=>?_)
 refine Z60 ?_;refine A2 [0,1,2,10,11,50] ?_
 refine A3 (fun ht50=>?_) (fun ht50=>?_)
 ·have hli:i<c.length:=by simpa using ht50
  have hcl:=hc.len
  refine Z50 ?_;refine Z2 ?_;refine A2 [0,1,2,10,11,12] ?_;refine Z32 ?_;refine A2 [0,1,2,10,11,12,13] ?_
  refine B7 (α:=Nat) (fun m=>⟨131,A7 0 (Am c) (A7 1 (Gq take) (A7 2 (Am give) (A7 10 (.slice true 2 ((D6 (c.take i) take).map Bq)) (A7 11 (A5 (i:Nat)) (A7 12 (Bk ((take.take m).all fun t => !(t==c[i].name))) (A7 13 (A5 (m:Nat)) (fun _=>.any))))))),Hp,[],[],none⟩) (fun m=>m≤take.length) (fun m=>take.length-m) (0) (Ar _) (G8 _) rfl (fun m hm=>?_)
  refine Z60 ?_;refine A2 [0,1,2,10,11,12,13,56] ?_
  refine A3 (fun ht56=>?_) (fun ht56=>?_)
  ·have hlm:m<take.length:=by simpa using ht56
   refine Z50 ?_;refine gb [0,1,3,3,15,31,3,3,195,451,963,2047,4095,8191] 11 An (by kernel_rfl) ?_;refine Z11 ?_;refine Z72 ?_
   refine Ft (h:=Ac (m) (Ae take[m]) (fun _=>Ax hlm)) (hr:=?_)
   refine ag ?_
   refine Ft (h:=Ac (i) (Bq c[i]) (fun _=>Ax hli)) (hr:=?_)
   refine Z72 ?_;refine Ey ?_;refine Bi ?_;refine Z0 ?_;refine A2 [0,1,2,10,11,12,13] ?_;refine Xl ?_;refine A2 [0,1,2,10,11,12,13] ?_;exact Bb (m+1) hlm (by omega) (Cg (by rw [ACo hlm];rfl))
  have hme:take.take m=take:=E8 (by simp at ht56;omega)
  rw [hme,AJq]
  refine Z55 ?_;refine Z2 ?_;refine A2 [0,1,2,10,11,72] ?_
  refine A3 (fun ht72=>?_) (fun ht72=>?_)
  ·have hst:=u7 (take:=take) (Ab hli) (by simpa using ht72)
   refine wm ?_;refine Z0 ?_
   refine A4 (h:=Ac (i) (Bq c[i]) (fun _=>Ax hli)) (hr:=?_)
   refine Z57 ?_
   refine Eu jU Tryz.type41 ?_ ?_ ?_
   ·have h1:=He (c.take i) take;have h2:=hc.len;simp only [Ci] at h1;simp [Tryz.t41];omega
   ·have h1:=He (c.take i) take;have h2:=hc.len;simp only [Ci] at h1;simp [Tryz.t41];omega
   refine L1 ?_;refine A2 [0,1,2,10,11] ?_;refine Xl ?_;exact AL7
  have hst:=cj (take:=take) (Ab hli) (by simpa using ht72)
  refine Z81 ?_;exact AL7
 have hie:c.take i=c:=E8 (by simp at ht50;omega)
 rw [hie]
 refine Z55 ?_;refine Fp ?_;refine R.moveT ?_;refine A4 ?_
 refine Eu jU Tryz.type41 ?_ ?_ ?_
 ·have h1:=He c take;have h2:=No hr;simp [Tryz.t41];omega
 ·have h1:=He c take;have h2:=No hr;simp [Tryz.t41];omega
 refine L1 ?_;refine A2 [10] ?_;refine Z67 ?_
 have e10:(D6 c take).map Bq++give.map Bq=(D6 c take++give).map Bq:=(By ..).symm
 rw [e10]
 generalize hout:D6 c take++give=out
 have ho:OkCols out:=qu hc hr hg hg2 hout
 have hol:=ho.len
 refine A4 ?_;refine A2 [10,14] ?_
 refine B7 (α:=Nat) (fun a=>⟨131,A7 10 (.slice true 2 (out.map Bq)) (A7 14 (A5 (a:Nat)) (fun _=>.any)),Hp,[],[],none⟩) (fun a=>a≤out.length∧∀(j:Nat) (y:Col),j<a→out[j]? = some y→Jq out j y=true) (fun a=>out.length-a) (0) (by simp) (G8 _) rfl (fun a ha=>?_)
 refine Z60 ?_;refine A2 [10,14,86] ?_
 refine A3 (fun ht86=>?_) (fun ht86=>?_)
 ·have hla:a<out.length:=by simpa using ht86
  refine Su ?_
  refine A4 (h:=Ac (a) (Bq out[a]) (fun _=>Ax hla)) (hr:=?_)
  refine Z0 ?_;refine Aa Tryz.call52 (c52 _ (ho.names _ (B1 hla)) _) ?_;refine Z0 ?_;refine Z39 ?_
  refine Bi (h:=Ac (a) (Bq out[a]) (fun _=>Ax hla)) (hr:=?_)
  refine Z7 ?_;refine Bt Tryz.call25 (fun hB=>c25 out ho _ _) ?_;refine Qw ?_;refine A2 [10,14,106] ?_
  refine A3 (fun ht106=>?_) (fun ht106=>?_)
  ·have hn:J2 out=false:=ACp hla (by unfold Jq;rw [ht106];rfl)
   refine Xk ?_;refine Z45 ?_;exact A8 (Ay A6 A6) ⟨by rw [qo hr hk0 hout hn];try rfl,rfl⟩
  refine Z81 ?_;refine A2 [10,14] ?_;exact Bb (a+1) ⟨hla,Ke hla ha.2 (by unfold Jq;rw [ht106];rfl)⟩ (by omega) (Cg rfl)
 have hn:J2 out=true:=namedC_true.2 (Lx (by simp at ht86;omega) ha.2)
 refine Z55 ?_;refine Z32 ?_;refine A2 [10,15] ?_
 refine B7 (α:=Nat) (fun b=>⟨131,A7 10 (.slice true 2 (out.map Bq)) (A7 15 (A5 (b:Nat)) (fun _=>.any)),Hp,[],[],none⟩) (fun b=>b≤out.length∧∀(j:Nat) (y:Col),j<b→out[j]? = some y→Ry y=true) (fun b=>out.length-b) (0) (by simp) (G8 _) rfl (fun b hb=>?_)
 refine Z60 ?_;refine A2 [10,15,110] ?_
 refine A3 (fun ht110=>?_) (fun ht110=>?_)
 ·have hlb:b<out.length:=by simpa using ht110
  refine Su ?_
  refine A4 (h:=Ac (b) (Bq out[b]) (fun _=>Ax hlb)) (hr:=?_)
  refine Z0 ?_;refine Z47 ?_
  refine Bi (h:=Ac (b) (Bq out[b]) (fun _=>Ax hlb)) (hr:=?_)
  refine Sr ?_;refine A2 [10,15,126] ?_
  refine A3 (fun ht126=>?_) (fun ht126=>?_)
  ·have hq:Hw out=false:=ie hlb (by unfold Ry;rw [ht126];rfl)
   refine Xk ?_;refine Z45 ?_;exact A8 (Ay A6 A6) ⟨by rw [qq hr hk0 hout hn hq];try rfl,rfl⟩
  refine Z81 ?_;refine A2 [10,15] ?_;exact Bb (b+1) ⟨hlb,Cc hlb hb.2 (by unfold Ry;rw [ht126];rfl)⟩ (by omega) (Cg rfl)
 have hq:Hw out=true:=qw hn (Ng (by simp at ht110;omega) hb.2)
 refine Z55 ?_;refine Z36 ?_;refine A2 [10,129] ?_
 refine A3 (fun ht129=>?_) (fun ht129=>?_)
 ·have h12:12<out.length:=by simp at ht129;omega
  refine Xk ?_;refine C4 ?_;exact A8 (Ay A6 A6) ⟨by rw [qr hr hk0 hout hn hq h12];try rfl,rfl⟩
 have h12:¬12<out.length:=by simp at ht129;omega
 refine Z82 ?_;refine Z31 ?_;exact A8 (Ay A6 A6) ⟨by rw [qt hr hk0 hout hn hq h12];try rfl,rfl⟩

/-! What went and came, taken back: the same columns. -/
theorem ACq {α β:Type} {f:α→β} {c:List α} (h:(c.map f).Nodup) {i j:Nat} {y z:α} (hi:c[i]? = some y) (hj:c[j]? = some z) (e:f y=f z):i=j:=by
 obtain ⟨hi',ei⟩:=Ad.1 hi
 obtain ⟨hj',ej⟩:=Ad.1 hj
 have h':List.Pairwise (·≠·) (c.map f):=h
 rw [so] at h'
 rcases Nat.lt_trichotomy i j with hlt|rfl|hlt
 ·have h2:=h' i j (by simpa using hi') (by simpa using hj') hlt
  rw [Nz,Nz,ei,ej] at h2
  exact absurd e h2
 ·rfl
 have h2:=h' j i (by simpa using hj') (by simpa using hi') hlt
 rw [Nz,Nz,ei,ej] at h2
 exact absurd e.symm h2
theorem Yh {c:List Col} (h:(c.map (·.name)).Nodup) {j:Nat} {y:Col} (hj:c[j]? = some y):B6 y.name c=(j:Int):=by
 obtain ⟨hj',ej⟩:=Ad.1 hj
 exact Xq hj' (by rw [ej]) (fun k z hk hz e=>by have:=ACq h hz hj e;omega)
theorem find_mem {nm:Str} {c:List Col}:¬(B6 nm c<0)↔∃(j:Nat) (y:Col),c[j]? = some y∧y.name=nm∧B6 nm c=(j:Int):=by
 unfold B6
 cases h:c.findIdx? (fun y=>y.name==nm) with
 | none =>
  constructor
  ·intro h';exact absurd (by decide) h'
  rintro ⟨j,y,_,_,e⟩
  exact absurd (show (-1:Int)=(j:Int) from e) (by omega)
 | some i =>
  rw [L7] at h
  obtain ⟨hi,e,_⟩:=h
  constructor
  ·intro _;exact ⟨i,c[i],Ab hi,by simpa using e,rfl⟩
  intro _ h'
  have:(i:Int)<0:=h'
  omega
theorem AGi {c:List Col} {take:List Str} {give:List Col} (h:(Da c take give).2=0):Ct c=true∧Ht c take=true∧Hw (D6 c take++give)=true∧(D6 c take++give).length≤12∧Da c take give=(D6 c take++give,0):=by
 cases h1:Ct c with
 | false=>rw [ACn h1] at h;exact absurd (show (1:Int)=0 from h) (by decide)
 | true =>
  cases h2:Ht c take with
  | false=>rw [qn h1 h2] at h;exact absurd (show (9:Int)=0 from h) (by decide)
  | true =>
   cases h3:J2 (D6 c take++give) with
   | false=>rw [qo h1 h2 rfl h3] at h;exact absurd (show (9:Int)=0 from h) (by decide)
   | true =>
    cases h4:Hw (D6 c take++give) with
    | false=>rw [qq h1 h2 rfl h3 h4] at h;exact absurd (show (10:Int)=0 from h) (by decide)
    | true =>
     by_cases h5:12<(D6 c take++give).length
     ·rw [qr h1 h2 rfl h3 h4 h5] at h;exact absurd (show (3:Int)=0 from h) (by decide)
     exact ⟨rfl,rfl,rfl,by omega,qt h1 h2 rfl h3 h4 h5⟩
set_option maxRecDepth 8000
/-- What a node asks of its kids, and what it is. -/
structure Sign where
 kids:List Int
 own:Int
def Dn (s:Str):Sign:=if (s==[111,114]) || (s==[97,110,100]) then ⟨[3,3],3⟩ else if (((((s==[61]) || (s==[33,61])) || (s==[60])) || (s==[60,61])) || (s==[62])) || (s==[62,61]) then ⟨[-1, -1],3⟩ else if s==[38] then ⟨[2,2],2⟩ else ⟨[1,1],1⟩
def E9 (s:Str):Sign:=if (s==[108,101,110]) || (s==[110,117,109]) then ⟨[2],1⟩ else if s==[115,116,114] then ⟨[1],2⟩ else if (s==[108,101,102,116]) || (s==[114,105,103,104,116]) then ⟨[2,1],2⟩ else if s==[105,115,110,117,108,108] then ⟨[-2],3⟩ else if s==[110,118,108] then ⟨[-1, -1], -1⟩ else ⟨[3, -1, -1], -1⟩
def Jr (o:Int) (t:Str):Sign:=if o==3 then ⟨[1],1⟩ else if o==4 then ⟨[3],3⟩ else if o==5 then Dn t else E9 t
def Fa (a b:Int):Int×Bool:=if a==0 then (b,true) else if (b==0) || (a==b) then (a,true) else (0,false)
def Gr:List Int→List Int→Int→Option Int
 | _,[],c=>some c
 | [],_::_,_=>none
 | w::ws,k::ks,c=>if w == -2 then Gr ws ks c else if w == -1 then (if (Fa c k).2 then Gr ws ks (Fa c k).1 else none) else if (Fa w k).2 then Gr ws ks c else none
def J3 (s:Sign) (ks:List Int):Int×Int:=match Gr s.kids ks 0 with|none=>(0,10)|some c=>if s.own == -1 then (c,0) else (s.own,0)
def Ih (c:List Col) (t:Str):Int×Int:=if B6 t c<0 then (0,9) else ((c.getD (B6 t c).toNat ⟨[],0⟩).kind,0)
def Np (c:List Col) (o:Int) (t:Str) (v:Val) (ks:List (Int×Int)):Int×Int:=
 if o==1 then (v.kind,0) else if o==2 then Ih c t else match ks.find? (fun q=>q.2 != 0) with|some q=>(0,q.2)|none=>J3 (Jr o t) (ks.map (·.1))
mutual
def Bf (c:List Col):Expr→Int×Int
 | .mk o t v k=>Np c o t v (Nq c k)
def Nq (c:List Col):List Expr→List (Int×Int)
  | []=>[]
  | e::r=>Bf c e::Nq c r
 end
theorem Uo (c:List Col):∀l,Nq c l=l.map (Bf c)
 | []=>rfl
 | e::r=>by rw [Nq,Uo c r];rfl
theorem Pv (c:List Col) (e:Expr):Bf c e=Np c e.op e.text e.val (e.kids.map (Bf c)):=by cases e;rw [Bf,Uo];rfl
/-- infer.Kind. -/
def F4 (e:Expr) (c:List Col):Int×Int:=if (!(B3 e)) || !(Nm c) then (0,1) else Bf c e
/-! The signs have as many as the nodes have kids. -/
theorem Rz (s:Str):(Dn s).kids.length=2:=by
 unfold Dn;repeat' split
 all_goals rfl
theorem qx {t:Str} {n:Nat} (h:Ch t=(n:Int)):(E9 t).kids.length=n:=by
 rw [show Ch t=Ch t from rfl] at h
 by_cases hm:t∈arityList.map (·.1)
 ·have:((arityList.map (·.1)).all fun s=>decide (((E9 s).kids.length:Int)=Ch s))=true:=by kernel_rfl
  have:=of_decide_eq_true (B2.1 this t hm)
  omega
 have h1:Ch t = -1:=by
  unfold Ch
  rw [M2.2 fun p hp=>by
   simp only [beq_iff_eq]
   rintro rfl
   exact hm (Cr.2 ⟨p,hp,rfl⟩)]
 omega
theorem Nr {e:Expr} (h:Dl e=true) (h1:(e.op==1)=false) (h2:(e.op==2)=false):(Jr e.op e.text).kids.length=e.kids.length:=by
 unfold Dl at h
 rw [h1,h2] at h
 simp only [Aq,if_false] at h
 unfold Jr
 by_cases h3:(e.op==3)=true
 ·rw [h3] at h
  simp only [Bg,if_true,As,beq_iff_eq] at h
  rw [if_pos h3]
  show 1=_
  omega
 have h3':(e.op==3)=false:=by simpa using h3
 rw [if_neg h3]
 rw [h3'] at h
 by_cases h4:(e.op==4)=true
 ·rw [h4] at h
  simp only [B4,if_true,As,beq_iff_eq] at h
  rw [if_pos h4]
  show 1=_
  omega
 have h4':(e.op==4)=false:=by simpa using h4
 rw [if_neg h4]
 rw [h4'] at h
 simp only [K6,Aq,if_false] at h
 by_cases h5:(e.op==5)=true
 ·rw [h5] at h
  simp only [if_true,As,beq_iff_eq] at h
  rw [if_pos h5,Rz]
  omega
 have h5':(e.op==5)=false:=by simpa using h5
 rw [if_neg h5]
 rw [h5'] at h
 simp only [Aq,if_false] at h
 by_cases h6:(e.op==6)=true
 ·rw [h6] at h
  simp only [if_true,As,beq_iff_eq] at h
  exact qx h.2
 have h6':(e.op==6)=false:=by simpa using h6
 rw [h6'] at h
 cases h
/-! More columns. -/
theorem l9 {c:List Col} {o:Int} {t:Str} {v:Val} {ks:List (Int×Int)} (h:(Np c o t v ks).2=0) (h1:(o==1)=false) (h2:(o==2)=false):∀q∈ks,q.2=0:=by
 unfold Np at h
 rw [h1,h2] at h
 simp only [Aq,if_false] at h
 cases hf:ks.find? (fun q=>q.2 != 0) with
 | some q =>
  rw [hf] at h
  have:=ep hf
  simp only [bne_iff_ne] at this
  exact absurd h this
 | none =>
  intro q hq
  have:=M2.1 hf q hq
  simpa using this
/-- What a name's kind is. -/
theorem qy {c:List Col} {t:Str} (hn:(c.map (·.name)).Nodup) {y:Col} (hy:y∈c) (h:y.name=t):Ih c t=(y.kind,0):=by
 obtain ⟨j,hj⟩:=Cm hy
 have hf:=Yh hn hj
 rw [h] at hf
 unfold Ih
 rw [hf,if_neg (by omega)]
 have:(c.getD ((j:Int)).toNat ⟨[],0⟩)=y:=by
  rw [Int.toNat_natCast,C9,hj]
  rfl
 rw [this]
/-! A tree in a column's place. -/
set_option maxRecDepth 4000
/-- Where a parser of expressions stands: its word, its nest, its fault. -/
structure PS where
 i:Nat
 nest:Nat
 code:Int
 at_:Int
def noV:Val:=⟨0,0,[]⟩
def Ap:Expr:=.mk 0 [] noV []
def Fo (e a:Int) (S:PS):PS:=if S.code==0 then ⟨S.i,S.nest,e,a⟩ else S
def isM (l:List Tok) (of:Str) (S:PS):Bool:=(((Ao l S.i).kind==5) || ((Ao l S.i).kind==2))&&Qj (Ao l S.i).text of
def Au (S:PS):PS:=⟨S.i+1,S.nest,S.code,S.at_⟩
def Ee (S:PS):PS:=⟨S.i,S.nest+1,S.code,S.at_⟩
def ck (S:PS):PS:=⟨S.i,S.nest-1,S.code,S.at_⟩
def Hf (l:List Tok) (s:Str) (S:PS):PS:=if S.code != 0 then S else if ((Ao l S.i).kind != 5) || !((Ao l S.i).text==s) then Fo 8 (Ao l S.i).at_ S else Au S
/-- What stands one nest deeper. -/
structure Fam where
 ei:PS→Expr×PS
 no:PS→Expr×PS
 ne:PS→Expr×PS
def Dc (a:Int) (f:PS→Expr×PS) (S:PS):Expr×PS:=if (S.nest:Int)==30 then (Ap,Fo 18 a S) else ((f (Ee S)).1,ck (f (Ee S)).2)
def Ki (t:Str) (x y:Expr):Expr:=.mk 5 t noV [x,y]
def cl (l:List Tok) (of:Str) (f:PS→Expr×PS):Nat→Expr×PS→Expr×PS
 | 0,r=>r
 | n+1,r=>if (r.2.code==0)&&isM l of r.2 then cl l of f n (Ki (Ao l r.2.i).text r.1 (f (Au r.2)).1,(f (Au r.2)).2) else r
def Hy (l:List Tok) (of:Str) (f:PS→Expr×PS) (S:PS):Expr×PS:=cl l of f l.length (f S)
def Yi:Str:=[32,44,32]
def argsF (l:List Tok) (f:PS→Expr×PS):Nat→List Expr×PS→List Expr×PS
 | 0,r=>r
 | n+1,r=>if (r.2.code==0)&&isM l Yi r.2 then argsF l f n (r.1++[(f (Au r.2)).1],(f (Au r.2)).2) else r
def K2 (l:List Tok) (f:PS→Expr×PS) (S:PS):List Expr×PS:=argsF l f l.length ([(f S).1],(f S).2)
def Vo (l:List Tok) (a:Int) (f:PS→Expr×PS) (S:PS):List Expr×PS:=if (S.nest:Int)==30 then ([],Fo 18 a S) else ((K2 l f (Ee S)).1,ck (K2 l f (Ee S)).2)
def Hb:Str:=[41]
def F0 (l:List Tok) (D:Fam) (S:PS):List Expr×PS:=Vo l (Ao l S.i).at_ D.ei (Au S)
def K3 (l:List Tok) (D:Fam) (t:Tok) (S:PS):Expr×PS:=
 if Ch t.text<0 then (Ap,Fo 9 t.at_ S)
 else if ((Hf l Hb (F0 l D S).2).code==0) && !(((F0 l D S).1.length:Int)==Ch t.text) then (Ap,Fo 8 t.at_ (Hf l Hb (F0 l D S).2))
 else (.mk 6 t.text noV (F0 l D S).1,Hf l Hb (F0 l D S).2)
def orT:Str:=[32,111,114,32]
def y6:Str:=[32,97,110,100,32]
def AJr:Str:=[32,110,111,116,32]
def AGj:Str:=[32,61,32,33,61,32,60,32,60,61,32,62,32,62,61,32]
def y7:Str:=[32,43,32,45,32,38,32]
def cm:Str:=[32,42,32,47,32,37,32]
def AJs:Str:=[32,45,32]
def opT:Str:=[32,40,32]
def AJt:Str:=[32,116,114,117,101,32,102,97,108,115,101,32,110,117,108,108,32]
def Mq (v:Val):Expr:=.mk 1 [] v []
def Ii (l:List Tok) (D:Fam) (S:PS):Expr×PS:=
 if S.code != 0 then (Ap,S)
 else if ((Ao l S.i).kind==3) || isM l AJt S then (Mq (Jm (Ao l S.i).text).1,Au S)
 else if (Ao l S.i).kind==4 then (Mq ⟨2,0,(Ao l S.i).text.take 200⟩,Au S)
 else if (Ao l S.i).kind==1 then (if isM l opT (Au S) then K3 l D (Ao l S.i) (Au S) else (Cw (Ao l S.i).text,Au S))
 else if isM l opT S then ((Dc (Ao l S.i).at_ D.ei (Au S)).1,Hf l Hb (Dc (Ao l S.i).at_ D.ei (Au S)).2)
 else (Ap,Fo 8 (Ao l S.i).at_ S)
def Id (op:Int) (x:Expr):Expr:=.mk op [] noV [x]
def Wc (l:List Tok) (D:Fam) (S:PS):Expr×PS:=if !isM l AJs S then Ii l D S else (Id 3 (Dc (Ao l S.i).at_ D.ne (Au S)).1,(Dc (Ao l S.i).at_ D.ne (Au S)).2)
def la (l:List Tok) (D:Fam):PS→Expr×PS:=Hy l cm (Wc l D)
def G9 (l:List Tok) (D:Fam):PS→Expr×PS:=Hy l y7 (la l D)
def Hg (l:List Tok) (D:Fam) (S:PS):Expr×PS:=
 if ((G9 l D S).2.code != 0) || !isM l AGj (G9 l D S).2 then G9 l D S
 else (Ki (Ao l (G9 l D S).2.i).text (G9 l D S).1 (G9 l D (Au (G9 l D S).2)).1,(G9 l D (Au (G9 l D S).2)).2)
def Wd (l:List Tok) (D:Fam) (S:PS):Expr×PS:=if !isM l AJr S then Hg l D S else (Id 4 (Dc (Ao l S.i).at_ D.no (Au S)).1,(Dc (Ao l S.i).at_ D.no (Au S)).2)
def lb (l:List Tok) (D:Fam):PS→Expr×PS:=Hy l y6 (Wd l D)
def Wn (l:List Tok) (D:Fam):PS→Expr×PS:=Hy l orT (lb l D)
def Hc (l:List Tok):Nat→Fam
 | 0=>⟨fun S=>(Ap,S),fun S=>(Ap,S),fun S=>(Ap,S)⟩
 | d+1=>⟨Wn l (Hc l d),Wd l (Hc l d),Wc l (Hc l d)⟩

/-! What is so of them. -/
theorem J4:∀{n m:Nat},n≤m→∀{e:Expr},okE n e→okE m e
 | 0,_,_,_,h=>h.elim
 | n+1,0,h,_,_=>by omega
 | n+1,m+1,h,_,ho=>⟨ho.1,ho.2.1,fun y hy=>J4 (by omega) (ho.2.2 y hy)⟩
theorem Yj:sizeE Ap=1:=rfl
theorem y8 (t:Str) (a b:Expr):sizeE (Ki t a b)=1+(sizeE a+(sizeE b+0)):=by rw [Ki,sizeE,Cs,Cs,Cs]
theorem y9 (o:Int) (a:Expr):sizeE (Id o a)=1+(sizeE a+0):=by rw [Id,sizeE,Cs,Cs]
theorem cn:∀a b:List Expr,Cs (a++b)=Cs a+Cs b
 | [],b=>by rw [Ec,Cs,C0]
 | e::r,b=>by rw [Et,Cs,Cs,cn r b,Mv]
theorem lc {n:Nat} (h:1≤n):okE n Ap:=J4 h ⟨by decide,by decide,fun y hy=>by cases hy⟩
theorem ua {n:Nat} (h:1≤n) (v:Val):okE n (Mq v):=J4 h ⟨by simp [Mq,Expr.text],by simp [Mq,Expr.kids],fun y hy=>by cases hy⟩
structure Fact (l:List Tok) (S:PS) (r:Expr×PS):Prop where
 le:S.i≤r.2.i
 lt:r.2.i<l.length
 nest:r.2.nest=S.nest
 ok:okE (2*(r.2.i-S.i)+1) r.1
 sz:sizeE r.1≤2*(r.2.i-S.i)+1
def Ga (l:List Tok) (n:Nat) (f:PS→Expr×PS):Prop:=∀S,S.i<l.length→S.nest=n→Fact l S (f S)
theorem TokEnd.step {l:List Tok} (h:TokEnd l) {i:Nat} (hi:i<l.length) (hk:(Ao l i).kind≠0):i+1<l.length:=by
 obtain ⟨L,z,rfl,hz,_⟩:=h.split
 rcases Bv i L.length with h1|h1
 ·simp only [Ai,Aw,Az];omega
 have:i=L.length:=by simp only [Ai,Aw,Az] at hi;omega
 subst this
 exact absurd (by unfold Ao;simpa using hz) hk
theorem ACr {l:List Tok} {of:Str} {S:PS} (h:isM l of S=true):(Ao l S.i).kind≠0:=by
 unfold isM at h
 simp only [As,Dq,beq_iff_eq] at h
 omega
theorem TokEnd.stepIs {l:List Tok} (h:TokEnd l) {of:Str} {S:PS} (hi:S.i<l.length) (hk:isM l of S=true):(Au S).i<l.length:=h.step hi (ACr hk)
theorem failM_i {e a:Int} {S:PS}:(Fo e a S).i=S.i∧(Fo e a S).nest=S.nest:=by unfold Fo;split<;>exact ⟨rfl,rfl⟩
theorem ub {l:List Tok} (hl:TokEnd l) {s:Str} {S:PS} (hi:S.i<l.length):S.i≤(Hf l s S).i∧(Hf l s S).i<l.length∧(Hf l s S).nest=S.nest:=by
 unfold Hf
 split
 ·exact ⟨Ak _,hi,rfl⟩
 split
 ·rw [failM_i.1,failM_i.2];exact ⟨Ak _,hi,rfl⟩
 rename_i h
 simp only [Dq,bne_iff_ne,ne_eq,not_or,Classical.not_not] at h
 have:=hl.step hi (by rw [h.1];decide)
 exact ⟨Ks _,this,rfl⟩
theorem T6 {l:List Tok} {S S0:PS} (h0:S0.i≤S.i) (h1:S.i<l.length) (h2:S.nest=S0.nest) (e a:Int):Fact l S0 (Ap,Fo e a S):=by
 refine ⟨?_,?_,?_,lc (by omega),by rw [Yj];omega⟩
 ·show _≤(Fo e a S).i;rw [failM_i.1];exact h0
 ·show (Fo e a S).i<_;rw [failM_i.1];exact h1
 show (Fo e a S).nest=_;rw [failM_i.2];exact h2
/-- A state of a loop of marks. -/
structure LeftAt (l:List Tok) (of:Str) (f:PS→Expr×PS) (S:PS) (r:Expr×PS):Prop where
 fact:Fact l S r
 eq:∃n,l.length≤r.2.i+n∧Hy l of f S=cl l of f n r
theorem LeftAt.start {l:List Tok} {of:Str} {f:PS→Expr×PS} {S:PS} (h:Fact l S (f S)):LeftAt l of f S (f S):=⟨h,l.length,by omega,rfl⟩
theorem uc {l:List Tok} {S:PS} {r q:Expr×PS} (h:Fact l S r) (hq:Fact l (Au r.2) q) (hl:TokEnd l):Fact l S (Ki (Ao l r.2.i).text r.1 q.1,q.2):=by
 have h1:=h.le
 have h2:r.2.i+1≤q.2.i:=hq.le
 refine ⟨by show S.i≤q.2.i;omega,hq.lt,by show q.2.nest=S.nest;rw [hq.nest];exact h.nest,?_,?_⟩
 rotate_left
 ·have s1:=h.sz
  have s2:sizeE q.1≤2*(q.2.i-(r.2.i+1))+1:=hq.sz
  show sizeE (Ki _ r.1 q.1)≤2*(q.2.i-S.i)+1
  rw [y8]
  omega
 show okE (2*(q.2.i-S.i)+1) _
 refine ⟨hl.text _,by simp [Ki,Expr.kids],fun y hy=>?_⟩
 have hy':y=r.1∨y=q.1:=by simpa [Ki,Expr.kids] using hy
 rcases hy' with rfl|rfl
 ·exact J4 (by omega) h.ok
 exact J4 (by show 2*(q.2.i-(r.2.i+1))+1≤_;omega) hq.ok
theorem LeftAt.on {l:List Tok} {of:Str} {f:PS→Expr×PS} {S:PS} {r:Expr×PS} (hl:TokEnd l) (h:LeftAt l of f S r) (hc:((r.2.code==0)&&isM l of r.2)=true) (hf:Ga l S.nest f):(Au r.2).i<l.length∧Fact l (Au r.2) (f (Au r.2))∧LeftAt l of f S (Ki (Ao l r.2.i).text r.1 (f (Au r.2)).1,(f (Au r.2)).2):=by
 have hi:=hl.stepIs h.fact.lt (AAb.1 hc).2
 have hq:=hf (Au r.2) hi h.fact.nest
 obtain ⟨n,hn,e⟩:=h.eq
 have h1:=h.fact.lt
 have h2:r.2.i+1≤(f (Au r.2)).2.i:=hq.le
 obtain ⟨m,rfl⟩:∃m,n=m+1:=⟨n-1,by omega⟩
 refine ⟨hi,hq,uc h.fact hq hl,m,by show l.length≤(f (Au r.2)).2.i+m;omega,?_⟩
 rw [e,cl,if_pos hc]
theorem LeftAt.out {l:List Tok} {of:Str} {f:PS→Expr×PS} {S:PS} {r:Expr×PS} (h:LeftAt l of f S r) (hc:¬((r.2.code==0)&&isM l of r.2)=true):Hy l of f S=r:=by
 obtain ⟨n,hn,e⟩:=h.eq
 have h1:=h.fact.lt
 obtain ⟨m,rfl⟩:∃m,n=m+1:=⟨n-1,by omega⟩
 rw [e,cl,if_neg hc]
theorem lf {l:List Tok} {of:Str} {f:PS→Expr×PS} {S:PS} (hl:TokEnd l) (hf:Ga l S.nest f):∀(k:Nat) (r:Expr×PS),l.length-r.2.i≤k→LeftAt l of f S r→Fact l S (Hy l of f S)
 | 0,r,hk,h=>by have:=h.fact.lt;omega
 | k+1,r,hk,h=>by
  by_cases hc:((r.2.code==0)&&isM l of r.2)=true
  ·obtain ⟨h1,h2,h3⟩:=h.on hl hc hf
   have h4:r.2.i+1≤(f (Au r.2)).2.i:=h2.le
   exact lf hl hf k _ (by show l.length-(f (Au r.2)).2.i≤k;have:=h.fact.lt;omega) h3
  rw [h.out hc];exact h.fact
theorem J5 {l:List Tok} {of:Str} {f:PS→Expr×PS} {n:Nat} (hl:TokEnd l) (hf:Ga l n f):Ga l n (Hy l of f):=fun S hi hn=>lf hl (hn ▸ hf) l.length (f S) (by omega) (.start (hf S hi hn))
theorem Lr {l:List Tok} {f:PS→Expr×PS} {S:PS} (a:Int) (hi:S.i<l.length) (hf:S.nest≠30→Ga l (S.nest+1) f):Fact l S (Dc a f S):=by
 unfold Dc
 split
 ·exact T6 (Ak _) hi rfl _ _
 rename_i h
 have h30:S.nest≠30:=fun e=>h (by rw [e];rfl)
 have:=hf h30 (Ee S) hi rfl
 refine ⟨this.le,this.lt,?_,this.ok,this.sz⟩
 show (f (Ee S)).2.nest-1=S.nest
 rw [this.nest]
 rfl
/-- What is so of some kids. -/
structure KFact (l:List Tok) (S:PS) (r:List Expr×PS):Prop where
 le:S.i≤r.2.i
 lt:r.2.i<l.length
 nest:r.2.nest=S.nest
 len:r.1.length≤r.2.i-S.i+1
 ok:∀y∈r.1,okE (2*(r.2.i-S.i)+1) y
 sz:Cs r.1≤2*(r.2.i-S.i)+1
structure ArgsAt (l:List Tok) (f:PS→Expr×PS) (S:PS) (r:List Expr×PS):Prop where
 fact:KFact l S r
 eq:∃n,l.length≤r.2.i+n∧K2 l f S=argsF l f n r
theorem ArgsAt.start {l:List Tok} {f:PS→Expr×PS} {S:PS} (h:Fact l S (f S)):ArgsAt l f S ([(f S).1],(f S).2):=⟨⟨h.le,h.lt,h.nest,by simp,fun y hy=>by rw [Bl.1 hy];exact h.ok,by have:=h.sz;show sizeE (f S).1+0≤_;exact this⟩,l.length,by omega,rfl⟩
theorem ArgsAt.on {l:List Tok} {f:PS→Expr×PS} {S:PS} {r:List Expr×PS} (hl:TokEnd l) (h:ArgsAt l f S r) (hc:((r.2.code==0)&&isM l Yi r.2)=true) (hf:Ga l S.nest f):(Au r.2).i<l.length∧Fact l (Au r.2) (f (Au r.2))∧ArgsAt l f S (r.1++[(f (Au r.2)).1],(f (Au r.2)).2):=by
 have hi:=hl.stepIs h.fact.lt (AAb.1 hc).2
 have hq:=hf (Au r.2) hi h.fact.nest
 obtain ⟨n,hn,e⟩:=h.eq
 have h1:=h.fact.lt
 have h0:=h.fact.le
 have h2:r.2.i+1≤(f (Au r.2)).2.i:=hq.le
 obtain ⟨m,rfl⟩:∃m,n=m+1:=⟨n-1,by omega⟩
 refine ⟨hi,hq,⟨by show S.i≤(f (Au r.2)).2.i;omega,hq.lt,by show (f (Au r.2)).2.nest=_;rw [hq.nest];exact h.fact.nest,?_,fun y hy=>?_,?_⟩,m,by show l.length≤(f (Au r.2)).2.i+m;omega,?_⟩
 ·have:=h.fact.len
  show (r.1++_).length≤(f (Au r.2)).2.i-S.i+1
  simp only [Ai,Aw,Az]
  omega
 ·show okE (2*((f (Au r.2)).2.i-S.i)+1) y
  rcases E7.1 hy with hy|hy
  ·exact J4 (by omega) (h.fact.ok y hy)
  rw [Bl.1 hy]
  exact J4 (by show 2*((f (Au r.2)).2.i-(r.2.i+1))+1≤_;omega) hq.ok
 ·have s1:=h.fact.sz
  have s2:sizeE (f (Au r.2)).1≤2*((f (Au r.2)).2.i-(r.2.i+1))+1:=hq.sz
  show Cs (r.1++[(f (Au r.2)).1])≤2*((f (Au r.2)).2.i-S.i)+1
  rw [cn,Cs,Cs]
  omega
 rw [e,argsF,if_pos hc]
theorem ArgsAt.out {l:List Tok} {f:PS→Expr×PS} {S:PS} {r:List Expr×PS} (h:ArgsAt l f S r) (hc:¬((r.2.code==0)&&isM l Yi r.2)=true):K2 l f S=r:=by
 obtain ⟨n,hn,e⟩:=h.eq
 have h1:=h.fact.lt
 obtain ⟨m,rfl⟩:∃m,n=m+1:=⟨n-1,by omega⟩
 rw [e,argsF,if_neg hc]
theorem lg {l:List Tok} {f:PS→Expr×PS} {S:PS} (hl:TokEnd l) (hf:Ga l S.nest f):∀(k:Nat) (r:List Expr×PS),l.length-r.2.i≤k→ArgsAt l f S r→KFact l S (K2 l f S)
 | 0,r,hk,h=>by have:=h.fact.lt;omega
 | k+1,r,hk,h=>by
  by_cases hc:((r.2.code==0)&&isM l Yi r.2)=true
  ·obtain ⟨h1,h2,h3⟩:=h.on hl hc hf
   have h4:r.2.i+1≤(f (Au r.2)).2.i:=h2.le
   exact lg hl hf k _ (by show l.length-(f (Au r.2)).2.i≤k;have:=h.fact.lt;omega) h3
  rw [h.out hc];exact h.fact
theorem Yk {l:List Tok} {f:PS→Expr×PS} {S:PS} (hl:TokEnd l) (hi:S.i<l.length) (hf:Ga l S.nest f):KFact l S (K2 l f S):=lg hl hf l.length _ (by show l.length-(f S).2.i≤_;omega) (.start (hf S hi rfl))
theorem Yl {l:List Tok} {f:PS→Expr×PS} {S:PS} (hl:TokEnd l) (a:Int) (hi:S.i<l.length) (hf:S.nest≠30→Ga l (S.nest+1) f):KFact l S (Vo l a f S):=by
 unfold Vo
 split
 ·refine ⟨?_,?_,?_,by simp,fun y hy=>(by cases hy),by simp [Cs]⟩
  ·show _≤(Fo _ _ S).i;rw [failM_i.1];exact Ak _
  ·show (Fo _ _ S).i<_;rw [failM_i.1];exact hi
  show (Fo _ _ S).nest=_;rw [failM_i.2]
 rename_i h
 have h30:S.nest≠30:=fun e=>h (by rw [e];rfl)
 have:=Yk (S:=Ee S) hl hi (hf h30)
 refine ⟨this.le,this.lt,?_,this.len,this.ok,this.sz⟩
 show (K2 l f (Ee S)).2.nest-1=S.nest
 rw [this.nest]
 rfl
theorem qz {l:List Tok} {D:Fam} {S:PS} (hl:TokEnd l) (hll:l.length≤1048576) {t:Tok} (ht:t.text.length≤1048576) (hi:(Au S).i<l.length) (hf:S.nest≠30→Ga l (S.nest+1) D.ei):Fact l S (K3 l D t S):=by
 have hk:KFact l (Au S) (F0 l D S):=Yl hl _ hi hf
 have h1:S.i+1≤(F0 l D S).2.i:=hk.le
 obtain ⟨w1,w2,w3⟩:=ub (s:=Hb) hl hk.lt
 unfold K3
 split
 ·exact T6 (Ak _) (by show S.i<_;have:S.i+1<l.length:=hi;omega) rfl _ _
 split
 ·exact T6 (show S.i≤(Hf l Hb (F0 l D S).2).i by omega) w2 (w3.trans hk.nest) 8 t.at_
 refine ⟨by show S.i≤(Hf l Hb (F0 l D S).2).i;omega,w2,w3.trans hk.nest,?_,?_⟩
 rotate_left
 ·have s1:Cs (F0 l D S).1≤2*((F0 l D S).2.i-(S.i+1))+1:=hk.sz
  show sizeE (.mk 6 t.text noV (F0 l D S).1)≤2*((Hf l Hb (F0 l D S).2).i-S.i)+1
  rw [sizeE]
  omega
 show okE (2*((Hf l Hb (F0 l D S).2).i-S.i)+1) _
 refine ⟨ht,?_,fun y hy=>?_⟩
 ·have h5:(F0 l D S).1.length≤(F0 l D S).2.i-(Au S).i+1:=hk.len
  have h6:=hk.lt
  show (F0 l D S).1.length≤1048576
  omega
 exact J4 (by show 2*((F0 l D S).2.i-(S.i+1))+1≤_;omega) (hk.ok y hy)
theorem r6 {l:List Tok} {D:Fam} {n:Nat} (hl:TokEnd l) (hll:l.length≤1048576) (hf:n≠30→Ga l (n+1) D.ei):Ga l n (Ii l D):=by
 intro S hi hn
 subst hn
 unfold Ii
 have leaf:∀e:Expr,okE 1 e→sizeE e=1→(Ao l S.i).kind≠0→Fact l S (e,Au S):=fun e he hs hk=>⟨Ks _,hl.step hi hk,rfl,J4 (by omega) he,by show sizeE e≤_;omega⟩
 split
 ·exact ⟨Ak _,hi,rfl,lc (by omega),by show sizeE Ap≤_;rw [Yj];omega⟩
 split
 ·rename_i h
  refine leaf _ (ua (Ak _) _) rfl ?_
  rcases Bool.or_eq_true_iff.1 h with h|h
  ·rw [beq_iff_eq] at h;rw [h];decide
  exact ACr h
 split
 ·rename_i h
  rw [beq_iff_eq] at h
  exact leaf _ (ua (Ak _) _) rfl (by rw [h];decide)
 split
 ·rename_i h
  rw [beq_iff_eq] at h
  have hk:(Ao l S.i).kind≠0:=by rw [h];decide
  split
  ·rename_i h2
   have hi1:(Au S).i<l.length:=hl.step hi hk
   have:=qz (S:=Au S) (D:=D) hl hll (hl.text S.i) (hl.stepIs hi1 h2) hf
   have h3:S.i+1≤(K3 l D (Ao l S.i) (Au S)).2.i:=this.le
   have h4:sizeE (K3 l D (Ao l S.i) (Au S)).1≤2*((K3 l D (Ao l S.i) (Au S)).2.i-(S.i+1))+1:=this.sz
   exact ⟨by omega,this.lt,this.nest,J4 (by show 2*((K3 l D (Ao l S.i) (Au S)).2.i-(S.i+1))+1≤_;omega) this.ok,by omega⟩
  exact leaf _ (kr _ (hl.text _)) rfl hk
 split
 ·rename_i h
  have hi1:(Au S).i<l.length:=hl.stepIs hi h
  have:=Lr (S:=Au S) (l:=l) (f:=D.ei) (Ao l S.i).at_ hi1 hf
  obtain ⟨w1,w2,w3⟩:=ub (s:=Hb) hl this.lt
  have h3:S.i+1≤(Dc (Ao l S.i).at_ D.ei (Au S)).2.i:=this.le
  have h4:sizeE (Dc (Ao l S.i).at_ D.ei (Au S)).1≤2*((Dc (Ao l S.i).at_ D.ei (Au S)).2.i-(S.i+1))+1:=this.sz
  refine ⟨by show S.i≤(Hf l Hb _).i;omega,w2,w3.trans this.nest,J4 ?_ this.ok,by show sizeE (Dc (Ao l S.i).at_ D.ei (Au S)).1≤2*((Hf l Hb (Dc (Ao l S.i).at_ D.ei (Au S)).2).i-S.i)+1;omega⟩
  show 2*((Dc (Ao l S.i).at_ D.ei (Au S)).2.i-(S.i+1))+1≤2*((Hf l Hb (Dc (Ao l S.i).at_ D.ei (Au S)).2).i-S.i)+1
  omega
 exact T6 (Ak _) hi rfl _ _
theorem ud {l:List Tok} {S:PS} {r:Expr×PS} (h:Fact l (Au S) r) (op:Int):Fact l S (Id op r.1,r.2):=by
 have h1:S.i+1≤r.2.i:=h.le
 refine ⟨by show S.i≤r.2.i;omega,h.lt,h.nest,?_,?_⟩
 rotate_left
 ·have s1:sizeE r.1≤2*(r.2.i-(S.i+1))+1:=h.sz
  show sizeE (Id op r.1)≤2*(r.2.i-S.i)+1
  rw [y9]
  omega
 show okE (2*(r.2.i-S.i)+1) _
 refine ⟨by simp [Id,Expr.text],by simp [Id,Expr.kids],fun y hy=>?_⟩
 have hy':y=r.1:=by simpa [Id,Expr.kids] using hy
 subst hy'
 exact J4 (by show 2*(r.2.i-(S.i+1))+1≤_;omega) h.ok
theorem Up {l:List Tok} {D:Fam} {n:Nat} (hl:TokEnd l) (hll:l.length≤1048576) (hf:n≠30→Ga l (n+1) D.ei) (hg:n≠30→Ga l (n+1) D.ne):Ga l n (Wc l D):=by
 intro S hi hn
 unfold Wc
 split
 ·exact r6 hl hll hf S hi hn
 rename_i h
 subst hn
 exact ud (Lr (S:=Au S) _ (hl.stepIs hi (by simpa using h)) hg) 3
theorem co {l:List Tok} {D:Fam} {n:Nat} (hl:TokEnd l) (hll:l.length≤1048576) (hf:n≠30→Ga l (n+1) D.ei) (hg:n≠30→Ga l (n+1) D.ne):Ga l n (G9 l D):=J5 hl (J5 hl (Up hl hll hf hg))
theorem R5 {l:List Tok} {D:Fam} {n:Nat} (hl:TokEnd l) (hll:l.length≤1048576) (hf:n≠30→Ga l (n+1) D.ei) (hg:n≠30→Ga l (n+1) D.ne):Ga l n (Hg l D):=by
 intro S hi hn
 have h1:=co hl hll hf hg S hi hn
 unfold Hg
 split
 ·exact h1
 rename_i h
 simp only [Dq,not_or,Tp,Dh] at h
 exact uc h1 (co hl hll hf hg _ (hl.stepIs h1.lt h.2) (h1.nest.trans hn)) hl
theorem cp {l:List Tok} {D:Fam} {n:Nat} (hl:TokEnd l) (hll:l.length≤1048576) (hf:n≠30→Ga l (n+1) D.ei) (hg:n≠30→Ga l (n+1) D.ne) (hh:n≠30→Ga l (n+1) D.no):Ga l n (Wd l D):=by
 intro S hi hn
 unfold Wd
 split
 ·exact R5 hl hll hf hg S hi hn
 rename_i h
 subst hn
 exact ud (Lr (S:=Au S) _ (hl.stepIs hi (by simpa using h)) hh) 4
theorem Uq {l:List Tok} (hl:TokEnd l) (hll:l.length≤1048576):∀(d n:Nat),n+d=31→n≠31→Ga l n (Hc l d).ei∧Ga l n (Hc l d).no∧Ga l n (Hc l d).ne
 | 0,n,h,h2=>by omega
 | d+1,n,h,_=>by
  have ih:n≠30→_:=fun h30=>Uq hl hll d (n+1) (by omega) (by omega)
  have hn:=cp (D:=Hc l d) (n:=n) hl hll (fun h=>(ih h).1) (fun h=>(ih h).2.2) (fun h=>(ih h).2.1)
  exact ⟨J5 hl (J5 hl hn),hn,Up hl hll (fun h=>(ih h).1) (fun h=>(ih h).2.2)⟩
abbrev pr (l:List Tok) (S:PS):AObj:=.cells 171 [.slice false 3 (l.map Me),A5 (S.i:Int),A5 (S.nest:Int),A5 S.code,A5 S.at_]
theorem E4 {n:Nat} {l:List Tok} {S:PS}:ObjLow n (pr l S):=by
 show ∀y∈[AV.slice false 3 (l.map Me),A5 (S.i:Int),A5 (S.nest:Int),A5 S.code,A5 S.at_],Low n y
 intro y hy
 simp only [B5,F5,or_false] at hy
 rcases hy with rfl|rfl|rfl|rfl|rfl
 ·simp [or_imp,forall_and]
 all_goals simp
theorem lh (o:Int) (t:Str) (v:Val):Le (.agg [A5 o,Ae t,A5 v.kind,A5 v.n,Ae v.s,.nil]) (A9 (.mk o t v [])):=by
 rw [At]
 refine .agg _ _ rfl (by simp [AV.one,Value.oneCell',sv]) fun i y y' h1 h2=>?_
 match i with
 | 0=>simp at h1 h2;subst h1;subst h2;exact .inl rfl
 | 1=>simp at h1 h2;subst h1;subst h2;exact .inl rfl
 | 2=>simp at h1 h2;subst h1;subst h2;exact .inl rfl
 | 3=>simp at h1 h2;subst h1;subst h2;exact .inl rfl
 | 4=>simp at h1 h2;subst h1;subst h2;exact .inl rfl
 | 5=>simp at h1 h2;subst h1;subst h2;exact .inr ⟨rfl,6,rfl⟩
 | i+6=>simp at h1
theorem Ym:Le (.agg [A5 0,Ae [],A5 0,A5 0,Ae [],.nil]) (A9 Ap):=lh 0 [] noV
theorem ANr (l:List Tok) (S:PS) (o:Nat) (Hp:List AObj) (ho:Hp[o]? = some (pr l S)) (hi:S.i<l.length):AFun Tryz.prog 254 [.ptr o 0] Hp (Me (Ao l S.i)):=by
 refine Af [.cell 2 113] [0] Tryz.func254 Tryz.ntmps254 (fun d=>?_)
 refine AMa ?_;refine Z40 ?_
 refine Al (h:=Ca ho) (hr:=?_)
 refine Z40 ?_
 refine Al (h:=Ca ho) (hr:=?_)
 refine Ey ?_
 refine A4 (h:=Ac (S.i) (Me (Ao l S.i)) (fun _=>Y7 hi)) (hr:=?_)
 refine A4 ?_;exact AF2

theorem li (l:List Tok) (S:PS) (of:Str) (o:Nat) (Hp:List AObj) (ho:Hp[o]? = some (pr l S)) (hi:S.i<l.length) (hl:TokEnd l) (hof:of.length≤1048576):AFun Tryz.prog 203 [.ptr o 0,Ae of] Hp (Bk (isM l of S)):=by
 refine Af [.tmp 4] [0,1] Tryz.func203 Tryz.ntmps203 (fun d=>?_)
 refine Z61 ?_;refine AJ0 ?_;refine Z19 ?_;refine A2 [1,5] ?_;refine oo ?_;refine Z39 ?_;refine Bt Tryz.call125 (fun hB=>ANm (Ao l S.i).text of (hl.text _) hof _) ?_;refine Z0 ?_;exact o9

theorem ACs (l:List Tok) (S:PS) (o:Nat) (Hp:List AObj) (ho:Hp[o]? = some (pr l S)) (hi:S.i<l.length) (hll:l.length≤1048576):ACall Tryz.prog 204 [.ptr o 0] Hp (fun r H'=>r=Me (Ao l S.i)∧H'=Hp.set o (pr l (Au S))):=by
 refine Af [.cell 2 113] [0] Tryz.func204 Tryz.ntmps204 (fun d=>?_)
 refine Z76 ?_;refine AJ0 ?_;refine ju ?_;refine Z17 ?_
 refine A4 (h:=Ca ho) (hr:=?_)
 refine Z22 ?_
 refine Fu jS ho ?_ ?_
 ·simp
 refine Lo ?_;refine Z2 ?_;exact AF2

theorem yb (l:List Tok) (S:PS) (e a:Int) (o:Nat) (Hp:List AObj) (ho:Hp[o]? = some (pr l S)):ACall Tryz.prog 116 [.ptr o 0,A5 e,A5 a] Hp (fun r H'=>r=A9 Ap∧H'=Hp.set o (pr l (Fo e a S))):=by
 refine Af [.cell 6 26] [0,1,2] Tryz.func116 Tryz.ntmps116 (fun d=>?_)
 refine AFb ?_;refine Z60 ?_
 refine A4 (h:=Ca ho) (hr:=?_)
 refine A4 ?_;refine A2 [0,1,2,6,12] ?_
 refine A3 (fun ht12=>?_) (fun ht12=>?_)
 ·have e:Fo e a S=⟨S.i,S.nest,e,a⟩:=if_pos ht12
  refine Z34 ?_;refine gk ?_;refine Z0 ?_
  refine Fu jS ho ?_ ?_
  ·simp
  refine A2 [6] ?_;refine Fh ?_;refine Z46 ?_;refine R.wk 19 _ Ym ?_;refine ob ?_;exact A8 (Ah (Bu jA jS)) ⟨rfl,by rw [e]⟩ (hlow:=Av _ Ap)
 have e:Fo e a S=S:=if_neg (by rw [ht12];simp)
 refine Z5 ?_;refine Z46 ?_;refine R.wk 19 _ Ym ?_;refine ob ?_;exact A8 (Ah (Bu jA jS)) ⟨rfl,by rw [e];exact (Is ho).symm⟩ (hlow:=Av _ Ap)

theorem ANs (v:Val) (Hp:List AObj):AFun Tryz.prog 348 [C3 v] Hp (A9 (Mq v)):=by
 refine Af [.cell 2 26] [0] Tryz.func348 Tryz.ntmps348 (fun d=>?_)
 refine Z2 ?_;refine Pm ?_;refine A2 [1,2] ?_;refine AMi ?_;refine R.wk 4 _ (lh 1 [] v) ?_;refine Z15 ?_;exact A8 (Ah (Bu jA jS)) ⟨rfl,rfl⟩ (hlow:=Av _ (Mq v))

theorem ANt (l:List Tok) (S:PS) (s:Str) (o:Nat) (Hp:List AObj) (ho:Hp[o]? = some (pr l S)) (hi:S.i<l.length) (hll:l.length≤1048576):ACall Tryz.prog 350 [.ptr o 0,Ae s] Hp (fun r H'=>r=.v (.tuple #[])∧H'=Hp.set o (pr l (Hf l s S))):=by
 refine Af [] [0,1] Tryz.func350 Tryz.ntmps350 (fun d=>?_)
 refine Z60 ?_
 refine A4 (h:=Ca ho) (hr:=?_)
 refine A4 ?_;refine A2 [0,1,10] ?_
 refine A3 (fun ht10=>?_) (fun ht10=>?_)
 ·have e:Hf l s S=S:=if_pos ht10
  refine AB3 ?_;exact A8 .nores (hp:=⟨rfl,by rw [e];exact (Is ho).symm⟩)
 have e0:¬(S.code != 0)=true:=by rw [ht10];simp
 refine Rm ?_;refine Aa Tryz.call254 (ANr l S o _ (Ag ho) hi) ?_;refine Z19 ?_;refine A2 [0,1,4] ?_;refine Z27 ?_;refine Z7 ?_;refine Qw ?_;refine A2 [0,4,21] ?_
 refine A3 (fun ht21=>?_) (fun ht21=>?_)
 ·have e:Hf l s S=Fo 8 (Ao l S.i).at_ S:=by unfold Hf;rw [if_neg e0,if_pos ht21]
  refine ALv ?_;refine ABf ?_;exact A8 .nores (hp:=⟨rfl,by rw [e]⟩)
 have e:Hf l s S=Au S:=by unfold Hf;rw [if_neg e0,if_neg (by rw [ht21];simp)]
 refine Z5 ?_;refine Z34 ?_
 refine A4 (h:=Ca ho) (hr:=?_)
 refine Z22 ?_
 refine Fu jS ho ?_ ?_
 ·simp
 refine A2 [] ?_;exact Fv .nores (hp:=⟨rfl,by rw [e];rfl⟩)

/-- The contract of one of the parser's functions. -/
def PC (g:FuncId) (l:List Tok) (f:PS→Expr×PS) (n:Nat):Prop:=∀(o:Nat) (Hp:List AObj) (S:PS),Hp[o]? = some (pr l S)→S.i<l.length→S.nest=n→ACall Tryz.prog g [.ptr o 0] Hp (fun r H'=>r=A9 (f S).1∧H'=Hp.set o (pr l (f S).2))
abbrev Nc:AObj:=.cells 26 [A5 0,Ae [],A5 0,A5 0,Ae [],.nil]
theorem ig {n:Nat}:ObjLow n Nc:=by
 show ∀y∈[A5 0,Ae [],A5 0,A5 0,Ae [],AV.nil],Low n y
 simp
theorem AGk {n:Nat} (e:Expr):ObjLow n (.cells 26 (Eb e)):=by
 have h:=Av n e
 rw [At] at h
 show ∀y∈Eb e,Low n y
 intro y hy
 cases h with
 | agg _ h=>exact h y hy
theorem AGl (l:List Tok) (S:PS) (a:Int) (g:FuncId) (first caps:List AV) (x:Expr) (S2:PS) (o:Nat) (Hp Hx:List AObj) (ho:Hp[o]? = some (pr l S)) (hnl:S.nest≤1048576) (hgc:∀args w,(callFunc g args).run Tryz.prog w=.ok (.enter g args) w) (hxl:Hx.length=Hp.length) (hxo:Hx[o]? = some (pr l S2)) (hn2:S2.nest=S.nest+1) (hlow:(∀y∈Hp.set o (pr l (Ee S)),ObjLow Hp.length y)→∀y∈Hx,ObjLow Hp.length y) (hcf:S.nest≠30→∀own,ACall Tryz.prog g (first++caps) (Hp.set o (pr l (Ee S))++own) (fun y H'=>y=A9 x∧H'=Hx++own)):ACall Tryz.prog 256 [.ptr o 0,A5 a,.fn (.func g) first caps] Hp (fun r H'=>(S.nest=30→r=A9 Ap∧H'=Hp.set o (pr l (Fo 18 a S)))∧(S.nest≠30→r=A9 x∧H'=Hx.set o (pr l (ck S2)))):=by
 refine Af [.cell 6 26] [0,1,2] Tryz.func256 Tryz.ntmps256 (fun d=>?_)
 refine AFb ?_;refine Z36 ?_
 refine A4 (h:=Ca ho) (hr:=?_)
 refine A4 ?_;refine A2 [0,1,2,6,12] ?_
 refine A3 (fun ht12=>?_) (fun ht12=>?_)
 ·have hn30:S.nest=30:=by have:=ht12;simp at this;omega
  refine Z1 ?_;refine C2 Tryz.call116 ho (by simp) E4 (yb l S 18 a o _ (Ag ho)) ?_;refine ob ?_;refine C4 ?_;exact A8 (Ah (Bu jA jS)) ⟨fun _=>⟨by rw [At],rfl⟩,fun h=>absurd hn30 h⟩ (hlow:=by have:=Av Hp.length Ap;rw [At] at this;simpa using this)
 have hn30:S.nest≠30:=by have:=ht12;simp at this;omega
 refine Z82 ?_
 refine A4 (h:=Ca ho) (hr:=?_)
 refine Z22 ?_
 refine Fu jS ho ?_ ?_
 ·simp
 refine A2 [0,2,6] ?_;refine Z2 ?_
 refine R.callVX (up':=Hx) (own':=[Nc]) hgc (hcf hn30 [Nc]) (by simpa using hxl) (by rw [E6];exact hlow) ?_
 rw [←hxl]
 refine Z19 ?_;refine A2 [0,6,7] ?_;refine Z17 ?_
 refine A4 (h:=Ca hxo) (hr:=?_)
 refine Z22 ?_
 refine Fu jS hxo ?_ ?_
 ·simp
 refine A2 [6,7] ?_;refine Z2 ?_;refine ob ?_;exact A8 (Ah (Bu jA jS)) ⟨fun h=>absurd h hn30,fun _=>⟨by rw [At],by rw [show ((S2.nest:Int)-1)=((ck S2).nest:Int) by show _=((S2.nest-1:Nat):Int);omega];rfl⟩⟩ (hlow:=by have:=Av Hx.length x;rw [At] at this;simpa using this)

theorem yd (t:Str) (a b:Expr):Eb (Ki t a b)=[A5 5,.v (sv t),A5 0,A5 0,Ae [],.slice false 6 [A9 a,A9 b]]:=rfl
theorem AGm {n:Nat} (t:Str) (a b:Expr):ObjLow n (.cells 26 [A5 5,.v (sv t),A5 0,A5 0,Ae [],.slice false 6 [A9 a,A9 b]]):=AGk (Ki t a b)
theorem AGn {n:Nat} {U:List AObj} {i:Nat} {x:AObj} (h:∀y∈U,ObjLow n y) (hx:ObjLow n x):∀y∈U.set i x,ObjLow n y:=by
 intro y hy
 rcases Mr hy with h1|h1
 ·exact h y h1
 rw [h1];exact hx
/-- within, with a method's value. -/
theorem ACt {g:FuncId} (hgc:∀args w,(callFunc g args).run Tryz.prog w=.ok (.enter g args) w) (l:List Tok) (S:PS) (a:Int) (f:PS→Expr×PS) (o:Nat) (Hp:List AObj) (ho:Hp[o]? = some (pr l S)) (hi:S.i<l.length) (hnl:S.nest≤30) (hf:S.nest≠30→Ga l (S.nest+1) f) (hcf:S.nest≠30→PC g l f (S.nest+1)):
  ACall Tryz.prog 256 [.ptr o 0,A5 a,.fn (.func g) [.ptr o 0] []] Hp (fun r H'=>r=A9 (Dc a f S).1∧H'=Hp.set o (pr l (Dc a f S).2)):=by
 have hlt:=(Ad.1 ho).1
 by_cases h30:S.nest=30
 ·refine (AGl l S a g [.ptr o 0] [] Ap (Ee S) o Hp (Hp.set o (pr l (Ee S))) ho (by omega) hgc (by simp) (by simp [hlt]) rfl (fun h=>h) (fun h=>absurd h30 h)).mono fun r H' h=>?_
  have e:Dc a f S=(Ap,Fo 18 a S):=if_pos (by rw [h30];rfl)
  rw [e]
  exact h.1 h30
 have hq:=hf h30 (Ee S) hi rfl
 refine (AGl l S a g [.ptr o 0] [] (f (Ee S)).1 (f (Ee S)).2 o Hp (Hp.set o (pr l (f (Ee S)).2)) ho (by omega) hgc (by simp) (by simp [hlt]) hq.nest (fun h y hy=>?_) (fun _ own=>?_)).mono fun r H' h=>?_
 ·rcases Mr hy with h1|h1
  ·obtain ⟨i,hi',rfl⟩:=Tv h1
   by_cases hio:i=o
   ·subst hio
    have:Hp[i]=pr l S:=by rw [Ab hi'] at ho;injection ho
    rw [this];exact E4
   refine h _ ?_
   rw [sk]
   exact ⟨i,by rw [Dr (Ne.symm hio),Ab hi']⟩
  rw [h1];exact E4
 ·have hg:(Hp.set o (pr l (Ee S))++own)[o]? = some (pr l (Ee S)):=Ag (by simp [hlt])
  refine (hcf h30 o (Hp.set o (pr l (Ee S))++own) (Ee S) hg hi rfl).mono fun r H' h=>⟨h.1,h.2.trans ?_⟩
  rw [Lj _ _ (by simpa using hlt),Dy]
 have e:Dc a f S=((f (Ee S)).1,ck (f (Ee S)).2):=if_neg (by
  show ¬(((S.nest:Int)==30)=true)
  simp
  omega)
 rw [e]
 obtain ⟨h1,h2⟩:=h.2 h30
 exact ⟨h1,by rw [h2,Dy]⟩
theorem AGo {g:FuncId} (hgc:∀args w,(callFunc g args).run Tryz.prog w=.ok (.enter g args) w) (l:List Tok) (S:PS) (of:Str) (hof:of.length≤1048576) (f:PS→Expr×PS) (o:Nat) (Hp:List AObj) (ho:Hp[o]? = some (pr l S)) (hi:S.i<l.length) (hl:TokEnd l) (hll:l.length≤1048576) (hf:Ga l S.nest f) (hcf:PC g l f S.nest):ACall Tryz.prog 156 [.ptr o 0,Ae of,.fn (.func g) [.ptr o 0] []] Hp (fun r H'=>r=A9 (Hy l of f S).1∧H'=Hp.set o (pr l (Hy l of f S).2)):=by
 have holt:=(Ad.1 ho).1
 refine Af [.cell 6 26] [0,1,2] Tryz.func156 Tryz.ntmps156 (fun d=>?_)
 refine AFb ?_;refine Z2 ?_;refine R.callVUp hgc ho (by simp) E4 (hcf o _ S (Ag ho) hi rfl) ?_;refine Z19 ?_;refine A2 [0,1,2,6,7] ?_;refine Ma ?_
 refine B7 (α:=Expr×PS) (fun r=>⟨32,A7 0 (.ptr o 0) (A7 1 (Ae of) (A7 2 (.fn (.func g) [.ptr o 0] []) (A7 6 (.ptr (oid Hp.length 0) 0) (A7 7 (.ptr (oid Hp.length 1) 0) (fun _=>.any))))),Hp.set o (pr l r.2),[.cells 26 [A5 0,Ae [],A5 0,A5 0,Ae [],.nil],.cells 26 (Eb r.1)],[],none⟩) (fun r=>LeftAt l of f S r) (fun r=>l.length-r.2.i) (f S) (.start (hf S hi rfl)) (Bo (by simp)) rfl (fun r hx=>?_)
 refine Z60 ?_
 refine A4 (h:=Ca (getset ho)) (hr:=?_)
 refine Z47 ?_;refine Bt Tryz.call203 (fun hB=>li l r.2 of o _ (Ag (getset ho)) hx.fact.lt hl hof) ?_;refine A4 ?_;refine A2 [0,1,2,6,7,21] ?_
 refine A3 (fun ht21=>?_) (fun ht21=>?_)
 ·have hon:=hx.on hl ht21 hf
  have hle:=hon.2.1.le
  have hlt0:=hx.fact.lt
  have hU1:(Hp.set o (pr l r.2)).set o (pr l (Au r.2))=Hp.set o (pr l (Au r.2)):=Dy ..
  refine Z5 ?_;refine Jk ?_;refine Z2 ?_;refine C2 Tryz.call204 (getset ho) (by simp) E4 (ACs l r.2 o _ (Ag (getset ho)) hx.fact.lt hll) ?_;refine Z19 ?_;refine A2 [0,1,2,6,7,8] ?_;refine Xe [0,1,0,0,8,28,63,127] [4] [.q 4 [] [],.s [28] (some 0) [] [],.q 1 [0] []] (fun B=>Hp.set o (if B 0=true then pr l (f (Au r.2)).2 else pr l (Au r.2))) (fun _=>[.cells 26 [A5 0,Ae [],A5 0,A5 0,Ae [],.nil],.cells 26 (Eb r.1),.cells 113 [A5 (Ao l r.2.i).kind,Ae (Ao l r.2.i).text,A5 (Ao l r.2.i).at_]]) An (by kernel_rfl) (by simp [Dy]) rfl (fun B=>by simp) ?_
  apply Y.q
  ·intro B hT hF
   exact AB5
  case hTF=>decide
  refine Y.callVUp (r:=A9 (f (Au r.2)).1) (o:=o) (x0:=pr l (Au r.2)) (x:=pr l (f (Au r.2)).2) hgc (fun B hT hF hB=>⟨by simp only [hB];exact getset ho,by simp [upd],rfl,E4,?_⟩) ?_
  ·simp only [hB]
   exact hcf o _ (Au r.2) (Ag (getset ho)) hon.1 hx.fact.nest
  apply Y.q
  ·intro B hT hF
   exact Z62
  case hTF=>decide
  refine Ha (tn:=[4]) (U:=Hp.set o (pr l (f (Au r.2)).2)) ?_;refine p8 ?_;refine Iq ?_;refine A2 [0,1,2,6,7] ?_;refine N6 ?_
  refine Bb (Ki (Ao l r.2.i).text r.1 (f (Au r.2)).1,(f (Au r.2)).2) hon.2.2 (by show l.length-(f (Au r.2)).2.i<l.length-r.2.i;have:r.2.i+1≤(f (Au r.2)).2.i:=hle;omega) ?_
  simp only [yd]
  have hlow2:=fun n=>AGm (n:=n) (Ao l r.2.i).text r.1 (f (Au r.2)).1
  simp only [At] at hlow2 ⊢
  exact D4 (fun _=>.refl _) (by repeat (first|exact Be|refine Bd (by simp [oid]<;>omega) ?_)) (by intro y hy;rcases B5.1 hy with rfl|hy;exact ig;rw [Bl.1 hy];exact hlow2 _) (by simp)
 have hout:=hx.out (by rw [ht21];simp)
 refine Z55 ?_;refine Z2 ?_;refine ob ?_;exact A8 (Ah (Bu jA jS)) ⟨by rw [hout,At],by rw [hout]⟩ (hlow:=by have:=Av (Hp.set o (pr l r.2)).length r.1;rw [At] at this;simpa using this)

theorem APz (l:List Tok) (S:PS) (f:PS→Expr×PS) (o:Nat) (Hp:List AObj) (ho:Hp[o]? = some (pr l S)) (hi:S.i<l.length) (hl:TokEnd l) (hll:l.length≤1048576) (hf:Ga l S.nest f) (hcf:PC 157 l f S.nest):ACall Tryz.prog 114 [.ptr o 0] Hp (fun r H'=>r=A9 (Hy l orT f S).1∧H'=Hp.set o (pr l (Hy l orT f S).2)):=by
 refine Af [.cell 2 26] [0] Tryz.func114 Tryz.ntmps114 (fun d=>?_)
 refine Z76 ?_;refine Z1 ?_;refine Ka ?_;refine C2 Tryz.call156 ho (by simp) E4 (AGo Tryz.call157 l S orT (by decide) f o _ (Ag ho) hi hl hll hf hcf) ?_;refine Z15 ?_;exact A8 (Ah (Bu jA jS)) ⟨by rw [At],rfl⟩ (hlow:=by have:=Av Hp.length (Hy l orT f S).1;rw [At] at this;simpa using this)

theorem AQ0 (l:List Tok) (S:PS) (f:PS→Expr×PS) (o:Nat) (Hp:List AObj) (ho:Hp[o]? = some (pr l S)) (hi:S.i<l.length) (hl:TokEnd l) (hll:l.length≤1048576) (hf:Ga l S.nest f) (hcf:PC 205 l f S.nest):ACall Tryz.prog 157 [.ptr o 0] Hp (fun r H'=>r=A9 (Hy l y6 f S).1∧H'=Hp.set o (pr l (Hy l y6 f S).2)):=by
 refine Af [.cell 2 26] [0] Tryz.func157 Tryz.ntmps157 (fun d=>?_)
 refine Z76 ?_;refine Z1 ?_;refine Ka ?_;refine C2 Tryz.call156 ho (by simp) E4 (AGo Tryz.call205 l S y6 (by decide) f o _ (Ag ho) hi hl hll hf hcf) ?_;refine Z15 ?_;exact A8 (Ah (Bu jA jS)) ⟨by rw [At],rfl⟩ (hlow:=by have:=Av Hp.length (Hy l y6 f S).1;rw [At] at this;simpa using this)

theorem AQ1 (l:List Tok) (S:PS) (f:PS→Expr×PS) (o:Nat) (Hp:List AObj) (ho:Hp[o]? = some (pr l S)) (hi:S.i<l.length) (hl:TokEnd l) (hll:l.length≤1048576) (hf:Ga l S.nest f) (hcf:PC 317 l f S.nest):ACall Tryz.prog 291 [.ptr o 0] Hp (fun r H'=>r=A9 (Hy l y7 f S).1∧H'=Hp.set o (pr l (Hy l y7 f S).2)):=by
 refine Af [.cell 2 26] [0] Tryz.func291 Tryz.ntmps291 (fun d=>?_)
 refine Z76 ?_;refine Z1 ?_;refine Ka ?_;refine C2 Tryz.call156 ho (by simp) E4 (AGo Tryz.call317 l S y7 (by decide) f o _ (Ag ho) hi hl hll hf hcf) ?_;refine Z15 ?_;exact A8 (Ah (Bu jA jS)) ⟨by rw [At],rfl⟩ (hlow:=by have:=Av Hp.length (Hy l y7 f S).1;rw [At] at this;simpa using this)

theorem AQ2 (l:List Tok) (S:PS) (f:PS→Expr×PS) (o:Nat) (Hp:List AObj) (ho:Hp[o]? = some (pr l S)) (hi:S.i<l.length) (hl:TokEnd l) (hll:l.length≤1048576) (hf:Ga l S.nest f) (hcf:PC 334 l f S.nest):ACall Tryz.prog 317 [.ptr o 0] Hp (fun r H'=>r=A9 (Hy l cm f S).1∧H'=Hp.set o (pr l (Hy l cm f S).2)):=by
 refine Af [.cell 2 26] [0] Tryz.func317 Tryz.ntmps317 (fun d=>?_)
 refine Z76 ?_;refine Z1 ?_;refine Ka ?_;refine C2 Tryz.call156 ho (by simp) E4 (AGo Tryz.call334 l S cm (by decide) f o _ (Ag ho) hi hl hll hf hcf) ?_;refine Z15 ?_;exact A8 (Ah (Bu jA jS)) ⟨by rw [At],rfl⟩ (hlow:=by have:=Av Hp.length (Hy l cm f S).1;rw [At] at this;simpa using this)

/-- What is so of the functions one nest deeper. -/
structure DeepC (l:List Tok) (Dv:Fam) (n:Nat):Prop where
 ei:n≠30→Ga l (n+1) Dv.ei∧PC 114 l Dv.ei (n+1)
 no:n≠30→Ga l (n+1) Dv.no∧PC 205 l Dv.no (n+1)
 ne:n≠30→Ga l (n+1) Dv.ne∧PC 334 l Dv.ne (n+1)
theorem Wo (op:Int) (x:Expr):A9 (Id op x)=.agg [A5 op,Ae [],A5 0,A5 0,Ae [],.slice false 6 [A9 x]]:=by rw [At];rfl
theorem ue (t:Str) (a b:Expr):A9 (Ki t a b)=.agg [A5 5,.v (sv t),A5 0,A5 0,Ae [],.slice false 6 [A9 a,A9 b]]:=by rw [At];rfl
theorem low_agg {n:Nat} (e:Expr):Low n (.agg [.v (.int .i64 e.op),.v (sv e.text),.v (.int .i64 e.val.kind),.v (.int .i64 e.val.n),.v (sv e.val.s),.slice false 6 (e.kids.map A9)]):=by
 have:=Av n e
 rwa [At] at this
theorem AQ3 (l:List Tok) (S:PS) (Dv:Fam) (o:Nat) (Hp:List AObj) (ho:Hp[o]? = some (pr l S)) (hi:S.i<l.length) (hl:TokEnd l) (hll:l.length≤1048576) (hnl:S.nest≤30) (hd:DeepC l Dv S.nest) (hc:PC 346 l (Ii l Dv) S.nest):ACall Tryz.prog 334 [.ptr o 0] Hp (fun r H'=>r=A9 (Wc l Dv S).1∧H'=Hp.set o (pr l (Wc l Dv S).2)):=by
 refine Af [.cell 2 26] [0] Tryz.func334 Tryz.ntmps334 (fun d=>?_)
 refine Z76 ?_;refine Z32 ?_;refine Aa Tryz.call203 (li l S AJs o _ (Ag ho) hi hl (by decide)) ?_;refine A4 ?_;refine A2 [0,2,6] ?_
 refine A3 (fun ht6=>?_) (fun ht6=>?_)
 ·have e:Wc l Dv S=Ii l Dv S:=if_pos ht6
  refine Z2 ?_;refine C2 Tryz.call346 ho (by simp) E4 (hc o _ S (Ag ho) hi rfl) ?_;refine Z15 ?_;exact Z95
 have his:isM l AJs S=true:=by simpa using ht6
 have hi1:(Au S).i<l.length:=hl.stepIs hi his
 have e:Wc l Dv S=(Id 3 (Dc (Ao l S.i).at_ Dv.ne (Au S)).1,(Dc (Ao l S.i).at_ Dv.ne (Au S)).2):=if_neg (by rw [ht6];simp)
 refine Z5 ?_;refine Z80 ?_;refine ju ?_;refine Z27 ?_;refine Ka ?_;refine C2 Tryz.call256 (getset ho) (by simp) E4 (ACt Tryz.call334 l (Au S) (Ao l S.i).at_ Dv.ne o _ (Ag (getset ho)) hi1 hnl (fun h=>(hd.ne h).1) (fun h=>(hd.ne h).2)) ?_;refine Pn ?_;refine AIu ?_;exact A8 (Ah (Bu jA jS)) ⟨by rw [e,Wo];simp only [At],by rw [e,Dy]⟩ (hlow:=by have:=Av Hp.length (Id 3 (Dc (Ao l S.i).at_ Dv.ne (Au S)).1);rw [Wo] at this;simp only [At] at this;simpa only [E6] using this)

theorem AQ4 (l:List Tok) (S:PS) (Dv:Fam) (o:Nat) (Hp:List AObj) (ho:Hp[o]? = some (pr l S)) (hi:S.i<l.length) (hl:TokEnd l) (hll:l.length≤1048576) (hnl:S.nest≤30) (hd:DeepC l Dv S.nest) (hc:PC 255 l (Hg l Dv) S.nest):ACall Tryz.prog 205 [.ptr o 0] Hp (fun r H'=>r=A9 (Wd l Dv S).1∧H'=Hp.set o (pr l (Wd l Dv S).2)):=by
 refine Af [.cell 2 26] [0] Tryz.func205 Tryz.ntmps205 (fun d=>?_)
 refine Z76 ?_;refine Z32 ?_;refine Aa Tryz.call203 (li l S AJr o _ (Ag ho) hi hl (by decide)) ?_;refine A4 ?_;refine A2 [0,2,6] ?_
 refine A3 (fun ht6=>?_) (fun ht6=>?_)
 ·have e:Wd l Dv S=Hg l Dv S:=if_pos ht6
  refine Z2 ?_;refine C2 Tryz.call255 ho (by simp) E4 (hc o _ S (Ag ho) hi rfl) ?_;refine Z15 ?_;exact Z95
 have his:isM l AJr S=true:=by simpa using ht6
 have hi1:(Au S).i<l.length:=hl.stepIs hi his
 have e:Wd l Dv S=(Id 4 (Dc (Ao l S.i).at_ Dv.no (Au S)).1,(Dc (Ao l S.i).at_ Dv.no (Au S)).2):=if_neg (by rw [ht6];simp)
 refine Z5 ?_;refine Z80 ?_;refine ju ?_;refine Z27 ?_;refine Ka ?_;refine C2 Tryz.call256 (getset ho) (by simp) E4 (ACt Tryz.call205 l (Au S) (Ao l S.i).at_ Dv.no o _ (Ag (getset ho)) hi1 hnl (fun h=>(hd.no h).1) (fun h=>(hd.no h).2)) ?_;refine Pn ?_;refine AIu ?_;exact A8 (Ah (Bu jA jS)) ⟨by rw [e,Wo];simp only [At],by rw [e,Dy]⟩ (hlow:=by have:=Av Hp.length (Id 4 (Dc (Ao l S.i).at_ Dv.no (Au S)).1);rw [Wo] at this;simp only [At] at this;simpa only [E6] using this)

theorem AQ5 (l:List Tok) (S:PS) (Dv:Fam) (o:Nat) (Hp:List AObj) (ho:Hp[o]? = some (pr l S)) (hi:S.i<l.length) (hl:TokEnd l) (hll:l.length≤1048576) (hnl:S.nest≤30) (hd:DeepC l Dv S.nest) (hg:Ga l S.nest (G9 l Dv)) (hc:PC 291 l (G9 l Dv) S.nest):ACall Tryz.prog 255 [.ptr o 0] Hp (fun r H'=>r=A9 (Hg l Dv S).1∧H'=Hp.set o (pr l (Hg l Dv S).2)):=by
 have hq:=hg S hi rfl
 refine Af [.cell 2 26] [0] Tryz.func255 Tryz.ntmps255 (fun d=>?_)
 refine Z76 ?_;refine Z2 ?_;refine C2 Tryz.call291 ho (by simp) E4 (hc o _ S (Ag ho) hi rfl) ?_;refine ju ?_;refine Z60 ?_
 refine A4 (h:=Ca (getset ho)) (hr:=?_)
 refine Qx ?_;refine Bt Tryz.call203 (fun hB=>li l (G9 l Dv S).2 AGj o _ (Ag (getset ho)) hq.lt hl (by decide)) ?_;refine Qu ?_;refine A2 [0,2,3,17] ?_
 refine A3 (fun ht17=>?_) (fun ht17=>?_)
 ·have e:Hg l Dv S=G9 l Dv S:=if_pos ht17
  refine Z2 ?_;refine Z15 ?_;exact Z95
 have his:isM l AGj (G9 l Dv S).2=true:=by
  have:=ht17
  simp only [Ej,Dh] at this
  exact this.2
 have hi1:(Au (G9 l Dv S).2).i<l.length:=hl.stepIs hq.lt his
 have e:Hg l Dv S=(Ki (Ao l (G9 l Dv S).2.i).text (G9 l Dv S).1 (G9 l Dv (Au (G9 l Dv S).2)).1,(G9 l Dv (Au (G9 l Dv S).2)).2):=if_neg (by rw [ht17];simp)
 refine Lm ?_;refine C2 Tryz.call204 (getset ho) (by simp) E4 (ACs l (G9 l Dv S).2 o _ (Ag (getset ho)) hq.lt hll) ?_;refine Z19 ?_;refine A2 [0,2,3,4] ?_;refine Ip [0,1,0,0,8,28,63,127] [4] [.q 4 [] [],.s [25] (some 0) [] [],.q 1 [0] []] (fun B=>Hp.set o (if B 0=true then pr l (G9 l Dv (Au (G9 l Dv S).2)).2 else pr l (Au (G9 l Dv S).2))) (fun _=>[.cells 26 [A5 0,Ae [],A5 0,A5 0,Ae [],.nil],.cells 26 (Eb (G9 l Dv S).1),.cells 113 [A5 (Ao l (G9 l Dv S).2.i).kind,Ae (Ao l (G9 l Dv S).2.i).text,A5 (Ao l (G9 l Dv S).2.i).at_]]) An (by kernel_rfl) (by simp [Dy]) rfl (fun B=>by simp) ?_
 apply Y.q
 ·intro B hT hF
  exact AB5
 case hTF=>decide
 refine O9 (r:=A9 (G9 l Dv (Au (G9 l Dv S).2)).1) (o:=o) (x0:=pr l (Au (G9 l Dv S).2)) (x:=pr l (G9 l Dv (Au (G9 l Dv S).2)).2) Tryz.call291 (fun B hT hF hB=>⟨by simp only [hB];exact getset ho,by simp [upd],rfl,E4,?_⟩) ?_
 ·simp only [hB]
  exact hc o _ (Au (G9 l Dv S).2) (Ag (getset ho)) hi1 hq.nest
 apply Y.q
 ·intro B hT hF
  exact Z62
 case hTF=>decide
 refine Ha (tn:=[4]) (U:=Hp.set o (pr l (G9 l Dv (Au (G9 l Dv S).2)).2)) ?_;refine AIu ?_;exact A8 (Ah (Bu jA jS)) ⟨by rw [e,ue];simp only [At],by rw [e]⟩ (hlow:=by have:=Av Hp.length (Ki (Ao l (G9 l Dv S).2.i).text (G9 l Dv S).1 (G9 l Dv (Au (G9 l Dv S).2)).1);rw [ue] at this;simp only [At] at this;simpa only [E6] using this)

/-- The contract of the parser of calls. -/
def lj (l:List Tok) (Dv:Fam) (n:Nat):Prop:=∀(o:Nat) (Hp:List AObj) (S:PS) (t:Tok),Hp[o]? = some (pr l S)→(Au S).i<l.length→S.nest=n→t.text.length≤1048576→isM l opT S=true→ACall Tryz.prog 349 [.ptr o 0,Me t] Hp (fun r H'=>r=A9 (K3 l Dv t S).1∧H'=Hp.set o (pr l (K3 l Dv t S).2))
theorem ACu:A9 Ap=.agg [A5 0,Ae [],A5 0,A5 0,Ae [],.slice false 6 []]:=by rw [At];rfl
theorem AQ6 (l:List Tok) (S:PS) (Dv:Fam) (o:Nat) (Hp:List AObj) (ho:Hp[o]? = some (pr l S)) (hi:S.i<l.length) (hl:TokEnd l) (hll:l.length≤1048576) (hnl:S.nest≤30) (hd:DeepC l Dv S.nest) (hcl:lj l Dv S.nest):ACall Tryz.prog 346 [.ptr o 0] Hp (fun r H'=>r=A9 (Ii l Dv S).1∧H'=Hp.set o (pr l (Ii l Dv S).2)):=by
 refine Af [.cell 2 26] [0] Tryz.func346 Tryz.ntmps346 (fun d=>?_)
 refine Z76 ?_;refine AJ0 ?_;refine ju ?_;refine Z60 ?_
 refine A4 (h:=Ca ho) (hr:=?_)
 refine A4 ?_;refine A2 [0,2,3,14] ?_
 refine A3 (fun ht14=>?_) (fun ht14=>?_)
 ·have e:Ii l Dv S=(Ap,S):=if_pos ht14
  refine Z46 ?_;refine R.wk 15 _ Ym ?_;refine Z15 ?_;refine C4 ?_;exact A8 (Ah (Bu jA jS)) ⟨by rw [e,At],by rw [e];exact (Is ho).symm⟩ (hlow:=by have:=Av Hp.length (Ap);simpa only [At,E6] using this)
 have e0:¬(S.code != 0)=true:=by rw [ht14];simp
 refine Z50 ?_;refine oi ?_;refine Bt Tryz.call203 (fun hB=>li l S AJt o _ (Ag ho) hi hl (by decide)) ?_;refine Z0 ?_;refine A2 [0,2,3,16] ?_
 refine A3 (fun ht16=>?_) (fun ht16=>?_)
 ·have e:Ii l Dv S=(Mq (Jm (Ao l S.i).text).1,Au S):=by unfold Ii;rw [if_neg e0,if_pos ht16]
  refine Z80 ?_;refine A4 ?_;refine Aa Tryz.call252 (AJj (Ao l S.i).text (hl.text _) _) ?_;refine Xj ?_;refine A2 [2,4] ?_;refine Z2 ?_;refine Aa Tryz.call348 (ANs (Jm (Ao l S.i).text).1 _) ?_;refine Z15 ?_;refine Z6 ?_;exact A8 (Ah (Bu jA jS)) ⟨by rw [e,At],by rw [e]⟩ (hlow:=by have:=Av Hp.length (Mq (Jm (Ao l S.i).text).1);simpa only [At,E6] using this)
 have e1:¬(((Ao l S.i).kind==3) || isM l AJt S)=true:=by rw [ht16];simp
 refine Z27 ?_;refine A2 [0,2,3,33] ?_
 refine A3 (fun ht33=>?_) (fun ht33=>?_)
 ·have e:Ii l Dv S=(Mq ⟨2,0,(Ao l S.i).text.take 200⟩,Au S):=by unfold Ii;rw [if_neg e0,if_neg e1,if_pos ht33]
  refine Z80 ?_;refine A4 ?_;refine Aa Tryz.call223 (xj (Ao l S.i).text _) ?_;refine Aa Tryz.call348 (ANs ⟨2,0,(Ao l S.i).text.take 200⟩ _) ?_;refine Z15 ?_;refine Z6 ?_;exact A8 (Ah (Bu jA jS)) ⟨by rw [e,At],by rw [e]⟩ (hlow:=by have:=Av Hp.length (Mq ⟨2,0,(Ao l S.i).text.take 200⟩);simpa only [At,E6] using this)
 have e2:¬((Ao l S.i).kind==4)=true:=by rw [ht33];simp
 refine Z27 ?_;refine A2 [0,2,3,42] ?_
 refine A3 (fun ht42=>?_) (fun ht42=>?_)
 ·have hi1:(Au S).i<l.length:=hl.step hi (by rw [beq_iff_eq] at ht42;rw [ht42];decide)
  refine Z80 ?_;refine A2 [0,2,3] ?_;refine Z32 ?_;refine Aa Tryz.call203 (li l (Au S) opT o _ (Ag (getset ho)) hi1 hl (by decide)) ?_;refine A2 [0,2,3,49] ?_
  refine A3 (fun ht49=>?_) (fun ht49=>?_)
  ·have e:Ii l Dv S=K3 l Dv (Ao l S.i) (Au S):=by unfold Ii;rw [if_neg e0,if_neg e1,if_neg e2,if_pos ht42,if_pos ht49]
   have hi2:(Au (Au S)).i<l.length:=hl.stepIs hi1 ht49
   refine Z1 ?_;refine C2 Tryz.call349 (getset ho) (by simp) E4 (hcl o _ (Au S) (Ao l S.i) (Ag (getset ho)) hi2 rfl (hl.text _) ht49) ?_;refine Z15 ?_;refine C4 ?_;refine Z6 ?_;exact A8 (Ah (Bu jA jS)) ⟨by rw [e,At],by rw [e,Dy]⟩ (hlow:=by have:=Av Hp.length ((K3 l Dv (Ao l S.i) (Au S)).1);simpa only [At,E6] using this)
  have e:Ii l Dv S=(Cw (Ao l S.i).text,Au S):=by unfold Ii;rw [if_neg e0,if_neg e1,if_neg e2,if_pos ht42,if_neg (by rw [ht49];simp)]
  refine Ro ?_;refine p8 ?_;refine R.wk 55 _ (kq _) ?_;refine Z15 ?_;refine Z6 ?_;exact A8 (Ah (Bu jA jS)) ⟨by rw [e,At],by rw [e]⟩ (hlow:=by have:=Av Hp.length (Cw (Ao l S.i).text);simpa only [At,E6] using this)
 have e3:¬((Ao l S.i).kind==1)=true:=by rw [ht42];simp
 refine Z2 ?_;refine Aa Tryz.call203 (li l S opT o _ (Ag ho) hi hl (by decide)) ?_;refine A4 ?_;refine A2 [0,2,3,56] ?_
 refine A3 (fun ht56=>?_) (fun ht56=>?_)
 ·have e:Ii l Dv S=((Dc (Ao l S.i).at_ Dv.ei (Au S)).1,Hf l Hb (Dc (Ao l S.i).at_ Dv.ei (Au S)).2):=by unfold Ii;rw [if_neg e0,if_neg e1,if_neg e2,if_neg e3,if_pos ht56]
  have hi1:(Au S).i<l.length:=hl.stepIs hi ht56
  have hwf:=Lr (S:=Au S) (l:=l) (f:=Dv.ei) (Ao l S.i).at_ hi1 (fun h=>(hd.ei h).1)
  refine Z80 ?_;refine A2 [0,2,3] ?_;refine Z27 ?_;refine Ka ?_;refine C2 Tryz.call256 (getset ho) (by simp) E4 (ACt Tryz.call114 l (Au S) (Ao l S.i).at_ Dv.ei o _ (Ag (getset ho)) hi1 hnl (fun h=>(hd.ei h).1) (fun h=>(hd.ei h).2)) ?_;refine Z19 ?_;refine A2 [0,2,6] ?_;refine Z2 ?_;refine C2 Tryz.call350 (getset (getset ho)) (by simp) E4 (ANt l (Dc (Ao l S.i).at_ Dv.ei (Au S)).2 Hb o _ (Ag (getset (getset ho))) hwf.lt hll) ?_;refine A2 [2,6] ?_;refine Z2 ?_;refine Z15 ?_;refine Z6 ?_;exact A8 (Ah (Bu jA jS)) ⟨by rw [e,At],by rw [e,Dy,Dy]⟩ (hlow:=by have:=Av Hp.length ((Dc (Ao l S.i).at_ Dv.ei (Au S)).1);simpa only [At,E6] using this)
 have e:Ii l Dv S=(Ap,Fo 8 (Ao l S.i).at_ S):=by unfold Ii;rw [if_neg e0,if_neg e1,if_neg e2,if_neg e3,if_neg (by rw [ht56];simp)]
 refine Z16 ?_;refine ALv ?_;refine Z15 ?_;exact A8 (Ah (Bu jA jS)) ⟨by rw [e,At],by rw [e]⟩ (hlow:=by have:=Av Hp.length (Ap);simpa only [At,E6] using this)

theorem AGp {l:List Tok} (hl:TokEnd l) (hll:l.length≤1048576) {d n:Nat} (h:n+(d+1)=31) (hp:n≠30→PC 114 l (Hc l d).ei (n+1)∧PC 205 l (Hc l d).no (n+1)∧PC 334 l (Hc l d).ne (n+1)):DeepC l (Hc l d) n:=by
 have g:n≠30→_:=fun h30=>Uq hl hll d (n+1) (by omega) (by omega)
 exact ⟨fun h=>⟨(g h).1,(hp h).1⟩,fun h=>⟨(g h).2.1,(hp h).2.1⟩,fun h=>⟨(g h).2.2,(hp h).2.2⟩⟩
/-- All functions of the parser. -/
theorem ll {l:List Tok} (hl:TokEnd l) (hll:l.length≤1048576) (hcl:∀n Dv,n≤30→DeepC l Dv n→lj l Dv n):∀(d n:Nat),n+d=31→n≤30→PC 114 l (Hc l d).ei n∧PC 205 l (Hc l d).no n∧PC 334 l (Hc l d).ne n
 | 0,n,h,hn=>by omega
 | d+1,n,h,hn=>by
  have hd:DeepC l (Hc l d) n:=AGp hl hll h (fun h30=>ll hl hll hcl d (n+1) (by omega) (by omega))
  have g1:Ga l n (Wc l (Hc l d)):=Up hl hll (fun h=>(hd.ei h).1) (fun h=>(hd.ne h).1)
  have g2:Ga l n (la l (Hc l d)):=J5 hl g1
  have g3:Ga l n (G9 l (Hc l d)):=J5 hl g2
  have g4:Ga l n (Hg l (Hc l d)):=R5 hl hll (fun h=>(hd.ei h).1) (fun h=>(hd.ne h).1)
  have g5:Ga l n (Wd l (Hc l d)):=cp hl hll (fun h=>(hd.ei h).1) (fun h=>(hd.ne h).1) (fun h=>(hd.no h).1)
  have g6:Ga l n (lb l (Hc l d)):=J5 hl g5
  have p0:PC 346 l (Ii l (Hc l d)) n:=fun o Hp S ho hi hS=>by
   subst hS
   exact AQ6 l S (Hc l d) o Hp ho hi hl hll hn hd (hcl _ _ hn hd)
  have p1:PC 334 l (Wc l (Hc l d)) n:=fun o Hp S ho hi hS=>by
   subst hS
   exact AQ3 l S (Hc l d) o Hp ho hi hl hll hn hd p0
  have p2:PC 317 l (la l (Hc l d)) n:=fun o Hp S ho hi hS=>by
   subst hS
   exact AQ2 l S (Wc l (Hc l d)) o Hp ho hi hl hll g1 p1
  have p3:PC 291 l (G9 l (Hc l d)) n:=fun o Hp S ho hi hS=>by
   subst hS
   exact AQ1 l S (la l (Hc l d)) o Hp ho hi hl hll g2 p2
  have p4:PC 255 l (Hg l (Hc l d)) n:=fun o Hp S ho hi hS=>by
   subst hS
   exact AQ5 l S (Hc l d) o Hp ho hi hl hll hn hd g3 p3
  have p5:PC 205 l (Wd l (Hc l d)) n:=fun o Hp S ho hi hS=>by
   subst hS
   exact AQ4 l S (Hc l d) o Hp ho hi hl hll hn hd p4
  have p6:PC 157 l (lb l (Hc l d)) n:=fun o Hp S ho hi hS=>by
   subst hS
   exact AQ0 l S (Wd l (Hc l d)) o Hp ho hi hl hll g5 p5
  have p7:PC 114 l (Wn l (Hc l d)) n:=fun o Hp S ho hi hS=>by
   subst hS
   exact APz l S (lb l (Hc l d)) o Hp ho hi hl hll g6 p6
  exact ⟨p7,p5,p1⟩
theorem cq:∀(n:Nat) (e:Expr),okE n e→depthE e≤n
 | 0,_,h=>h.elim
 | n+1,e,h=>by
  rw [Ql]
  have:∀l:List Expr,(∀y∈l,okE n y)→Fi l≤n:=by
   intro l
   induction l with
   | nil=>intro _;exact Ar _
   | cons y r ih =>
    intro hl
    rw [Fi]
    have h1:=cq n y (hl y (by simp))
    have h2:=ih (fun z hz=>hl z (by simp [hz]))
    omega
  have:=this e.kids h.2.2
  omega
theorem ACv (e:Expr) (x:Nat):Cs (e.kids.take x)+1≤sizeE e:=by
 rw [Jn]
 have:∀(l:List Expr) (x:Nat),Cs (l.take x)≤Cs l:=by
  intro l
  induction l with
  | nil=>intro x;simp
  | cons y r ih =>
   intro x
   cases x with
   | zero=>simp [Cs]
   | succ x =>
    have:=ih x
    rw [List.take_succ_cons,Cs,Cs]
    omega
 have:=this e.kids x
 omega
theorem c54:∀(n:Nat) (e:Expr),okE n e→n≤1048576→∀Hp:List AObj,AFun Tryz.prog 54 [A9 e] Hp (A5 (depthE e:Nat)):=by
 intro n
 induction n with
 | zero=>exact fun e h=>h.elim
 | succ n ih =>
 intro e hok hn Hp
 refine Af [.tmp 2] [0] Tryz.func54 Tryz.ntmps54 (fun d=>?_)
 refine ou ?_;refine A2 [1,3] ?_;refine Z32 ?_;refine gn ?_
 refine B7 (α:=Nat) (fun x=>⟨25,A7 1 (.ro (Eb e)) (A7 3 (A5 (Fi (e.kids.take x):Nat)) (A7 4 (A5 (x:Nat)) (fun _=>.any))),Hp,[],[],none⟩) (fun x=>x≤e.kids.length) (fun x=>e.kids.length-x) (0) (Ar _) (Bo (by simp [Fi])) rfl (fun x hx=>?_)
 refine W9 ?_;refine A2 [1,3,4,10] ?_
 refine A3 (fun ht10=>?_) (fun ht10=>?_)
 ·have hlt:x<e.kids.length:=by simpa using ht10
  have hkl:=hok.2.1
  refine ai ?_
  refine A4 (h:=Ac (x) (A9 e.kids[x]) (fun _=>Ax hlt)) (hr:=?_)
  refine A4 ?_;refine Aa Tryz.call54 (ih e.kids[x] (hok.2.2 _ (B1 hlt)) (by omega) _) ?_;refine A4 ?_;refine A2 [1,3,4,5] ?_;refine Z17 ?_;refine A2 [1,3,4,5,21] ?_
  refine A3 (fun ht21=>?_) (fun ht21=>?_)
  ·have em:Fi (e.kids.take (x+1))=depthE e.kids[x]:=by rw [Vj _ hlt];have:=of_decide_eq_true ht21;omega
   refine Z12 ?_;refine gn ?_;refine Xl ?_;exact ALd
  have em:Fi (e.kids.take (x+1))=Fi (e.kids.take x):=by rw [Vj _ hlt];have:=of_decide_eq_false ht21;omega
  refine Z81 ?_;exact ALd
 have hd1:=cq _ e hok
 have hxe:e.kids.take x=e.kids:=E8 (by simp at ht10;omega)
 have hdd:=Ql e
 refine Z55 ?_;refine Z2 ?_
 rw [hxe]
 refine Z49 ?_;exact A8 (Ah A6) ⟨by rw [hdd];rfl,rfl⟩

theorem c55:∀(n:Nat) (e:Expr),okE n e→sizeE e≤1048576→∀Hp:List AObj,AFun Tryz.prog 55 [A9 e] Hp (A5 (sizeE e:Nat)):=by
 intro n
 induction n with
 | zero=>exact fun e h=>h.elim
 | succ n ih =>
 intro e hok hn Hp
 refine Af [.tmp 2] [0] Tryz.func55 Tryz.ntmps55 (fun d=>?_)
 refine ou ?_;refine A2 [1,3] ?_;refine Z32 ?_;refine gn ?_
 refine B7 (α:=Nat) (fun x=>⟨21,A7 1 (.ro (Eb e)) (A7 3 (A5 ((Cs (e.kids.take x):Nat)+1)) (A7 4 (A5 (x:Nat)) (fun _=>.any))),Hp,[],[],none⟩) (fun x=>x≤e.kids.length) (fun x=>e.kids.length-x) (0) (Ar _) (Bo (by simp [Cs])) rfl (fun x hx=>?_)
 refine W9 ?_;refine A2 [1,3,4,9] ?_
 refine A3 (fun ht9=>?_) (fun ht9=>?_)
 ·have hlt:x<e.kids.length:=by simpa using ht9
  have hkl:=hok.2.1
  have hs1:=qg e.kids hlt
  have hs2:=ACv e (x+1)
  refine Z50 ?_;refine Z12 ?_;refine Z0 ?_
  refine A4 (h:=Ac (x) (A9 e.kids[x]) (fun _=>Ax hlt)) (hr:=?_)
  refine A4 ?_
  refine Aa Tryz.call55 (ih e.kids[x] (hok.2.2 _ (B1 hlt)) (by have:=kn e hlt;omega) _) ?_
  refine Z0 ?_;refine gn ?_;refine Xl ?_;refine gn ?_;exact Bb (x+1) hlt (by omega) (Cg (by simp only [hs1];congr 4;simp only [AV.v.injEq,Value.int.injEq,true_and];omega))
 have hxe:e.kids.take x=e.kids:=E8 (by simp at ht9;omega)
 have hdd:=Jn e
 refine Z55 ?_;refine gj ?_;exact A8 (Ah A6) ⟨by rw [hxe,hdd];simp;omega,rfl⟩

def Ur (s:Str):Int:=if (((s==[108,101,110]) || (s==[115,116,114])) || (s==[110,117,109])) || (s==[105,115,110,117,108,108]) then 1 else if ((s==[110,118,108]) || (s==[108,101,102,116])) || (s==[114,105,103,104,116]) then 2 else if s==[105,102] then 3 else -1
theorem ye (s:Str):Ch s=Ur s:=by
 by_cases h:s∈arityList.map (·.1)
 ·have:((arityList.map (·.1)).all fun s=>decide (Ch s=Ur s))=true:=by kernel_rfl
  exact of_decide_eq_true (B2.1 this s h)
 have h1:Ch s = -1:=by
  unfold Ch
  rw [M2.2 fun p hp=>by
   simp only [beq_iff_eq]
   rintro rfl
   exact h (Cr.2 ⟨p,hp,rfl⟩)]
 rw [h1]
 simp only [arityList,Bz,Ek,B5,F5,or_false,not_or] at h
 obtain ⟨a1,a2,a3,a4,a5,a6,a7,a8⟩:=h
 simp [Ur,a1,a2,a3,a4,a5,a6,a7,a8]
theorem ANu (s:Str) (Hp:List AObj):AFun Tryz.prog 148 [Ae s] Hp (A5 (Ur s)):=by
 refine Af [.tmp 2] [0] Tryz.func148 Tryz.ntmps148 (fun d=>?_)
 refine k8 ?_;refine A2 [3] ?_;refine Jk ?_;refine Z8 ?_;refine A2 [3,4] ?_
 refine A3 (fun ht4=>?_) (fun ht4=>?_)
 ·refine Z5 ?_
  refine A3 (fun ht4=>?_) (fun ht4=>?_)
  ·exact Z68
  refine Z8 ?_;refine A2 [3,9] ?_
  refine A3 (fun ht9=>?_) (fun ht9=>?_)
  ·refine Z5 ?_
   refine A3 (fun ht9=>?_) (fun ht9=>?_)
   ·exact Z68
   refine W5 ?_
   refine A3 (fun ht13=>?_) (fun ht13=>?_)
   ·exact Z68
   exact W6
  refine Z1 ?_;refine A2 [3,9] ?_
  refine A3 (fun ht9=>?_) (fun ht9=>?_)
  ·refine Z5 ?_
   refine A3 (fun ht9=>?_) (fun ht9=>?_)
   ·exact Z68
   refine W5 ?_
   refine A3 (fun ht13=>?_) (fun ht13=>?_)
   ·exact Z68
   exact W6
  refine Z12 ?_;refine AFl ?_
  refine A3 (fun ht9=>?_) (fun ht9=>?_)
  ·exact Z68
  refine W5 ?_
  refine A3 (fun ht13=>?_) (fun ht13=>?_)
  ·exact Z68
  exact W6
 refine Z1 ?_;refine A2 [3,4] ?_
 refine A3 (fun ht4=>?_) (fun ht4=>?_)
 ·refine Z5 ?_
  refine A3 (fun ht4=>?_) (fun ht4=>?_)
  ·exact Z68
  refine Z8 ?_;refine A2 [3,9] ?_
  refine A3 (fun ht9=>?_) (fun ht9=>?_)
  ·refine Z5 ?_
   refine A3 (fun ht9=>?_) (fun ht9=>?_)
   ·exact Z68
   refine W5 ?_
   refine A3 (fun ht13=>?_) (fun ht13=>?_)
   ·exact Z68
   exact W6
  refine Z1 ?_;refine A2 [3,9] ?_
  refine A3 (fun ht9=>?_) (fun ht9=>?_)
  ·refine Z5 ?_
   refine A3 (fun ht9=>?_) (fun ht9=>?_)
   ·exact Z68
   refine W5 ?_
   refine A3 (fun ht13=>?_) (fun ht13=>?_)
   ·exact Z68
   exact W6
  refine Z12 ?_;refine AFl ?_
  refine A3 (fun ht9=>?_) (fun ht9=>?_)
  ·exact Z68
  refine W5 ?_
  refine A3 (fun ht13=>?_) (fun ht13=>?_)
  ·exact Z68
  exact W6
 refine Z1 ?_;refine A2 [3,4] ?_
 refine A3 (fun ht4=>?_) (fun ht4=>?_)
 ·refine Z5 ?_
  refine A3 (fun ht4=>?_) (fun ht4=>?_)
  ·exact Z68
  refine Z8 ?_;refine A2 [3,9] ?_
  refine A3 (fun ht9=>?_) (fun ht9=>?_)
  ·refine Z5 ?_
   refine A3 (fun ht9=>?_) (fun ht9=>?_)
   ·exact Z68
   refine W5 ?_
   refine A3 (fun ht13=>?_) (fun ht13=>?_)
   ·exact Z68
   exact W6
  refine Z1 ?_;refine A2 [3,9] ?_
  refine A3 (fun ht9=>?_) (fun ht9=>?_)
  ·refine Z5 ?_
   refine A3 (fun ht9=>?_) (fun ht9=>?_)
   ·exact Z68
   refine W5 ?_
   refine A3 (fun ht13=>?_) (fun ht13=>?_)
   ·exact Z68
   exact W6
  refine Z12 ?_;refine AFl ?_
  refine A3 (fun ht9=>?_) (fun ht9=>?_)
  ·exact Z68
  refine W5 ?_
  refine A3 (fun ht13=>?_) (fun ht13=>?_)
  ·exact Z68
  exact W6
 refine Z12 ?_;refine A2 [3,4] ?_;refine Fh ?_
 refine A3 (fun ht4=>?_) (fun ht4=>?_)
 ·exact Z68
 refine Z8 ?_;refine A2 [3,9] ?_
 refine A3 (fun ht9=>?_) (fun ht9=>?_)
 ·refine Z5 ?_
  refine A3 (fun ht9=>?_) (fun ht9=>?_)
  ·exact Z68
  refine W5 ?_
  refine A3 (fun ht13=>?_) (fun ht13=>?_)
  ·exact Z68
  exact W6
 refine Z1 ?_;refine A2 [3,9] ?_
 refine A3 (fun ht9=>?_) (fun ht9=>?_)
 ·refine Z5 ?_
  refine A3 (fun ht9=>?_) (fun ht9=>?_)
  ·exact Z68
  refine W5 ?_
  refine A3 (fun ht13=>?_) (fun ht13=>?_)
  ·exact Z68
  exact W6
 refine Z12 ?_;refine AFl ?_
 refine A3 (fun ht9=>?_) (fun ht9=>?_)
 ·exact Z68
 refine W5 ?_
 refine A3 (fun ht13=>?_) (fun ht13=>?_)
 ·exact Z68
 exact W6

theorem ACw {s:Str} {x:Nat} (hx:x<levels.length) (h:levels[x].contains s=true) (h0:∀(j:Nat) (l:List Str),j<x→levels[j]? = some l→l.contains s=false):Bw s=(x:Int):=by
 unfold Bw
 rw [L7.2 ⟨hx,h,fun j hj=>by
  have e:=h0 j levels[j] hj (Ab _)
  show ¬(levels[j].contains s=true)
  rw [e]
  simp⟩]
theorem ACx {s:Str} (h0:∀(j:Nat) (l:List Str),j<levels.length→levels[j]? = some l→l.contains s=false):Bw s = -1:=by
 unfold Bw
 rw [P1.2 fun l hl=>by
  obtain ⟨j,hj⟩:=Cm hl
  exact h0 j l (Ad.1 hj).1 hj]
theorem r7:levels.length=6:=rfl
theorem ii {x:Nat} (hx:x<levels.length):levels[x].length≤6:=by
 have:(levels.all fun l=>decide (l.length≤6))=true:=by kernel_rfl
 exact of_decide_eq_true (B2.1 this _ (B1 hx))
theorem ay {l:List Str} {s:Str} (h:∀(j:Nat) (w:Str),j<l.length→l[j]? = some w→(w==s)=false):l.contains s=false:=by
 rw [Ik]
 intro hc
 have hm:s∈l:=by simpa using hc
 obtain ⟨j,hj⟩:=Cm hm
 have:=h j s (Ad.1 hj).1 hj
 simp at this
theorem AJu (s:Str) (Hp:List AObj):AFun Tryz.prog 147 [Ae s] Hp (A5 (Bw s)):=by
 refine Af [.tmp 2] [0] Tryz.func147 Tryz.ntmps147 (fun d=>?_)
 refine Z43 ?_;refine jt ?_;refine AJ4 ?_;refine AJ4 ?_;refine AJ4 ?_;refine L1 ?_;refine Ln ?_;refine Z32 ?_;refine al ?_
 refine B7 (α:=Nat) (fun x=>⟨38,A7 0 (Ae s) (A7 3 (.slice true 1 (levels.map Gq)) (A7 4 (A5 (x:Nat)) (fun _=>.any))),Hp,[],[],none⟩) (fun x=>x≤levels.length∧∀(j:Nat) (l:List Str),j<x→levels[j]? = some l→l.contains s=false) (fun x=>levels.length-x) (0) ⟨Ar _,fun j l h=>by omega⟩ (G8 _) rfl (fun x hx=>?_)
 refine Z60 ?_;refine A2 [0,3,4,16] ?_
 refine A3 (fun ht16=>?_) (fun ht16=>?_)
 ·have hlt:x<levels.length:=by simpa using ht16
  have h6:=r7
  have hls:=ii hlt
  refine Z50 ?_;refine Z2 ?_;refine A2 [0,3,4,5] ?_
  refine B7 (α:=Nat) (fun y=>⟨38,A7 0 (Ae s) (A7 3 (.slice true 1 (levels.map Gq)) (A7 4 (A5 (x:Nat)) (A7 5 (A5 (y:Nat)) (fun _=>.any)))),Hp,[],[],none⟩) (fun y=>y≤levels[x].length∧∀(j:Nat) (w:Str),j<y→levels[x][j]? = some w→(w==s)=false) (fun y=>levels[x].length-y) (0) ⟨Ar _,fun j l h=>by omega⟩ (G8 _) rfl (fun y hy=>?_)
  refine Z36 ?_
  refine A4 (h:=Ac (x) (Gq levels[x]) (fun _=>Ax hlt)) (hr:=?_)
  refine Z22 ?_;refine A2 [0,3,4,5,25] ?_
  refine A3 (fun ht25=>?_) (fun ht25=>?_)
  ·have hly:y<levels[x].length:=by simpa using ht25
   refine Su ?_
   refine A4 (h:=Ac (x) (Gq levels[x]) (fun _=>Ax hlt)) (hr:=?_)
   refine Z0 ?_
   refine A4 (h:=Ac (y) (Ae (levels[x])[y]) (fun _=>Ax hly)) (hr:=?_)
   refine Z22 ?_;refine A2 [0,3,4,5,36] ?_
   refine A3 (fun ht36=>?_) (fun ht36=>?_)
   ·refine gj ?_;refine Z33 ?_;refine Z45 ?_;exact A8 (Ah A6) ⟨by rw [ACw hlt (by simp only [List.contains_iff_mem];have:=ht36;simp only [beq_iff_eq] at this;rw [←this];exact B1 hly) hx.2],rfl⟩
   refine Z81 ?_;refine A2 [0,3,4,5] ?_;exact Bb (y+1) ⟨hly,Cc hly hy.2 ht36⟩ (by omega) (Cg rfl)
  have hny:levels[x].length≤y:=by simpa using ht25
  refine x7 ?_;refine Xl ?_;refine al ?_;exact Bb (x+1) ⟨hlt,Cc hlt hx.2 (ay fun j w hj hw=>hy.2 j w (by omega) hw)⟩ (by omega) (Cg rfl)
 have hnx:levels.length≤x:=by simpa using ht16
 refine ol ?_;exact A8 (Ah A6) ⟨by rw [ACx (fun j l hj h=>hx.2 j l (by omega) h)],rfl⟩

theorem AQ7 (e:Expr) (hs:e.text.length≤1048576) (Hp:List AObj):AFun Tryz.prog 103 [A9 e] Hp (Bk (I8 e)):=by
 refine Af [.tmp 2] [0] Tryz.func103 Tryz.ntmps103 (fun d=>?_)
 refine Z90 ?_;refine Z27 ?_;refine A2 [1,3] ?_;refine Z36 ?_;refine A2 [1,3,9] ?_
 refine A3 (fun ht9=>?_) (fun ht9=>?_)
 ·refine Z1 ?_;refine Aa Tryz.call146 (APb e.val _) ?_;refine A4 ?_;refine Z7 ?_;refine ae ?_;refine Xm ?_;refine Z49 ?_;exact ALg
 refine Z5 ?_;refine Z8 ?_;refine oy ?_
 refine A4 (h:=Xa Xo (Jl e.val.kind e.val.n 0 0 e.val.s [])) (hr:=?_)
 refine A2 [1,3,31] ?_
 refine A3 (fun ht31=>?_) (fun ht31=>?_)
 ·refine Z25 ?_;exact ALg
 refine Z5 ?_;refine Z8 ?_;refine A2 [1,3,33] ?_;refine Pj ?_;refine A2 [1,3,33,34] ?_
 refine A3 (fun ht34=>?_) (fun ht34=>?_)
 ·refine Z1 ?_;refine Aa Tryz.call52 (c52 e.text hs _) ?_;refine A4 ?_;refine js ?_;exact Z56
 refine Z8 ?_;refine A2 [1,3,33,43] ?_
 refine A3 (fun ht43=>?_) (fun ht43=>?_)
 ·refine Z5 ?_
  refine A3 (fun ht43=>?_) (fun ht43=>?_)
  ·refine Z27 ?_;refine js ?_;exact Z56
  refine Z1 ?_;refine A2 [1,3,33,53] ?_
  refine A3 (fun ht53=>?_) (fun ht53=>?_)
  ·refine Z1 ?_;refine Aa Tryz.call147 (AJu e.text _) ?_;refine Z47 ?_;refine Z49 ?_;exact Z56
  refine Z1 ?_;refine A2 [1,3,63] ?_
  refine A3 (fun ht63=>?_) (fun ht63=>?_)
  ·refine Z1 ?_;refine Aa Tryz.call148 (ANu e.text _) ?_;refine Z22 ?_;refine Z3 ?_;exact Z56
  exact ALh
 refine Z12 ?_;refine A2 [1,3,33,43] ?_;refine Fh ?_
 refine A3 (fun ht43=>?_) (fun ht43=>?_)
 ·refine Z27 ?_;refine js ?_;exact Z56
 refine Z1 ?_;refine A2 [1,3,33,53] ?_
 refine A3 (fun ht53=>?_) (fun ht53=>?_)
 ·refine Z1 ?_;refine Aa Tryz.call147 (AJu e.text _) ?_;refine Z47 ?_;refine Z49 ?_;exact Z56
 refine Z1 ?_;refine A2 [1,3,63] ?_
 refine A3 (fun ht63=>?_) (fun ht63=>?_)
 ·refine Z1 ?_;refine Aa Tryz.call148 (ANu e.text _) ?_;refine Z22 ?_;refine Z3 ?_;exact Z56
 exact ALh

theorem c56:∀(n:Nat) (e:Expr),okE n e→∀Hp:List AObj,AFun Tryz.prog 56 [A9 e] Hp (Bk (Dw I8 e)):=by
 intro n
 induction n with
 | zero=>exact fun e h=>h.elim
 | succ n ih =>
 intro e hok Hp
 refine Af [.tmp 2] [0] Tryz.func56 Tryz.ntmps56 (fun d=>?_)
 refine Z90 ?_;refine Z32 ?_;refine Aa Tryz.call103 (AQ7 e hok.1 _) ?_;refine A4 ?_;refine A2 [1,6] ?_
 refine A3 (fun ht6=>?_) (fun ht6=>?_)
 ·refine Z25 ?_;refine C4 ?_;exact A8 (Ah A6) ⟨by rw [Gg];simp at ht6;rw [ht6];rfl,rfl⟩
 refine Rm ?_;refine A2 [1,3] ?_
 refine B7 (α:=Nat) (fun x=>⟨21,A7 1 (.ro (Eb e)) (A7 3 (A5 (x:Nat)) (fun _=>.any)),Hp,[],[],none⟩) (fun x=>x≤e.kids.length∧Jo I8 (e.kids.take x)=true) (fun x=>e.kids.length-x) (0) ⟨Ar _,rfl⟩ (G8 _) rfl (fun x hx=>?_)
 refine W9 ?_;refine A2 [1,3,11] ?_
 refine A3 (fun ht11=>?_) (fun ht11=>?_)
 ·have hlt:x<e.kids.length:=by simpa using ht11
  have hkl:=hok.2.1
  refine ai ?_
  refine A4 (h:=Ac (x) (A9 e.kids[x]) (fun _=>Ax hlt)) (hr:=?_)
  refine A4 ?_;refine Aa Tryz.call56 (ih e.kids[x] (hok.2.2 _ (B1 hlt)) _) ?_;refine A4 ?_;refine A2 [1,3,20] ?_
  refine A3 (fun ht20=>?_) (fun ht20=>?_)
  ·refine gg ?_;exact A8 (Ah A6) ⟨by rw [show Dw I8 e=false from by rw [Ik];intro h;rw [Gg,As] at h;have:=(E3 _ _).1 h.2 _ (B1 hlt);rw [this] at ht20;cases ht20],rfl⟩
  refine Z81 ?_;refine A2 [1,3] ?_;exact Bb (x+1) ⟨hlt,by rw [Hv hlt,Vi,hx.2,Jo,Jo,To,Bs];simpa using ht20⟩ (by omega) (Cg rfl)
 have hxe:e.kids.take x=e.kids:=E8 (by simp at ht11;omega)
 refine ol ?_;exact A8 (Ah A6) ⟨by have:=hx.2;rw [hxe] at this;rw [Gg,this];simp at ht6;rw [ht6];rfl,rfl⟩

theorem ACy (e:Expr):Dw I8 e=Dw Dl e:=by rw [show Dl=I8 from funext T3]
theorem c22 (n:Nat) (e:Expr) (hok:okE n e) (hn:n≤1048576) (hs:sizeE e≤1048576) (Hp:List AObj):AFun Tryz.prog 22 [A9 e] Hp (Bk (D3 e)):=by
 refine Af [.tmp 2] [0] Tryz.func22 Tryz.ntmps22 (fun d=>?_)
 refine ou ?_;refine Aa Tryz.call54 (c54 n e hok hn _) ?_;refine Qx ?_;refine Bt Tryz.call55 (fun hB=>c55 n e hok hs _) ?_;refine Bi ?_;refine Qx ?_;refine Bt Tryz.call56 (fun hB=>c56 n e hok _) ?_;refine Z49 ?_;exact A8 (Ah A6) ⟨by rw [D3,ACy,show decide ((depthE e:Int)≤30)=decide (depthE e≤30) by rw [decide_eq_decide];omega,show decide ((sizeE e:Int)≤300)=decide (sizeE e≤300) by rw [decide_eq_decide];omega],rfl⟩

set_option maxRecDepth 8000
/-! The document's kinds of trees are infer's. -/
def G5 (k w:Int):Bool:=(k==0) || (k==w)
def Ev (o:Int) (t:Str) (ks:List Int):Int×Bool:=
 if o==3 then (1,G5 (ks.getD 0 0) 1) else if o==4 then (3,G5 (ks.getD 0 0) 3)
 else if (o==5)&&((t==[111,114]) || (t==[97,110,100])) then (3,G5 (ks.getD 0 0) 3&&G5 (ks.getD 1 0) 3)
 else if (o==5)&&(Bw t==3) then (3,(ks.getD 0 0==0) || G5 (ks.getD 1 0) (ks.getD 0 0))
 else if (o==5)&&(t==[38]) then (2,G5 (ks.getD 0 0) 2&&G5 (ks.getD 1 0) 2)
 else if o==5 then (1,G5 (ks.getD 0 0) 1&&G5 (ks.getD 1 0) 1)
 else if (t==[108,101,110]) || (t==[110,117,109]) then (1,G5 (ks.getD 0 0) 2)
 else if t==[115,116,114] then (2,G5 (ks.getD 0 0) 1)
 else if (t==[108,101,102,116]) || (t==[114,105,103,104,116]) then (2,G5 (ks.getD 0 0) 2&&G5 (ks.getD 1 0) 1)
 else if t==[105,115,110,117,108,108] then (3,true)
 else (if ks.getD (ks.length-2) 0==0 then ks.getD (ks.length-1) 0 else ks.getD (ks.length-2) 0,
  ((ks.getD (ks.length-2) 0==0) || G5 (ks.getD (ks.length-1) 0) (ks.getD (ks.length-2) 0))&&((t==[110,118,108]) || G5 (ks.getD 0 0) 3))
def Em (o:Int) (t:Str) (ks:List Int):Int×Int:=if (Ev o t ks).2 then ((Ev o t ks).1,0) else (0,10)
theorem Qm (w k:Int) (hw:(w==0)=false):(Fa w k).2=G5 k w:=by
 unfold Fa G5
 rw [hw]
 simp only [Aq,if_false]
 by_cases h:(k==0)=true
 ·simp [h]
 have h':(k==0)=false:=by simpa using h
 rw [h']
 by_cases h2:w=k
 ·subst h2;simp
 have:¬k=w:=fun e=>h2 e.symm
 simp [h2,this]
theorem AGq (t:Str):(Bw t==3)=((((((t==[61]) || (t==[33,61])) || (t==[60])) || (t==[60,61])) || (t==[62])) || (t==[62,61])):=by
 by_cases h:t∈[[61],[33,61],[60],[60,61],[62],[62,61]]
 ·simp only [B5,El,or_false] at h
  rcases h with rfl|rfl|rfl|rfl|rfl|rfl<;>rfl
 have e:((((((t==[61]) || (t==[33,61])) || (t==[60])) || (t==[60,61])) || (t==[62])) || (t==[62,61]))=false:=by
  simp only [B5,El,or_false,not_or] at h
  simp [h]
 rw [e]
 unfold Bw
 split
 ·rename_i i hi
  rw [L7] at hi
  obtain ⟨hl,hc,_⟩:=hi
  by_cases h3:i=3
  ·subst h3
   exact (h (by simp [levels] at hc;simpa using hc)).elim
  have:¬((i:Int)=3):=by omega
  simp [this]
 rfl
theorem uf {s:Sign} {a w:Int} (hk:s.kids=[w]) (hw:(w==0)=false) (h1:(w == -1)=false) (h2:(w == -2)=false) (ho:(s.own == -1)=false):J3 s [a]=if G5 a w then (s.own,0) else (0,10):=by
 unfold J3
 rw [hk]
 simp only [Gr,h1,h2,Aq,if_false,Qm w a hw]
 cases G5 a w<;>simp [ho]
theorem ug {s:Sign} {a b v w:Int} (hk:s.kids=[v,w]) (hv:(v==0)=false) (hv1:(v == -1)=false) (hv2:(v == -2)=false) (hw:(w==0)=false) (h1:(w == -1)=false) (h2:(w == -2)=false) (ho:(s.own == -1)=false):J3 s [a,b]=if G5 a v&&G5 b w then (s.own,0) else (0,10):=by
 unfold J3
 rw [hk]
 simp only [Gr,hv1,hv2,h1,h2,Aq,if_false,Qm w b hw,Qm v a hv]
 cases G5 a v<;>cases G5 b w<;>simp [ho]
theorem AIh {s:Sign} {a b:Int} (hk:s.kids=[-1, -1]):J3 s [a,b]=if (a==0) || G5 b a then (if s.own == -1 then (if a==0 then b else a,0) else (s.own,0)) else (0,10):=by
 unfold J3 G5
 rw [hk]
 simp only [Gr,Fa]
 by_cases ha:a=0
 ·subst ha;simp
 by_cases hb:b=0
 ·subst hb;simp [ha]
 by_cases he:a=b
 ·subst he;simp [ha]
 have:¬b=a:=fun e=>he e.symm
 simp [ha,hb,he,this]
theorem AJv {s:Sign} {x a b:Int} (hk:s.kids=[3, -1, -1]):J3 s [x,a,b]=if ((a==0) || G5 b a)&&G5 x 3 then (if s.own == -1 then (if a==0 then b else a,0) else (s.own,0)) else (0,10):=by
 unfold J3 G5
 rw [hk]
 simp only [Gr,Qm 3 x rfl,G5]
 simp only [Fa]
 by_cases hx:((x==0) || (x==3))=true
 ·by_cases ha:a=0
  ·subst ha;simp [hx]
  by_cases hb:b=0
  ·subst hb;simp [ha,hx]
  by_cases he:a=b
  ·subst he;simp [ha,hx]
  have:¬b=a:=fun e=>he e.symm
  simp [ha,hb,he,this,hx]
 simp [hx]
theorem ANv {s:Sign} {x:Int} (hk:s.kids=[-2]) (ho:(s.own == -1)=false):J3 s [x]=(s.own,0):=by
 unfold J3
 rw [hk]
 simp [Gr,ho]
theorem lm {ks:List Int} (h:ks.length=1):∃a,ks=[a]:=by
 match ks,h with
 | [a],_=>exact ⟨a,rfl⟩
theorem ACz {ks:List Int} (h:ks.length=2):∃a b,ks=[a,b]:=by
 match ks,h with
 | [a,b],_=>exact ⟨a,b,rfl⟩
theorem ANw {ks:List Int} (h:ks.length=3):∃a b c,ks=[a,b,c]:=by
 match ks,h with
 | [a,b,c],_=>exact ⟨a,b,c,rfl⟩
theorem r8 (t:Str) (a b:Int):Em 5 t [a,b]=J3 (Dn t) [a,b]:=by
 unfold Em Ev Dn
 simp only [AGq,show ((5:Int)==3)=false from rfl,show ((5:Int)==4)=false from rfl,show ((5:Int)==5)=true from rfl,Bs,Aq,if_false]
 by_cases h1:((t==[111,114]) || (t==[97,110,100]))=true
 ·simp only [h1,if_true]
  rw [ug (v:=3) (w:=3) rfl rfl rfl rfl rfl rfl rfl rfl]
  rfl
 simp only [h1,if_false,Aq]
 by_cases h2:((((((t==[61]) || (t==[33,61])) || (t==[60])) || (t==[60,61])) || (t==[62])) || (t==[62,61]))=true
 ·simp only [h2,if_true]
  rw [AIh rfl]
  rfl
 simp only [h2,if_false,Aq]
 by_cases h3:(t==[38])=true
 ·simp only [h3,if_true]
  rw [ug (v:=2) (w:=2) rfl rfl rfl rfl rfl rfl rfl rfl]
  rfl
 simp only [h3,if_false,Aq,if_true]
 rw [ug (v:=1) (w:=1) rfl rfl rfl rfl rfl rfl rfl rfl]
 rfl
theorem r9 {t:Str} {ks:List Int} (h:(E9 t).kids.length=ks.length):Em 6 t ks=J3 (E9 t) ks:=by
 unfold Em Ev
 simp only [show ((6:Int)==3)=false from rfl,show ((6:Int)==4)=false from rfl,show ((6:Int)==5)=false from rfl,Ei,Aq,if_false]
 unfold E9 at h ⊢
 by_cases h1:((t==[108,101,110]) || (t==[110,117,109]))=true
 ·simp only [h1,if_true] at h ⊢
  obtain ⟨a,rfl⟩:=lm h.symm
  rw [uf (w:=2) rfl rfl rfl rfl rfl]
  rfl
 simp only [h1,if_false,Aq] at h ⊢
 by_cases h2:(t==[115,116,114])=true
 ·simp only [h2,if_true] at h ⊢
  obtain ⟨a,rfl⟩:=lm h.symm
  rw [uf (w:=1) rfl rfl rfl rfl rfl]
  rfl
 simp only [h2,if_false,Aq] at h ⊢
 by_cases h3:((t==[108,101,102,116]) || (t==[114,105,103,104,116]))=true
 ·simp only [h3,if_true] at h ⊢
  obtain ⟨a,b,rfl⟩:=ACz h.symm
  rw [ug (v:=2) (w:=1) rfl rfl rfl rfl rfl rfl rfl rfl]
  rfl
 simp only [h3,if_false,Aq] at h ⊢
 by_cases h4:(t==[105,115,110,117,108,108])=true
 ·simp only [h4,if_true] at h ⊢
  obtain ⟨a,rfl⟩:=lm h.symm
  rw [ANv rfl rfl]
 simp only [h4,if_false,Aq] at h ⊢
 by_cases h5:(t==[110,118,108])=true
 ·simp only [h5,if_true] at h ⊢
  obtain ⟨a,b,rfl⟩:=ACz h.symm
  rw [AIh rfl]
  simp
 simp only [h5,if_false,Aq] at h ⊢
 obtain ⟨a,b,c,rfl⟩:=ANw h.symm
 rw [AJv rfl]
 simp
theorem AGr {e:Expr} (h:Dl e=true) (h1:(e.op==1)=false) (h2:(e.op==2)=false) {ks:List Int} (hl:ks.length=e.kids.length):Em e.op e.text ks=J3 (Jr e.op e.text) ks:=by
 have hs:=Nr h h1 h2
 unfold Jr at hs ⊢
 unfold Dl at h
 rw [h1,h2] at h
 simp only [Aq,if_false] at h
 by_cases h3:e.op=3
 ·rw [h3] at hs ⊢
  simp only [beq_self_eq_true,if_true] at hs ⊢
  obtain ⟨a,rfl⟩:=lm (by rw [hl,←hs];rfl)
  rw [uf (w:=1) rfl rfl rfl rfl rfl]
  rfl
 by_cases h4:e.op=4
 ·rw [h4] at hs ⊢
  obtain ⟨a,rfl⟩:=lm (by rw [hl,←hs];rfl)
  rw [show (if ((4:Int)==3)=true then (⟨[1],1⟩:Sign) else if ((4:Int)==4)=true then ⟨[3],3⟩ else if ((4:Int)==5)=true then Dn e.text else E9 e.text)=⟨[3],3⟩ from rfl,uf (w:=3) rfl rfl rfl rfl rfl]
  rfl
 by_cases h5:e.op=5
 ·rw [h5] at hs ⊢
  rw [show (if ((5:Int)==3)=true then (⟨[1],1⟩:Sign) else if ((5:Int)==4)=true then ⟨[3],3⟩ else if ((5:Int)==5)=true then Dn e.text else E9 e.text)=Dn e.text from rfl] at hs ⊢
  obtain ⟨a,b,rfl⟩:=ACz (by rw [hl,←hs,Rz])
  exact r8 _ _ _
 have h6:e.op=6:=by
  simp [h3,h4,h5] at h
  exact h.1
 rw [h6] at hs ⊢
 rw [show (if ((6:Int)==3)=true then (⟨[1],1⟩:Sign) else if ((6:Int)==4)=true then ⟨[3],3⟩ else if ((6:Int)==5)=true then Dn e.text else E9 e.text)=E9 e.text from rfl] at hs ⊢
 exact r9 (by rw [hs,hl])
set_option maxRecDepth 4000
theorem uh {n:Nat} {U F:Nat→List AObj} {H':List AObj} (h:Nl (fun _=>true) U F n H'):H'=U n:=by
 rcases h with ⟨_,h⟩|⟨j,_,_,h,_⟩
 ·exact h
 cases h
theorem yf {α:Type} {l:List α} {k:Nat} {y:α} (h:l[k]? = some y):l.take (k+1)=l.take k++[y]:=by rw [List.take_add_one,h];rfl
theorem AD0 {L:List (Int×Expr)} {k:Nat} {it:Int×Expr} (h:L[k]? = some it):H3 0 (L.take (k+1))=if H3 0 (L.take k)<it.1 then it.1 else H3 0 (L.take k):=by
 have e:H3 0 (L.take (k+1))=max (H3 0 (L.take k)) it.1:=by
  unfold H3
  rw [yf h,nk]
  rfl
 rw [e]
 split<;>omega
theorem cr {n k:Nat} {o:Bool} {l:List Str}:Low n (.slice o k (l.map Ae)):=by simp [or_imp,forall_and]
theorem AQ8 (n:Nat) (e:Expr) (hok:okE n e) (hn:n≤1048576) (hs:sizeE e≤1048576) (Hp:List AObj):AFun Tryz.prog 115 [A9 e] Hp (A5 (depthE e:Nat)):=by
 refine Af [.tmp 2] [0,4] Tryz.func115 Tryz.ntmps115 (fun d=>?_)
 refine Z1 ?_;refine A2 [1,4] ?_;refine Fp ?_;refine Z19 ?_;refine gn ?_;refine Z67 ?_
 refine N8 (fun hlow=>?_)
 refine AJ6 ?_;refine A2 [3,4,6] ?_;refine Jk ?_
 refine Ob (m:=1) Tryz.call123 (fun FR as' bd' hFR has hbd=>?_)
 have hFRl:∀s,Low (Hp.length+3) (FR s):=by
  intro s
  rw [hFR]
  refine P4 ?_
  revert s
  repeat (first|exact Be|refine Bd (by simp [oid,Av]<;>try omega) ?_)
 have hOl:∀{k:Nat},∀x∈[AObj.cells 3 [A5 (H3 0 ((C8 1 e).take k))],AObj.defs,AObj.loop LoopState.ready none FR 13 #[7,8] as' bd' (oid Hp.length 1)],ObjLow (Hp.length+3) x:=by
  intro k x hx
  simp only [B5,El,or_false] at hx
  rcases hx with rfl|rfl|rfl
  ·intro y hy
   rw [Bl.1 hy]
   first|exact cr|simp
  ·trivial
  exact ABk
 refine ⟨fun _ H'=>Nl (fun _=>true) (fun k=>Hp++[AObj.cells 3 [A5 (H3 0 ((C8 1 e).take k))],AObj.defs,AObj.loop LoopState.ready none FR 13 #[7,8] as' bd' (oid Hp.length 1)]) (fun k=>Hp++[AObj.cells 3 [A5 (H3 0 ((C8 1 e).take k))],AObj.defs,AObj.loop LoopState.ready none FR 13 #[7,8] as' bd' (oid Hp.length 1)]) (C8 1 e).length H',AJm (l:=oid Hp.length 2) (go:=fun _=>true) (U:=fun k=>Hp++[AObj.cells 3 [A5 (H3 0 ((C8 1 e).take k))],AObj.defs,AObj.loop LoopState.ready none FR 13 #[7,8] as' bd' (oid Hp.length 1)]) (F:=fun k=>Hp++[AObj.cells 3 [A5 (H3 0 ((C8 1 e).take k))],AObj.defs,AObj.loop LoopState.ready none FR 13 #[7,8] as' bd' (oid Hp.length 1)]) (n0:=Hp.length+3) ⟨fun k=>by simp,fun k=>by simp,fun k x hx=>?_,fun k x hx=>?_,by simp [oid],fun X k it hit hgo=>?_⟩ n hok hn,?_⟩
 ·exact ABl
 ·exact ABl
 ·have hklt:k<sizeE e:=by rw [←I7 1 e];exact (Ad.1 hit).1
  generalize hV:(Hp++[AObj.cells 3 [A5 (H3 0 ((C8 1 e).take k))],AObj.defs,AObj.loop LoopState.ready none FR 13 #[7,8] as' bd' (oid Hp.length 1)]++X)=V
  have hL:V[oid Hp.length 2]? = some (AObj.loop LoopState.ready none FR 13 #[7,8] as' bd' (oid Hp.length 1)):=by rw [←hV,Bn,Bm];rfl
  have hA0:V[oid Hp.length 0]? = some (AObj.cells 3 [A5 (H3 0 ((C8 1 e).take k))]):=by rw [←hV,Bn,Bm];rfl
  refine O5 (pd:=none) (fr:=FR) (sz:=13) (ps:=#[7,8]) (df:=oid Hp.length 1) (asg:=as') (bd:=bd') hL rfl (by decide) (fun d=>?_)
  subst hFR has hbd
  refine Hq [3,7,8] ?_;refine Z66 ?_;refine A2 [3,4] ?_
  refine ⟨rfl,none,hL,?_⟩
  generalize hbz:(AObj.loop LoopState.busy _ _ _ _ _ _ _)=bz
  have hA:(V.set (oid Hp.length 2) bz)[oid Hp.length 0]? = some (AObj.cells 3 [A5 (H3 0 ((C8 1 e).take k))]):=by rw [Dr (Cn (by decide))];exact hA0
  refine Jk ?_;refine K8 ?_
  refine A4 (h:=Ca hA) (hr:=?_)
  refine A4 ?_;refine R.maxI ?_
  refine Fu jS hA ?_ ?_
  ·simp
  refine Z78 ?_
  subst hbz
  refine AFq ?_
  refine ⟨rfl,?_⟩
  rw [if_pos rfl]
  subst hV
  simp only [Bn,Gf,Et,Ec,List.set_cons_succ,List.set_cons_zero]
  rw [AD0 hit]
 intro r H' hq
 obtain rfl:=uh hq
 refine ⟨Hp,_,_,_,rfl,rfl,fun h=>h,?_,rfl,by simp,?_⟩
 ·intro o ho
  have:o=oid Hp.length 1:=by simpa using ho
  subst this
  rw [Bm]
  rfl
 refine Z10 ?_;refine gj ?_;exact A8 (Ah A6) ⟨by rw [Mu,Vk],rfl⟩

theorem AQ9 (n:Nat) (e:Expr) (hok:okE n e) (hn:n≤1048576) (hs:sizeE e≤1048576) (Hp:List AObj):AFun Tryz.prog 117 [A9 e] Hp (A5 (sizeE e:Nat)):=by
 refine Af [.tmp 2] [0] Tryz.func117 Tryz.ntmps117 (fun d=>?_)
 refine Z90 ?_;refine Fp ?_;refine Z19 ?_;refine A2 [1,3] ?_;refine Z67 ?_
 refine N8 (fun hlow=>?_)
 refine AJ6 ?_;refine A2 [3,5] ?_;refine Jk ?_
 refine Ob (m:=1) Tryz.call123 (fun FR as' bd' hFR has hbd=>?_)
 have hFRl:∀s,Low (Hp.length+3) (FR s):=by
  intro s
  rw [hFR]
  refine P4 ?_
  revert s
  repeat (first|exact Be|refine Bd (by simp [oid,Av]<;>try omega) ?_)
 have hOl:∀{k:Nat},∀x∈[AObj.cells 3 [A5 ((k:Nat))],AObj.defs,AObj.loop LoopState.ready none FR 11 #[6,7] as' bd' (oid Hp.length 1)],ObjLow (Hp.length+3) x:=by
  intro k x hx
  simp only [B5,El,or_false] at hx
  rcases hx with rfl|rfl|rfl
  ·intro y hy
   rw [Bl.1 hy]
   first|exact cr|simp
  ·trivial
  exact ABk
 refine ⟨fun _ H'=>Nl (fun _=>true) (fun k=>Hp++[AObj.cells 3 [A5 ((k:Nat))],AObj.defs,AObj.loop LoopState.ready none FR 11 #[6,7] as' bd' (oid Hp.length 1)]) (fun k=>Hp++[AObj.cells 3 [A5 ((k:Nat))],AObj.defs,AObj.loop LoopState.ready none FR 11 #[6,7] as' bd' (oid Hp.length 1)]) (C8 1 e).length H',AJm (l:=oid Hp.length 2) (go:=fun _=>true) (U:=fun k=>Hp++[AObj.cells 3 [A5 ((k:Nat))],AObj.defs,AObj.loop LoopState.ready none FR 11 #[6,7] as' bd' (oid Hp.length 1)]) (F:=fun k=>Hp++[AObj.cells 3 [A5 ((k:Nat))],AObj.defs,AObj.loop LoopState.ready none FR 11 #[6,7] as' bd' (oid Hp.length 1)]) (n0:=Hp.length+3) ⟨fun k=>by simp,fun k=>by simp,fun k x hx=>?_,fun k x hx=>?_,by simp [oid],fun X k it hit hgo=>?_⟩ n hok hn,?_⟩
 ·exact ABl
 ·exact ABl
 ·have hklt:k<sizeE e:=by rw [←I7 1 e];exact (Ad.1 hit).1
  generalize hV:(Hp++[AObj.cells 3 [A5 ((k:Nat))],AObj.defs,AObj.loop LoopState.ready none FR 11 #[6,7] as' bd' (oid Hp.length 1)]++X)=V
  have hL:V[oid Hp.length 2]? = some (AObj.loop LoopState.ready none FR 11 #[6,7] as' bd' (oid Hp.length 1)):=by rw [←hV,Bn,Bm];rfl
  have hA0:V[oid Hp.length 0]? = some (AObj.cells 3 [A5 ((k:Nat))]):=by rw [←hV,Bn,Bm];rfl
  refine O5 (pd:=none) (fr:=FR) (sz:=11) (ps:=#[6,7]) (df:=oid Hp.length 1) (asg:=as') (bd:=bd') hL rfl (by decide) (fun d=>?_)
  subst hFR has hbd
  refine Hq [3,6,7] ?_;refine Rf ?_
  refine ⟨rfl,none,hL,?_⟩
  generalize hbz:(AObj.loop LoopState.busy _ _ _ _ _ _ _)=bz
  have hA:(V.set (oid Hp.length 2) bz)[oid Hp.length 0]? = some (AObj.cells 3 [A5 ((k:Nat))]):=by rw [Dr (Cn (by decide))];exact hA0
  refine Jk ?_;refine K8 ?_
  refine A4 (h:=Ca hA) (hr:=?_)
  refine A4 ?_
  refine Fu jS hA ?_ ?_
  ·simp
  refine Z78 ?_
  subst hbz
  refine AFq ?_
  refine ⟨rfl,?_⟩
  rw [if_pos rfl]
  subst hV
  simp only [Bn,Gf,Et,Ec,List.set_cons_succ,List.set_cons_zero]
  rfl
 intro r H' hq
 obtain rfl:=uh hq
 refine ⟨Hp,_,_,_,rfl,rfl,fun h=>h,?_,rfl,by simp,?_⟩
 ·intro o ho
  have:o=oid Hp.length 1:=by simpa using ho
  subst this
  rw [Bm]
  rfl
 refine Z10 ?_;refine gj ?_;exact A8 (Ah A6) ⟨by rw [I7],rfl⟩

set_option maxRecDepth 8000
abbrev TK:=Int×Str
/-- What stands from word i on. -/
def seg (l:List Tok) (i:Nat):List TK:=(l.drop i).map ktT
theorem N2 (s:Str):s∈levels.flatten∨(Bw s = -1∧∀l∈levels,l.contains s=false):=by
 by_cases h:s∈levels.flatten
 ·exact .inl h
 have h2:∀l∈levels,l.contains s=false:=fun l hl=>by
  rw [Ik]
  intro h3
  exact h (List.mem_flatten.2 ⟨l,hl,by simpa using h3⟩)
 refine .inr ⟨?_,h2⟩
 unfold Bw
 rw [P1.2 fun l hl=>h2 l hl]
/-- The texts of levels of marks. -/
def ofL (k:Nat):Str:=if k=0 then orT else if k=1 then y6 else if k=3 then AGj else if k=4 then y7 else cm
theorem AD1 (s:Str) : -1≤Bw s∧Bw s≤5∧Bw s≠2:=by
 rcases N2 s with h|⟨h,_⟩
 ·have h3:(levels.flatten.all fun s=>decide (-1≤Bw s∧Bw s≤5∧Bw s≠2))=true:=by kernel_rfl
  exact of_decide_eq_true (B2.1 h3 s h)
 omega
/-- A row of words behind which no mark of a level, or of a tighter one, stands. -/
def AD2 (k:Nat) (rest:List TK):Prop:=∀h r,rest=h::r→((h.1==5) || (h.1==2))=true→Bw h.2<(k:Int)∧h.2≠[40]
def yg:Str:=[110,111,116]
def levE (e:Expr):Nat:=if e.op==4 then 2 else if e.op==3 then 6 else if e.op==5 then (Bw e.text).toNat else 7
def AGs (least:Nat) (x:Expr) (T:List TK):List TK:=if least≤levE x then T else (5,[40])::(T++[(5,[41])])
def AGt (least:Nat) (x:Expr) (n:Nat):Nat:=if least≤levE x then n else n+1
def Js (own:Nat):Nat:=if own=3 then 4 else own
def AJw (v:Val):TK:=if v.kind==1 then (3,I6 v) else if v.kind==2 then (4,v.s) else (2,I6 v)
def ANx (t:Str):TK:=(if Ia (t.headD 0) then 2 else 5,t)
def ANy:List (List TK)→List TK
 | []=>[]
 | T::r=>(5,[44])::(T++ANy r)
def ANz (o:Int) (t:Str) (v:Val) (k:List Expr) (ts:List (List TK)):List TK:=
 if o==1 then [AJw v] else if o==2 then [(1,t)]
 else if o==3 then (5,[45])::AGs 6 (k.getD 0 Ap) (ts.getD 0 [])
 else if o==4 then (2,yg)::AGs 2 (k.getD 0 Ap) (ts.getD 0 [])
 else if o==5 then AGs (Js (Bw t).toNat) (k.getD 0 Ap) (ts.getD 0 [])++ANx t::AGs ((Bw t).toNat+1) (k.getD 1 Ap) (ts.getD 1 [])
 else (1,t)::(5,[40])::((ANy ts).drop 1++[(5,[41])])
mutual
def Yn:Expr→List TK
 | .mk o t v k=>ANz o t v k (AIi k)
def AIi:List Expr→List (List TK)
  | []=>[]
  | e::r=>Yn e::AIi r
 end
def AO0:List Nat→Nat
 | []=>0
 | n::r=>max n (AO0 r)
def AO1 (o:Int) (t:Str) (k:List Expr) (ns:List Nat):Nat:=
 if o==1 then 0 else if o==2 then 0
 else if o==3 then 1+AGt 6 (k.getD 0 Ap) (ns.getD 0 0)
 else if o==4 then 1+AGt 2 (k.getD 0 Ap) (ns.getD 0 0)
 else if o==5 then max (AGt (Js (Bw t).toNat) (k.getD 0 Ap) (ns.getD 0 0)) (AGt ((Bw t).toNat+1) (k.getD 1 Ap) (ns.getD 1 0))
 else 1+AO0 ns
mutual
def ui:Expr→Nat
 | .mk o t v k=>AO1 o t k (AIj k)
def AIj:List Expr→List Nat
  | []=>[]
  | e::r=>ui e::AIj r
 end
theorem AGu {v:Val} (h:Nk v=true):v=noV:=by
 unfold Nk at h
 simp only [As,beq_iff_eq] at h
 cases v
 simp_all [noV]
/-- What a right node is. -/
inductive NodeC:Expr→Prop
 | val (v:Val) (h:E2 v=true) (h0:0≤v.n):NodeC (Mq v)
 | name (t:Str) (h:Md t=true):NodeC (Cw t)
 | neg (a:Expr):NodeC (Id 3 a)
 | no (a:Expr):NodeC (Id 4 a)
 | bin (t:Str) (a b:Expr) (h:0≤Bw t):NodeC (Ki t a b)
 | call (t:Str) (k:List Expr) (h:Ch t=(k.length:Int)):NodeC (.mk 6 t noV k)
theorem Yo (o:Int) (t:Str) (v:Val) (k:List Expr):I8 (.mk o t v k) =
 if o==1 then ((E2 v&&decide (0≤v.n))&&(t==[]))&&((k.length:Int)==0)
 else if !(Nk v) then false
 else if o==2 then Md t&&((k.length:Int)==0)
 else if o==3 || o==4 then (t==[])&&((k.length:Int)==1)
 else if o==5 then decide (0≤Bw t)&&((k.length:Int)==2)
 else if o==6 then Ch t==(k.length:Int)
 else false:=rfl
theorem Kj {e:Expr} (h:Dl e=true):NodeC e:=by
 rw [T3] at h
 cases e with
 | mk o t v k =>
 rw [Yo] at h
 by_cases h1:(o==1)=true
 ·rw [if_pos h1] at h
  simp only [As,beq_iff_eq,decide_eq_true_eq] at h h1
  obtain ⟨⟨⟨a1,a2⟩,a3⟩,a4⟩:=h
  subst h1
  subst a3
  have:k=[]:=by cases k with|nil=>rfl|cons x r=>simp at a4;omega
  subst this
  exact .val v a1 a2
 rw [if_neg h1] at h
 by_cases hb:(!(Nk v))=true
 ·rw [if_pos hb] at h;cases h
 rw [if_neg hb] at h
 have hv:v=noV:=AGu (by simpa using hb)
 subst hv
 by_cases h2:(o==2)=true
 ·rw [if_pos h2] at h
  simp only [As,beq_iff_eq] at h h2
  subst h2
  have:k=[]:=by cases k with|nil=>rfl|cons x r=>have:=h.2;simp at this;omega
  subst this
  exact .name t h.1
 rw [if_neg h2] at h
 by_cases h3:(o==3 || o==4)=true
 ·rw [if_pos h3] at h
  simp only [As,Dq,beq_iff_eq] at h h3
  obtain ⟨rfl,h4⟩:=h
  match k,h4 with
  | [a],_ =>
   rcases h3 with rfl|rfl
   ·exact .neg a
   exact .no a
  | [],h4=>simp at h4
  | _::_::_,h4=>simp at h4;omega
 rw [if_neg h3] at h
 by_cases h5:(o==5)=true
 ·rw [if_pos h5] at h
  simp only [As,beq_iff_eq,decide_eq_true_eq] at h h5
  subst h5
  match k,h.2 with
  | [a,b],_=>exact .bin t a b h.1
  | [],h4=>simp at h4
  | [_],h4=>simp at h4
  | _::_::_::_,h4=>simp at h4;omega
 rw [if_neg h5] at h
 by_cases h6:(o==6)=true
 ·rw [if_pos h6] at h
  simp only [beq_iff_eq] at h h6
  subst h6
  exact .call t k h
 rw [if_neg h6] at h;cases h
/-- The functions of the levels. -/
def pf (l:List Tok) (D:Fam):Nat→PS→Expr×PS
 | 0=>Wn l D
 | 1=>lb l D
 | 2=>Wd l D
 | 3=>Hg l D
 | 4=>G9 l D
 | 5=>la l D
 | 6=>Wc l D
 | _=>Ii l D
abbrev fam (l:List Tok) (n:Nat):Fam:=Hc l (30-n)
def adv (S:PS) (n:Nat):PS:=⟨S.i+n,S.nest,S.code,S.at_⟩
def T1 (l:List Tok) (x:Expr):Prop:=∀(k:Nat) (S:PS) (rest:List TK),k≤levE x→S.code=0→S.nest+ui x≤30→seg l S.i=Yn x++rest→AD2 k rest→pf l (fam l S.nest) k S=(x,adv S (Yn x).length)
def T2 (l:List Tok) (x:Expr):Prop:=∀(k:Nat) (S:PS) (rest:List TK),(k=0∨k=1∨k=4∨k=5)→k≤levE x→S.code=0→S.nest+ui x≤30→seg l S.i=Yn x++rest→AD2 (k+1) rest →
 ∃n,l.length≤S.i+(Yn x).length+n∧Hy l (ofL k) (pf l (fam l S.nest) (k+1)) S=cl l (ofL k) (pf l (fam l S.nest) (k+1)) n (x,adv S (Yn x).length)
theorem yh {e:Expr} {n:Nat} (h:sizeE e≤n+1) {y:Expr} (hy:y∈e.kids):sizeE y≤n:=by
 rw [Jn] at h
 obtain ⟨i,hi,rfl⟩:=Tv hy
 have:=Uf e.kids hi
 omega
/-! The parser from a word on, and of a source. -/
def atS (l:List Tok) (i:Nat) (r:Expr×PS):PS:=if r.2.code != 0 then r.2 else if decide ((30:Int)<depthE r.1) then Fo 18 (Ao l i).at_ r.2 else if decide ((300:Int)<sizeE r.1) then Fo 3 (Ao l i).at_ r.2 else r.2
def atR (l:List Tok) (i:Nat):Expr×PS:=Wn l (Hc l 30) ⟨i,0,0,0⟩
/-- The tree, the word behind it, the fault. -/
def atM (l:List Tok) (i:Nat):Expr×Int×Int×Int:=if (atS l i (atR l i)).code != 0 then (Ap,0,(atS l i (atR l i)).code,(atS l i (atR l i)).at_) else ((atR l i).1,((atS l i (atR l i)).i:Int),0,0)
set_option maxRecDepth 4000
theorem Yp {l:List Tok} (hl:TokEnd l) (hll:l.length≤1048576) {i:Nat} (hi:i<l.length):Fact l ⟨i,0,0,0⟩ (atR l i):=(Uq hl hll 31 0 rfl (by decide)).1 ⟨i,0,0,0⟩ hi rfl
theorem AJx {l:List Tok} {i:Nat} (hi:i<l.length) (hl:TokEnd l) (hll:l.length≤1048576) (hcl:∀n Dv,n≤30→DeepC l Dv n→lj l Dv n) (o:Nat) (Hp:List AObj) (ho:Hp[o]? = some (pr l ⟨i,0,0,0⟩)):ACall Tryz.prog 114 [.ptr o 0] Hp (fun r H'=>r=A9 (atR l i).1∧H'=Hp.set o (pr l (atR l i).2)):=(ll hl hll hcl 31 0 rfl (by decide)).1 o Hp ⟨i,0,0,0⟩ ho hi rfl
theorem ln {l:List Tok} (hl:TokEnd l):(Ao l (l.length-1)).kind=0:=by
 obtain ⟨L,z,rfl,hz,_⟩:=hl.split
 unfold Ao
 simp [hz]
theorem c72 (l:List Tok) (i:Nat) (hi:i<l.length) (hl:TokEnd l) (hll:l.length≤500000) (hcl:∀n Dv,n≤30→DeepC l Dv n→lj l Dv n) (Hp:List AObj):AFun Tryz.prog 72 [tg l,A5 (i:Int)] Hp (.tup [A9 (atM l i).1,A5 (atM l i).2.1,.agg [A5 (atM l i).2.2.1,A5 (atM l i).2.2.2]]):=by
 have hmap:(l.map Me).length=l.length:=Aj ..
 have hll1:l.length≤1048576:=by omega
 have hq:=Yp hl hll1 hi
 have hlast:=ln hl
 have hpos:=hl.pos
 have hqlt:=hq.lt
 have hqs:=hq.sz
 have hok0:okE 1048576 (atR l i).1:=J4 (by have:=hq.lt;omega) hq.ok
 have hsz0:sizeE (atR l i).1≤1048576:=by have:=hq.sz;have:=hq.lt;omega
 refine Af [.cell 4 26,.tmp 5,.cell 6 69] [0,1] Tryz.func72 Tryz.ntmps72 (fun d=>?_)
 refine jz ?_;refine Pm ?_;refine A2 [0,1,4,6] ?_;refine Z36 ?_;refine Wa ?_;refine ot ?_
 refine Bi (h:=Ac ((l.length-1)) (Me (Ao l (l.length-1))) (fun _=>Y7 (by omega))) (hr:=?_)
 refine Sr ?_;refine A2 [0,1,4,6,26] ?_
 refine A3 (fun ht26=>?_) (fun ht26=>?_)
 ·simp only [Dq,decide_eq_true_eq,bne_iff_ne,ne_eq] at ht26
  rcases ht26 with (h|h)|h
  ·omega
  ·simp at h;omega
  exact absurd hlast h
 refine Ro ?_;refine U0 (places:=#[(0,1),(1,1),(2,1),(3,2)]) jU (fun w=>by simp) jZ ?_;refine R.box ?_;refine A4 ?_;refine A2 [0,1,4,6,7] ?_;refine Z2 ?_
 refine Xb (n:=2) (x:=pr l (atR l i).2) Tryz.call114 (AJx hi hl hll1 hcl (oid Hp.length 2) _ (by rw [Bm];rfl)) ?_
 refine Z19 ?_;refine A2 [0,1,4,6,7,8] ?_
 refine W.join ⟨81,A7 4 (.ptr (oid Hp.length 0) 0) (A7 6 (.ptr (oid Hp.length 1) 0) (A7 7 (.ptr (oid Hp.length 2) 0) (A7 8 (.ptr (oid Hp.length 3) 0) (fun _=>.any)))),Hp,[.cells 26 [A5 0,Ae [],A5 0,A5 0,Ae [],.nil],.cells 69 [A5 0,A5 0],pr l (atS l i (atR l i)),.cells 26 (Eb (atR l i).1)],[],none⟩ ?_ ?_
 ·refine Jk ?_;refine Z27 ?_;refine Z22 ?_;refine A2 [0,1,4,6,7,8,35] ?_
  refine A3 (fun ht35=>?_) (fun ht35=>?_)
  ·have e:atS l i (atR l i)=(atR l i).2:=if_pos ht35
   refine Hq [4,6,7,8] ?_;refine ww ?_;exact AF1
  have e0:¬((atR l i).2.code != 0)=true:=by rw [ht35];simp
  refine Z2 ?_;refine Aa Tryz.call115 (AQ8 1048576 _ hok0 (Ak _) hsz0 _) ?_;refine Z0 ?_;refine A2 [0,1,4,6,7,8,42] ?_
  refine A3 (fun ht42=>?_) (fun ht42=>?_)
  ·have e:atS l i (atR l i)=Fo 18 (Ao l i).at_ (atR l i).2:=by unfold atS;rw [if_neg e0,if_pos ht42]
   refine Z34 ?_
   refine A4 (h:=Ac (i) (Me (Ao l i)) (fun _=>Y7 hi)) (hr:=?_)
   refine Z0 ?_
   refine Xb (n:=2) (x:=pr l (Fo 18 (Ao l i).at_ (atR l i).2)) Tryz.call116 (yb l (atR l i).2 18 (Ao l i).at_ (oid Hp.length 2) _ (by rw [Bm];rfl)) ?_
   refine A2 [4,6,7,8] ?_;refine N6 ?_;exact AF1
  have e1:¬decide ((30:Int)<depthE (atR l i).1)=true:=by rw [ht42];simp
  refine Z2 ?_;refine Aa Tryz.call117 (AQ9 1048576 _ hok0 (Ak _) hsz0 _) ?_;refine Z0 ?_;refine A2 [0,1,4,6,7,8,53] ?_
  refine A3 (fun ht53=>?_) (fun ht53=>?_)
  ·have e:atS l i (atR l i)=Fo 3 (Ao l i).at_ (atR l i).2:=by unfold atS;rw [if_neg e0,if_neg e1,if_pos ht53]
   refine Z34 ?_
   refine A4 (h:=Ac (i) (Me (Ao l i)) (fun _=>Y7 hi)) (hr:=?_)
   refine Z0 ?_
   refine Xb (n:=2) (x:=pr l (Fo 3 (Ao l i).at_ (atR l i).2)) Tryz.call116 (yb l (atR l i).2 3 (Ao l i).at_ (oid Hp.length 2) _ (by rw [Bm];rfl)) ?_
   refine A2 [4,6,7,8] ?_;refine N6 ?_;exact AF1
  have e:atS l i (atR l i)=(atR l i).2:=by unfold atS;rw [if_neg e0,if_neg e1,if_neg (by rw [ht53];simp)]
  refine Hq [4,6,7,8] ?_;refine ww ?_;exact AF1
 refine Z60 ?_;refine Z0 ?_;refine A2 [4,6,7,8,69] ?_
 refine A3 (fun ht69=>?_) (fun ht69=>?_)
 ·have e:atM l i=(Ap,0,(atS l i (atR l i)).code,(atS l i (atR l i)).at_):=if_pos ht69
  refine Ip [0,0,2,6,14,1,33,127] [5] [.q 5 [] [],.s [] (some 0) [] [],.q 1 [0] []] (fun _=>Hp) (fun _=>[.cells 26 [A5 0,Ae [],A5 0,A5 0,Ae [],.nil],.cells 69 [A5 0,A5 0],pr l (atS l i (atR l i)),.cells 26 (Eb (atR l i).1)]) An (by kernel_rfl) rfl rfl (fun _=>rfl) ?_
  apply Y.q
  ·intro B hT hF
   refine D.build (places:=#[(0,1),(1,1),(2,3),(5,1)]) jU (fun w=>by simp) jZ ?_;exact AB5
  case hTF=>decide
  refine Y.storeOwn (u:=Hp.length) (n:=0) (t':=26) (cs:=[A5 0,Ae [],A5 0,A5 0,Ae [],.nil]) (cs':=[A5 0,Ae [],A5 0,A5 0,Ae [],.nil]) Tryz.sizeOf26 (fun B hB=>⟨rfl,rfl,rfl,rfl⟩) ?_
  apply Y.q
  ·intro B hT hF
   exact Xh
  case hTF=>decide
  refine Ha (tn:=[5])  ?_;refine N9 0 5 6 ?_;refine Iq ?_;refine A2 [4,5,6] ?_;refine AB3 ?_;exact A8 (V.three (Bu jA jS) A6 (Bu jA jS)) ⟨by rw [e,ACu]<;>rfl,rfl⟩
 have e:atM l i=((atR l i).1,((atS l i (atR l i)).i:Int),0,0):=if_neg (by rw [ht69];simp)
 refine Z5 ?_;refine Ip [0,0,2,6,14,0,1,95,255] [6] [.q 6 [] [],.s [] (some 0) [] [],.q 1 [0] []] (fun _=>Hp) (fun B=>[.cells 26 (if B 0=true then Eb (atR l i).1 else [A5 0,Ae [],A5 0,A5 0,Ae [],.nil]),.cells 69 [A5 0,A5 0],pr l (atS l i (atR l i)),.cells 26 (Eb (atR l i).1)]) An (by kernel_rfl) rfl rfl (fun _=>rfl) ?_
 apply Y.q
 ·intro B hT hF
  refine oh ?_;exact ALf
 case hTF=>decide
 refine Y.storeOwn (u:=Hp.length) (n:=0) (t':=26) (cs:=[A5 0,Ae [],A5 0,A5 0,Ae [],.nil]) (cs':=Eb (atR l i).1) Tryz.sizeOf26 (fun B hB=>⟨rfl,by simp only [hB];rfl,by simp [upd],rfl⟩) ?_
 apply Y.q
 ·intro B hT hF
  exact Xh
 case hTF=>decide
 refine Ha (tn:=[6]) (O:=[.cells 26 (Eb (atR l i).1),.cells 69 [A5 0,A5 0],pr l (atS l i (atR l i)),.cells 26 (Eb (atR l i).1)]) ?_;refine Iq ?_;refine A2 [4,5,6] ?_;refine Gn ?_;exact A8 (V.three (Bu jA jS) A6 (Bu jA jS)) ⟨by rw [e,At]<;>rfl,rfl⟩ (hlow:=by have:=low_agg (n:=Hp.length) (atR l i).1;simp at this ⊢;exact this)

theorem AGv {s:Str} (h:(Ic s).2.1=0):(Ic s).1.length≤4002:=by
 obtain ⟨h1,_,h3⟩:=AGb h
 have h2:=Y2 s
 rw [h3]
 simp only [Ai,Aj,Aw,Az]
 omega
theorem AGw {l:List Tok} (hl:TokEnd l) (hll:l.length≤1048576) {i:Nat} (hi:i<l.length) (h:(atM l i).2.2.1=0):∃k:Nat,(atM l i).2.1=(k:Int)∧k<l.length:=by
 have hq:=Yp hl hll hi
 unfold atM at h ⊢
 split at h
 ·rename_i h1
  have:(atS l i (atR l i)).code=0:=h
  rw [this] at h1
  cases h1
 rename_i h1
 rw [if_neg h1]
 refine ⟨(atS l i (atR l i)).i,rfl,?_⟩
 have e:(atS l i (atR l i)).i=(atR l i).2.i:=by
  unfold atS
  repeat' split
  all_goals first|rfl|exact failM_i.1
 rw [e]
 exact hq.lt
theorem az {α:Type} {a b:List α} (hl:a.length=b.length) (h:∀(j:Nat) (y:α),j<a.length→a[j]? = some y→b[j]? = some y):a=b:=by
 apply nj hl
 intro j h1 h2
 have:=h j a[j] h1 (Ab h1)
 rw [Ab h2] at this
 injection this with this
 exact this.symm
theorem F1 {n k:Nat} {o:Bool} {l:List Expr}:Low n (.slice o k (l.map A9)):=low_slice.2 fun y hy=>by
 obtain ⟨a,_,rfl⟩:=Cr.1 hy
 exact Av _ a
theorem yi {l:List Expr} {n f:Nat} (h0:l.isEmpty=false) (h:R4 l n=true):It f l n=true:=by
 cases f with
 | zero=>rw [It,h0];rfl
 | succ f=>rw [It,if_neg (by rw [h0];simp),if_pos h]
theorem AGx {l:List Expr} {n y:Nat} (hy:y<l.length) (h:500<n+y+1∨Um l[y]=true):R4 l n=true:=by
 unfold R4
 rcases h with h|h
 ·rw [decide_eq_true (by omega)];rfl
 rw [K7.2 ⟨_,B1 hy,h⟩,Gm]
theorem Yq {l:List Expr}:∀(y:Nat),y≤l.length→(∀(j:Nat) (e:Expr),j<y→l[j]? = some e→Um e=false)→((l.take y).flatMap Expr.kids).length≤100*y
 | 0,_,_=>by simp
 | y+1,hy,h=>by
  rw [Hv hy,List.flatMap_append,Ai]
  have h1:=Yq y (by omega) (fun j e hj he=>h j e (by omega) he)
  have h2:=ib (h y l[y] (by omega) (Ab _))
  simp only [Ww,List.flatMap_nil,H4]
  omega
structure WideAt (l0:List Expr) (x:List Expr×Nat×Nat):Prop where
 eq:It 61 l0 0=It x.2.2 x.1 x.2.1
 f:x.2.2≤61
 n:x.2.1≤500
theorem c35 (l0:List Expr) (Hp:List AObj):AFun Tryz.prog 35 [.slice false 6 (l0.map A9),A5 0] Hp (Bk (It 61 l0 0)):=by
 refine Af [.tmp 4] [0,1] Tryz.func35 Tryz.ntmps35 (fun d=>?_)
 refine Z61 ?_;refine Z2 ?_;refine A2 [0,1,5] ?_;refine Ma ?_
 refine B7 (α:=List Expr×Nat×Nat) (fun x=>⟨67,A7 0 (.slice false 6 (x.1.map A9)) (A7 1 (A5 (61-(x.2.2:Int))) (A7 5 (A5 (x.2.1:Nat)) (fun _=>.any))),Hp,[],[],none⟩) (fun x=>WideAt l0 x) (fun x=>x.2.2) ((l0,0,61)) ⟨rfl,Ak _,Ar _⟩ (Bo (by simp)) rfl (fun x hx=>?_)
 refine Z36 ?_;refine A2 [0,1,5,10] ?_
 refine A3 (fun ht10=>?_) (fun ht10=>?_)
 ·have hpos:0<x.1.length:=by simpa using ht10
  have hne:x.1.isEmpty=false:=by cases hxx:x.1 with
   | nil=>rw [hxx] at hpos;simp at hpos
   | cons a r=>rfl
  have hxf:=hx.f
  refine Z5 ?_;refine Jk ?_;refine jt ?_;refine L1 ?_;refine A2 [0,1,5,6] ?_;refine Z32 ?_;refine A2 [0,1,5,6,7] ?_
  refine B7 (α:=Nat) (fun y=>⟨67,A7 0 (.slice false 6 (x.1.map A9)) (A7 1 (A5 (61-(x.2.2:Int))) (A7 5 (A5 ((x.2.1+y:Nat):Int)) (A7 6 (.slice true 6 (((x.1.take y).flatMap Expr.kids).map A9)) (A7 7 (A5 (y:Nat)) (fun _=>.any))))),Hp,[],[],none⟩) (fun y=>y≤x.1.length∧x.2.1+y≤500∧∀(j:Nat) (e:Expr),j<y→x.1[j]? = some e→Um e=false) (fun y=>x.1.length-y) (0) ⟨Ar _,hx.n,fun j e h=>by omega⟩ (Bo (by simp)) rfl (fun y hy=>?_)
  refine Z60 ?_;refine A2 [0,1,5,6,7,15] ?_
  refine A3 (fun ht15=>?_) (fun ht15=>?_)
  ·have hlt:y<x.1.length:=by simpa using ht15
   have hyn:=hy.2.1
   refine ai ?_;refine A2 [0,1,5,6,7] ?_;refine Z36 ?_;refine Z7 ?_
   refine Bi (h:=Ac (y) (A9 x.1[y]) (fun _=>Ax hlt)) (hr:=?_)
   refine Wa ?_;refine Z47 ?_
   refine Bi (h:=Ac (y) (A9 x.1[y]) (fun _=>Ax hlt)) (hr:=?_)
   refine Z7 ?_;refine Xm ?_
   refine Bi (h:=Ac (y) (A9 x.1[y]) (fun _=>Ax hlt)) (hr:=?_)
   refine Z7 ?_;refine Qw ?_;refine A2 [0,1,5,6,7,49] ?_
   refine A3 (fun ht49=>?_) (fun ht49=>?_)
   ·have hm:R4 x.1 x.2.1=true:=AGx hlt (by
     simp only [Dq,decide_eq_true_eq,Aj] at ht49
     unfold Um
     simp only [Dq,decide_eq_true_eq]
     omega)
    have hw:=yi (f:=x.2.2) hne hm
    refine Z86 ?_;refine C4 ?_;refine Z45 ?_;refine wy ?_;exact ALw
   have hfat:Um x.1[y]=false∧x.2.1+y+1≤500:=by
    simp only [Ej,decide_eq_false_iff_not,Aj] at ht49
    unfold Um
    simp only [Ej,decide_eq_false_iff_not]
    omega
   have hkl:=(ib hfat.1).2.2
   have hfm:(x.1.take (y+1)).flatMap Expr.kids=(x.1.take y).flatMap Expr.kids++x.1[y].kids:=by rw [Hv hlt,List.flatMap_append];simp
   refine og ?_;refine Z0 ?_
   refine A4 (h:=Ac (y) (A9 x.1[y]) (fun _=>Ax hlt)) (hr:=?_)
   refine Z0 ?_
   refine Eu jU Tryz.type26 ?_ ?_ ?_
   ·have h1:=Yq y hy.1 hy.2.2;have h2:=hkl;have h3:=hy.2.1;simp only [Aj,Tryz.t26];omega
   ·have h1:=Yq y hy.1 hy.2.2;have h2:=hkl;have h3:=hy.2.1;simp only [Aj,Tryz.t26];omega
   refine L1 ?_;refine A2 [0,1,5,6,7] ?_;refine Xl ?_;refine A2 [0,1,5,6,7] ?_
   refine Bb (y+1) ⟨hlt,by omega,Cc hlt hy.2.2 hfat.1⟩ (by omega) (Cg ?_)
   rw [hfm,By]
   rfl
  have hye:x.1.take y=x.1:=E8 (by simp at ht15;omega)
  have hyl:y=x.1.length:=by have:=hy.1;simp at ht15;omega
  have hmany:R4 x.1 x.2.1=false:=by
   unfold R4
   rw [decide_eq_false (by have:=hy.2.1;omega),B4,L4]
   intro e he
   obtain ⟨j,hj⟩:=Cm he
   rw [hy.2.2 j e (by have:=(Ad.1 hj).1;omega) hj]
   simp
  refine Z55 ?_;refine Z8 ?_;refine Z47 ?_;refine A4 ?_;refine A2 [1,5,6,63] ?_
  refine A3 (fun ht63=>?_) (fun ht63=>?_)
  ·have hw:It x.2.2 x.1 x.2.1=true:=by
    have h9:=ht63
    rw [hye] at h9
    simp only [Dq,decide_eq_true_eq,Aj] at h9
    cases hf:x.2.2 with
    | zero=>rw [It,hne];rfl
    | succ f =>
     rw [It,if_neg (by rw [hne];simp),if_neg (by rw [hmany];simp),if_pos (by rw [decide_eq_true_eq];omega)]
   refine Z86 ?_;refine C4 ?_;refine wy ?_;exact ALw
  have h9:=ht63
  rw [hye] at h9
  simp only [Ej,decide_eq_false_iff_not,Aj] at h9
  obtain ⟨f,hf⟩:∃f,x.2.2=f+1:=⟨x.2.2-1,by omega⟩
  have hw:It x.2.2 x.1 x.2.1=It f (x.1.flatMap Expr.kids) (x.2.1+x.1.length):=by
   rw [hf,It,if_neg (by rw [hne];simp),if_neg (by rw [hmany];simp),if_neg (by rw [decide_eq_true_eq];omega)]
  refine Ro ?_;refine A2 [0,1,5] ?_;refine Z34 ?_;refine A2 [0,1,5] ?_;refine N6 ?_
  refine Bb (x.1.flatMap Expr.kids,x.2.1+x.1.length,f) ⟨hx.eq.trans hw,by show f≤61;omega,by show x.2.1+x.1.length≤500;have:=hy.2.1;omega⟩ (by show f<x.2.2;omega) (Cg ?_)
  rw [hye,hyl]
  congr 4
  simp only [AV.v.injEq,Value.int.injEq,true_and]
  omega
 have hnil:x.1=[]:=by have:=ht10;simp at this;exact this
 refine Z55 ?_;refine Z86 ?_;exact A8 (Ah A6) ⟨by rw [hx.eq,hnil];cases x.2.2<;>rfl,rfl⟩

theorem c9 (e:Expr) (Hp:List AObj):AFun Tryz.prog 9 [A9 e] Hp (Bk (Vl e)):=by
 refine Af [.tmp 2] [0] Tryz.func9 Tryz.ntmps9 (fun d=>?_)
 refine ou ?_;refine Pn ?_;refine Aa Tryz.call35 (c35 [e] _) ?_;refine A4 ?_;exact AF4

theorem lq {a b:List Expr} (hl:a.length=b.length) (h:∀(j:Nat) (y z:Expr),j<a.length→a[j]? = some y→b[j]? = some z→eqE y z=true):eqL a b=true:=by
 rw [T0]
 refine az hl fun j y hj hy=>?_
 have hjb:j<b.length:=by omega
 have:=h j y b[j] hj hy (Ab hjb)
 rw [Ab hjb,(i8 _ _).1 this]
theorem AJy {a b:List Expr} (h:eqL a b=true) {j:Nat} (hj:j<a.length) (hb:j<b.length):eqE a[j] b[j]=true:=by
 have e:=(T0 _ _).1 h
 subst e
 exact ACi _
theorem AD3 {a b:List Expr} {j:Nat} (hj:j<a.length) (hb:j<b.length) (h:eqE a[j] b[j]=false):eqL a b=false:=by
 rw [Ik]
 intro h2
 rw [AJy h2 hj hb] at h
 cases h
theorem uj {a b:List Expr} (h:a.length≠b.length):eqL a b=false:=by
 rw [Ik]
 exact fun h2=>h (AGa h2)
theorem AIk {a b:List Expr} {x:Nat} (hx:x<a.length) (hb:x<b.length) (h:∀(j:Nat) (y z:Expr),j<x→a[j]? = some y→b[j]? = some z→eqE y z=true) (he:eqE a[x] b[x]=true):∀(j:Nat) (y z:Expr),j<x+1→a[j]? = some y→b[j]? = some z→eqE y z=true:=by
 intro j y z hj h1 h2
 rcases Bv j x with h3|h3
 ·exact h j y z h3 h1 h2
 have:j=x:=by omega
 subst this
 rw [Ab hx] at h1
 rw [Ab hb] at h2
 injection h1 with h1
 injection h2 with h2
 rw [←h1,←h2]
 exact he
def lr (x y:Expr):Bool:=((x.op==y.op)&&(x.text==y.text))&&((x.val.kind==y.val.kind&&x.val.n==y.val.n)&&x.val.s==y.val.s)
theorem ij (x y:Expr):eqE x y=(lr x y&&eqL x.kids y.kids):=ACh x y
theorem c20:∀(n:Nat) (x:Expr),okE n x→∀(y:Expr) (Hp:List AObj),AFun Tryz.prog 20 [A9 x,A9 y] Hp (Bk (eqE x y)):=by
 intro n
 induction n with
 | zero=>exact fun x h=>h.elim
 | succ n ih =>
 intro x hok y Hp
 refine Af [.tmp 4] [0,1] Tryz.func20 Tryz.ntmps20 (fun d=>?_)
 refine Z17 ?_;refine Lo ?_;refine Z60 ?_;refine Z47 ?_;refine Xm ?_;refine Z7 ?_
 refine Bi (h:=Xa Xo (fun w=>Jl x.val.kind x.val.n y.val.kind y.val.n x.val.s y.val.s w)) (hr:=?_)
 refine ot ?_;refine Sr ?_;refine A2 [2,3,33] ?_
 refine A3 (fun ht33=>?_) (fun ht33=>?_)
 ·have hf:eqE x y=false:=by
   rw [ij]
   simp only [Dq,bne_iff_ne,ne_eq,Aj,Db] at ht33
   by_cases hh:lr x y=true
   ·rw [hh,Bs]
    refine uj ?_
    unfold lr at hh
    simp only [As,beq_iff_eq] at hh
    obtain ⟨⟨h1,h2⟩,⟨h3,h4⟩,h5⟩:=hh
    rcases ht33 with ((h|h)|h)|h
    ·exact absurd h1 h
    ·simp [h2] at h
    ·simp [h3,h4,h5] at h
    intro e;exact h (by rw [e])
   rw [Tp] at hh
   rw [hh,Ei]
  refine Z86 ?_;exact AMc
 have hh:lr x y=true∧x.kids.length=y.kids.length:=by
  simp only [Ej,bne_eq_false_iff_eq,Aj,Dh] at ht33
  obtain ⟨⟨⟨h1,h2⟩,h3⟩,h4⟩:=ht33
  unfold lr
  refine ⟨?_,by omega⟩
  simp only [beq_iff_eq,As] at h1 h2 h3 ⊢
  exact ⟨⟨h1,h2⟩,h3⟩
 obtain ⟨hh,hlen⟩:=hh
 have hkl:=hok.2.1
 refine Rm ?_;refine A2 [2,3,5] ?_
 refine B7 (α:=Nat) (fun i=>⟨53,A7 2 (.ro (Eb x)) (A7 3 (.ro (Eb y)) (A7 5 (A5 (i:Nat)) (fun _=>.any))),Hp,[],[],none⟩) (fun i=>i≤x.kids.length∧∀(j:Nat) (a b:Expr),j<i→x.kids[j]? = some a→y.kids[j]? = some b→eqE a b=true) (fun i=>x.kids.length-i) (0) ⟨Ar _,fun j a b h=>by omega⟩ (G8 _) rfl (fun i hi=>?_)
 refine W9 ?_;refine A2 [2,3,5,38] ?_
 refine A3 (fun ht38=>?_) (fun ht38=>?_)
 ·have hlt:i<x.kids.length:=by simpa using ht38
  have hly:i<y.kids.length:=by omega
  refine Z50 ?_;refine De [0,1,0,7,15,0,32,0,224,480,1023,2047] 10 An (by kernel_rfl) ?_;refine Z40 ?_
  refine Al (h:=Ac (i) (A9 x.kids[i]) (fun _=>Ax hlt)) (hr:=?_)
  refine Z84 ?_
  refine Al (h:=Ac (i) (A9 y.kids[i]) (fun _=>Ax hly)) (hr:=?_)
  refine Al ?_;refine Ey ?_;refine Aa Tryz.call20 (ih x.kids[i] (hok.2.2 _ (B1 hlt)) y.kids[i] _) ?_;refine A4 ?_;refine A2 [2,3,5,52] ?_
  refine A3 (fun ht52=>?_) (fun ht52=>?_)
  ·have hf:eqE x y=false:=by rw [ij,AD3 hlt hly (by simpa using ht52),Bool.and_false]
   refine Z86 ?_;exact AMd
  have he:eqE x.kids[i] y.kids[i]=true:=by simpa using ht52
  refine Z81 ?_;refine A2 [2,3,5] ?_;exact Bb (i+1) ⟨hlt,AIk hlt hly hi.2 he⟩ (by omega) (Cg rfl)
 have hxe:x.kids.length≤i:=by simpa using ht38
 refine Z55 ?_;refine Z86 ?_;exact A8 (Ah A6) ⟨by rw [ij,hh,lq hlen (fun j a b hj=>hi.2 j a b (by omega))];rfl,rfl⟩

theorem AQa (n:Nat) (a b:List Expr) (ha:a.length≤1048576) (hok:∀y∈a,okE n y) (ih:∀(x:Expr),okE n x→∀(y:Expr) (Hp:List AObj),AFun Tryz.prog 239 [A9 x,A9 y] Hp (Bk (eqE x y))) (Hp:List AObj):AFun Tryz.prog 285 [.slice false 6 (a.map A9),.slice false 6 (b.map A9),.fn (.func 239) [] []] Hp (Bk (eqL a b)):=by
 refine Af [.tmp 6] [0,1,2] Tryz.func285 Tryz.ntmps285 (fun d=>?_)
 refine Z2 ?_;refine Wb ?_;refine W9 ?_;refine A2 [0,1,2,14] ?_
 refine A3 (fun ht14=>?_) (fun ht14=>?_)
 ·have hf:eqL a b=false:=uj (by have:=ht14;simp at this;omega)
  refine aj ?_;exact AMc
 have hlen:a.length=b.length:=by have:=ht14;simp at this;omega
 refine ak ?_;refine A2 [1,2,15,16,17] ?_
 refine B7 (α:=Nat) (fun i=>⟨32,A7 1 (.slice false 6 (b.map A9)) (A7 2 (.fn (.func 239) [] []) (A7 15 (.slice false 6 (a.map A9)) (A7 16 (A5 (a.length:Nat)) (A7 17 (A5 (i:Nat)) (fun _=>.any))))),Hp,[],[],none⟩) (fun i=>i≤a.length∧∀(j:Nat) (y z:Expr),j<i→a[j]? = some y→b[j]? = some z→eqE y z=true) (fun i=>a.length-i) (0) ⟨Ar _,fun j y z h=>by omega⟩ (Bo (by simp)) rfl (fun i hi=>?_)
 refine Z2 ?_;refine A2 [1,2,15,16,17,18] ?_
 refine Dm (fun ht18=>?_) (fun ht18=>?_)
 ·have hlt:i<a.length:=by simpa using ht18
  have hlb:i<b.length:=by omega
  refine Pl ?_
  refine A4 (h:=Ac (i) (A9 a[i]) (fun _=>Ax hlt)) (hr:=?_)
  refine gi ?_;refine A2 [1,2,7,8,15,16,17] ?_;refine Z1 ?_
  refine A4 (h:=Ac (i) (A9 b[i]) (fun _=>Ax hlb)) (hr:=?_)
  refine Rn ?_;refine A2 [1,2,8,9,15,16,17] ?_;refine Z17 ?_;refine U1 Tryz.call239 (ih a[i] (hok _ (B1 hlt)) b[i] _) ?_;refine A4 ?_;refine A2 [1,2,15,16,17,30] ?_
  refine A3 (fun ht30=>?_) (fun ht30=>?_)
  ·have hf:eqL a b=false:=AD3 hlt hlb (by simpa using ht30)
   refine aj ?_;exact AMd
  have he:eqE a[i] b[i]=true:=by simpa using ht30
  refine Z97 ?_;refine A2 [1,2,15,16,17] ?_;refine Bb (i+1) ⟨hlt,AIk hlt hlb hi.2 he⟩ (by omega) ?_
  exact D4 (own:=[]) (fun _=>.refl _) (by repeat (first|exact Be|refine Bd (by first|exact F1|(simp;done)) ?_)) (by simp) (by simp)
 have hxe:a.length≤i:=by simpa using ht18
 refine Z28 ?_;refine aj ?_;exact A8 (Ah A6) ⟨by rw [lq hlen (fun j y z hj=>hi.2 j y z (by omega))],rfl⟩

theorem AO2:∀(n:Nat) (x:Expr),okE n x→∀(y:Expr) (Hp:List AObj),AFun Tryz.prog 239 [A9 x,A9 y] Hp (Bk (eqE x y)):=by
 intro n
 induction n with
 | zero=>exact fun x h=>h.elim
 | succ n ih =>
 intro x hok y Hp
 refine Af [.tmp 4] [0,1] Tryz.func239 Tryz.ntmps239 (fun d=>?_)
 refine Z17 ?_;refine Lo ?_;refine Z27 ?_;refine Z47 ?_;refine Xm ?_;refine Z7 ?_
 refine Bi (h:=X9 Xo (fun w=>Jl x.val.kind x.val.n y.val.kind y.val.n x.val.s y.val.s w)) (hr:=?_)
 refine ot ?_;refine Bt Tryz.call285 (fun hB=>AQa n x.kids y.kids hok.2.1 hok.2.2 ih _) ?_;refine Z0 ?_;refine Z26 ?_;exact A8 (Ah A6) ⟨by rw [ACh],rfl⟩

set_option maxRecDepth 8000
/-! Moves: what mig.Right, sound.* and the document's layers 18, 19 answer. -/
structure Mov where
 kind:Int
 take:List Str
 give:List Col
 ahead:List Expr
 back:List Expr
abbrev Cj (l:List Expr):AV:=.slice false 6 (l.map A9)
abbrev J6 (m:Mov):List AV:=[A5 m.kind,Gq m.take,Am m.give,Cj m.ahead,Cj m.back]
abbrev Gw (m:Mov):AV:=.agg (J6 m)
abbrev Ew (l:List Mov):AV:=.slice false 5 (l.map Gw)
/-- Trees that may be walked. -/
structure OkEs (l:List Expr):Prop where
 len:l.length≤1048576
 ok:∀e∈l,okE 61 e
 size:∀e∈l,sizeE e≤1048576
 rng:∀e∈l,Dw Hs e=true
structure OkMov (m:Mov):Prop where
 takes:m.take.length≤1048576
 names:∀s∈m.take,s.length≤1048576
 gives:OkCols m.give
 gives2:m.give.length≤1000000
 ahead:OkEs m.ahead
 back:OkEs m.back
structure OkMovs (l:List Mov):Prop where
 len:l.length≤1048576
 each:∀m∈l,OkMov m
def Gi (m:Mov):Bool:=
 if ((m.ahead.length:Int) != (m.give.length:Int)) || ((m.back.length:Int) != (m.take.length:Int)) then false
 else if m.kind==1 then ((m.take.length:Int)==0)&&((m.give.length:Int)==1)
 else if m.kind==2 then ((m.take.length:Int)==1)&&((m.give.length:Int)==0)
 else if (m.kind==3) || (m.kind==6) then ((m.take.length:Int)==1)&&((m.give.length:Int)==1)
 else if m.kind==4 then ((m.take.length:Int)==1)&&decide ((1:Int)<(m.give.length:Int))
 else if m.kind==5 then decide ((1:Int)<(m.take.length:Int))&&((m.give.length:Int)==1)
 else false
def Kk (m:Mov) (c:Col):Bool:=Dk c.name&&(((Cl c.kind==[])==(m.kind==3)) && !((m.kind==3)&&(c.kind != 0)))
def Mg (m:Mov):Bool:=
 if m.kind==3 then eqE (m.ahead.getD 0 Ap) (Cw (m.take.getD 0 []))&&eqE (m.back.getD 0 Ap) (Cw (m.give.getD 0 ⟨[],0⟩).name)
 else if m.kind==6 then m.take.getD 0 []==(m.give.getD 0 ⟨[],0⟩).name else true
def Gj (m:Mov):Bool:=(((((Gi m&&m.give.all (Kk m))&&m.take.all Dk)&&m.ahead.all B3)&&m.back.all B3)&&Mg m)
def Pw (l:List Mov):Bool:=decide ((l.length:Int)≤8)&&l.all Gj
/-! Columns behind moves. -/
def R6 (e:Expr) (c:List Col) (w:Int):Bool:=((F4 e c).2==0)&&(((F4 e c).1==w) || ((F4 e c).1==0))
def B8 (c:List Col) (m:Mov):List Col:=
 if m.kind==3 then (if B6 (m.take.getD 0 []) c<0 then m.give else match m.give with
  | []=>[]
  | y::r=>⟨y.name,(c.getD (B6 (m.take.getD 0 []) c).toNat ⟨[],0⟩).kind⟩::r)
 else m.give
def Mh (e:Expr) (c:List Col) (w:Int):Int:=if (F4 e c).2 != 0 then (F4 e c).2 else if !R6 e c w then 10 else 0
def Ck (over:List Col):List Expr→List Col→Int
 | x::r,w::ws=>if Mh x over w.kind != 0 then Mh x over w.kind else Ck over r ws
 | _,_=>0
def Gx (c:List Col) (m:Mov):List Col:=m.take.map fun s=>c.getD (B6 s c).toNat ⟨[],0⟩
def C1 (c:List Col) (m:Mov):List Col×Int:=
 if (Da c m.take (B8 c m)).2 != 0 then ([],(Da c m.take (B8 c m)).2)
 else if Ck c m.ahead (B8 c m) != 0 then ([],Ck c m.ahead (B8 c m))
 else if Ck (Da c m.take (B8 c m)).1 m.back (Gx c m) != 0 then ([],Ck (Da c m.take (B8 c m)).1 m.back (Gx c m))
 else ((Da c m.take (B8 c m)).1,0)
/-- The columns ahead of each move and behind the last one, till one is wrong; the error. -/
def Dg (c:List Col):List Mov→List (List Col)×Int
 | []=>([c],0)
 | m::r=>if (C1 c m).2 != 0 then ([c],(C1 c m).2) else (c::(Dg (C1 c m).1 r).1,(Dg (C1 c m).1 r).2)
def Og (c:List Col) (l:List Mov):Bool:=Ct c&&Pw l
/-- ref19.Steps. -/
def J7 (c:List Col) (l:List Mov):List (List Col)×Int:=if Og c l then Dg c l else ([],1)
/-- sound.Steps. -/
def Cq (c:List Col) (l:List Mov):List (List Col)×Int:=if (J7 c l).2 != 0 then ([],(J7 c l).2) else J7 c l
def AD4 (c:List Col) (l:List Mov):List Col×Int:=if (Cq c l).2 != 0 then ([],(Cq c l).2) else ((Cq c l).1.getLastD [],0)
theorem Kl {m:Mov} (h:Gj m=true):Gi m=true:=by
 unfold Gj at h
 simp only [As] at h
 exact h.1.1.1.1.1
theorem Fx {m:Mov} (h:Gi m=true):m.ahead.length=m.give.length∧m.back.length=m.take.length:=by
 unfold Gi at h
 split at h
 ·cases h
 rename_i h1
 simp only [Dq,bne_iff_ne,ne_eq,not_or,Classical.not_not] at h1
 omega
theorem Px {m:Mov} (h:Gi m=true) (h3:((m.kind==3) || (m.kind==6))=true):m.take.length=1∧m.give.length=1:=by
 unfold Gi at h
 split at h
 ·cases h
 have h1:(m.kind==1)=false:=by simp at h3 ⊢;omega
 have h2:(m.kind==2)=false:=by simp at h3 ⊢;omega
 simp only [h1,h2,h3,if_true,if_false,Aq,As,beq_iff_eq] at h
 omega
theorem Ie (c:List Col) (m:Mov):(B8 c m).length=m.give.length:=by
 unfold B8
 split
 ·split
  ·rfl
  split<;>simp_all
 rfl
set_option maxRecDepth 4000
abbrev Vp (s:Sign):AV:=.agg [.slice false 1 (s.kids.map A5),A5 s.own]
theorem AO3 {n:Nat} (s:Sign):Low n (Vp s):=by simp [or_imp,forall_and]
theorem AJz {m:Sign} {a o:Int} (h:m=⟨[a],o⟩):AV.agg [.slice false 1 [A5 a],A5 o]=Vp m:=by rw [h];rfl
theorem AD5 {m:Sign} {a b o:Int} (h:m=⟨[a,b],o⟩):AV.agg [.slice false 1 [A5 a,A5 b],A5 o]=Vp m:=by rw [h];rfl
theorem AK0 {m:Sign} {a b c o:Int} (h:m=⟨[a,b,c],o⟩):AV.agg [.slice false 1 [A5 a,A5 b,A5 c],A5 o]=Vp m:=by rw [h];rfl
theorem c127 (s:Str) (Hp:List AObj):AFun Tryz.prog 127 [Ae s] Hp (Vp (Dn s)):=by
 refine Af [.cell 2 130] [0] Tryz.func127 Tryz.ntmps127 (fun d=>?_)
 refine Z76 ?_;refine Z32 ?_;refine Lo ?_;refine Jk ?_;refine Z8 ?_;refine A2 [2,3,4] ?_
 refine A3 (fun ht4=>?_) (fun ht4=>?_)
 ·refine Z5 ?_
  refine A3 (fun ht4=>?_) (fun ht4=>?_)
  ·exact Z74
  refine Z8 ?_;refine A2 [2,3,9] ?_
  refine A3 (fun ht9=>?_) (fun ht9=>?_)
  ·refine Z5 ?_
   refine A3 (fun ht9=>?_) (fun ht9=>?_)
   ·exact Z74
   refine W4 ?_
   refine A3 (fun ht18=>?_) (fun ht18=>?_)
   ·exact Z74
   exact W7
  refine ac ?_
  refine A3 (fun ht9=>?_) (fun ht9=>?_)
  ·refine Z5 ?_
   refine A3 (fun ht9=>?_) (fun ht9=>?_)
   ·exact Z74
   refine W4 ?_
   refine A3 (fun ht18=>?_) (fun ht18=>?_)
   ·exact Z74
   exact W7
  refine ac ?_
  refine A3 (fun ht9=>?_) (fun ht9=>?_)
  ·refine Z5 ?_
   refine A3 (fun ht9=>?_) (fun ht9=>?_)
   ·exact Z74
   refine W4 ?_
   refine A3 (fun ht18=>?_) (fun ht18=>?_)
   ·exact Z74
   exact W7
  refine ac ?_
  refine A3 (fun ht9=>?_) (fun ht9=>?_)
  ·refine Z5 ?_
   refine A3 (fun ht9=>?_) (fun ht9=>?_)
   ·exact Z74
   refine W4 ?_
   refine A3 (fun ht18=>?_) (fun ht18=>?_)
   ·exact Z74
   exact W7
  refine ac ?_
  refine A3 (fun ht9=>?_) (fun ht9=>?_)
  ·refine Z5 ?_
   refine A3 (fun ht9=>?_) (fun ht9=>?_)
   ·exact Z74
   refine W4 ?_
   refine A3 (fun ht18=>?_) (fun ht18=>?_)
   ·exact Z74
   exact W7
  refine Z12 ?_;refine A2 [2,3,9] ?_;refine Fh ?_
  refine A3 (fun ht9=>?_) (fun ht9=>?_)
  ·exact Z74
  refine W4 ?_
  refine A3 (fun ht18=>?_) (fun ht18=>?_)
  ·exact Z74
  exact W7
 refine Z12 ?_;refine A2 [2,3,4] ?_;refine Fh ?_
 refine A3 (fun ht4=>?_) (fun ht4=>?_)
 ·exact Z74
 refine Z8 ?_;refine A2 [2,3,9] ?_
 refine A3 (fun ht9=>?_) (fun ht9=>?_)
 ·refine Z5 ?_
  refine A3 (fun ht9=>?_) (fun ht9=>?_)
  ·exact Z74
  refine W4 ?_
  refine A3 (fun ht18=>?_) (fun ht18=>?_)
  ·exact Z74
  exact W7
 refine ac ?_
 refine A3 (fun ht9=>?_) (fun ht9=>?_)
 ·refine Z5 ?_
  refine A3 (fun ht9=>?_) (fun ht9=>?_)
  ·exact Z74
  refine W4 ?_
  refine A3 (fun ht18=>?_) (fun ht18=>?_)
  ·exact Z74
  exact W7
 refine ac ?_
 refine A3 (fun ht9=>?_) (fun ht9=>?_)
 ·refine Z5 ?_
  refine A3 (fun ht9=>?_) (fun ht9=>?_)
  ·exact Z74
  refine W4 ?_
  refine A3 (fun ht18=>?_) (fun ht18=>?_)
  ·exact Z74
  exact W7
 refine ac ?_
 refine A3 (fun ht9=>?_) (fun ht9=>?_)
 ·refine Z5 ?_
  refine A3 (fun ht9=>?_) (fun ht9=>?_)
  ·exact Z74
  refine W4 ?_
  refine A3 (fun ht18=>?_) (fun ht18=>?_)
  ·exact Z74
  exact W7
 refine ac ?_
 refine A3 (fun ht9=>?_) (fun ht9=>?_)
 ·refine Z5 ?_
  refine A3 (fun ht9=>?_) (fun ht9=>?_)
  ·exact Z74
  refine W4 ?_
  refine A3 (fun ht18=>?_) (fun ht18=>?_)
  ·exact Z74
  exact W7
 refine Z12 ?_;refine A2 [2,3,9] ?_;refine Fh ?_
 refine A3 (fun ht9=>?_) (fun ht9=>?_)
 ·exact Z74
 refine W4 ?_
 refine A3 (fun ht18=>?_) (fun ht18=>?_)
 ·exact Z74
 exact W7

theorem AQb (s:Str) (Hp:List AObj):AFun Tryz.prog 128 [Ae s] Hp (Vp (E9 s)):=by
 refine Af [.cell 2 130] [0] Tryz.func128 Tryz.ntmps128 (fun d=>?_)
 refine Z76 ?_;refine Z32 ?_;refine Lo ?_;refine Jk ?_;refine Z8 ?_;refine A2 [2,3,4] ?_
 refine A3 (fun ht4=>?_) (fun ht4=>?_)
 ·refine Z5 ?_
  refine A3 (fun ht4=>?_) (fun ht4=>?_)
  ·exact Qs
  refine ac ?_
  refine A3 (fun ht9=>?_) (fun ht9=>?_)
  ·exact Qs
  refine Z8 ?_;refine A2 [2,3,13] ?_
  refine A3 (fun ht13=>?_) (fun ht13=>?_)
  ·refine Z5 ?_
   refine A3 (fun ht13=>?_) (fun ht13=>?_)
   ·exact Qs
   refine AFf ?_
   refine A3 (fun ht18=>?_) (fun ht18=>?_)
   ·exact Qs
   refine Z1 ?_;refine A2 [2,22] ?_
   refine A3 (fun ht22=>?_) (fun ht22=>?_)
   ·exact Qs
   exact AFg
  refine Z12 ?_;refine A2 [2,3,13] ?_;refine Fh ?_
  refine A3 (fun ht13=>?_) (fun ht13=>?_)
  ·exact Qs
  refine AFf ?_
  refine A3 (fun ht18=>?_) (fun ht18=>?_)
  ·exact Qs
  refine Z1 ?_;refine A2 [2,22] ?_
  refine A3 (fun ht22=>?_) (fun ht22=>?_)
  ·exact Qs
  exact AFg
 refine Z12 ?_;refine A2 [2,3,4] ?_;refine Fh ?_
 refine A3 (fun ht4=>?_) (fun ht4=>?_)
 ·exact Qs
 refine ac ?_
 refine A3 (fun ht9=>?_) (fun ht9=>?_)
 ·exact Qs
 refine Z8 ?_;refine A2 [2,3,13] ?_
 refine A3 (fun ht13=>?_) (fun ht13=>?_)
 ·refine Z5 ?_
  refine A3 (fun ht13=>?_) (fun ht13=>?_)
  ·exact Qs
  refine AFf ?_
  refine A3 (fun ht18=>?_) (fun ht18=>?_)
  ·exact Qs
  refine Z1 ?_;refine A2 [2,22] ?_
  refine A3 (fun ht22=>?_) (fun ht22=>?_)
  ·exact Qs
  exact AFg
 refine Z12 ?_;refine A2 [2,3,13] ?_;refine Fh ?_
 refine A3 (fun ht13=>?_) (fun ht13=>?_)
 ·exact Qs
 refine AFf ?_
 refine A3 (fun ht18=>?_) (fun ht18=>?_)
 ·exact Qs
 refine Z1 ?_;refine A2 [2,22] ?_
 refine A3 (fun ht22=>?_) (fun ht22=>?_)
 ·exact Qs
 exact AFg

theorem c79 (e:Expr) (Hp:List AObj):AFun Tryz.prog 79 [A9 e] Hp (Vp (Jr e.op e.text)):=by
 refine Af [.cell 2 130] [0] Tryz.func79 Tryz.ntmps79 (fun d=>?_)
 refine Z2 ?_;refine Pm ?_;refine A2 [1,2] ?_;refine Z8 ?_;refine A2 [1,2,4] ?_;refine Pj ?_;refine A2 [1,2,4,5] ?_
 refine A3 (fun ht5=>?_) (fun ht5=>?_)
 ·refine Z42 ?_;exact AIt
 refine Z1 ?_;refine A2 [1,2,4,9] ?_
 refine A3 (fun ht9=>?_) (fun ht9=>?_)
 ·refine Z42 ?_;exact AIt
 refine Z1 ?_;refine A2 [1,2,13] ?_
 refine A3 (fun ht13=>?_) (fun ht13=>?_)
 ·refine Z1 ?_;refine Aa Tryz.call127 (c127 e.text _) ?_;refine Z15 ?_;exact AIt
 refine ov ?_;refine Aa Tryz.call128 (AQb e.text _) ?_;refine Z15 ?_;exact AN1

theorem AO4 (a b:Int) (Hp:List AObj):AFun Tryz.prog 129 [A5 a,A5 b] Hp (.tup [A5 (Fa a b).1,Bk (Fa a b).2]):=by
 refine Af [.tmp 4,.tmp 5] [0,1] Tryz.func129 Tryz.ntmps129 (fun d=>?_)
 refine ge ?_;refine k7 ?_;refine A2 [0,1,6] ?_
 refine A3 (fun ht6=>?_) (fun ht6=>?_)
 ·refine Z17 ?_;exact ALp
 refine Z17 ?_;refine Z99 ?_;refine A2 [0,10] ?_
 refine A3 (fun ht10=>?_) (fun ht10=>?_)
 ·refine Z17 ?_;exact ALp
 refine ov ?_;refine Z9 ?_;exact AN2

structure FitAt (s:Sign) (ks:List Int) (x:Nat×Int):Prop where
 le:x.1≤ks.length
 eq:Gr s.kids ks 0=Gr (s.kids.drop x.1) (ks.drop x.1) x.2
theorem FitAt.step {s:Sign} {ks:List Int} {x:Nat×Int} (h:FitAt s ks x) (hk:x.1<ks.length) (hs:x.1<s.kids.length):Gr s.kids ks 0=(if s.kids[x.1] == -2 then Gr (s.kids.drop (x.1+1)) (ks.drop (x.1+1)) x.2 else if s.kids[x.1] == -1 then (if (Fa x.2 ks[x.1]).2 then Gr (s.kids.drop (x.1+1)) (ks.drop (x.1+1)) (Fa x.2 ks[x.1]).1 else none) else if (Fa s.kids[x.1] ks[x.1]).2 then Gr (s.kids.drop (x.1+1)) (ks.drop (x.1+1)) x.2 else none):=by
 rw [h.eq,L5 hk,L5 hs,Gr]
theorem FitAt.skip {s:Sign} {ks:List Int} {x:Nat×Int} (h:FitAt s ks x) (hk:x.1<ks.length) (hs:x.1<s.kids.length) (h2:(s.kids[x.1] == -2)=true):FitAt s ks (x.1+1,x.2):=⟨hk,by rw [h.step hk hs,if_pos h2]⟩
theorem FitAt.same {s:Sign} {ks:List Int} {x:Nat×Int} (h:FitAt s ks x) (hk:x.1<ks.length) (hs:x.1<s.kids.length) (h2:(s.kids[x.1] == -2)=false) (h1:(s.kids[x.1] == -1)=true) (hm:(Fa x.2 ks[x.1]).2=true):FitAt s ks (x.1+1,(Fa x.2 ks[x.1]).1):=⟨hk,by rw [h.step hk hs,if_neg (by rw [h2];simp),if_pos h1,if_pos hm]⟩
theorem FitAt.want {s:Sign} {ks:List Int} {x:Nat×Int} (h:FitAt s ks x) (hk:x.1<ks.length) (hs:x.1<s.kids.length) (h2:(s.kids[x.1] == -2)=false) (h1:(s.kids[x.1] == -1)=false) (hm:(Fa s.kids[x.1] ks[x.1]).2=true):FitAt s ks (x.1+1,x.2):=⟨hk,by rw [h.step hk hs,if_neg (by rw [h2];simp),if_neg (by rw [h1];simp),if_pos hm]⟩
theorem FitAt.bad {s:Sign} {ks:List Int} {x:Nat×Int} (h:FitAt s ks x) (hk:x.1<ks.length) (hs:x.1<s.kids.length) (h2:(s.kids[x.1] == -2)=false) (hm:(if s.kids[x.1] == -1 then (Fa x.2 ks[x.1]).2 else (Fa s.kids[x.1] ks[x.1]).2)=false):J3 s ks=(0,10):=by
 unfold J3
 rw [h.step hk hs,if_neg (by rw [h2];simp)]
 split at hm
 ·rename_i h1
  rw [if_pos h1,if_neg (by rw [hm];simp)]
 rename_i h1
 rw [if_neg h1,if_neg (by rw [hm];simp)]
theorem FitAt.out {s:Sign} {ks:List Int} {x:Nat×Int} (h:FitAt s ks x) (hk:ks.length≤x.1):J3 s ks=if s.own == -1 then (x.2,0) else (s.own,0):=by
 unfold J3
 rw [h.eq,ng hk]
 cases s.kids.drop x.1<;>rfl
theorem c80 (s:Sign) (ks:List Int) (hks:ks.length≤s.kids.length) (hk2:ks.length≤1048576) (Hp:List AObj):AFun Tryz.prog 80 [Vp s,.slice false 1 (ks.map A5)] Hp (.tup [A5 (J3 s ks).1,A5 (J3 s ks).2]):=by
 refine Af [.tmp 4,.tmp 5] [0,1] Tryz.func80 Tryz.ntmps80 (fun d=>?_)
 refine ABe ?_;refine Fp ?_;refine Z19 ?_;refine A2 [1,2,6] ?_;refine Z36 ?_;refine xc ?_
 refine B7 (α:=Nat×Int) (fun x=>⟨49,A7 2 (.ro [.slice false 1 (s.kids.map A5),A5 s.own]) (A7 6 (.ptr (oid Hp.length 0) 0) (A7 13 (.slice false 1 (ks.map A5)) (A7 14 (A5 (ks.length:Nat)) (A7 15 (A5 (x.1:Nat)) (fun _=>.any))))),Hp,[.cells 3 [A5 x.2]],[],none⟩) (fun x=>FitAt s ks x) (fun x=>ks.length-x.1) ((0,0)) ⟨Ar _,rfl⟩ (Bo (by simp)) rfl (fun x hx=>?_)
 refine Z2 ?_;refine A2 [2,6,13,14,15,16] ?_
 refine Dm (fun ht16=>?_) (fun ht16=>?_)
 ·have hlt:x.1<ks.length:=by simpa using ht16
  have hls:x.1<s.kids.length:=by omega
  refine Pl ?_
  refine A4 (h:=Ac (x.1) (A5 ks[x.1]) (fun _=>Ax hlt)) (hr:=?_)
  refine Z22 ?_;refine A2 [2,6,7,8,13,14,15] ?_;refine Z17 ?_
  refine A4 (h:=Ac (x.1) (A5 s.kids[x.1]) (fun _=>Ax hls)) (hr:=?_)
  refine Rn ?_;refine A2 [2,6,8,9,13,14,15] ?_;refine Z8 ?_;refine A2 [2,6,8,9,13,14,15,26] ?_
  refine A3 (fun ht26=>?_) (fun ht26=>?_)
  ·refine Hq [2,6,13,14,15] ?_;refine Z38 ?_;refine K.blE ?_;refine Fh ?_;refine Z12 ?_;refine xc ?_
   first|(refine Bb (x.1+1,x.2) (hx.skip hlt hls ht26) (by show ks.length-(x.1+1)<ks.length-x.1;omega) ?_;exact D4 (own:=[.cells 3 [A5 x.2]]) (fun _=>.refl _) (by repeat (first|exact Be|refine Bd (by first|(simp [or_imp,forall_and];done)|(simp [oid]<;>omega)) ?_)) (by intro y hy;rw [Bl.1 hy];intro z hz;rw [Bl.1 hz];simp) (by simp))|(refine Bb (x.1+1,(Fa x.2 ks[x.1]).1) (hx.same hlt hls ht26 ht28 (by simpa using ht38)) (by show ks.length-(x.1+1)<ks.length-x.1;omega) ?_;exact D4 (own:=[.cells 3 [A5 (Fa x.2 ks[x.1]).1]]) (fun _=>.refl _) (by repeat (first|exact Be|refine Bd (by first|(simp [or_imp,forall_and];done)|(simp [oid]<;>omega)) ?_)) (by intro y hy;rw [Bl.1 hy];intro z hz;rw [Bl.1 hz];simp) (by simp))|(refine Bb (x.1+1,x.2) (hx.want hlt hls ht26 ht28 (by simpa using ht38)) (by show ks.length-(x.1+1)<ks.length-x.1;omega) ?_;exact D4 (own:=[.cells 3 [A5 x.2]]) (fun _=>.refl _) (by repeat (first|exact Be|refine Bd (by first|(simp [or_imp,forall_and];done)|(simp [oid]<;>omega)) ?_)) (by intro y hy;rw [Bl.1 hy];intro z hz;rw [Bl.1 hz];simp) (by simp))
  refine Lm ?_;refine A2 [2,6,8,9,10,13,14,15] ?_;refine Z8 ?_;refine A2 [2,6,8,10,13,14,15,28] ?_
  refine A3 (fun ht28=>?_) (fun ht28=>?_)
  ·refine Z66 ?_;refine A2 [2,6,8,10,13,14,15] ?_;refine Fh ?_;refine Z27 ?_;refine Aa Tryz.call129 (AO4 _ _ _) ?_;refine Z75 ?_;refine A2 [2,6,10,11,12,13,14,15] ?_;refine Z8 ?_;refine A2 [2,6,10,11,13,14,15,38] ?_
   refine A3 (fun ht38=>?_) (fun ht38=>?_)
   ·have hbad:=hx.bad hlt hls ht26 (by first|(rw [if_pos ht28];simpa using ht38)|(rw [if_neg (by rw [ht28];simp)];simpa using ht38))
    refine Ow ?_;exact ALx
   refine Z5 ?_;refine Z34 ?_;refine Iq ?_;refine xc ?_;refine Qv ?_;refine xc ?_
   first|(refine Bb (x.1+1,x.2) (hx.skip hlt hls ht26) (by show ks.length-(x.1+1)<ks.length-x.1;omega) ?_;exact D4 (own:=[.cells 3 [A5 x.2]]) (fun _=>.refl _) (by repeat (first|exact Be|refine Bd (by first|(simp [or_imp,forall_and];done)|(simp [oid]<;>omega)) ?_)) (by intro y hy;rw [Bl.1 hy];intro z hz;rw [Bl.1 hz];simp) (by simp))|(refine Bb (x.1+1,(Fa x.2 ks[x.1]).1) (hx.same hlt hls ht26 ht28 (by simpa using ht38)) (by show ks.length-(x.1+1)<ks.length-x.1;omega) ?_;exact D4 (own:=[.cells 3 [A5 (Fa x.2 ks[x.1]).1]]) (fun _=>.refl _) (by repeat (first|exact Be|refine Bd (by first|(simp [or_imp,forall_and];done)|(simp [oid]<;>omega)) ?_)) (by intro y hy;rw [Bl.1 hy];intro z hz;rw [Bl.1 hz];simp) (by simp))|(refine Bb (x.1+1,x.2) (hx.want hlt hls ht26 ht28 (by simpa using ht38)) (by show ks.length-(x.1+1)<ks.length-x.1;omega) ?_;exact D4 (own:=[.cells 3 [A5 x.2]]) (fun _=>.refl _) (by repeat (first|exact Be|refine Bd (by first|(simp [or_imp,forall_and];done)|(simp [oid]<;>omega)) ?_)) (by intro y hy;rw [Bl.1 hy];intro z hz;rw [Bl.1 hz];simp) (by simp))
  refine Z5 ?_;refine Z27 ?_;refine Aa Tryz.call129 (AO4 _ _ _) ?_;refine Z75 ?_;refine A2 [2,6,10,11,12,13,14,15] ?_;refine Z8 ?_;refine A2 [2,6,10,11,13,14,15,38] ?_
  refine A3 (fun ht38=>?_) (fun ht38=>?_)
  ·have hbad:=hx.bad hlt hls ht26 (by first|(rw [if_pos ht28];simpa using ht38)|(rw [if_neg (by rw [ht28];simp)];simpa using ht38))
   refine Ow ?_;exact ALx
  refine Z5 ?_;refine Z34 ?_;refine Iq ?_;refine xc ?_;refine Qv ?_;refine xc ?_
  first|(refine Bb (x.1+1,x.2) (hx.skip hlt hls ht26) (by show ks.length-(x.1+1)<ks.length-x.1;omega) ?_;exact D4 (own:=[.cells 3 [A5 x.2]]) (fun _=>.refl _) (by repeat (first|exact Be|refine Bd (by first|(simp [or_imp,forall_and];done)|(simp [oid]<;>omega)) ?_)) (by intro y hy;rw [Bl.1 hy];intro z hz;rw [Bl.1 hz];simp) (by simp))|(refine Bb (x.1+1,(Fa x.2 ks[x.1]).1) (hx.same hlt hls ht26 ht28 (by simpa using ht38)) (by show ks.length-(x.1+1)<ks.length-x.1;omega) ?_;exact D4 (own:=[.cells 3 [A5 (Fa x.2 ks[x.1]).1]]) (fun _=>.refl _) (by repeat (first|exact Be|refine Bd (by first|(simp [or_imp,forall_and];done)|(simp [oid]<;>omega)) ?_)) (by intro y hy;rw [Bl.1 hy];intro z hz;rw [Bl.1 hz];simp) (by simp))|(refine Bb (x.1+1,x.2) (hx.want hlt hls ht26 ht28 (by simpa using ht38)) (by show ks.length-(x.1+1)<ks.length-x.1;omega) ?_;exact D4 (own:=[.cells 3 [A5 x.2]]) (fun _=>.refl _) (by repeat (first|exact Be|refine Bd (by first|(simp [or_imp,forall_and];done)|(simp [oid]<;>omega)) ?_)) (by intro y hy;rw [Bl.1 hy];intro z hz;rw [Bl.1 hz];simp) (by simp))
 have hxe:ks.length≤x.1:=by simpa using ht16
 have hout:=hx.out hxe
 refine Z28 ?_;refine Z36 ?_;refine A2 [2,6,45] ?_
 refine A3 (fun ht45=>?_) (fun ht45=>?_)
 ·refine Z17 ?_;refine Z52 ?_;exact A8 (Ay A6 A6) ⟨by rw [hout,if_pos ht45],rfl⟩
 refine Z5 ?_;refine AF5 ?_;exact A8 (Ay A6 A6) ⟨by rw [hout,if_neg (by rw [ht45];simp)],rfl⟩

theorem AD6 {n k:Nat} {own:Bool} {l:List Int}:Low n (.slice own k (l.map A5)):=low_slice.2 fun y hy=>by
 obtain ⟨z,_,rfl⟩:=Cr.1 hy
 simp
theorem Wp {n:Nat} {e:Expr}:Low n (.ro (Eb e)):=by have:=Av n e;rw [At] at this;simpa using this
theorem Hh {c:List Col} {t:Str} (h:¬(B6 t c<0)):∃(j:Nat),B6 t c=(j:Int)∧j<c.length:=by
 obtain ⟨j,y,h2,_,h3⟩:=find_mem.1 h
 exact ⟨j,h3,(Ad.1 h2).1⟩
theorem ls {c:List Col} {e:Expr} (h:(e.op==1)=true):Bf c e=(e.val.kind,0):=by rw [Pv];unfold Np;rw [if_pos h]
theorem ct {c:List Col} {e:Expr} (h1:(e.op==1)=false) (h:(e.op==2)=true):Bf c e=Ih c e.text:=by rw [Pv];unfold Np;rw [h1,if_pos h];rfl
theorem lu {c:List Col} {e:Expr} (h1:(e.op==1)=false) (h2:(e.op==2)=false) {x:Nat} (hx:x<e.kids.length) (h0:∀(j:Nat) (y:Expr),j<x→e.kids[j]? = some y→((Bf c y).2 != 0)=false) (hb:((Bf c e.kids[x]).2 != 0)=true):Bf c e=(0,(Bf c e.kids[x]).2):=by
 rw [Pv]
 unfold Np
 rw [h1,h2]
 have:(e.kids.map (Bf c)).find? (fun q=>q.2 != 0)=some ((e.kids.map (Bf c))[x]'(by simpa using hx)):=gr (by simpa using hx) (by simpa using hb) (fun j y hj hy=>by
  rw [Cf,F6] at hy
  obtain ⟨z,hz,rfl⟩:=hy
  exact h0 j z hj hz)
 rw [this]
 simp
theorem lv {c:List Col} {e:Expr} (h1:(e.op==1)=false) (h2:(e.op==2)=false) (h0:∀(j:Nat) (y:Expr),j<e.kids.length→e.kids[j]? = some y→((Bf c y).2 != 0)=false):Bf c e=J3 (Jr e.op e.text) (e.kids.map fun y=>(Bf c y).1):=by
 rw [Pv]
 unfold Np
 rw [h1,h2]
 have:(e.kids.map (Bf c)).find? (fun q=>q.2 != 0)=none:=U8 (fun j y hy=>by
  rw [Cf,F6] at hy
  obtain ⟨z,hz,rfl⟩:=hy
  exact h0 j z (Ad.1 hz).1 hz)
 rw [this]
 simp only [Kq]
 rfl
theorem cu (f:Expr→Int) (l:List Expr) {x:Nat} (h:x<l.length):((l.take x).map f).map A5++[A5 (f l[x])]=((l.take (x+1)).map f).map A5:=by rw [Hv h,By,By];rfl
theorem c39 (c:List Col) (hc:OkCols c):∀(n:Nat) (e:Expr),okE n e→Dw Dl e=true→∀Hp:List AObj,AFun Tryz.prog 39 [A9 e,Am c] Hp (.tup [A5 (Bf c e).1,A5 (Bf c e).2]):=by
 intro n
 induction n with
 | zero=>exact fun e h=>h.elim
 | succ n ih =>
 intro e hok hnd Hp
 have hnd0:=hnd
 rw [Gg,As] at hnd0
 refine Af [.tmp 4,.tmp 5] [0,1] Tryz.func39 Tryz.ntmps39 (fun d=>?_)
 refine ABe ?_;refine Z8 ?_;refine A2 [1,2,13] ?_;refine Pj ?_;refine A2 [1,2,13,14] ?_
 refine A3 (fun ht14=>?_) (fun ht14=>?_)
 ·have hk:=ls (c:=c) ht14
  refine Z1 ?_;refine Z22 ?_;refine gh ?_;exact AFr
 refine Z1 ?_;refine A2 [1,2,19] ?_
 refine A3 (fun ht19=>?_) (fun ht19=>?_)
 ·have hk:=ct (c:=c) ht14 ht19
  refine Z17 ?_;refine Aa Tryz.call58 (c58 c hc e.text _) ?_;refine A4 ?_;refine A2 [1,6] ?_;refine Z8 ?_;refine A2 [1,6,26] ?_
  refine A3 (fun ht26=>?_) (fun ht26=>?_)
  ·have hk2:Ih c e.text=(0,9):=if_pos (by simpa using ht26)
   refine Ow ?_;refine Z6 ?_;exact AFs
  have hneg:¬(B6 e.text c<0):=by simpa using ht26
  obtain ⟨j,hj,hjl⟩:=Hh hneg
  have hk2:Ih c e.text=(c[j].kind,0):=by
   unfold Ih
   rw [if_neg hneg,hj,Int.toNat_natCast,C9,Ab hjl]
   rfl
  rw [hj]
  refine Ro ?_
  refine A4 (h:=Ac (j) (Bq c[j]) (fun _=>Ax hjl)) (hr:=?_)
  refine Z89 ?_;refine gh ?_;exact AFs
 refine Z16 ?_;refine Z2 ?_;refine A2 [1,2,7] ?_;refine Z67 ?_;refine N7 7 1 ?_;refine Z89 ?_;refine A2 [1,2,7,33,34,35] ?_
 refine B7 (α:=Nat) (fun x=>⟨59,A7 1 (Am c) (A7 2 (.ro (Eb e)) (A7 7 (.slice true 1 (((e.kids.take x).map fun y=>(Bf c y).1).map A5)) (A7 33 (.slice false 6 (e.kids.map A9)) (A7 34 (A5 (e.kids.length:Nat)) (A7 35 (A5 (x:Nat)) (fun _=>.any)))))),Hp,[],[],none⟩) (fun x=>x≤e.kids.length∧∀(j:Nat) (y:Expr),j<x→e.kids[j]? = some y→((Bf c y).2 != 0)=false) (fun x=>e.kids.length-x) (0) ⟨Ar _,fun j y h=>by omega⟩ (Bo (by simp)) rfl (fun x hx=>?_)
 refine Z2 ?_;refine A2 [1,2,7,33,34,35,36] ?_
 refine Dm (fun ht36=>?_) (fun ht36=>?_)
 ·have hlt:x<e.kids.length:=by simpa using ht36
  have hkl:=hok.2.1
  refine Qr ?_
  refine A4 (h:=Ac (x) (A9 e.kids[x]) (fun _=>Ax hlt)) (hr:=?_)
  refine Rn ?_;refine A2 [1,2,7,9,33,34,35] ?_;refine Z1 ?_;refine Aa Tryz.call39 (ih e.kids[x] (hok.2.2 _ (B1 hlt)) ((E3 _ _).1 hnd0.2 _ (B1 hlt)) _) ?_;refine Z75 ?_;refine A2 [1,2,7,10,11,33,34,35] ?_;refine Z8 ?_;refine A2 [1,2,7,10,11,33,34,35,46] ?_
  refine A3 (fun ht46=>?_) (fun ht46=>?_)
  ·have hkb:=lu (c:=c) ht14 ht19 hlt hx.2 ht46
   refine Z17 ?_;refine Z52 ?_;exact ALy
  refine og ?_;refine Z57 ?_
  refine Eu jU Tryz.type3 ?_ ?_ ?_
  ·simp only [Aj,Ci,Aw,Az,Tryz.t3];omega
  ·simp only [Aj,Ci,Aw,Az,Tryz.t3];omega
  refine L1 ?_;refine A2 [1,2,7,33,34,35] ?_;refine Qv ?_;refine A2 [1,2,7,33,34,35] ?_;refine Bb (x+1) ⟨hlt,Cc hlt hx.2 ht46⟩ (by omega) ?_
  simp only [show Tryz.t3.size=1 from rfl,cu]
  exact D4 (own:=[]) (fun _=>.refl _) (by repeat (first|exact Be|refine Bd (by first|exact AD6|exact Wp|exact F1|(simp [or_imp,forall_and];done)) ?_)) (by simp) (by simp)
 have hxe:e.kids.take x=e.kids:=E8 (by simp at ht36;omega)
 have hxl:e.kids.length≤x:=by simp at ht36;omega
 have hka:=lv (c:=c) ht14 ht19 (fun j y hj hy=>hx.2 j y (by omega) hy)
 rw [hxe]
 refine Z28 ?_;refine Z2 ?_;refine Aa Tryz.call79 (c79 e _) ?_;refine A4 ?_
 refine Aa Tryz.call80 (c80 (Jr e.op e.text) (e.kids.map fun y=>(Bf c y).1) (by rw [Nr hnd0.1 ht14 ht19];simp) (by simpa using hok.2.1) _) ?_
 refine Z89 ?_;refine Z9 ?_;exact A8 (Ay A6 A6) ⟨by rw [hka],rfl⟩

theorem L2 {e:Expr} (h:B3 e=true):Dw Dl e=true:=by
 rw [F8] at h
 unfold D3 at h
 rw [As] at h
 exact h.2
theorem c13 (n:Nat) (e:Expr) (hok:okE n e) (hn:n≤1048576) (c:List Col) (hc:OkCols c) (Hp:List AObj):AFun Tryz.prog 13 [A9 e,Am c] Hp (.tup [A5 (F4 e c).1,A5 (F4 e c).2]):=by
 refine Af [.tmp 4,.tmp 5] [0,1] Tryz.func13 Tryz.ntmps13 (fun d=>?_)
 refine ABe ?_;refine Z32 ?_;refine Aa Tryz.call38 (c38 n e hok hn _) ?_;refine Qx ?_;refine Bt Tryz.call36 (fun hB=>c36 c hc _) ?_;refine Qu ?_;refine A2 [1,2,13] ?_
 refine A3 (fun ht13=>?_) (fun ht13=>?_)
 ·have hk:F4 e c=(0,1):=if_pos ht13
  exact AM0
 have hk:F4 e c=Bf c e:=if_neg (by rw [ht13];simp)
 have hr:B3 e=true:=by simp only [Ej,Dh] at ht13;exact ht13.1
 refine Ro ?_;refine Aa Tryz.call39 (c39 c hc n e hok (L2 hr) _) ?_;refine Z89 ?_;exact AMb

theorem D8 {n k:Nat} {o:Bool} {l:List Col}:Low n (.slice o k (l.map Bq)):=by simp [or_imp,forall_and]
theorem We {α β:Type} {f:α→β} {l:List α} {k:Nat} {y:α} (h:l[k]? = some y):(l.map f)[k]? = some (f y):=by rw [Cf,h];rfl
theorem AQc (c:List Col) (hc:OkCols c) (take:List Str) (ht:take.length≤1048576) (give:List Col) (hg:OkCols give) (hg2:give.length≤1000000) (Hp:List AObj):AFun Tryz.prog 186 [Am c,Gq take,Am give] Hp (.tup [Am (Da c take give).1,A5 (Da c take give).2]):=by
 refine Af [.tmp 6,.tmp 7] [0,1,2,9] Tryz.func186 Tryz.ntmps186 (fun d=>?_)
 refine Z1 ?_;refine A2 [0,1,2,9] ?_;refine Z32 ?_;refine Aa Tryz.call57 (c57 c hc _) ?_;refine A4 ?_;refine A2 [0,1,2,9,12] ?_
 refine A3 (fun ht12=>?_) (fun ht12=>?_)
 ·have hr:Ct c=false:=by rw [Nn] at ht12;simpa using ht12
  refine Xk ?_;exact ALk
 have hr:Ct c=true:=by rw [Nn] at ht12;simpa using ht12
 refine Z5 ?_;refine Z8 ?_;refine Aa Tryz.call241 (APu c hc take ht _) ?_;refine A4 ?_;refine A2 [0,1,2,9,16] ?_
 refine A3 (fun ht16=>?_) (fun ht16=>?_)
 ·have hk:Ht c take=false:=by simpa using ht16
  refine Xk ?_;refine C4 ?_;exact A8 (Ay A6 A6) ⟨by rw [qn hr hk];try rfl,rfl⟩
 have hk:Ht c take=true:=by simpa using ht16
 refine Z5 ?_;refine Z35 ?_;refine A2 [0,1,2,8,9] ?_;refine Z67 ?_;refine Rl 0 2 ?_
 refine N8 (fun hlow=>?_)
 refine Z0 ?_;refine Aa Tryz.call242 (APw c take _) ?_;refine A2 [2,8,9,19] ?_;refine Jk ?_
 refine Ob (m:=1) Tryz.call286 (fun FR as' bd' hFR has hbd=>?_)
 have hFRl:∀s,Low (Hp.length+3) (FR s):=by
  intro s
  rw [hFR]
  refine P4 ?_
  revert s
  repeat (first|exact Be|refine Bd (by simp [oid,or_imp,forall_and]<;>try omega) ?_)
 have hOl:∀{k:Nat},∀x∈[AObj.cells 27 [.slice true 2 ((D6 (c.take k) take).map Bq)],AObj.defs,AObj.loop LoopState.ready none FR 41 #[20] as' bd' (oid Hp.length 1)],ObjLow (Hp.length+3) x:=by
  intro k x hx
  simp only [B5,El,or_false] at hx
  rcases hx with rfl|rfl|rfl
  ·intro y hy
   rw [Bl.1 hy]
   exact D8
  ·trivial
  exact ABk
 refine ⟨_,APx (oid Hp.length 2) c take hc.len ht (fun k=>Hp++[AObj.cells 27 [.slice true 2 ((D6 (c.take k) take).map Bq)],AObj.defs,AObj.loop LoopState.ready none FR 41 #[20] as' bd' (oid Hp.length 1)]) (fun k=>by simp) (by simp [oid]) (fun k x hx=>?_) (fun k y hk hcn=>by simp only [cj hk hcn]) (fun k y X hk hcn=>?_),?_⟩
 ·have:=Lp (fun x hx=>Oe (by omega) (hlow x hx)) hOl x hx
  simpa using this
 ·generalize hV:Hp++[AObj.cells 27 [.slice true 2 ((D6 (c.take k) take).map Bq)],AObj.defs,AObj.loop LoopState.ready none FR 41 #[20] as' bd' (oid Hp.length 1)]++X=V
  have hL:V[oid Hp.length 2]? = some (AObj.loop LoopState.ready none FR 41 #[20] as' bd' (oid Hp.length 1)):=by rw [←hV,Bn,Bm];rfl
  have hA0:V[oid Hp.length 0]? = some (AObj.cells 27 [.slice true 2 ((D6 (c.take k) take).map Bq)]):=by rw [←hV,Bn,Bm];rfl
  refine O5 (pd:=none) (fr:=FR) (sz:=41) (ps:=#[20]) (df:=oid Hp.length 1) (asg:=as') (bd:=bd') hL rfl (by decide) (fun d=>?_)
  subst hFR has hbd
  refine Hq [8,20] ?_;refine ABg ?_;refine A2 [8,9] ?_
  refine ⟨rfl,none,hL,?_⟩
  generalize hbz:(AObj.loop LoopState.busy _ _ _ _ _ _ _)=bz
  have hA:(V.set (oid Hp.length 2) bz)[oid Hp.length 0]? = some (AObj.cells 27 [.slice true 2 ((D6 (c.take k) take).map Bq)]):=by rw [Dr (Cn (by decide))];exact hA0
  refine Jk ?_;refine K8 ?_;refine R.loadUpT jA hA ?_;refine Z57 ?_
  refine Eu jU Tryz.type41 ?_ ?_ ?_
  ·have h1:=He (c.take k) take;have h2:=hc.len;simp only [Ci] at h1;simp [Tryz.t41];omega
  ·have h1:=He (c.take k) take;have h2:=hc.len;simp only [Ci] at h1;simp [Tryz.t41];omega
  refine Io jS (getset hA) ?_ ?_
  ·exact xz
  refine Z78 ?_
  subst hbz
  refine AFp ?_
  refine ⟨rfl,?_⟩
  subst hV
  simp only [Bn,Gf,Et,Ec,List.set_cons_succ,List.set_cons_zero]
  rw [u7 hk hcn,By]
  rfl
 rintro r H' rfl
 simp only [Mu]
 refine ⟨Hp,_,_,_,rfl,rfl,fun h=>h,?_,rfl,by simp,?_⟩
 ·intro o ho
  have:o=oid Hp.length 1:=by simpa using ho
  subst this
  rw [Bm]
  rfl
 refine Z10 ?_;refine Fp ?_;refine fp jA ?_;refine A4 ?_
 refine Eu jU Tryz.type41 ?_ ?_ ?_
 ·have h1:=He c take;have h2:=No hr;simp [Tryz.t41];omega
 ·have h1:=He c take;have h2:=No hr;simp [Tryz.t41];omega
 refine Xc jS ?_;refine A2 [8] ?_;refine Qr ?_
 have e10:(D6 c take).map Bq++give.map Bq=(D6 c take++give).map Bq:=(By ..).symm
 rw [e10]
 generalize hout:D6 c take++give=out
 have ho:OkCols out:=qu hc hr hg hg2 hout
 refine A4 ?_;refine Aa Tryz.call243 (APv out ho _) ?_;refine Z0 ?_;refine A2 [8,28] ?_
 refine A3 (fun ht28=>?_) (fun ht28=>?_)
 ·have hn:J2 out=false:=by simpa using ht28
  refine Xk ?_;refine Z6 ?_;exact A8 (Ay A6 A6) ⟨by rw [qo hr hk hout hn];try rfl,rfl⟩
 have hn:J2 out=true:=by simpa using ht28
 refine Z2 ?_;refine Aa Tryz.call36 (c36 out ho _) ?_;refine Z0 ?_;refine A2 [8,32] ?_
 refine A3 (fun ht32=>?_) (fun ht32=>?_)
 ·have hq:Hw out=false:=by rw [Lq] at ht32;simpa using ht32
  refine Xk ?_;refine Z6 ?_;exact A8 (Ay A6 A6) ⟨by rw [qq hr hk hout hn hq];try rfl,rfl⟩
 have hq:Hw out=true:=by rw [Lq] at ht32;simpa using ht32
 refine Z27 ?_;refine A2 [8,36] ?_
 refine A3 (fun ht36=>?_) (fun ht36=>?_)
 ·have h12:12<out.length:=by simp at ht36;omega
  refine Xk ?_;refine Z6 ?_;exact A8 (Ay A6 A6) ⟨by rw [qr hr hk hout hn hq h12];try rfl,rfl⟩
 have h12:¬12<out.length:=by simp at ht36;omega
 refine Z16 ?_;refine Z17 ?_;refine Z31 ?_;exact A8 (Ay A6 A6) ⟨by rw [qt hr hk hout hn hq h12];try rfl,rfl⟩

theorem c6u (c:List Col) (Hp:List AObj):AFun Tryz.prog 10 [Am c] Hp (Bk (N0 c)):=by
 refine Af [.tmp 2] [0] Tryz.func10 Tryz.ntmps10 (fun d=>?_)
 refine k9 ?_;refine A2 [0,6] ?_
 refine A3 (fun ht6=>?_) (fun ht6=>?_)
 ·rw [Aj] at ht6
  have hm:N0 c=true:=by unfold N0;rw [ht6];rfl
  exact ABa
 rw [Aj] at ht6
 have hl50:c.length≤50:=by simp at ht6;omega
 refine AB9 ?_
 refine B7 (α:=Nat) (fun x=>⟨20,A7 0 (Am c) (A7 3 (A5 (x:Nat)) (fun _=>.any)),Hp,[],[],none⟩) (fun x=>x≤c.length∧∀(j:Nat) (v:Col),j<x→c[j]? = some v→decide ((100:Int)<(v.name.length:Int))=false) (fun x=>c.length-x) (0) ⟨Ar _,fun j v h=>by omega⟩ (Bo (by simp)) rfl (fun x hx=>?_)
 refine Z60 ?_;refine A2 [0,3,10] ?_
 refine A3 (fun ht10=>?_) (fun ht10=>?_)
 ·have hlt:x<c.length:=by simpa using ht10
  refine Su ?_
  refine A4 (h:=Ac (x) (Bq c[x]) (fun _=>Ax hlt)) (hr:=?_)
  refine Z89 ?_;refine A2 [0,3,19] ?_
  refine A3 (fun ht19=>?_) (fun ht19=>?_)
  ·have hm:N0 c=true:=by unfold N0;rw [Dq];exact .inr (K7.2 ⟨c[x],B1 hlt,ht19⟩)
   exact AFc
  refine Z16 ?_;refine Z66 ?_
  refine A4 (h:=Q.add64 (h1:=fun _=>by omega) (h2:=fun _=>by omega)) (hr:=?_)
  refine A4 ?_;refine Ln ?_;exact ALe
 have hxe:c.length≤x:=by simpa using ht10
 have hm:N0 c=false:=by
  unfold N0
  rw [ht6,B4,L4]
  intro v hv
  obtain ⟨j,hj⟩:=Cm hv
  have:=hx.2 j v (by have:=(Ad.1 hj).1;omega) hj
  rw [this]
  simp
 exact ABc

/-- law18.Wide. -/
def Mi (m:Mov):Bool:=(((((N0 m.give || decide ((20:Int)<(m.take.length:Int))) || decide ((20:Int)<(m.ahead.length:Int))) || decide ((20:Int)<(m.back.length:Int))) || m.take.any fun s=>decide ((100:Int)<(s.length:Int))) || m.ahead.any Vl) || m.back.any Vl
def Jt (l:List Mov):Bool:=decide ((12:Int)<(l.length:Int)) || l.any Mi
theorem Iu {α:Type} {p:α→Bool} {l:List α} {x:Nat} (h:l.length≤x) (hp:∀(j:Nat) (v:α),j<x→l[j]? = some v→p v=false):l.any p=false:=by
 rw [L4]
 intro v hv
 obtain ⟨j,hj⟩:=Cm hv
 rw [hp j v (by have:=(Ad.1 hj).1;omega) hj]
 simp
theorem Ju {n:Nat} {m:Mov}:∀y∈J6 m,Low n y:=by
 intro y hy
 simp only [J6,B5,El,or_false] at hy
 rcases hy with rfl|rfl|rfl|rfl|rfl<;>simp [or_imp,forall_and,Av]
theorem lw {n:Nat} {m:Mov}:Low n (Gw m):=Go.SX.low_agg.2 Ju
theorem Gy {n k:Nat} {o:Bool} {l:List Mov}:Low n (.slice o k (l.map Gw)):=low_slice.2 fun y hy=>by
 obtain ⟨m,_,rfl⟩:=Cr.1 hy
 exact lw
theorem J0 {α:Type} {p:α→Bool} (l:List α):(l.any fun s => !(p s)) = !(l.all p):=by
 induction l with
 | nil=>rfl
 | cons a r ih=>rw [List.any_cons,List.all_cons,ih];cases p a<;>simp
theorem c29 (l:List Mov) (Hp:List AObj):AFun Tryz.prog 29 [Ew l] Hp (Bk (Jt l)):=by
 refine Af [.tmp 2] [0] Tryz.func29 Tryz.ntmps29 (fun d=>?_)
 refine k9 ?_;refine A2 [0,10] ?_
 refine A3 (fun ht10=>?_) (fun ht10=>?_)
 ·rw [Aj] at ht10
  have hm:Jt l=true:=by unfold Jt;rw [ht10];rfl
  exact ABa
 rw [Aj] at ht10
 have hl12:l.length≤12:=by simp at ht10;omega
 refine AB9 ?_
 refine B7 (α:=Nat) (fun x=>⟨82,A7 0 (Ew l) (A7 3 (A5 (x:Nat)) (fun _=>.any)),Hp,[],[],none⟩) (fun x=>x≤l.length∧∀(j:Nat) (v:Mov),j<x→l[j]? = some v→Mi v=false) (fun x=>l.length-x) (0) ⟨Ar _,fun j v h=>by omega⟩ (Bo (by simp)) rfl (fun x hx=>?_)
 refine Z60 ?_;refine A2 [0,3,14] ?_
 refine A3 (fun ht14=>?_) (fun ht14=>?_)
 ·have hlt:x<l.length:=by simpa using ht14
  have hbad:Mi l[x]=true→Jt l=true:=fun h=>by unfold Jt;rw [Dq];exact .inr (K7.2 ⟨l[x],B1 hlt,h⟩)
  refine Su ?_
  refine A4 (h:=Ac (x) (Gw l[x]) (fun _=>Ax hlt)) (hr:=?_)
  refine Rn ?_;refine al ?_;refine Z8 ?_;refine Aa Tryz.call10 (c6u l[x].give _) ?_;refine A4 ?_;refine Wa ?_;refine ot ?_;refine Z47 ?_;refine Qw ?_;refine A2 [0,3,4,41] ?_
  refine A3 (fun ht41=>?_) (fun ht41=>?_)
  ·simp only [Aj] at ht41
   have hm:Jt l=true:=hbad (by unfold Mi;rw [ht41];rfl)
   refine Z25 ?_;refine C4 ?_;exact aa
  simp only [Aj] at ht41
  have hk:l[x].take.length≤20∧l[x].ahead.length≤20∧l[x].back.length≤20:=by simp only [Ej,decide_eq_false_iff_not] at ht41;omega
  refine Rm ?_;refine A2 [0,3,4,5] ?_
  refine B7 (α:=Nat) (fun a=>⟨82,A7 0 (Ew l) (A7 3 (A5 (x:Nat)) (A7 4 (.ptr (oid Hp.length 0) 0) (A7 5 (A5 (a:Nat)) (fun _=>.any)))),Hp,[.cells 48 (J6 l[x])],[],none⟩) (fun a=>a≤l[x].take.length∧∀(j:Nat) v,j<a→l[x].take[j]? = some v→(fun s:Str=>decide ((100:Int)<(s.length:Int))) v=false) (fun a=>l[x].take.length-a) (0) ⟨Ar _,fun j v h=>by omega⟩ (Bo (by simp)) rfl (fun a ha=>?_)
  refine W9 ?_;refine A2 [0,3,4,5,46] ?_
  refine A3 (fun ht46=>?_) (fun ht46=>?_)
  ·have ha1:a<l[x].take.length:=by simpa using ht46
   refine ai ?_
   refine A4 (h:=Ac (a) (Ae l[x].take[a]) (fun _=>Ax ha1)) (hr:=?_)
   refine Z22 ?_;refine A2 [0,3,4,5,55] ?_
   refine A3 (fun ht55=>?_) (fun ht55=>?_)
   ·have hm:Jt l=true:=hbad (by unfold Mi;rw [ht41,K7.2 ⟨_,B1 ha1,ht55⟩];rfl)
    refine gg ?_;exact aa
   refine Z81 ?_;refine A2 [0,3,4,5] ?_;exact Bb (a+1) ⟨ha1,Cc ha1 ha.2 ht55⟩ (by omega) (Cg rfl)
  have hae:l[x].take.length≤a:=by simpa using ht46
  have e1:=Iu hae ha.2
  refine Z55 ?_;refine Z32 ?_;refine A2 [0,3,4,6] ?_
  refine B7 (α:=Nat) (fun b=>⟨82,A7 0 (Ew l) (A7 3 (A5 (x:Nat)) (A7 4 (.ptr (oid Hp.length 0) 0) (A7 6 (A5 (b:Nat)) (fun _=>.any)))),Hp,[.cells 48 (J6 l[x])],[],none⟩) (fun b=>b≤l[x].ahead.length∧∀(j:Nat) v,j<b→l[x].ahead[j]? = some v→Vl v=false) (fun b=>l[x].ahead.length-b) (0) ⟨Ar _,fun j v h=>by omega⟩ (Bo (by simp)) rfl (fun b hb=>?_)
  refine W9 ?_;refine A2 [0,3,4,6,60] ?_
  refine A3 (fun ht60=>?_) (fun ht60=>?_)
  ·have hb1:b<l[x].ahead.length:=by simpa using ht60
   refine ai ?_
   refine A4 (h:=Ac (b) (A9 l[x].ahead[b]) (fun _=>Ax hb1)) (hr:=?_)
   refine A4 ?_;refine Aa Tryz.call9 (c9 l[x].ahead[b] _) ?_;refine A2 [0,3,4,6,68] ?_
   refine A3 (fun ht68=>?_) (fun ht68=>?_)
   ·have hm:Jt l=true:=hbad (by unfold Mi;rw [K7.2 ⟨_,B1 hb1,ht68⟩];simp)
    refine gg ?_;exact aa
   refine Z81 ?_;refine A2 [0,3,4,6] ?_;exact Bb (b+1) ⟨hb1,Cc hb1 hb.2 ht68⟩ (by omega) (Cg rfl)
  have hbe:l[x].ahead.length≤b:=by simpa using ht60
  have e2:=Iu hbe hb.2
  refine Z55 ?_;refine Z2 ?_;refine A2 [0,3,4,7] ?_
  refine B7 (α:=Nat) (fun e=>⟨82,A7 0 (Ew l) (A7 3 (A5 (x:Nat)) (A7 4 (.ptr (oid Hp.length 0) 0) (A7 7 (A5 (e:Nat)) (fun _=>.any)))),Hp,[.cells 48 (J6 l[x])],[],none⟩) (fun e=>e≤l[x].back.length∧∀(j:Nat) v,j<e→l[x].back[j]? = some v→Vl v=false) (fun e=>l[x].back.length-e) (0) ⟨Ar _,fun j v h=>by omega⟩ (Bo (by simp)) rfl (fun e he=>?_)
  refine W9 ?_;refine A2 [0,3,4,7,73] ?_
  refine A3 (fun ht73=>?_) (fun ht73=>?_)
  ·have he1:e<l[x].back.length:=by simpa using ht73
   refine ai ?_
   refine A4 (h:=Ac (e) (A9 l[x].back[e]) (fun _=>Ax he1)) (hr:=?_)
   refine A4 ?_;refine Aa Tryz.call9 (c9 l[x].back[e] _) ?_;refine A2 [0,3,4,7,81] ?_
   refine A3 (fun ht81=>?_) (fun ht81=>?_)
   ·have hm:Jt l=true:=hbad (by unfold Mi;rw [K7.2 ⟨_,B1 he1,ht81⟩];simp)
    refine Z25 ?_;refine Z33 ?_;exact aa
   refine Z81 ?_;refine A2 [0,3,4,7] ?_;exact Bb (e+1) ⟨he1,Cc he1 he.2 ht81⟩ (by omega) (Cg rfl)
  have hee:l[x].back.length≤e:=by simpa using ht73
  have e3:=Iu hee he.2
  have e4:Mi l[x]=false:=by unfold Mi;rw [ht41,e1,e2,e3];rfl
  refine x7 ?_;refine Xl ?_;refine Ln ?_;refine Bb (x+1) ⟨hlt,Cc hlt hx.2 e4⟩ (by omega) ?_
  exact D4 (own:=[]) (fun _=>.refl _) (by repeat (first|exact Be|refine Bd (by first|(simp [or_imp,forall_and];done)|exact Gy|(simp [oid]<;>omega)) ?_)) (by simp) (by simp)
 have hxe:l.length≤x:=by simpa using ht14
 have hm:Jt l=false:=by unfold Jt;rw [ht10,Iu hxe hx.2];rfl
 exact ABc

theorem AO5 (l:List Expr) (h:OkEs l) (Hp:List AObj):AFun Tryz.prog 149 [Cj l] Hp (Bk (l.all D3)):=by
 refine Af [.tmp 2] [0] Tryz.func149 Tryz.ntmps149 (fun d=>?_)
 refine k8 ?_;refine Ln ?_
 refine B7 (α:=Nat) (fun x=>⟨16,A7 0 (Cj l) (A7 3 (A5 (x:Nat)) (fun _=>.any)),Hp,[],[],none⟩) (fun x=>x≤l.length∧∀(j:Nat) (v:Expr),j<x→l[j]? = some v→(!D3 v)=false) (fun x=>l.length-x) (0) ⟨Ar _,fun j v h=>by omega⟩ (Bo (by simp)) rfl (fun x hx=>?_)
 refine Z60 ?_;refine A2 [0,3,7] ?_
 refine A3 (fun ht7=>?_) (fun ht7=>?_)
 ·have hlt:x<l.length:=by simpa using ht7
  have hlen:=h.len
  refine Su ?_
  refine A4 (h:=Ac (x) (A9 l[x]) (fun _=>Ax hlt)) (hr:=?_)
  refine A4 ?_;refine Aa Tryz.call22 (c22 61 l[x] (h.ok _ (B1 hlt)) (by decide) (h.size _ (B1 hlt)) _) ?_;refine A4 ?_;refine A2 [0,3,15] ?_
  refine A3 (fun ht15=>?_) (fun ht15=>?_)
  ·have hm:l.all D3=false:=by rw [Rc];exact ⟨_,B1 hlt,by simpa using ht15⟩
   exact AFc
  refine wq ?_;exact Bb (x+1) ⟨hlt,Cc hlt hx.2 ht15⟩ (by omega) (Cg rfl)
 have hxe:l.length≤x:=by simpa using ht7
 have hm:l.all D3=true:=by have:=Iu hxe hx.2;rw [J0] at this;simpa using this
 exact ABc

theorem Yr (k w:Int) (Hp:List AObj):AFun Tryz.prog 250 [A5 k,A5 w] Hp (Bk (G5 k w)):=by
 refine Af [.tmp 4] [0,1] Tryz.func250 Tryz.ntmps250 (fun d=>?_)
 refine Z61 ?_;refine Z17 ?_;refine Z99 ?_;exact o9

theorem AQd (n:Nat) (e:Expr) (hok:okE n e) (hn:n≤1048576) (c:List Col) (hc:OkCols c) (w:Int) (Hp:List AObj):AFun Tryz.prog 244 [A9 e,Am c,A5 w] Hp (Bk (R6 e c w)):=by
 refine Af [.tmp 6] [0,1,2] Tryz.func244 Tryz.ntmps244 (fun d=>?_)
 refine Z1 ?_;refine A2 [1,2,3] ?_;refine Z1 ?_;refine Aa Tryz.call13 (c13 n e hok hn c hc _) ?_;refine Z75 ?_;refine A2 [2,7,8] ?_;refine Z17 ?_;refine Wa ?_;refine Z99 ?_;refine Z48 ?_;exact A8 (Ah A6) ⟨by unfold R6;rfl,rfl⟩

theorem Fz {ks:List Int} {i:Nat} (h:i<ks.length):(ks.map A5)[i]? = some (A5 (ks.getD i 0)):=by
 rw [Cf,Ab h,C9,Ab h]
 rfl
theorem AK1 {e:Expr} (h:Dl e=true) (h3:(e.op==3)=true):e.kids.length=1:=by
 have h3':e.op=3:=by simpa using h3
 have:=Nr h (by rw [h3'];rfl) (by rw [h3'];rfl)
 rw [←this,h3'];rfl
theorem AK2 {e:Expr} (h:Dl e=true) (h4:(e.op==4)=true):e.kids.length=1:=by
 have h4':e.op=4:=by simpa using h4
 have:=Nr h (by rw [h4'];rfl) (by rw [h4'];rfl)
 rw [←this,h4'];rfl
theorem ik {e:Expr} (h:Dl e=true) (h5:(e.op==5)=true):e.kids.length=2:=by
 have h5':e.op=5:=by simpa using h5
 have:=Nr h (by rw [h5'];rfl) (by rw [h5'];rfl)
 rw [←this,h5']
 exact Rz _
theorem AK3 {e:Expr} (h:Dl e=true) (h1:(e.op==1)=false) (h2:(e.op==2)=false) (h3:(e.op==3)=false) (h4:(e.op==4)=false) (h5:(e.op==5)=false):e.kids.length=(E9 e.text).kids.length:=by
 have:=Nr h h1 h2
 rw [←this]
 unfold Jr
 rw [h3,h4,h5]
 rfl
theorem AGy {a b:Bool} (h:(a&&b)=true):a=true:=by cases a<;>simp_all
theorem AQe (c:List Col) (hc:OkCols c):∀(n:Nat) (e:Expr),okE n e→Dw Dl e=true→∀Hp:List AObj,AFun Tryz.prog 196 [A9 e,Am c] Hp (.tup [A5 (Bf c e).1,A5 (Bf c e).2]):=by
 intro n
 induction n with
 | zero=>exact fun e h=>h.elim
 | succ n ih =>
 intro e hok hnd Hp
 have hnd0:=hnd
 rw [Gg,As] at hnd0
 refine Af [.tmp 4,.tmp 5] [0,1] Tryz.func196 Tryz.ntmps196 (fun d=>?_)
 refine ABe ?_;refine Z36 ?_;refine A2 [1,2,17] ?_
 refine A3 (fun ht17=>?_) (fun ht17=>?_)
 ·have hk:=ls (c:=c) ht17
  refine Z1 ?_;refine Z22 ?_;refine Z52 ?_;exact AFr
 refine ak ?_;refine A2 [1,2,23] ?_
 refine A3 (fun ht23=>?_) (fun ht23=>?_)
 ·have hk:=ct (c:=c) ht17 ht23
  refine Z17 ?_;refine Aa Tryz.call25 (c25 c hc e.text _) ?_;refine A4 ?_;refine A2 [1,6] ?_;refine Z8 ?_;refine A2 [1,6,29] ?_
  refine A3 (fun ht29=>?_) (fun ht29=>?_)
  ·have hk2:Ih c e.text=(0,9):=if_pos (by simpa using ht29)
   refine Ow ?_;refine C4 ?_;exact AFs
  have hneg:¬(B6 e.text c<0):=by simpa using ht29
  obtain ⟨j,hj,hjl⟩:=Hh hneg
  have hk2:Ih c e.text=(c[j].kind,0):=by
   unfold Ih
   rw [if_neg hneg,hj,Int.toNat_natCast,C9,Ab hjl]
   rfl
  rw [hj]
  refine Ro ?_
  refine A4 (h:=Ac (j) (Bq c[j]) (fun _=>Ax hjl)) (hr:=?_)
  refine Z89 ?_;refine Z52 ?_;exact AFs
 refine Z5 ?_;refine jt ?_;refine L1 ?_;refine A2 [1,2,7] ?_;refine Z32 ?_;refine A2 [1,2,7,8] ?_
 refine B7 (α:=Nat) (fun x=>⟨237,A7 1 (Am c) (A7 2 (.ro (Eb e)) (A7 7 (.slice true 1 (((e.kids.take x).map fun y=>(Bf c y).1).map A5)) (A7 8 (A5 (x:Nat)) (fun _=>.any)))),Hp,[],[],none⟩) (fun x=>x≤e.kids.length∧∀(j:Nat) (y:Expr),j<x→e.kids[j]? = some y→((Bf c y).2 != 0)=false) (fun x=>e.kids.length-x) (0) ⟨Ar _,fun j y h=>by omega⟩ (Bo (by simp)) rfl (fun x hx=>?_)
 refine W9 ?_;refine A2 [1,2,7,8,40] ?_
 refine A3 (fun ht40=>?_) (fun ht40=>?_)
 ·have hlt:x<e.kids.length:=by simpa using ht40
  have hkl:=hok.2.1
  refine ai ?_
  refine A4 (h:=Ac (x) (A9 e.kids[x]) (fun _=>Ax hlt)) (hr:=?_)
  refine Z0 ?_;refine Aa Tryz.call196 (ih e.kids[x] (hok.2.2 _ (B1 hlt)) ((E3 _ _).1 hnd0.2 _ (B1 hlt)) _) ?_;refine Z75 ?_;refine A2 [1,2,7,8,9,10] ?_;refine Z8 ?_;refine A2 [1,2,7,8,9,10,54] ?_
  refine A3 (fun ht54=>?_) (fun ht54=>?_)
  ·have hkb:=lu (c:=c) ht17 ht23 hlt hx.2 ht54
   refine Z17 ?_;refine Z52 ?_;exact ALy
  refine og ?_;refine Z57 ?_
  refine Eu jU Tryz.type3 ?_ ?_ ?_
  ·simp only [Aj,Ci,Aw,Az,Tryz.t3];omega
  ·simp only [Aj,Ci,Aw,Az,Tryz.t3];omega
  refine L1 ?_;refine A2 [1,2,7,8] ?_;refine Xl ?_;refine A2 [1,2,7,8] ?_
  refine Bb (x+1) ⟨hlt,Cc hlt hx.2 ht54⟩ (by omega) (Cg ?_)
  simp only [show Tryz.t3.size=1 from rfl,cu]
  rfl
 have hxe:e.kids.take x=e.kids:=E8 (by simp at ht40;omega)
 have hka:=lv (c:=c) ht17 ht23 (fun j y hj hy=>hx.2 j y (by have:=hx.1;simp at ht40;omega) hy)
 have hrf:=AGr hnd0.1 ht17 ht23 (ks:=e.kids.map fun y=>(Bf c y).1) (by simp)
 have hks:(e.kids.map fun y=>(Bf c y).1).length=e.kids.length:=by simp
 rw [hxe]
 generalize (e.kids.map fun y=>(Bf c y).1)=ks at *
 refine Z55 ?_;refine Z1 ?_;refine A2 [2,7,12] ?_;refine Z18 ?_;refine Z27 ?_;refine A2 [2,7,12,94] ?_
 refine A3 (fun ht94=>?_) (fun ht94=>?_)
 ·have hl:=AK1 hnd0.1 ht94
  refine Z66 ?_
  refine A4 (h:=Ac (0) (A5 (ks.getD 0 0)) (fun _=>Fz (by omega))) (hr:=?_)
  refine AJ2 ?_;refine Z0 ?_;refine Xi ?_
  refine A3 (fun ht235=>?_) (fun ht235=>?_)
  ·refine Ow ?_
   have hq:=ht235
   try simp only [Db,Dh] at hq
   try simp only [ht92,Bg,B4,Bs] at hq
   first|exact absurd ht235 (by decide)|exact A8 (Ay A6 A6) ⟨by rw [hka,←hrf];unfold Em Ev;simp only [ht17,ht23,ht40,ht94,ht235,hq,Ei,Bs,Bg,B4,if_true,if_false,Aq,↓reduceIte]<;>rfl,rfl⟩
  refine Ss ?_
  have hq:=ht235
  try simp only [Db,Dh] at hq
  try simp only [ht92,Bg,B4,Bs] at hq
  first|exact absurd ht235 (by decide)|exact A8 (Ay A6 A6) ⟨by rw [hka,←hrf];unfold Em Ev;simp only [ht17,ht23,ht40,ht94,ht235,hq,Ei,Bs,Bg,B4,if_true,if_false,Aq,↓reduceIte]<;>rfl,rfl⟩
 refine Z27 ?_;refine A2 [2,7,12,102] ?_
 refine A3 (fun ht102=>?_) (fun ht102=>?_)
 ·have hl:=AK2 hnd0.1 ht102
  refine Z66 ?_
  refine A4 (h:=Ac (0) (A5 (ks.getD 0 0)) (fun _=>Fz (by omega))) (hr:=?_)
  refine A4 ?_;refine Aa Tryz.call250 (Yr (ks.getD 0 0) 3 _) ?_;refine Z0 ?_;refine Xi ?_
  refine A3 (fun ht235=>?_) (fun ht235=>?_)
  ·refine Ow ?_
   have hq:=ht235
   try simp only [Db,Dh] at hq
   try simp only [ht92,Bg,B4,Bs] at hq
   first|exact absurd ht235 (by decide)|exact A8 (Ay A6 A6) ⟨by rw [hka,←hrf];unfold Em Ev;simp only [ht17,ht23,ht40,ht94,ht102,ht235,hq,Ei,Bs,Bg,B4,if_true,if_false,Aq,↓reduceIte]<;>rfl,rfl⟩
  refine Ss ?_
  have hq:=ht235
  try simp only [Db,Dh] at hq
  try simp only [ht92,Bg,B4,Bs] at hq
  first|exact absurd ht235 (by decide)|exact A8 (Ay A6 A6) ⟨by rw [hka,←hrf];unfold Em Ev;simp only [ht17,ht23,ht40,ht94,ht102,ht235,hq,Ei,Bs,Bg,B4,if_true,if_false,Aq,↓reduceIte]<;>rfl,rfl⟩
 refine Z27 ?_;refine Wa ?_;refine Z7 ?_;refine ae ?_;refine A2 [2,7,12,110] ?_
 refine A3 (fun ht110=>?_) (fun ht110=>?_)
 ·have hl:=ik hnd0.1 (AGy ht110)
  refine Z66 ?_
  refine A4 (h:=Ac (0) (A5 (ks.getD 0 0)) (fun _=>Fz (by omega))) (hr:=?_)
  refine A4 ?_;refine Aa Tryz.call250 (Yr (ks.getD 0 0) 3 _) ?_;refine x6 ?_
  refine Bi (h:=Ac (1) (A5 (ks.getD 1 0)) (fun _=>Fz (by omega))) (hr:=?_)
  refine Bi ?_;refine Bt Tryz.call250 (fun hB=>Yr (ks.getD 1 0) 3 _) ?_;refine Z22 ?_;refine Xi ?_
  refine A3 (fun ht235=>?_) (fun ht235=>?_)
  ·refine Ow ?_
   have hq:=ht235
   try simp only [Db,Dh] at hq
   try simp only [ht92,Bg,B4,Bs] at hq
   first|exact absurd ht235 (by decide)|exact A8 (Ay A6 A6) ⟨by rw [hka,←hrf];unfold Em Ev;simp only [ht17,ht23,ht40,ht94,ht102,ht110,ht235,hq,Ei,Bs,Bg,B4,if_true,if_false,Aq,↓reduceIte]<;>rfl,rfl⟩
  refine Ss ?_
  have hq:=ht235
  try simp only [Db,Dh] at hq
  try simp only [ht92,Bg,B4,Bs] at hq
  first|exact absurd ht235 (by decide)|exact A8 (Ay A6 A6) ⟨by rw [hka,←hrf];unfold Em Ev;simp only [ht17,ht23,ht40,ht94,ht102,ht110,ht235,hq,Ei,Bs,Bg,B4,if_true,if_false,Aq,↓reduceIte]<;>rfl,rfl⟩
 refine Z27 ?_;refine Z7 ?_;refine Bt Tryz.call147 (fun hB=>AJu e.text _) ?_;refine Bi ?_;refine Z0 ?_;refine A2 [2,7,12,134] ?_
 refine A3 (fun ht134=>?_) (fun ht134=>?_)
 ·have hl:=ik hnd0.1 (AGy ht134)
  refine gb [0,1,3,7,15,31,63,127,31,287,799,2047,4095,4095,16383] 14 An (by kernel_rfl) ?_;refine Al ?_
  refine Al (h:=Ac (0) (A5 (ks.getD 0 0)) (fun _=>Fz (by omega))) (hr:=?_)
  refine Z40 ?_;refine Ft ?_
  refine Ft (h:=Ac (1) (A5 (ks.getD 1 0)) (fun _=>Fz (by omega))) (hr:=?_)
  refine Z72 ?_
  refine Ft (h:=Ac (0) (A5 (ks.getD 0 0)) (fun _=>Fz (by omega))) (hr:=?_)
  refine Ft ?_;refine H.call Tryz.call250 (fun hB=>Yr (ks.getD 1 0) (ks.getD 0 0) _) ?_;refine Qt ?_;refine A4 ?_;refine Xi ?_
  refine A3 (fun ht235=>?_) (fun ht235=>?_)
  ·refine Ow ?_
   have hq:=ht235
   try simp only [Db,Dh] at hq
   try simp only [ht92,Bg,B4,Bs] at hq
   first|exact absurd ht235 (by decide)|exact A8 (Ay A6 A6) ⟨by rw [hka,←hrf];unfold Em Ev;simp only [ht17,ht23,ht40,ht94,ht102,ht110,ht134,ht235,hq,Ei,Bs,Bg,B4,if_true,if_false,Aq,↓reduceIte]<;>rfl,rfl⟩
  refine Ss ?_
  have hq:=ht235
  try simp only [Db,Dh] at hq
  try simp only [ht92,Bg,B4,Bs] at hq
  first|exact absurd ht235 (by decide)|exact A8 (Ay A6 A6) ⟨by rw [hka,←hrf];unfold Em Ev;simp only [ht17,ht23,ht40,ht94,ht102,ht110,ht134,ht235,hq,Ei,Bs,Bg,B4,if_true,if_false,Aq,↓reduceIte]<;>rfl,rfl⟩
 refine oo ?_;refine A2 [2,7,12,157] ?_
 refine A3 (fun ht157=>?_) (fun ht157=>?_)
 ·have hl:=ik hnd0.1 (AGy ht157)
  refine Z66 ?_
  refine A4 (h:=Ac (0) (A5 (ks.getD 0 0)) (fun _=>Fz (by omega))) (hr:=?_)
  refine AJ3 ?_;refine x6 ?_
  refine Bi (h:=Ac (1) (A5 (ks.getD 1 0)) (fun _=>Fz (by omega))) (hr:=?_)
  refine Bi ?_;refine Bt Tryz.call250 (fun hB=>Yr (ks.getD 1 0) 2 _) ?_;refine Z22 ?_;refine Xi ?_
  refine A3 (fun ht235=>?_) (fun ht235=>?_)
  ·refine Ow ?_
   have hq:=ht235
   try simp only [Db,Dh] at hq
   try simp only [ht92,Bg,B4,Bs] at hq
   first|exact absurd ht235 (by decide)|exact A8 (Ay A6 A6) ⟨by rw [hka,←hrf];unfold Em Ev;simp only [ht17,ht23,ht40,ht94,ht102,ht110,ht134,ht157,ht235,hq,Ei,Bs,Bg,B4,if_true,if_false,Aq,↓reduceIte]<;>rfl,rfl⟩
  refine Ss ?_
  have hq:=ht235
  try simp only [Db,Dh] at hq
  try simp only [ht92,Bg,B4,Bs] at hq
  first|exact absurd ht235 (by decide)|exact A8 (Ay A6 A6) ⟨by rw [hka,←hrf];unfold Em Ev;simp only [ht17,ht23,ht40,ht94,ht102,ht110,ht134,ht157,ht235,hq,Ei,Bs,Bg,B4,if_true,if_false,Aq,↓reduceIte]<;>rfl,rfl⟩
 refine Z27 ?_;refine A2 [2,7,12,176] ?_
 refine A3 (fun ht176=>?_) (fun ht176=>?_)
 ·have hl:=ik hnd0.1 ht176
  rw [ht176,Bs] at ht110 ht134 ht157
  refine Z66 ?_
  refine A4 (h:=Ac (0) (A5 (ks.getD 0 0)) (fun _=>Fz (by omega))) (hr:=?_)
  refine AJ2 ?_;refine x6 ?_
  refine Bi (h:=Ac (1) (A5 (ks.getD 1 0)) (fun _=>Fz (by omega))) (hr:=?_)
  refine Bi ?_;refine Bt Tryz.call250 (fun hB=>Yr (ks.getD 1 0) 1 _) ?_;refine Z22 ?_;refine Xi ?_
  refine A3 (fun ht235=>?_) (fun ht235=>?_)
  ·refine Ow ?_
   have hq:=ht235
   try simp only [Db,Dh] at hq
   try simp only [ht92,Bg,B4,Bs] at hq
   first|exact absurd ht235 (by decide)|exact A8 (Ay A6 A6) ⟨by rw [hka,←hrf];unfold Em Ev;simp only [ht17,ht23,ht40,ht94,ht102,ht110,ht134,ht157,ht176,ht235,hq,Ei,Bs,Bg,B4,if_true,if_false,Aq,↓reduceIte]<;>rfl,rfl⟩
  refine Ss ?_
  have hq:=ht235
  try simp only [Db,Dh] at hq
  try simp only [ht92,Bg,B4,Bs] at hq
  first|exact absurd ht235 (by decide)|exact A8 (Ay A6 A6) ⟨by rw [hka,←hrf];unfold Em Ev;simp only [ht17,ht23,ht40,ht94,ht102,ht110,ht134,ht157,ht176,ht235,hq,Ei,Bs,Bg,B4,if_true,if_false,Aq,↓reduceIte]<;>rfl,rfl⟩
 have hl0:=AK3 hnd0.1 ht17 ht23 ht94 ht102 ht176
 unfold E9 at hl0
 refine oo ?_;refine A2 [2,7,12,190] ?_
 refine A3 (fun ht190=>?_) (fun ht190=>?_)
 ·have hl:e.kids.length=1:=by rw [hl0,if_pos ht190];rfl
  refine Z66 ?_
  refine A4 (h:=Ac (0) (A5 (ks.getD 0 0)) (fun _=>Fz (by omega))) (hr:=?_)
  refine AJ3 ?_;refine Z0 ?_;refine Xi ?_
  refine A3 (fun ht235=>?_) (fun ht235=>?_)
  ·refine Ow ?_
   have hq:=ht235
   try simp only [Db,Dh] at hq
   try simp only [ht92,Bg,B4,Bs] at hq
   first|exact absurd ht235 (by decide)|exact A8 (Ay A6 A6) ⟨by rw [hka,←hrf];unfold Em Ev;simp only [ht17,ht23,ht40,ht94,ht102,ht110,ht134,ht157,ht176,ht190,ht235,hq,Ei,Bs,Bg,B4,if_true,if_false,Aq,↓reduceIte]<;>rfl,rfl⟩
  refine Ss ?_
  have hq:=ht235
  try simp only [Db,Dh] at hq
  try simp only [ht92,Bg,B4,Bs] at hq
  first|exact absurd ht235 (by decide)|exact A8 (Ay A6 A6) ⟨by rw [hka,←hrf];unfold Em Ev;simp only [ht17,ht23,ht40,ht94,ht102,ht110,ht134,ht157,ht176,ht190,ht235,hq,Ei,Bs,Bg,B4,if_true,if_false,Aq,↓reduceIte]<;>rfl,rfl⟩
 rw [if_neg (by rw [ht190];simp)] at hl0
 refine Z27 ?_;refine A2 [2,7,12,203] ?_
 refine A3 (fun ht203=>?_) (fun ht203=>?_)
 ·have hl:e.kids.length=1:=by rw [hl0,if_pos ht203];rfl
  refine Z66 ?_
  refine A4 (h:=Ac (0) (A5 (ks.getD 0 0)) (fun _=>Fz (by omega))) (hr:=?_)
  refine AJ2 ?_;refine Z0 ?_;refine Xi ?_
  refine A3 (fun ht235=>?_) (fun ht235=>?_)
  ·refine Ow ?_
   have hq:=ht235
   try simp only [Db,Dh] at hq
   try simp only [ht92,Bg,B4,Bs] at hq
   first|exact absurd ht235 (by decide)|exact A8 (Ay A6 A6) ⟨by rw [hka,←hrf];unfold Em Ev;simp only [ht17,ht23,ht40,ht94,ht102,ht110,ht134,ht157,ht176,ht190,ht203,ht235,hq,Ei,Bs,Bg,B4,if_true,if_false,Aq,↓reduceIte]<;>rfl,rfl⟩
  refine Ss ?_
  have hq:=ht235
  try simp only [Db,Dh] at hq
  try simp only [ht92,Bg,B4,Bs] at hq
  first|exact absurd ht235 (by decide)|exact A8 (Ay A6 A6) ⟨by rw [hka,←hrf];unfold Em Ev;simp only [ht17,ht23,ht40,ht94,ht102,ht110,ht134,ht157,ht176,ht190,ht203,ht235,hq,Ei,Bs,Bg,B4,if_true,if_false,Aq,↓reduceIte]<;>rfl,rfl⟩
 rw [if_neg (by rw [ht203];simp)] at hl0
 refine oo ?_;refine A2 [2,7,12,211] ?_
 refine A3 (fun ht211=>?_) (fun ht211=>?_)
 ·have hl:e.kids.length=2:=by rw [hl0,if_pos ht211];rfl
  refine Z66 ?_
  refine A4 (h:=Ac (0) (A5 (ks.getD 0 0)) (fun _=>Fz (by omega))) (hr:=?_)
  refine AJ3 ?_;refine x6 ?_
  refine Bi (h:=Ac (1) (A5 (ks.getD 1 0)) (fun _=>Fz (by omega))) (hr:=?_)
  refine Bi ?_;refine Bt Tryz.call250 (fun hB=>Yr (ks.getD 1 0) 1 _) ?_;refine Z22 ?_;refine Xi ?_
  refine A3 (fun ht235=>?_) (fun ht235=>?_)
  ·refine Ow ?_
   have hq:=ht235
   try simp only [Db,Dh] at hq
   try simp only [ht92,Bg,B4,Bs] at hq
   first|exact absurd ht235 (by decide)|exact A8 (Ay A6 A6) ⟨by rw [hka,←hrf];unfold Em Ev;simp only [ht17,ht23,ht40,ht94,ht102,ht110,ht134,ht157,ht176,ht190,ht203,ht211,ht235,hq,Ei,Bs,Bg,B4,if_true,if_false,Aq,↓reduceIte]<;>rfl,rfl⟩
  refine Ss ?_
  have hq:=ht235
  try simp only [Db,Dh] at hq
  try simp only [ht92,Bg,B4,Bs] at hq
  first|exact absurd ht235 (by decide)|exact A8 (Ay A6 A6) ⟨by rw [hka,←hrf];unfold Em Ev;simp only [ht17,ht23,ht40,ht94,ht102,ht110,ht134,ht157,ht176,ht190,ht203,ht211,ht235,hq,Ei,Bs,Bg,B4,if_true,if_false,Aq,↓reduceIte]<;>rfl,rfl⟩
 rw [if_neg (by rw [ht211];simp)] at hl0
 refine Z27 ?_;refine A2 [2,7,12,230] ?_
 refine A3 (fun ht230=>?_) (fun ht230=>?_)
 ·have hl:e.kids.length=1:=by rw [hl0,if_pos ht230];rfl
  refine Z66 ?_;refine Xi ?_
  refine A3 (fun ht235=>?_) (fun ht235=>?_)
  ·refine Ow ?_
   have hq:=ht235
   try simp only [Db,Dh] at hq
   try simp only [ht92,Bg,B4,Bs] at hq
   first|exact absurd ht235 (by decide)|exact A8 (Ay A6 A6) ⟨by rw [hka,←hrf];unfold Em Ev;simp only [ht17,ht23,ht40,ht94,ht102,ht110,ht134,ht157,ht176,ht190,ht203,ht211,ht230,ht235,hq,Ei,Bs,Bg,B4,if_true,if_false,Aq,↓reduceIte]<;>rfl,rfl⟩
  refine Ss ?_
  have hq:=ht235
  try simp only [Db,Dh] at hq
  try simp only [ht92,Bg,B4,Bs] at hq
  first|exact absurd ht235 (by decide)|exact A8 (Ay A6 A6) ⟨by rw [hka,←hrf];unfold Em Ev;simp only [ht17,ht23,ht40,ht94,ht102,ht110,ht134,ht157,ht176,ht190,ht203,ht211,ht230,ht235,hq,Ei,Bs,Bg,B4,if_true,if_false,Aq,↓reduceIte]<;>rfl,rfl⟩
 rw [if_neg (by rw [ht230];simp)] at hl0
 have hl:2≤e.kids.length:=by rw [hl0];split<;>simp
 have hl3:=hok.2.1
 refine De [0,0,2,6,15,31,0,0,128,384,960,1984,63,8191] 13 An (by kernel_rfl) ?_;refine Z40 ?_
 rw [Aj]
 refine Al ?_
 refine Al (h:=Ac ((ks.length-2)) (A5 (ks.getD (ks.length-2) 0)) (fun _=>Fz (by omega))) (hr:=?_)
 refine Z84 ?_
 rw [Aj]
 refine Al ?_
 refine Al (h:=Ac ((ks.length-1)) (A5 (ks.getD (ks.length-1) 0)) (fun _=>Fz (by omega))) (hr:=?_)
 refine Qt ?_;refine A4 ?_;refine A2 [2,7,13,14] ?_;refine Z17 ?_;refine Z7 ?_;refine Bt Tryz.call250 (fun hB=>Yr (ks.getD (ks.length-1) 0) (ks.getD (ks.length-2) 0) _) ?_;refine Z47 ?_;refine Z39 ?_
 refine Bi (h:=Ac (0) (A5 (ks.getD 0 0)) (fun _=>Fz (by omega))) (hr:=?_)
 refine Bi ?_;refine Bt Tryz.call250 (fun hB=>Yr (ks.getD 0 0) 3 _) ?_;refine Bi ?_;refine Z0 ?_;refine A2 [12,13,14] ?_;refine Z1 ?_;refine A2 [11,12,13,14] ?_;refine Z1 ?_;refine A2 [11,12,14,92] ?_
 refine A3 (fun ht92=>?_) (fun ht92=>?_)
 ·refine Z12 ?_;refine Xi ?_
  refine A3 (fun ht235=>?_) (fun ht235=>?_)
  ·refine Ow ?_
   have hq:=ht235
   try simp only [Db,Dh] at hq
   try simp only [ht92,Bg,B4,Bs] at hq
   first|exact absurd ht235 (by decide)|exact A8 (Ay A6 A6) ⟨by rw [hka,←hrf];unfold Em Ev;simp only [ht17,ht23,ht40,ht94,ht102,ht110,ht134,ht157,ht176,ht190,ht203,ht211,ht230,ht92,ht235,hq,Ei,Bs,Bg,B4,if_true,if_false,Aq,↓reduceIte]<;>rfl,rfl⟩
  refine Ss ?_
  have hq:=ht235
  try simp only [Db,Dh] at hq
  try simp only [ht92,Bg,B4,Bs] at hq
  first|exact absurd ht235 (by decide)|exact A8 (Ay A6 A6) ⟨by rw [hka,←hrf];unfold Em Ev;simp only [ht17,ht23,ht40,ht94,ht102,ht110,ht134,ht157,ht176,ht190,ht203,ht211,ht230,ht92,ht235,hq,Ei,Bs,Bg,B4,if_true,if_false,Aq,↓reduceIte]<;>rfl,rfl⟩
 refine Z16 ?_;refine AL3 ?_
 refine A3 (fun ht235=>?_) (fun ht235=>?_)
 ·refine Ow ?_
  have hq:=ht235
  try simp only [Db,Dh] at hq
  try simp only [ht92,Bg,B4,Bs] at hq
  first|exact absurd ht235 (by decide)|exact A8 (Ay A6 A6) ⟨by rw [hka,←hrf];unfold Em Ev;simp only [ht17,ht23,ht40,ht94,ht102,ht110,ht134,ht157,ht176,ht190,ht203,ht211,ht230,ht92,ht235,hq,Ei,Bs,Bg,B4,if_true,if_false,Aq,↓reduceIte]<;>rfl,rfl⟩
 refine Ss ?_
 have hq:=ht235
 try simp only [Db,Dh] at hq
 try simp only [ht92,Bg,B4,Bs] at hq
 first|exact absurd ht235 (by decide)|exact A8 (Ay A6 A6) ⟨by rw [hka,←hrf];unfold Em Ev;simp only [ht17,ht23,ht40,ht94,ht102,ht110,ht134,ht157,ht176,ht190,ht203,ht211,ht230,ht92,ht235,hq,Ei,Bs,Bg,B4,if_true,if_false,Aq,↓reduceIte]<;>rfl,rfl⟩

theorem AQf (n:Nat) (e:Expr) (hok:okE n e) (hn:n≤1048576) (hs:sizeE e≤1048576) (c:List Col) (hc:OkCols c) (Hp:List AObj):AFun Tryz.prog 150 [A9 e,Am c] Hp (.tup [A5 (F4 e c).1,A5 (F4 e c).2]):=by
 refine Af [.tmp 4,.tmp 5] [0,1] Tryz.func150 Tryz.ntmps150 (fun d=>?_)
 refine ABe ?_;refine Z32 ?_;refine Aa Tryz.call22 (c22 n e hok hn hs _) ?_;refine Qx ?_;refine Bt Tryz.call60 (fun hB=>c60 c hc _) ?_;refine Qu ?_;refine A2 [1,2,13] ?_
 refine A3 (fun ht13=>?_) (fun ht13=>?_)
 ·have hk:F4 e c=(0,1):=by unfold F4;rw [F8,Lq,if_pos ht13]
  exact AM0
 have hk:F4 e c=Bf c e:=by unfold F4;rw [F8,Lq,if_neg (by rw [ht13];simp)]
 have hr:B3 e=true:=by rw [F8];simp only [Ej,Dh] at ht13;exact ht13.1
 refine Ro ?_;refine Aa Tryz.call196 (AQe c hc n e hok (L2 hr) _) ?_;refine Z89 ?_;exact AMb

theorem lx {e:Expr} {c:List Col} {w:Int} (h:((F4 e c).2 != 0)=false):((((F4 e c).1 != 0)&&((F4 e c).1 != w))) = !R6 e c w:=by
 unfold R6
 have h0:(F4 e c).2=0:=by simpa using h
 rw [h0]
 show (!((F4 e c).1==0) && !((F4 e c).1==w)) = !(true&&(((F4 e c).1==w) || ((F4 e c).1==0)))
 cases (F4 e c).1==0<;>cases (F4 e c).1==w<;>rfl
theorem AGz {c:List Col} {m:Mov} (h:(m.kind==3)=false):B8 c m=m.give:=by unfold B8;rw [if_neg (by rw [h];simp)]
theorem uk {c:List Col} {m:Mov} {s:Str} {y:Col} (h:(m.kind==3)=true) (ht:m.take=[s]) (hg:m.give=[y]) (hf:B6 s c<0):B8 c m=[y]:=by
 unfold B8
 rw [if_pos h,ht,hg]
 exact if_pos hf
theorem ly {c:List Col} {m:Mov} {s:Str} {y:Col} (h:(m.kind==3)=true) (ht:m.take=[s]) (hg:m.give=[y]) (hf:¬B6 s c<0):B8 c m=[⟨y.name,(c.getD (B6 s c).toNat ⟨[],0⟩).kind⟩]:=by
 unfold B8
 rw [if_pos h,ht,hg]
 exact if_neg hf
theorem lz (l:List Col):∀x∈l.map Bq,x.cells.length=2:=by
 intro x hx
 obtain ⟨c,_,rfl⟩:=Cr.1 hx
 rfl
theorem ul {c:Col} {y:AV} (h:y∈(Bq c).cells):y=Ae c.name∨y=A5 c.kind:=by
 have h':y∈[Ae c.name,A5 c.kind]:=h
 simpa using h'
theorem m0 (l:List Col):∀x∈l.map Bq,∀y∈x.cells,y.one=true:=by
 intro x hx y hy
 obtain ⟨c,_,rfl⟩:=Cr.1 hx
 rcases ul hy with rfl|rfl<;>rfl
theorem Ys (l:List Col):∀x∈l.map Bq,∀y∈x.cells,y.strip=y:=by
 intro x hx y hy
 obtain ⟨c,_,rfl⟩:=Cr.1 hx
 rcases ul hy with rfl|rfl<;>rfl
theorem il {α:Type} {l:List α} (h:l.length=1):∃y,l=[y]:=by
 match l,h with
 | [y],_=>exact ⟨y,rfl⟩
theorem Wq {c:List Col} {s:Str} (hf:¬B6 s c<0):(c.map Bq)[(B6 s c).toNat]? = some (Bq (c.getD (B6 s c).toNat ⟨[],0⟩)):=by
 obtain ⟨j,hj,hjl⟩:=Hh hf
 rw [hj,Int.toNat_natCast,Cf,Ab hjl,C9,Ab hjl]
 rfl
theorem AO6 (n:Nat) (e:Expr) (hok:okE n e) (hn:n≤1048576) (hs:sizeE e≤1048576) (w:Int) (c:List Col) (hc:OkCols c) (Hp:List AObj):AFun Tryz.prog 109 [A9 e,A5 w,Am c] Hp (A5 (Mh e c w)):=by
 refine Af [.tmp 6] [0,1,2] Tryz.func109 Tryz.ntmps109 (fun d=>?_)
 refine Z1 ?_;refine A2 [1,2,3] ?_;refine Z1 ?_;refine Aa Tryz.call150 (AQf n e hok hn hs c hc _) ?_;refine Z75 ?_;refine A2 [1,7,8] ?_;refine Z8 ?_;refine A2 [1,7,8,16] ?_
 refine A3 (fun ht16=>?_) (fun ht16=>?_)
 ·have hm:Mh e c w=(F4 e c).2:=if_pos ht16
  refine Z1 ?_;refine Z48 ?_;exact Z23
 refine ak ?_;refine Sr ?_;refine A2 [24] ?_
 refine A3 (fun ht24=>?_) (fun ht24=>?_)
 ·rw [lx ht16] at ht24
  have hm:Mh e c w=10:=by unfold Mh;rw [if_neg (by rw [ht16];simp),if_pos ht24]
  refine aj ?_;exact Z23
 rw [lx ht16] at ht24
 have hm:Mh e c w=0:=by unfold Mh;rw [if_neg (by rw [ht16];simp),if_neg (by rw [ht24];simp)]
 refine Lm ?_;refine Z48 ?_;exact ka

theorem AQg (c:List Col) (hc:OkCols c) (m:Mov) (h:OkMov m) (h3:(m.kind==3)=false) (Hp:List AObj):AFun Tryz.prog 107 [Am c,Gw m] Hp (Am (B8 c m)):=by
 refine Af [.tmp 4] [0,1] Tryz.func107 Tryz.ntmps107 (fun d=>?_)
 refine od ?_;refine jt ?_;refine Z0 ?_
 refine Eu jU Tryz.type41 ?_ ?_ ?_
 ·have:=h.gives2;simp [Tryz.t41];omega
 ·have:=h.gives2;simp [Tryz.t41];omega
 refine L1 ?_;refine AFm ?_;refine A2 [0,3,5,13] ?_
 refine A3 (fun ht13=>?_) (fun ht13=>?_)
 ·rw [h3] at ht13;cases ht13
 refine Ro ?_;exact ALs

theorem AQh (c:List Col) (hc:OkCols c) (m:Mov) (h:OkMov m) (h3:(m.kind==3)=true) (s:Str) (y:Col) (ht:m.take=[s]) (hg:m.give=[y]) (Hp:List AObj):AFun Tryz.prog 107 [Am c,Gw m] Hp (Am (B8 c m)):=by
 have hgv:=uk (c:=c) h3 ht hg
 have hgy:=ly (c:=c) h3 ht hg
 obtain ⟨kd,tk,gv,ah,bk⟩:=m
 simp only at ht hg h3
 subst ht hg
 refine Af [.tmp 4] [0,1] Tryz.func107 Tryz.ntmps107 (fun d=>?_)
 refine od ?_;refine Fp ?_;refine R.buildObj0 (n:=0) jU Tryz.sizeOf41 ?_;refine Z0 ?_
 refine R.appendObj (k:=2) (n:=1) jU Tryz.type41 (show [Bq y]≠[] by simp) ?_ ?_ (fun cc hcc=>?_)
 ·simp [Tryz.t41]
 ·simp
 have e0:Ni [Bq y]++List.replicate ((cc-[Bq y].length)*2) AV.any=Ae y.name::A5 y.kind::List.replicate ((cc-1)*2) AV.any:=rfl
 rw [e0]
 clear e0
 refine A4 ?_;refine AFm ?_;refine A2 [0,3,5,13] ?_
 refine A3 (fun ht13=>?_) (fun ht13=>?_)
 ·refine Z17 ?_
  refine A4 (h:=Ac (0) (Ae s) (fun _=>rfl)) (hr:=?_)
  refine A4 ?_;refine Aa Tryz.call25 (c25 c hc s _) ?_;refine A4 ?_;refine A2 [0,5,6] ?_;refine Z1 ?_;refine A2 [0,5,6,21] ?_
  refine A3 (fun ht21=>?_) (fun ht21=>?_)
  ·have hf:¬B6 s c<0:=by simp at ht21;omega
   obtain ⟨jj,hjj,hjc⟩:=Hh hf
   refine Z34 ?_
   refine A4 (h:=Ac ((B6 s c).toNat) (Bq (c.getD (B6 s c).toNat ⟨[],0⟩)) (fun _=>Wq hf)) (hr:=?_)
   refine Z0 ?_;refine R.indexAddrSl (n:=1) 0 jU Tryz.sizeOf41 (by decide) ?_
   refine A4 (h:=Q.fieldAddrPtr (hc:=rfl)) (hr:=?_)
   refine fq (y:=A5 (c.getD (B6 s c).toNat ⟨[],0⟩).kind) (ys:=[A5 (c.getD (B6 s c).toNat ⟨[],0⟩).kind]) (n:=1) (cs:=Ae y.name::A5 y.kind::List.replicate ((cc-1)*2) AV.any) (cs':=Ae y.name::A5 (c.getD (B6 s c).toNat ⟨[],0⟩).kind::List.replicate ((cc-1)*2) AV.any) (t':=41) jS ?_ (hc:=rfl) (hput:=rfl) (hfit:=by simp)
   refine A2 [5] ?_;refine Fh ?_;refine Z94 ?_;exact AFj
  have hf:B6 s c<0:=by simp at ht21;omega
  refine Z5 ?_;refine AL5 ?_;exact AFj
 rw [h3] at ht13;cases ht13

end Go.SX.Nb
namespace Go.SX
variable [GI:GlobInv]
open Classical
variable {P:Program} {d:Nat} {ops:Array Oper} {rest:List Oper} {sz:Nat} {fr:Nat→AV} {up own:List AObj} {dfs:List Nat} {rnd:Option Nat} {Q:St→Prop} {s:Nat} {ty:TypeId} {pos:String} {aft:Array Edge}
/-- Whether a slice is nil is known only of one that has elements. -/
theorem R.eqlNil {t e u:TypeId} {x y:Operand} {o:Bool} {k:Nat} {xs:List AV} (ht:P.underlying t=some (.slice e)) (hg:P.eqGuardType P.depth t=false)
  (hr:∀b:Bool,(b=true→xs=[])→ARun P d ops rest ⟨sz,A7 s (.v (.bool b)) fr,up,own,dfs,rnd⟩ Q)
  (hx:Bc fr x=.slice o k xs:=by exact sL0) (hy:Bc fr y=.nil:=by exact sL0) (hs:Nat.blt s sz=true:=by rfl):
  ARun P d ops (⟨some s,.binOp .eql t x y u,ty,pos,aft,none⟩::rest) ⟨sz,fr,up,own,dfs,rnd⟩ Q:=by
 refine Wz rfl (Q1:=fun s'=>∃b:Bool,(b=true→xs=[])∧s'=⟨sz,A7 s (.v (.bool b)) fr,up,own,dfs,rnd⟩) ?_ (by rintro _ ⟨b,hb,rfl⟩;exact hr b hb)
 intro G a w hrel Q'
 have h1:=hrel.eval x
 rw [show St.ev ⟨sz,fr,up,own,dfs,rnd⟩ x=.slice o k xs from hx] at h1
 have h2:=hrel.eval y
 rw [show St.ev ⟨sz,fr,up,own,dfs,rnd⟩ y=.nil from hy] at h2
 have key:∀b:Bool,(b=true→xs=[])→(execOp a.eval ⟨some s,.binOp .eql t x y u,ty,pos,aft,none⟩).run P w=.ok (.value (.bool b)) w →
   Oper.wpIn (Fr ((St.mk sz fr up own dfs rnd).rnd.map G.blk)) 0 P ⟨some s,.binOp .eql t x y u,ty,pos,aft,none⟩ a w (Post d ⟨sz,fr,up,own,dfs,rnd⟩ G w (fun s'=>∃b:Bool,(b=true→xs=[])∧s'=⟨sz,A7 s (.v (.bool b)) fr,up,own,dfs,rnd⟩)) Q':=fun b hb hv =>
  Dt (by intro c h;cases h) hv ⟨G,_,hrel.put (y:=.v (.bool b)) (by simpa using hs) (.v _ _),H6 d G w,rfl,rfl,rfl,b,hb,rfl⟩
 generalize hya:a.eval y=vy at h2
 generalize hxa:a.eval x=vx at h1
 cases h2
 cases h1 with
 | slice0=>exact key true (fun _=>rfl) (by simp only [execOp,hxa,hya,eqGuard];simp [Lib.run_eql_slice_nil _ _ _ _ _ _ _ _ ht,hg])
 | sliceE=>exact key false (fun h=>by cases h) (by simp only [execOp,hxa,hya,eqGuard];simp [Lib.run_eql_slice_nil _ _ _ _ _ _ _ _ ht,hg])
 | slice=>exact key false (fun h=>by cases h) (by simp only [execOp,hxa,hya,eqGuard];simp [Lib.run_eql_slice_nil _ _ _ _ _ _ _ _ ht,hg])
/-! A guarded slice that may be appended to. -/
end Go.SX
namespace Go.SX
variable [GI:GlobInv]
open Classical
section
variable {P:Program} {d:Nat}
/-- A call that returns and may leave more objects than it found; they are the caller's. -/
def ACallO (P:Program) (g:FuncId) (args:List AV) (H:List AObj) (post:AV→List AObj→Prop):Prop:=
 ∀(d:Nat) (G:Gh) (w:World) (vs:Array Value),vs.size=args.length→(∀(i:Nat) (y:AV) (u:Value),args[i]? = some y→vs[i]? = some u→Rep G w (some (.slot (d+1) i)) y u)→HeapRel G H w→TagOK G w→GI.bd≤d →
  CallsIn Fence.wide 0 P g vs w (fun e w'=>∃(v:Value) (G':Gh) (r:AV) (H':List AObj),e=.returned v∧Rep G' w' none r v∧HeapRel G' H' w'∧TagOK G' w'∧Keep (d+1) G w G' w'∧post r H')
/-- What is asked at a body's end: the first j of its objects are handed back. -/
def FO (P:Program) (rs:List ResultVar) (n:Nat) (post:AV→List AObj→Prop) (e:Exit) (st':St):Prop:=
 (e=.normal∨e=.ret)∧st'.defs=[]∧∃(r:AV) (rv:ResultVar) (j:Nat),rs=[rv]∧ResV P st' rv r∧Low (n+j) r∧(∀x∈st'.up++st'.own.take j,ObjLow (n+j) x)∧j≤st'.own.length∧post r (st'.up++st'.own.take j)
theorem ACallO.ofBody {g:FuncId} {fn:Func} {c:Code} {args:List AV} {H:List AObj} {post:AV→List AObj→Prop} {rs:List ResultVar} {n:Nat} (hf:P.funcs[g]? = some fn) (hb:fn.body=some c) (hrs:fn.results=rs.toArray)
  (hn:fn.ntmps=n) (hargs:args.length≤n) (h:∀d,AW P (d+1) c ⟨n,argsF args,H,[],[],none⟩ (FO P rs H.length post)):ACallO P g args H post:=by
 intro d G w vs hvs hrep hH hT hTop
 refine callsIn_of_wp_marks hf hb trivial ?_
 have hst:StRel (d+1) G ⟨n,argsF args,H,[],[],none⟩ { tmps:=vs++Array.replicate (fn.ntmps-vs.size) undef,defers:=[] } w:=by
  refine ⟨?_,fun s=>?_,by simpa using hH,(by rw [Hd hTop];rfl),(fun o ho=>by simp at ho),Mt,(fun o ho=>by simp at ho),hT,(fun l hl=>by cases hl),fun x hx=>?_,O1 hTop⟩
  ·simp only [M1,ef,hvs,hn];omega
  ·show Rep G w _ (args.getD s (.v undef)) _
   rw [C9,Kw]
   rcases Bv s args.length with h'|h'
   ·rw [Ab h',M0 (by omega),F9 (by omega)]
    exact hrep s _ _ (Ab h') (F9 (by omega))
   rw [Ho h',Qz (by omega)]
   simp only [Option.getD_none]
   have:((Array.replicate (fn.ntmps-vs.size) undef)[s-vs.size]?).getD undef=undef:=by
    rw [P0];split<;>rfl
   rw [this]
   exact .v _ _
  obtain ⟨i,hi⟩:=Cm hx
  have hob:=hH.obj i x hi
  show ObjLow H.length x
  rw [←hH.n]
  exact hob.low
 have hw:=h d G _ w hst
 refine wpIn_mono hw ?_
 rintro e a' w' ⟨G1,st',h1,k1,e1,e2,e3,hcase,hdefs,r,rv,j,rfl,hres,hlow,hobjs,hj,hpost⟩
 have fin:LeavesInM Fence.wide 0 P fn a'.tmps (fun e w'=>∃(v:Value) (G':Gh) (r:AV) (H':List AObj),e=.returned v∧Rep G' w' none r v∧HeapRel G' H' w'∧TagOK G' w'∧Keep (d+1) G w G' w'∧post r H') a'.defers .returning w':=by
  rw [h1.defs,hdefs,Hd hTop]
  obtain ⟨v,hv,hr⟩:=hres.run h1
  have hupl:st'.up.length=H.length:=e1
  have hgn:G1.n=st'.up.length+st'.own.length:=by rw [h1.heap.n,Ai]
  have hget:∀(i:Nat) (x:AObj),(st'.up++st'.own.take j)[i]? = some x→(st'.up++st'.own)[i]? = some x:=fun i x hx=>by
   rcases Bv i st'.up.length with h'|h'
   ·rw [Di h'] at hx ⊢;exact hx
   rw [Dd h'] at hx ⊢
   rw [Im] at hx
   split at hx
   ·exact hx
   cases hx
  refine ⟨v,by simp [H9,hrs,hv],v,{ G1 with n:=H.length+j },r,st'.up++st'.own.take j,rfl,hr.cut hlow,⟨fun i x hx=>(h1.heap.obj i x (hget i x hx)).cut (hobjs x (B0 hx)),?_,fun a b ha hb' e=>?_⟩,
   ⟨h1.tags.ex,h1.tags.obj,h1.tags.tail,h1.tags.globCut (by rw [hgn];omega)⟩,?_,hpost⟩
  ·show H.length+j=_
   rw [Ai,Ci,su hj,hupl]
  ·exact h1.heap.inj a b (by rw [hgn];simp only at ha;omega) (by rw [hgn];simp only at hb';omega) e
  have hGn:G.n=H.length:=hH.n
  exact ⟨k1.fix,k1.slot,by rw [hGn];exact Nat.le_add_right _ _,k1.blk,k1.os,k1.tape,k1.output,k1.size,k1.old.cut (by rw [hgn];omega)⟩
 rcases hcase with rfl|rfl
 ·exact fin
 exact fin
end
section
variable {P:Program} {d:Nat} {ops:Array Oper} {rest:List Oper} {sz s:Nat} {fr:Nat→AV} {up own:List AObj} {dfs:List Nat} {rnd:Option Nat} {Q:St→Prop} {ty:TypeId} {pos:String} {aft:Array Edge}
theorem ACallO.body {g:FuncId} {fn:Func} {c:Code} {args:List AV} {H:List AObj} {post:AV→List AObj→Prop} {fr':Nat→AV} (rs:List ResultVar) (l:List Nat) {n:Nat} (hf:P.funcs[g]? = some fn) (hn:fn.ntmps=n)
  (h:∀d,AW P (d+1) c ⟨n,fr',H,[],[],none⟩ (FO P rs H.length post)) (hb:fn.body=some c:=by rfl) (hrs:fn.results=rs.toArray:=by rfl) (hargs:args.length≤n:=by exact sL1)
  (hk:Ot l (argsF args)=fr':=by exact sL0):ACallO P g args H post:=
 ACallO.ofBody hf hb hrs hn hargs (fun d=>bg l hk (h d))
/-- The end of such a body. -/
theorem K.finO {rs:List ResultVar} {n:Nat} {post:AV→List AObj→Prop} {r:AV} {rv:ResultVar} {st:St} (j:Nat) (hres:ResV P st rv r) (hp:post r (st.up++st.own.take j)) (hlow:Low (n+j) r) (hobj:∀x∈st.up++st.own.take j,ObjLow (n+j) x)
  (hd:st.defs=[]:=by rfl) (hr:rs=[rv]:=by rfl) (hj:j≤st.own.length:=by simp):FO P rs n post .ret st:=⟨.inr rfl,hd,r,rv,j,hr,hres,hlow,hobj,hj,hp⟩
/-- A call of such a function. -/
theorem R.callO {g:FuncId} {xs:List Operand} {ats:Array TypeId} {args:List AV} {post:AV→List AObj→Prop} (hcall:∀args w,(callFunc g args).run P w=.ok (.enter g args) w)
  (h:ACallO P g args (up++own) post) (hp:∀r H',post r H'→∃O,H'=up++(own++O)∧ARun P d ops rest ⟨sz,A7 s r fr,up,own++O,dfs,rnd⟩ Q)
  (ha:xs.map (Bc fr)=args:=by exact sL0) (hs:Nat.blt s sz=true:=by rfl):
  ARun P d ops (⟨some s,.call ⟨.value (.func g),xs.toArray,ats⟩,ty,pos,aft,none⟩::rest) ⟨sz,fr,up,own,dfs,rnd⟩ Q:=by
 refine Wz rfl (Q1:=fun s'=>ARun P d ops rest s' Q) ?_ (fun s' e=>e)
 intro G a w hr Q'
 have hs:s<sz:=by simpa using hs
 have hxr:=Sm hr xs
 have ha':xs.map (St.ev ⟨sz,fr,up,own,dfs,rnd⟩)=args:=ha
 rw [ha'] at hxr
 have hrun:(execOp a.eval (⟨some s,.call ⟨.value (.func g),xs.toArray,ats⟩,ty,pos,aft,none⟩:Oper)).run P w=.ok (.enter g (xs.map a.eval).toArray) w:=by
  have:=Ri (P:=P) (dst:=some s) (ty:=ty) (pos:=pos) (aft:=aft) (gd:=none) (ats:=ats) (f:=.func g) (xs:=xs) (g:=g) (va:=#[]) (vc:=#[]) (a:=a) (w:=w) hcall rfl
  simpa using this
 refine Rh (by intro c h;cases h) hrun (h d G w _ (by rw [←ha'];simp) (fun i y u hy hu=>(hxr i y u hy hu).lift) hr.heap hr.tags hr.top) ?_
 rintro e w' ⟨v,G',r,H',rfl,hrep,hH,hT,hk,hpo⟩
 obtain ⟨O,rfl,hrn⟩:=hp r H' hpo
 have h3:=hr.called (U:=up) (O:=own++O) hH hT hk rfl rfl (fun o ho=>by
  have:=hr.defsAt o ho
  rw [←Bn,Di (Ad.1 this).1]
  exact this) hr.low
 obtain ⟨h4,k4⟩:=h3.took hrep.lift (s:=s) hs
 exact ⟨v,rfl,_,_,h4,(hk.less (Ks d)).trans k4,rfl,rfl,rfl,hrn⟩
end
end Go.SX
