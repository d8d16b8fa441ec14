/- On the way (part 7). -/
import Derived.ReadAgain
import Derived.ChangeSame
import Derived.ChangeArms
import Derived.ChangeOld
import Derived.ChangeFn
import Derived.MapPlaces
import Derived.DataReads
import Derived.OpenShut
import Derived.RowKit
import Derived.Deep.DeepHandedRow
import Derived.Test.YtejjpdbfdmdgpaaGreatDoorCards
import Derived.Test.YtejjpdbfdmdgpaaGreatDoorTie
import Derived.Lay
import Derived.Lib.LaidTab
import Derived.Stop.LaidErr
import Derived.Shelf.Vars
import Derived.ChangeBears
import Derived.Lib.ParseIntBTie
import Derived.Test.YtejjpdbfdmdgpaaGreatDoorImageBackCardSaidPart6
set_option linter.all false
namespace Go.SX
variable [GI:GlobInv]
open Classical Go.RowKit Go.ChangeShapes
section
variable {P:Program} {H:Type} {enc:TypeId×Value→H}

/-- The first ghost: whatever lies there is read for good. -/
noncomputable def G0 (W:World):Gh:=⟨fun b o=>if (W.cell? ⟨b,o,none⟩).isSome then .fix else .free,fun _=>0,0⟩
theorem AMu {W:World} {b o:Nat} {u:Value} (h:W.cell? ⟨b,o,none⟩=some u):(G0 W).tag b o=.fix:=by simp [G0,h]
theorem Vi {W:World} {b:Nat} (h:b<W.heap.size):Nd (G0 W) W b:=⟨h,fun o=>by simp only [G0];split<;>simp,fun i hi=>absurd hi (Nat.not_lt_zero _)⟩
theorem AI1 (W:World):HeapRel (G0 W) [] W:=⟨fun i x h=>by simp at h,rfl,fun i j hi=>absurd hi (Nat.not_lt_zero _)⟩
theorem AI2 {W:World} (h:Mk W):TagOK (G0 W) W:=by
 refine ⟨fun b o hb=>?_,fun b o i hb=>?_,fun b o L hb=>?_,fun x hx=>?_⟩
 ·simp only [G0] at hb
  split at hb
  ·rename_i hs;exact Option.isSome_iff_exists.1 hs
  exact absurd rfl hb
 ·simp only [G0] at hb;split at hb<;>cases hb
 ·simp only [G0] at hb;split at hb<;>cases hb
 obtain ⟨v,h1,h2⟩:=h x hx
 exact ⟨Vi (P0.1 h1).1,v,h1,h2⟩

/-- What a datum of a plain type ASj as. -/
inductive DRep (P:Program):TypeId→DataW H→AV→Prop
 | int {t:TypeId} {k:IntKind} {n:Int} (hu:P.underlying t=some (.int k)) (wf:(Lit.int k n).wf=true):DRep P t (.lit (.int k n)) (.v (.int k n))
 | bool {t:TypeId} {b:Bool} (hu:P.underlying t=some .bool):DRep P t (.lit (.bool b)) (.v (.bool b))
 | str {t:TypeId} {bs:List UInt8} (hu:P.underlying t=some .string):DRep P t (.lit (.string bs)) (.v (sv bs))
 | nil {t e:TypeId} (hu:P.underlying t=some (.slice e)):DRep P t .nil (.slice false (P.cellsOf e) [])
 | slice {t e:TypeId} {elems spare:List (DataW H)} {ys:List AV} (hu:P.underlying t=some (.slice e)) (hn:ys.length=elems.length)
   (h:∀(i:Nat) (d:DataW H) (y:AV),elems[i]? = some d→ys[i]? = some y→DRep P e d y):DRep P t (.slice elems spare) (.slice false (P.cellsOf e) ys)
 | struct {t:TypeId} {fs:Array Field} {parts:List (DataW H)} {ys:List AV} (hu:P.underlying t=some (.struct fs)) (hn:parts.length=fs.size) (hn':ys.length=fs.size)
   (h:∀(i:Nat) (f:Field) (d:DataW H) (y:AV),fs[i]? = some f→parts[i]? = some d→ys[i]? = some y→DRep P f.type d y):DRep P t (.agg parts) (.agg (ys.flatMap AV.cells))

/-- Types that are made of numbers, texts, bools, slices and structs alone. -/
structure PlainT (P:Program) (T:TypeId→Prop):Prop where
 look:∀t,T t→(P.cellsOf t=1∧((∃k,P.underlying t=some (.int k))∨P.underlying t=some .bool∨P.underlying t=some .string∨(∃e,P.underlying t=some (.slice e)∧T e∧0<P.cellsOf e))) ∨
  (∃fs,P.underlying t=some (.struct fs)∧(∀f∈fs.toList,T f.type)∧P.cellsOf t=(fs.toList.map fun f=>P.cellsOf f.type).sum ∧
   ∀(j:Nat) (f:Field),fs.toList[j]? = some f→f.offset=((fs.toList.take j).map fun f=>P.cellsOf f.type).sum)

/-- The reading of a row of cells. -/
def CRep (W:World) (y:AV) (cs:List Value):Prop:=
 y.cells.length=cs.length∧(∀c∈y.cells,c.one=true)∧∀(j:Nat) (c:AV) (v:Value),y.cells[j]? = some c→cs[j]? = some v→Rep (G0 W) W none c v

theorem CRep.v1 {W:World} {x:Value} (h:x.oneCell'=true):CRep W (.v x) [x]:=
 ⟨rfl,by simp [AV.cells,AV.one,h],fun j c v h1 h2=>by
  match j with
  | 0=>simp [AV.cells] at h1 h2;subst h1;subst h2;exact .v _ _
  | j+1=>simp [AV.cells] at h1⟩

theorem mv {f:AV→List AV}:∀(ys:List AV) (j:Nat) (c:AV),(ys.flatMap f)[j]? = some c→∃(i:Nat) (y:AV) (q:Nat),ys[i]? = some y∧(f y)[q]? = some c∧j=((ys.take i).map fun y=>(f y).length).sum+q
 | [],j,c,h=>by simp at h
 | y::r,j,c,h=>by
  rw [gr] at h
  rcases Be j (f y).length with h'|h'
  ·rw [Dh h'] at h
   exact ⟨0,y,j,rfl,h,by simp⟩
  rw [Dn h'] at h
  obtain ⟨i,z,q,h1,h2,h3⟩:=mv r _ c h
  exact ⟨i+1,z,q,h1,h2,by simp only [List.take_succ_cons,C5,List.sum_cons];omega⟩
theorem Q3 {α:Type} {R:Nat→α→Prop}:∀(n:Nat),(∀i,i<n→∃y,R i y)→∃ys:List α,ys.length=n∧∀(i:Nat) (y:α),ys[i]? = some y→R i y
 | 0,_=>⟨[],rfl,fun i y h=>by simp at h⟩
 | n+1,h=>by
  obtain ⟨ys,h1,h2⟩:=Q3 n (fun i hi=>h i (by omega))
  obtain ⟨y,hy⟩:=h n (by omega)
  refine ⟨ys++[y],by simp [h1],fun i z hz=>?_⟩
  rcases Be i n with h'|h'
  ·rw [Dh (by omega)] at hz;exact h2 i z hz
  rw [Dn (by omega)] at hz
  have:i=n:=by
   have:=(Ad.1 hz).1
   simp at this;omega
  subst this
  rw [h1] at hz
  simp at hz
  exact hz ▸ hy
theorem Sl {α β:Type} {f:α→Nat} {g:β→Nat}:∀(l:List α) (m:List β),l.length=m.length→(∀(i:Nat) (a:α) (b:β),l[i]? = some a→m[i]? = some b→f a=g b)→(l.map f).sum=(m.map g).sum
 | [],[],_,_=>rfl
 | [],b::m,h,_=>by simp at h
 | a::l,[],h,_=>by simp at h
 | a::l,b::m,h,hh=>by
  simp only [C5,List.sum_cons]
  rw [hh 0 a b rfl rfl,Sl l m (by simpa using h) (fun i a b h1 h2=>hh (i+1) a b h1 h2)]

theorem AEn {T:TypeId→Prop} (PT:PlainT P T) {W:World}:∀(n:Nat) (t:TypeId) (cs:List Value) (x:DataW H×List MemPlace),T t→DataW.trod enc P W 0 (fun _=>true) true n t cs=some x →
  ∃y,DRep P t x.1 y∧CRep W y cs∧cs.length=P.cellsOf t:=by
 intro n
 induction n with
 | zero=>intro t cs x _ h;simp [DataW.trod] at h
 | succ n ih =>
  intro t cs x hT h
  rcases PT.look t hT with ⟨hc1,⟨k,hu⟩|hu|hu|⟨e,hu,he,hz⟩⟩|⟨fs,hu,hf,hsum,hoff⟩
  ·obtain ⟨m,rfl,rfl,hw⟩:=DataW.trod_int hu h
   exact ⟨_,.int hu hw,.v1 rfl,hc1.symm⟩
  ·obtain ⟨b,rfl,rfl⟩:=DataW.trod_bool hu h
   exact ⟨_,.bool hu,.v1 rfl,hc1.symm⟩
  ·obtain ⟨s,rfl,rfl,_⟩:=DataW.trod_string hu h
   exact ⟨_,.str hu,.v1 rfl,hc1.symm⟩
  ·rcases DataW.trod_slice hu h with ⟨rfl,rfl⟩|⟨a,len,cap,elems,rest,m,hm,rfl,rfl,hb,hlc,hcm,hel,hE,_,_⟩
   ·refine ⟨_,.nil hu,⟨rfl,by simp [AV.cells,AV.one],fun j c v h1 h2=>?_⟩,hc1.symm⟩
    match j with
    | 0=>simp [AV.cells] at h1 h2;subst h1;subst h2;exact .slice0 _ _ _
    | j+1=>simp [AV.cells] at h1
   injection hm with hm
   subst hm
   subst hel
   have hEi:∀i,i<elems.length→∃y,(∀d,elems[i]? = some d→DRep P e d.1 y)∧∃ci,W.cells? 0 (a.add (i*P.cellsOf e)) (P.cellsOf e)=some ci∧CRep W y ci:=fun i hi=>by
    have h1:=hE i hi
    rw [Aa hi,Option.bind_eq_some_iff] at h1
    obtain ⟨ci,h2,h3⟩:=h1
    obtain ⟨y,h4,h5,_⟩:=ih e ci _ he h3
    exact ⟨y,fun d hd=>by rw [Aa hi] at hd;injection hd with hd;subst hd;exact h4,ci,h2,h5⟩
   obtain ⟨ys,hyl,hys⟩:=Q3 elems.length hEi
   refine ⟨.slice false (P.cellsOf e) ys,.slice hu (by simp [hyl]) (fun i d y hd hy=>?_),⟨rfl,by simp [AV.cells,AV.one],fun j c v h1 h2=>?_⟩,hc1.symm⟩
   ·rw [Ce,Ep] at hd
    obtain ⟨d',hd',rfl⟩:=hd
    exact (hys i y hy).1 d' hd'
   match j with
   | j+1=>simp [AV.cells] at h1
   | 0 =>
    simp [AV.cells] at h1 h2
    subst h1;subst h2
    by_cases h0:elems.length=0
    ·have:ys=[]:=Pd (by omega)
     subst this
     rw [h0]
     exact .sliceE _ _ _ _
    have hspot:a.spot=none:=by
     obtain ⟨ci,hci,_⟩:=(hys 0 ys[0] (Aa (by omega))).2
     obtain ⟨_,g1,g2⟩:=World.cells?_some hci
     have g3:=g2 0 hz
     rw [Aa (by omega)] at g3
     simp only [Th,Addr.add,if_true] at g3
     unfold World.cell? at g3
     split at g3
     ·split at g3
      ·cases g3
      rename_i hs;simpa using hs
     cases g3
    refine .slice _ false _ ys a _ cap (fun i j=>(W.cell? ⟨a.block,a.off+i*P.cellsOf e+j,none⟩).getD undef) hspot hyl.symm hlc (fun x hx=>?_) (fun x hx=>?_) (fun i x j y hx hy=>?_) (fun i x j y hx hy=>?_) (fun h=>by cases h)
    ·obtain ⟨i,hi⟩:=Cf hx
     obtain ⟨ci,hci,hcr⟩:=(hys i x hi).2
     rw [hcr.1]
     exact (World.cells?_some hci).2.1
    ·obtain ⟨i,hi⟩:=Cf hx
     obtain ⟨ci,hci,hcr⟩:=(hys i x hi).2
     exact hcr.2.1
    ·obtain ⟨ci,hci,hcr⟩:=(hys i x hx).2
     obtain ⟨_,g1,g2⟩:=World.cells?_some hci
     have hj:j<P.cellsOf e:=by
      have:=(Ad.1 hy).1
      rw [hcr.1] at this;omega
     have g3:=g2 j hj
     rw [Aa (by omega),Ck hspot,Ck rfl] at g3
     exact ⟨AMu g3,by rw [g3];rfl⟩
    obtain ⟨ci,hci,hcr⟩:=(hys i x hx).2
    obtain ⟨_,g1,g2⟩:=World.cells?_some hci
    have hj:j<P.cellsOf e:=by
     have:=(Ad.1 hy).1
     rw [hcr.1] at this;omega
    have g3:=g2 j hj
    rw [Aa (by omega),Ck hspot,Ck rfl] at g3
    simp only at g3
    rw [g3]
    exact hcr.2.2 j y _ hy (Aa (by omega))
  obtain ⟨xs,m,hm,rfl,hcl,hxl,hX⟩:=DataW.trod_struct hu h
  injection hm with hm
  subst hm
  have hXi:∀i,i<fs.size→∃y,∀(f:Field),fs[i]? = some f→(∀d,xs[i]? = some d→DRep P f.type d.1 y)∧CRep W y ((cs.drop f.offset).take (P.cellsOf f.type))∧y.cells.length=P.cellsOf f.type:=fun i hi=>by
   have h1:=hX i fs[i] (Er hi)
   rw [Aa (by omega)] at h1
   obtain ⟨y,h2,h3,h4⟩:=ih _ _ _ (hf _ (by simp)) h1
   refine ⟨y,fun f hf'=>?_⟩
   rw [Er hi] at hf'
   injection hf' with hf'
   subst hf'
   exact ⟨fun d hd=>by rw [Aa (by omega)] at hd;injection hd with hd;subst hd;exact h2,h3,by rw [h3.1,h4]⟩
  obtain ⟨ys,hyl,hys⟩:=Q3 fs.size hXi
  have hlenI:∀(i:Nat),((ys.take i).map fun y=>y.cells.length).sum=((fs.toList.take i).map fun f=>P.cellsOf f.type).sum:=fun i=>by
   refine Sl _ _ (by simp [hyl]) (fun j y f h1 h2=>?_)
   rw [He] at h1 h2
   split at h1
   ·rename_i hj
    rw [if_pos hj] at h2
    exact (hys j y h1 f (by simpa using h2)).2.2
   cases h1
  have htot:(ys.flatMap AV.cells).length=cs.length:=by
   rw [List.length_flatMap,hcl,hsum]
   refine Sl _ _ (by simp [hyl]) (fun j y f h1 h2=>(hys j y h1 f (by simpa using h2)).2.2)
  refine ⟨.agg (ys.flatMap AV.cells),.struct hu (by simp [hxl]) hyl (fun i f d y hf' hd hy=>?_),⟨htot,fun c hc=>?_,fun j c v h1 h2=>?_⟩,hcl⟩
  ·rw [Ce,Ep] at hd
   obtain ⟨d',hd',rfl⟩:=hd
   exact (hys i y hy f hf').1 d' hd'
  ·obtain ⟨y,hy,hcy⟩:=List.mem_flatMap.1 hc
   obtain ⟨i,hi⟩:=Cf hy
   have hlt:i<fs.size:=by rw [←hyl];exact (Ad.1 hi).1
   exact ((hys i y hi fs[i] (Er hlt)).2.1).2.1 c hcy
  obtain ⟨i,y,q,g1,g2,rfl⟩:=mv ys j c h1
  have hlt:i<fs.size:=by rw [←hyl];exact (Ad.1 g1).1
  obtain ⟨_,k2,k3⟩:=hys i y g1 fs[i] (Er hlt)
  have hq:q<P.cellsOf (fs[i]).type:=by have:=(Ad.1 g2).1;omega
  refine k2.2.2 q c v g2 ?_
  rw [He,if_pos hq,F4,hoff i fs[i] (by simp [hlt]),←hlenI i]
  exact h2

/-- A measure of data. -/
structure Bulk (B:DataW H→Nat):Prop where
 str:∀bs,bs.length≤B (.lit (.string bs))
 slice:∀elems spare,elems.length≤B (.slice elems spare)∧∀d∈elems,B d≤B (.slice elems spare)
 agg:∀parts,∀d∈parts,B d≤B (.agg parts)
theorem DRep.int' {t:TypeId} {k:IntKind} {d:DataW H} {y:AV} (hu:P.underlying t=some (.int k)) (h:DRep P t d y):∃n,d=.lit (.int k n)∧y=.v (.int k n)∧k.min≤n∧n≤k.max:=by
 cases h with
 | int hu' wf=>rw [hu] at hu';injection hu' with e;injection e with e;subst e;exact ⟨_,rfl,rfl,by simpa [Lit.wf] using wf⟩
 | _ hu'=>rw [hu] at hu';cases hu'
theorem DRep.str' {t:TypeId} {d:DataW H} {y:AV} (hu:P.underlying t=some .string) (h:DRep P t d y):∃s,d=.lit (.string s)∧y=.v (sv s):=by
 cases h with
 | str hu'=>exact ⟨_,rfl,rfl⟩
 | _ hu'=>rw [hu] at hu';cases hu'
theorem DRep.slice' {t e:TypeId} {d:DataW H} {y:AV} {B:DataW H→Nat} (hB:Bulk B) {α:Type} (A:α→AV) (R:α→Prop) {b:Nat} (hu:P.underlying t=some (.slice e)) (h:DRep P t d y) (hb:B d≤b)
  (hE:∀d y,B d≤b→DRep P e d y→∃x,y=A x∧R x):∃l:List α,y=.slice false (P.cellsOf e) (l.map A)∧l.length≤b∧∀x∈l,R x:=by
 cases h with
 | nil hu'=>rw [hu] at hu';injection hu' with e';injection e' with e';subst e';exact ⟨[],rfl,Ap _,fun x hx=>by cases hx⟩
 | slice hu' hn hh =>
  rw [hu] at hu';injection hu' with e';injection e' with e';subst e'
  rename_i elems spare ys
  obtain ⟨h1,h2⟩:=hB.slice elems spare
  have key:∀(ys:List AV) (es:List (DataW H)),ys.length=es.length→(∀d∈es,B d≤b)→(∀(i:Nat) (d:DataW H) (y:AV),es[i]? = some d→ys[i]? = some y→DRep P e d y)→∃l:List α,ys=l.map A∧∀x∈l,R x:=by
   intro ys
   induction ys with
   | nil=>exact fun es _ _ _=>⟨[],rfl,fun x hx=>by cases hx⟩
   | cons y ys ih =>
    intro es hl hb2 hr
    cases es with
    | nil=>simp at hl
    | cons d es =>
     obtain ⟨x,rfl,hx⟩:=hE d y (hb2 d (by simp)) (hr 0 d y rfl rfl)
     obtain ⟨l,rfl,hR⟩:=ih es (by simpa using hl) (fun d hd=>hb2 d (by simp [hd])) (fun i d y a c=>hr (i+1) d y a c)
     exact ⟨x::l,rfl,fun z hz=>by
      rcases Bu.1 hz with rfl|hz
      ·exact hx
      exact hR z hz⟩
  obtain ⟨l,rfl,hR⟩:=key ys elems hn (fun d hd=>Ir (h2 d hd) hb) hh
  exact ⟨l,rfl,by simp at hn;omega,hR⟩
 | _ hu'=>rw [hu] at hu';cases hu'
theorem DRep.struct' {t:TypeId} {fs:Array Field} {d:DataW H} {y:AV} {B:DataW H→Nat} (hB:Bulk B) (hu:P.underlying t=some (.struct fs)) (h:DRep P t d y):
  ∃ys:List AV,ys.length=fs.size∧y=.agg (ys.flatMap AV.cells)∧∀(i:Nat) (f:Field) (z:AV),fs[i]? = some f→ys[i]? = some z→∃d',B d'≤B d∧DRep P f.type d' z:=by
 cases h with
 | struct hu' hn hn' hh =>
  rw [hu] at hu';injection hu' with e';injection e' with e';subst e'
  rename_i parts ys
  refine ⟨ys,hn',rfl,fun i f z h1 h2=>?_⟩
  have hlt:i<parts.length:=by rw [hn];exact (P0.1 h1).1
  exact ⟨parts[i],hB.agg parts _ (Av hlt),hh i f parts[i] z h1 (Aa hlt) h2⟩
 | _ hu'=>rw [hu] at hu';cases hu'

/-- An argument's reading. -/
theorem AI3 {T:TypeId→Prop} (PT:PlainT P T) {W:World} {t:TypeId} {v:Value} {d:DataW H} {ps:List MemPlace} {b0:Nat} (hT:T t) (hok:Value.okWide P W .any b0 t v) (h:DataW.Trod enc P W 0 (fun _=>true) true t v d ps):
  ∃y,DRep P t d y∧Rep (G0 W) W none y v:=by
 obtain ⟨n,hn⟩:=h
 obtain ⟨y,h1,h2,h3⟩:=AEn PT n t _ _ hT hn
 refine ⟨y,h1,?_⟩
 rcases PT.look t hT with ⟨hc1,hone⟩|⟨fs,hu,_⟩
 ·have hva:∀cs,v≠.agg cs:=fun cs e=>by
   subst e
   rcases hone with ⟨k,hu⟩|hu|hu|⟨e,hu,he,hz⟩<;>simp [Value.okWide,hu,Cell.okWide,Cell.ok] at hok
  have hvc:v.cells=#[v]:=by cases v<;>first|rfl|exact absurd rfl (hva _)
  have hyc:y.cells=[y]:=by
   cases h1 with
   | struct hu=>rcases hone with ⟨k,hu'⟩|hu'|hu'|⟨e,hu',he,hz⟩<;>rw [hu] at hu'<;>cases hu'
   | _=>rfl
  have:=h2.2.2 0 y v (by rw [hyc];rfl) (by rw [hvc];rfl)
  exact this
 obtain ⟨cs,rfl,hsz,_⟩:∃cs,v=.agg cs∧cs.size=P.cellsOf t∧Row.okWide P W .any b0 t cs:=by
  simp only [Value.okWide,hu] at hok
  exact hok
 cases h1 with
 | struct hu' hn1 hn2 hh =>
  refine .agg _ _ _ (by have:=h2.1;simp only [AV.cells,Value.cells,Array.length_toList] at this;exact this.symm) h2.2.1 (fun i c u a b=>h2.2.2 i c u a (by simpa [Value.cells] using b))
 | int hu'=>rw [hu] at hu';cases hu'
 | bool hu'=>rw [hu] at hu';cases hu'
 | str hu'=>rw [hu] at hu';cases hu'
 | nil hu'=>rw [hu] at hu';cases hu'
 | slice hu'=>rw [hu] at hu';cases hu'

def DReps (P:Program):List TypeId→List (DataW H)→List AV→Prop
 | [],[],[]=>True
 | t::ts,d::ds,y::ys=>DRep P t d y∧DReps P ts ds ys
 | _,_,_=>False

theorem DReps.cons' {t:TypeId} {ts:List TypeId} {ds:List (DataW H)} {ys:List AV} (h:DReps P (t::ts) ds ys):∃d ds' y ys',ds=d::ds'∧ys=y::ys'∧DRep P t d y∧DReps P ts ds' ys':=by
 match ds,ys,h with
 | d::ds',y::ys',⟨h1,h2⟩=>exact ⟨d,ds',y,ys',rfl,rfl,h1,h2⟩
 | [],_,h=>simp [DReps] at h
 | _::_,[],h=>simp [DReps] at h
theorem DReps.nil' {ds:List (DataW H)} {ys:List AV} (h:DReps P [] ds ys):ds=[]∧ys=[]:=by
 match ds,ys,h with
 | [],[],_=>exact ⟨rfl,rfl⟩
 | [],_::_,h=>simp [DReps] at h
 | _::_,_,h=>simp [DReps] at h
theorem eh {T:TypeId→Prop} (PT:PlainT P T) {W:World} {b0:Nat}:∀(ts:List TypeId) (vs:List Value) (ds:List (DataW H)) (ps:List MemPlace),(∀t∈ts,T t) →
  (∀(j:Nat) t v,ts[j]? = some t→vs[j]? = some v→Value.okWide P W .any b0 t v)→DataW.TrodAll enc P W 0 (fun _=>true) true ts vs ds ps →
  ∃ys,DReps P ts ds ys∧ys.length=vs.length∧∀(i:Nat) (y:AV) (u:Value),ys[i]? = some y→vs[i]? = some u→Rep (G0 W) W none y u
 | [],[],[],_,_,_,_=>⟨[],trivial,rfl,fun i y u h=>by simp at h⟩
 | t::ts,v::vs,d::ds,ps,hT,hok,⟨p,q,h1,h2,_⟩=>by
  obtain ⟨y,k1,k2⟩:=AI3 PT (hT t (by simp)) (hok 0 t v rfl rfl) h1
  obtain ⟨ys,k3,k4,k5⟩:=eh PT ts vs ds q (fun t ht=>hT t (by simp [ht])) (fun j t v a b=>hok (j+1) t v a b) h2
  refine ⟨y::ys,⟨k1,k3⟩,by simp [k4],fun i z u a b=>?_⟩
  match i with
  | 0=>simp at a b;subst a;subst b;exact k2
  | i+1=>exact k5 i z u a b
 | [],_::_,_,_,_,_,h=>by simp [DataW.TrodAll] at h
 | [],[],_::_,_,_,_,h=>by simp [DataW.TrodAll] at h
 | _::_,[],_,_,_,_,h=>by simp [DataW.TrodAll] at h
 | _::_,_::_,[],_,_,_,h=>by simp [DataW.TrodAll] at h

theorem Wk {W:World} {sp:Nat→Bool} {hd:Bool}:∀{ts:List TypeId} {vs:List Value} {ds:List (DataW H)} {ps:List MemPlace},DataW.TrodAll enc P W 0 sp hd ts vs ds ps→ds.length=ts.length
 | [],[],[],_,_=>rfl
 | _::_,_::_,_::_,_,⟨_,_,_,h,_⟩=>by rw [B6,B6,Wk h]
 | [],_::_,_,_,h=>by simp [DataW.TrodAll] at h
 | [],[],_::_,_,h=>by simp [DataW.TrodAll] at h
 | _::_,[],_,_,h=>by simp [DataW.TrodAll] at h
 | _::_,_::_,[],_,h=>by simp [DataW.TrodAll] at h
theorem Q4 {W W':World} {sp:Nat→Bool}:∀{ts:List TypeId} {vs:List Value} {ds:List (DataW H)} {ps:List MemPlace},DataW.TrodAll enc P W 0 sp true ts vs ds ps→(∀p∈ps,W.sameAt W' p)→DataW.TrodAll enc P W' 0 sp true ts vs ds ps
 | [],[],[],_,h,_=>h
 | _::_,_::_,_::_,_,⟨p,q,⟨n,hn⟩,h2,e⟩,hs=>⟨p,q,⟨n,DataW.trod_carry n _ _ _ hn (fun x hx=>hs x (by rw [e];exact Xk _ hx))⟩,Q4 h2 (fun x hx=>hs x (by rw [e];exact T8 _ hx)),e⟩
 | [],_::_,_,_,h,_=>by simp [DataW.TrodAll] at h
 | [],[],_::_,_,h,_=>by simp [DataW.TrodAll] at h
 | _::_,[],_,_,h,_=>by simp [DataW.TrodAll] at h
 | _::_,_::_,[],_,h,_=>by simp [DataW.TrodAll] at h

/-- **A law that answers true, for whatever can be read.** -/
theorem zw {f:FuncId} {fn:Func} {s:ChangeSpec} {T:TypeId→Prop} {tb:TypeId} {W:World} {base:Nat} {args:Array Value} {ds gs:List (DataW H)} {before:List MemPlace} (K:Kids P (·<P.types.size)) (hz:∀t e,t<P.types.size→P.underlying t=some (.slice e)→0<P.cellsOf e)
  (PT:PlainT P T) (hT:∀t∈fn.params.toList,T t∧t<P.types.size) (hb:P.underlying tb=some .bool) (hres:fn.resultTypes=#[tb]) (hvars:s.vars=[])
  (hspec:∀ds:List (DataW H),ds.length=fn.params.size→s.fn H ds={ results:=[.lit (.bool true)],args:=ds })
  (hval:∀(j:Nat) t v,fn.params[j]? = some t→args[j]? = some v→Value.okWide P W .any base t v) (hW:DataW.Whole enc P fn.params.toList s.vars false W args.toList ds gs before)
  (hglob:Mk W)
  (main:∀ys:List AV,DReps P fn.params.toList ds ys→AFun P f ys [] (.v (.bool true))) (hbd:GI.bd≤0:=by exact Aj 0):
  Calls P f args W (fun e W'=>∃v,e=.returned v∧s.post enc P fn false true false false W args v W'):=by
 have hW0:=hW
 obtain ⟨p,q,hA,hV,hpq,hfz,hnd⟩:=hW
 rw [hvars] at hV
 obtain ⟨rfl,rfl⟩:=trodVars_none hV
 rw [Ht] at hpq
 subst hpq
 obtain ⟨ys,h1,h2,h3⟩:=eh PT _ _ _ _ (fun t ht=>(hT t ht).1) (fun j t v a b=>hval j t v (by simpa using a) (by simpa using b)) hA
 have hlen:=Wk hA
 have hc:=main ys h1 0 (G0 W) W args (by simpa using h2.symm) (fun i y u a b=>(h3 i y u a (by simpa using b)).lift) (AI1 W) (AI2 hglob)
 refine (callsIn_wide.1 (hc hbd)).mono ?_
 rintro e W' ⟨v,G',r,H',rfl,hr,hH,hTg,hk,hl,rfl,rfl⟩
 have hv:=Ri hr
 subst hv
 refine ⟨_,rfl,ds,[],before,[],before,[],hW0,?_,?_,?_,?_,fun h=>by cases h⟩
 ·rw [hres,Ht,hspec ds (by simpa using hlen)]
  exact trodAll_cons_mk (p:=[]) (shut_bool hb true) trodAll_mk0
 ·rw [Ht,hspec ds (by simpa using hlen)]
  refine Q4 (DataW.TrodAll.respare K hz (fun t ht=>(hT t ht).2) hA (fun p hp=>by simpa using hW0.lt p hp)) (fun p hp=>?_)
  have hlt:=hW0.lt p hp
  have hb:=(hk.old _ (Vi hlt)).1
  cases p with
  | cell b o=>exact Kr hb
  | map b=>exact hb
 ·rw [hvars,Ht,hspec ds (by simpa using hlen)]
  rfl
 refine ⟨hk.os,hk.output,fun i hi=>?_⟩
 have hb:=(hk.old i (Vi hi)).1
 rw [hb]
 cases ho:W.heap[i]? with
 | none=>simp
 | some o=>cases o<;>simp
end
end Go.SX
namespace Go.Proofs.YtejjpdbfdmdgpaaGreatDoor
open Go Go.SX Go.SX.Nb Go.ChangeShapes Go.RowKit
set_option maxRecDepth 100000

theorem own:ownKnob Tryz.prog.godebug=none:=by kernel_rfl
theorem kids:Kids Tryz.prog (·<Tryz.prog.types.size):=kids_rows (by kernel_rfl) (by kernel_rfl)
theorem full:∀t e,t<Tryz.prog.types.size→Tryz.prog.underlying t=some (.slice e)→0<Tryz.prog.cellsOf e:=slices_full_of Tryz.prog (by kernel_rfl)
theorem AEo {H:Type}:∀d:DataW H,1≤Rows.uptoBulk d
 | .lit (.string b)=>by rw [Rows.uptoBulk];omega
 | .lit (.bool _)=>by simp [Rows.uptoBulk]
 | .lit (.int _ _)=>by simp [Rows.uptoBulk]
 | .lit (.float _ _)=>by simp [Rows.uptoBulk]
 | .lit .nil=>by simp [Rows.uptoBulk]
 | .nil=>by simp [Rows.uptoBulk]
 | .ptr d=>by rw [Rows.uptoBulk];omega
 | .slice a b=>by rw [Rows.uptoBulk];omega
 | .agg a=>by rw [Rows.uptoBulk];omega
 | .iface _ d=>by rw [Rows.uptoBulk];omega
 | .map a=>by rw [Rows.uptoBulk];omega
 | .held _=>by simp [Rows.uptoBulk]
theorem Zp {H:Type}:∀l:List (DataW H),l.length≤Rows.uptoBulkAll l∧∀d∈l,Rows.uptoBulk d≤Rows.uptoBulkAll l
 | []=>⟨Nat.zero_le _,fun d h=>by cases h⟩
 | d::r=>by
  obtain ⟨h1,h2⟩:=Zp r
  have:=AEo d
  rw [Rows.uptoBulkAll,List.length_cons]
  refine ⟨by omega,fun x hx=>?_⟩
  rcases List.mem_cons.1 hx with rfl|hx
  ·omega
  have:=h2 x hx;omega
theorem t8 {H:Type}:Bulk (Rows.uptoBulk (H:=H)) where
 str:=fun bs=>by rw [Rows.uptoBulk];omega
 slice:=fun elems spare=>by
  obtain ⟨h1,h2⟩:=Zp elems
  rw [Rows.uptoBulk]
  exact ⟨by omega,fun d hd=>by have:=h2 d hd;omega⟩
 agg:=fun parts d hd=>by
  have:=(Zp parts).2 d hd
  rw [Rows.uptoBulk]
  omega

/-- What the rows of this seat list. -/
def AEp:List (String×DataW Unit):=Rows.imageBackUptoRow.laid
theorem zx:∀u,Tryz.prog.typeName? 3 u=some "*errors.errorString" → u=284:=by
 intro u hu
 exact typeName_ptr_named (nm := "errors.errorString") (by kernel_rfl) (by kernel_rfl) (by decide) u hu
theorem AI4 {W:World} (h:laidMet Tryz.prog AEp W):∃a:Addr,W.var? Tryz.prog "strconv.ErrRange" = some #[.iface 284 (.pointer (some a))]:=by
 have h':=h.tail.tail.tail.tail
 obtain ⟨a,s,h1,_⟩:=laid_sentinel (g:=1) (ti:=203) (tp:=284) (te:=286) (ts:=9) h' (by kernel_rfl) (by kernel_rfl) Tryz.underlying203 zx Tryz.underlying284 Tryz.underlying286 rfl rfl Tryz.underlying9 (by kernel_rfl) (by kernel_rfl)
 exact ⟨a,h1⟩
theorem AI5 {W:World} (h:laidMet Tryz.prog AEp W):Lib.TabIs Tryz.prog W "internal/strconv.uint64pow10" .u64 Lib.pow10Tab:=
 Lib.tabIs_of_head (g:=5) (t:=288) (e:=88) (n:=20) (by kernel_rfl) (by kernel_rfl) (by kernel_rfl) (by kernel_rfl) (by kernel_rfl) (by kernel_rfl) h.tail.tail
theorem ek {P:Program} {W:World} {n:String} {g:Nat} {cs:Array Value} (hg:P.globalNamed n=some g) (h:W.var? P n=some cs):∃t f,W.heap[g]? = some (.cells cs t f):=by
 unfold World.var? at h
 rw [hg] at h
 simp only [Option.bind_some] at h
 split at h
 ·rename_i cs' t f e
  injection h with h
  subst h
  exact ⟨t,f,e⟩
 cases h
theorem glob {W:World} [E:ErrAt] (h:W.ShapedOpen Tryz.prog) (hl:laidMet Tryz.prog AEp W) (he:W.var? Tryz.prog "strconv.ErrRange" = some #[.iface 284 (.pointer (some E.b))]):Mk W:=by
 intro x hx
 have hx':x∈dt:=hx
 unfold dt at hx'
 simp only [List.mem_cons,List.mem_nil_iff,or_false] at hx'
 rcases hx' with rfl|rfl|rfl
 ·obtain ⟨m,hm⟩:=cell_of_shapedOpen_int (g:=0) (t:=3) (zero:=#[.int .i64 0]) (k:=.i64) h (of_decide_eq_true (by kernel_rfl)) (by kernel_rfl) rfl (by kernel_rfl) (by kernel_rfl) Tryz.underlying3
  obtain ⟨cs,hh,hs,_⟩:=h.1 0 #[.int .i64 0] 3 (of_decide_eq_true (by kernel_rfl)) (by kernel_rfl)
  have hs':cs.size=1:=hs
  have h1:0<cs.size:=by omega
  have hc:cs[0]=.int .i64 m:=by
   simp [World.cell?,hh,h1] at hm
   exact hm
  have:cs=#[.int .i64 m]:=by
   apply Array.ext
   ·simpa using hs'
   intro i h1 h2
   have:i=0:=by omega
   subst this
   simpa using hc
  rw [this] at hh
  exact ⟨_,hh,m,3,_,rfl⟩
 ·obtain ⟨t,f,e⟩:=ek (g:=1) (by kernel_rfl) he
  exact ⟨_,e,t,f,rfl⟩
 obtain ⟨t,f,e⟩:=ek (g:=5) (by kernel_rfl) (AI5 hl)
 exact ⟨_,e,t,f,rfl⟩
end Go.Proofs.YtejjpdbfdmdgpaaGreatDoor
namespace Go.SX.Nb
open Go Go.SX Go.Proofs
variable [ErrAt]
set_option maxRecDepth 4000
mutual
def depthE:Expr→Nat
 | .mk _ _ _ k=>Ff k+1
def Ff:List Expr→Nat
  | []=>0
  | e::r=>max (depthE e) (Ff r)
 end
mutual
def Et (p:Expr→Bool):Expr→Bool
 | .mk o t v k=>p (.mk o t v k)&&Jj p k
def Jj (p:Expr→Bool):List Expr→Bool
  | []=>true
  | e::r=>Et p e&&Jj p r
 end
mutual
def Vj:Expr→List Expr
 | .mk o t v k=>.mk o t v k::Vk k
def Vk:List Expr→List Expr
  | []=>[]
  | e::r=>Vj e++Vk r
 end
theorem el (e:Expr):depthE e=Ff e.kids+1:=by cases e;rfl
theorem Jk (p:Expr→Bool) (e:Expr):Et p e=(p e&&Jj p e.kids):=by cases e;rfl
theorem Rm:∀a b,Ff (a++b)=max (Ff a) (Ff b)
 | [],b=>by rw [F5,Ff,Nat.zero_max]
 | e::r,b=>by rw [Fe,Ff,Ff,Rm r b,Nat.max_assoc]
theorem On:∀a b,D7 (a++b)=D7 a+D7 b
 | [],b=>by rw [F5,D7,Bl]
 | e::r,b=>by rw [Fe,D7,D7,On r b,Ll]
theorem Wl (p:Expr→Bool):∀a b,Jj p (a++b)=(Jj p a&&Jj p b)
 | [],b=>by rw [F5,Jj,Dm]
 | e::r,b=>by rw [Fe,Jj,Jj,Wl p r b,Bool.and_assoc]
theorem Wm (l:List Expr) {x:Nat} (h:x<l.length):Ff (l.take (x+1))=max (Ff (l.take x)) (depthE l[x]):=by
 rw [Ip h,Rm,Ff,Ff,Nat.max_zero]
theorem tc (l:List Expr) {x:Nat} (h:x<l.length):D7 (l.take (x+1))=D7 (l.take x)+sizeE l[x]:=by
 rw [Ip h,On,D7,D7,Nat.add_zero]
theorem F3 (p:Expr→Bool):∀l:List Expr,Jj p l=true↔∀y∈l,Et p y=true
 | []=>by simp [Jj]
 | e::r=>by rw [Jj,As,F3 p r];simp
mutual
theorem I2:∀(d:Int) (e:Expr),(C3 d e).length=sizeE e
 | d,.mk o t v k=>by rw [C3,sizeE,B6,Zq (d+1) k,Tb]
theorem Zq:∀(d:Int) (l:List Expr),(Bz d l).length=D7 l
  | d,[]=>rfl
  | d,e::r=>by rw [Bz,D7,Ao,I2 d e,Zq d r]
 end
mutual
theorem Zr:∀(d:Int) (e:Expr),(C3 d e).map (·.2)=Vj e
 | d,.mk o t v k=>by rw [C3,Vj,C5,Zs (d+1) k]
theorem Zs:∀(d:Int) (l:List Expr),(Bz d l).map (·.2)=Vk l
  | d,[]=>rfl
  | d,e::r=>by rw [Bz,Vk,C4,Zr d e,Zs d r]
 end
mutual
theorem en (p:Expr→Bool):∀e:Expr,(Vj e).all p=Et p e
 | .mk o t v k=>by rw [Vj,Et,List.all_cons,Zt p k]
theorem Zt (p:Expr→Bool):∀l:List Expr,(Vk l).all p=Jj p l
  | []=>rfl
  | e::r=>by rw [Vk,Jj,List.all_append,en p e,Zt p r]
 end
theorem zy (p:Expr→Bool) (d:Int) (e:Expr):((C3 d e).all fun it=>p it.2)=Et p e:=by
 rw [←en p e,←Zr d e,List.all_map]
 rfl
def Gt (m:Int) (L:List (Int×Expr)):Int:=L.foldl (fun m it=>max m it.1) m
mutual
theorem Zu:∀(d m:Int) (e:Expr),Gt m (C3 d e)=max m (d-1+depthE e)
 | d,m,.mk o t v k=>by
  rw [C3,depthE]
  show Gt (max m d) (Bz (d+1) k)=_
  rw [Zv (d+1) (max m d) k (by omega)]
  omega
theorem Zv:∀(d m:Int) (l:List Expr),d-1≤m→Gt m (Bz d l)=max m (d-1+Ff l)
  | d,m,[],h=>by
    rw [Bz,Ff]
    show m=_
    omega
  | d,m,e::r,h=>by
    rw [Bz,Ff]
    unfold Gt
    rw [gu]
    show Gt (Gt m (C3 d e)) (Bz d r)=_
    rw [Zu d m e,Zv d _ r (by omega)]
    omega
 end
theorem Wn (e:Expr):Gt 0 (C3 1 e)=depthE e:=by rw [Zu];omega
theorem mw:∀(L:List (Int×Expr)) (m b:Int),m≤b→(Gt m L≤b↔∀it∈L,it.1≤b)
 | [],m,b,h=>by simp [Gt,h]
 | it::r,m,b,h=>by
  show Gt (max m it.1) r≤b↔_
  rcases Decidable.em (it.1≤b) with h1|h1
  ·rw [mw r (max m it.1) b (by omega)]
   simp [h1]
  constructor
  ·intro h2
   have:∀(r:List (Int×Expr)) (m:Int),m≤Gt m r:=by
    intro r
    induction r with
    | nil=>intro m;exact Int.le_refl _
    | cons a r ih=>intro m;have:=ih (max m a.1);show m≤Gt (max m a.1) r;omega
   have:=this r (max m it.1)
   omega
  intro h2
  exact absurd (h2 it (by simp)) h1
theorem AI6 (e:Expr) {b:Nat}:(∀it∈C3 1 e,it.1≤(b:Int))↔depthE e≤b:=by
 rw [←mw (C3 1 e) 0 b (by omega),Wn]
 omega
def Eb (e:Expr):Bool:=(decide (depthE e≤30)&&decide (sizeE e≤300))&&Et E9 e
theorem G5 (e:Expr):Bk e=Eb e:=by
 have hpos:1≤sizeE e:=by rw [Kv];omega
 rw [N9]
 unfold Bk Eb
 rw [B5]
 simp only [As,decide_eq_true_eq,Qm,I2]
 rw [←AI6 e,←zy E9 1 e,B5]
 constructor
 ·intro h
  have key:∀(k:Nat) (hk:k<(C3 1 e).length),E9 (C3 1 e)[k].2=true∧(C3 1 e)[k].1≤30∧(k:Int)+1≤300:=fun k hk=>by
   have:=h k (by rw [I2] at hk;exact hk)
   rw [jf (Aa hk)] at this
   simp only [Jc,Cq,Jw,decide_eq_false_iff_not] at this
   exact ⟨this.1.1,by have:=this.1.2;omega,by have:=this.2;omega⟩
  refine ⟨⟨fun it hit=>?_,?_⟩,fun it hit=>?_⟩
  ·obtain ⟨k,hk,rfl⟩:=Qh hit
   exact (key k hk).2.1
  ·have:=(key (sizeE e-1) (by rw [I2];omega)).2.2
   omega
  obtain ⟨k,hk,rfl⟩:=Qh hit
  exact (key k hk).1
 rintro ⟨⟨h1,h2⟩,h3⟩ k hk
 have hk':k<(C3 1 e).length:=by rw [I2];exact hk
 rw [jf (Aa hk')]
 have a1:=h1 _ (Av hk')
 have a3:=h3 _ (Av hk')
 have a3':E9 (C3 1 e)[k].2=true:=a3
 rw [a3']
 simp only [Jc,Cq,C8,decide_eq_false_iff_not]
 exact ⟨⟨trivial,by have:(C3 1 e)[k].1≤(30:Int):=a1;omega⟩,by omega⟩
/-- Its number is one of 64 bits. -/
def L5 (e:Expr):Bool:=decide (-9223372036854775808≤e.val.n)&&decide (e.val.n≤9223372036854775807)
/-! Names. -/
def named (s:Str) (e:Expr):Bool:=(Vj e).any fun y=>(y.op==2)&&(y.text==s)
mutual
def AMv (s:Str) (y:Expr):Expr→Expr
 | .mk o t v k=>if (o==2)&&(t==s) then y else .mk o t v (AI7 s y k)
def AI7 (s:Str) (y:Expr):List Expr→List Expr
  | []=>[]
  | e::r=>AMv s y e::AI7 s y r
 end
mutual
def eqE:Expr→Expr→Bool
 | .mk o t v k,.mk o' t' v' k'=>((((o==o')&&(t==t'))&&((v.kind==v'.kind&&v.n==v'.n)&&v.s==v'.s)))&&eqL k k'
def eqL:List Expr→List Expr→Bool
  | [],[]=>true
  | e::r,e'::r'=>eqE e e'&&eqL r r'
  | _,_=>false
 end
theorem AEq (x y:Expr):eqE x y=((((x.op==y.op)&&(x.text==y.text))&&((x.val.kind==y.val.kind&&x.val.n==y.val.n)&&x.val.s==y.val.s))&&eqL x.kids y.kids):=by
 cases x;cases y;rw [eqE];rfl
mutual
theorem jk:∀x y:Expr,eqE x y=true↔x=y
 | .mk o t v k,.mk o' t' v' k'=>by
  rw [eqE]
  simp only [As,beq_iff_eq,U0 k k',Expr.mk.injEq]
  constructor
  ·rintro ⟨⟨⟨rfl,rfl⟩,⟨h1,h2⟩,h3⟩,rfl⟩
   refine ⟨rfl,rfl,?_,rfl⟩
   cases v;cases v'
   simp_all
  rintro ⟨rfl,rfl,rfl,rfl⟩
  exact ⟨⟨⟨rfl,rfl⟩,⟨rfl,rfl⟩,rfl⟩,rfl⟩
theorem U0:∀x y:List Expr,eqL x y=true↔x=y
  | [],[]=>by simp [eqL]
  | [],e::r=>by simp [eqL]
  | e::r,[]=>by simp [eqL]
  | e::r,e'::r'=>by rw [eqL,As,jk e e',U0 r r',Us]
 end
theorem AI8:∀{x y:List Expr},eqL x y=true→x.length=y.length:=fun h=>by rw [(U0 _ _).1 h]
theorem AEr (x:Expr):eqE x x=true:=(jk x x).2 rfl
/-! A node by itself, and marks. -/
theorem jl {of:Str} {ws:List Str} (h:of=Q0 ws) (hp:∀w∈ws,(32:UInt8)∉w) (s:Str):Qy s of=(!(s==[])&&ws.contains s):=by
 unfold Qy
 rw [mu]
 cases hb:s.contains 32 with
 | false =>
  have h2:(32:UInt8)∉s:=by simpa using hb
  rw [h,Mn s h2 ws hp,D3,Pc]
  congr 1
  rw [List.contains_eq_any_beq]
  congr 1
  funext w
  rw [N9,beq_iff_eq,beq_iff_eq]
  exact eq_comm
 | true =>
  have h2:(32:UInt8)∈s:=by simpa using hb
  have h3:ws.contains s=false:=by
   rw [Ic]
   intro h4
   exact hp s (by simpa using h4) h2
  rw [h3]
  simp
def levels:List (List Str):=[[[111,114]],[[97,110,100]],[],[[61],[33,61],[60],[60,61],[62],[62,61]],[[43],[45],[38]],[[42],[47],[37]]]
def Dr (s:Str):Int:=match levels.findIdx? (fun l=>l.contains s) with|some i=>i|none => -1
def Vl:List Str:=[[111,114],[],[97,110,100],[],[61],[33,61],[60],[60,61],[62],[62,61],[],[43],[45],[38],[],[42],[47],[37]]
theorem td:Qz=Q0 Vl:=by kernel_rfl
theorem mx:∀w∈Vl,(32:UInt8)∉w:=by decide
theorem tg (s:Str):Qy s Qz=decide (0≤Dr s):=by
 rw [jl td mx s]
 have h1:decide (0≤Dr s)=levels.any (fun l=>l.contains s):=by
  unfold Dr
  cases h:levels.findIdx? (fun l=>l.contains s) with
  | some i =>
   have:levels.any (fun l=>l.contains s)=true:=by
    have:=Jy.1 h
    obtain ⟨hi,hp,_⟩:=this
    exact Jx.2 ⟨_,Av hi,hp⟩
   rw [this]
   simp
  | none =>
   have:=Rw.1 h
   have e:levels.any (fun l=>l.contains s)=false:=by
    rw [M8]
    intro l hl
    rw [this l hl]
    simp
   rw [e]
   rfl
 rw [h1]
 by_cases h0:s=[]
 ·subst h0;rfl
 have:(s==[])=false:=by simpa using h0
 rw [this,D3,Dm]
 simp [levels,Vl,h0,Bool.or_assoc]
def If (e:Expr):Bool:=
 if e.op==1 then ((Cg e.val&&decide (0≤e.val.n))&&(e.text==[]))&&((e.kids.length:Int)==0)
 else if !(Nu e.val) then false
 else if e.op==2 then Nr e.text&&((e.kids.length:Int)==0)
 else if e.op==3 || e.op==4 then (e.text==[])&&((e.kids.length:Int)==1)
 else if e.op==5 then decide (0≤Dr e.text)&&((e.kids.length:Int)==2)
 else if e.op==6 then Cc e.text==(e.kids.length:Int)
 else false
theorem Zw (e:Expr):E9 e=If e:=by
 unfold E9 If
 rw [tg,Gy]
 cases Nu e.val<;>simp
/-! What is wide. -/
def Vm (e:Expr):Bool:=((decide ((100:Int)<e.text.length) || decide ((400:Int)<e.val.s.length)) || decide ((100:Int)<e.kids.length))
/-- Among trees, when n have been seen: is one too much? -/
def Rn (l:List Expr) (n:Nat):Bool:=decide (500<n+l.length) || l.any Vm
def Ig:Nat→List Expr→Nat→Bool
 | 0,l,n => !l.isEmpty
 | f+1,l,n=>if l.isEmpty then false else if Rn l n then true else if decide ((500:Int)<(l.flatMap Expr.kids).length) then true else Ig f (l.flatMap Expr.kids) (n+l.length)
theorem Zx:∀l:List Expr,D7 l=l.length+D7 (l.flatMap Expr.kids)
 | []=>rfl
 | e::r=>by
  rw [D7,Kv,gr,On,Zx r,B6]
  omega
theorem Zy {l:List Expr} {n:Nat} (h:Rn l n=false):n+l.length≤500∧∀e∈l,Vm e=false:=by
 unfold Rn at h
 simp only [Cq,decide_eq_false_iff_not,M8,Uq] at h
 exact ⟨by omega,h.2⟩
theorem jm {e:Expr} (h:Vm e=false):e.text.length≤100∧e.val.s.length≤400∧e.kids.length≤100:=by
 unfold Vm at h
 simp only [Cq,decide_eq_false_iff_not] at h
 omega
theorem eo {f:Nat} {l:List Expr} {n:Nat} (h:Ig (f+1) l n=false) (hl:l.isEmpty=false):Rn l n=false∧(l.flatMap Expr.kids).length≤500∧Ig f (l.flatMap Expr.kids) (n+l.length)=false:=by
 rw [Ig,if_neg (by rw [hl];simp)] at h
 split at h
 ·cases h
 rename_i h1
 split at h
 ·cases h
 rename_i h2
 simp only [decide_eq_true_eq] at h2
 exact ⟨by simpa using h1,by omega,h⟩
theorem vr:∀(f:Nat) (l:List Expr) (n:Nat),Ig f l n=false→∀e∈l,okE f e∧Et (fun y => !Vm y) e=true
 | 0,l,n,h,e,he=>by
  have:l=[]:=by simpa [Ig] using h
  subst this
  cases he
 | f+1,l,n,h,e,he=>by
  have hl:l.isEmpty=false:=by cases l<;>simp_all
  obtain ⟨h1,h2,h3⟩:=eo h hl
  have h4:=jm ((Zy h1).2 e he)
  have ih:=vr f _ _ h3
  have hk:∀y∈e.kids,okE f y∧Et (fun y => !Vm y) y=true:=fun y hy=>ih y (List.mem_flatMap.2 ⟨e,he,hy⟩)
  refine ⟨⟨by omega,by omega,fun y hy=>(hk y hy).1⟩,?_⟩
  rw [Jk,(Zy h1).2 e he,(F3 _ _).2 fun y hy=>(hk y hy).2]
  rfl
theorem ep:∀(f:Nat) (l:List Expr) (n:Nat),n≤500→Ig f l n=false→n+D7 l≤500
 | 0,l,n,hn,h=>by
  have:l=[]:=by simpa [Ig] using h
  subst this
  simpa [D7] using hn
 | f+1,l,n,hn,h=>by
  by_cases hl:l.isEmpty=true
  ·have:l=[]:=by simpa using hl
   subst this
   simpa [D7] using hn
  have hl':l.isEmpty=false:=by simpa using hl
  obtain ⟨h1,h2,h3⟩:=eo h hl'
  have:=ep f _ _ (Zy h1).1 h3
  rw [Zx l]
  omega
def Zz (e:Expr):Bool:=Ig 61 [e] 0
/-- A tree that is gone through. -/
structure Slim (e:Expr):Prop where
 ok:okE 61 e
 size:sizeE e≤500
 slim:Et (fun y => !Vm y) e=true
theorem AI9 {e:Expr} (h:Zz e=false):Slim e:=by
 obtain ⟨h1,h2⟩:=vr _ _ _ h e (by simp)
 have:=ep _ _ _ (by decide) h
 exact ⟨h1,by simpa [D7] using this,h2⟩
end Go.SX.Nb
namespace Go.Proofs.YtejjpdbfdmdgpaaGreatDoor
open Go Go.SX Go.SX.Nb Go.ChangeShapes Go.RowKit
set_option maxRecDepth 100000
theorem th {ys:List AV} (h:∀(i:Nat) (y:AV),ys[i]? = some y→∃e:Nb.Expr,y=Ab e∧Et L5 e=true):∃l:List Nb.Expr,ys=l.map Ab∧Jj L5 l=true:=by
 induction ys with
 | nil=>exact ⟨[],rfl,rfl⟩
 | cons y ys ih =>
  obtain ⟨e,rfl,he⟩:=h 0 y rfl
  obtain ⟨l,rfl,hl⟩:=ih (fun i z hz=>h (i+1) z hz)
  exact ⟨e::l,rfl,by rw [Jj,he,hl];rfl⟩
theorem vt {H:Type} [ErrAt] (d:DataW H) (y:AV) (h:DRep Tryz.prog 42 d y):∃v:Val,y=Bi v ∧ -9223372036854775808≤v.n∧v.n≤9223372036854775807:=by
 obtain ⟨ys,hn,rfl,hh⟩:=h.struct' t8 Tryz.underlying42
 match ys,hn with
 | [y0,y1,y2],_ =>
  obtain ⟨d0,b0,h0⟩:=hh 0 _ y0 rfl rfl
  obtain ⟨d1,b1,h1⟩:=hh 1 _ y1 rfl rfl
  obtain ⟨d2,b2,h2⟩:=hh 2 _ y2 rfl rfl
  obtain ⟨k,rfl,rfl,_⟩:=h0.int' Tryz.underlying3
  obtain ⟨n,rfl,rfl,hn1,hn2⟩:=h1.int' Tryz.underlying2
  obtain ⟨s,rfl,rfl⟩:=h2.str' Tryz.underlying9
  exact ⟨⟨k,n,s⟩,rfl,hn1,hn2⟩
theorem AEs {H:Type} [ErrAt] {t:TypeId} {d:DataW H} {y:AV} (h:DRep Tryz.prog t d y):(t=62→∃e:Nb.Expr,y=Ab e∧Et L5 e=true)∧(t=52→∃l:List Nb.Expr,y=.slice false 6 (l.map Ab)∧Jj L5 l=true):=by
 induction h with
 | int hu _=>exact ⟨fun e=>(by subst e;rw [Tryz.underlying62] at hu;cases hu),fun e=>by subst e;rw [Tryz.underlying52] at hu;cases hu⟩
 | bool hu=>exact ⟨fun e=>(by subst e;rw [Tryz.underlying62] at hu;cases hu),fun e=>by subst e;rw [Tryz.underlying52] at hu;cases hu⟩
 | str hu=>exact ⟨fun e=>(by subst e;rw [Tryz.underlying62] at hu;cases hu),fun e=>by subst e;rw [Tryz.underlying52] at hu;cases hu⟩
 | nil hu =>
  refine ⟨fun e=>(by subst e;rw [Tryz.underlying62] at hu;cases hu),fun e=>?_⟩
  subst e
  rw [Tryz.underlying52] at hu
  injection hu with hu
  injection hu with hu
  subst hu
  exact ⟨[],by rw [show Tryz.prog.cellsOf 62=6 by kernel_rfl];rfl,rfl⟩
 | slice hu hn hh ih =>
  refine ⟨fun e=>(by subst e;rw [Tryz.underlying62] at hu;cases hu),fun e=>?_⟩
  subst e
  rw [Tryz.underlying52] at hu
  injection hu with hu
  injection hu with hu
  subst hu
  rename_i elems spare ys
  obtain ⟨l,rfl,hl⟩:=th (ys:=ys) (fun i y hy=>by
   have hlt:i<elems.length:=by rw [←hn];exact (List.getElem?_eq_some_iff.1 hy).1
   exact (ih i elems[i] y (List.getElem?_eq_getElem hlt) hy).1 rfl)
  exact ⟨l,by rw [show Tryz.prog.cellsOf 62=6 by kernel_rfl],hl⟩
 | struct hu hn hn' hh ih =>
  refine ⟨fun e=>?_,fun e=>by subst e;rw [Tryz.underlying52] at hu;cases hu⟩
  subst e
  rw [Tryz.underlying62] at hu
  injection hu with hu
  injection hu with hu
  subst hu
  rename_i parts ys
  match parts,hn,ys,hn' with
  | [p0,p1,p2,p3],_,[y0,y1,y2,y3],_ =>
   obtain ⟨o,rfl,rfl,_⟩:=(hh 0 _ p0 y0 rfl rfl rfl).int' Tryz.underlying3
   obtain ⟨s,rfl,rfl⟩:=(hh 1 _ p1 y1 rfl rfl rfl).str' Tryz.underlying9
   obtain ⟨v,rfl,hv1,hv2⟩:=vt p2 y2 (hh 2 _ p2 y2 rfl rfl rfl)
   obtain ⟨l,rfl,hl⟩:=(ih 3 _ p3 y3 rfl rfl rfl).2 rfl
   refine ⟨.mk o s v l,?_,?_⟩
   ·rw [Ax];rfl
   rw [Et,hl,Bool.and_true]
   show (decide (-9223372036854775808≤v.n)&&decide (v.n≤9223372036854775807))=true
   simp [hv1,hv2]
end Go.Proofs.YtejjpdbfdmdgpaaGreatDoor
namespace Go.SX.Nb
open Go Go.SX Go.Proofs
variable [ErrAt]
set_option maxRecDepth 4000
/-- The lexer from a place between two words on. -/
def ATa (f q:Nat) (s:Str):List (Tok×Int):=K6 f (q+gapM s) (s.drop (gapM s))
theorem my {f q:Nat} {s:Str} (h:s≠[]):∃(n:Nat),K6 (f+1) q s=(⟨(Cz s).1,(Cz s).2.1,q⟩,(Cz s).2.2.2)::(if (Cz s).2.2.2=0 then ATa f (q+n) (s.drop n) else [])∧((Cz s).2.2.2=0→(Cz s).2.2.1=(n:Int)∧1≤n∧n≤s.length):=by
 refine ⟨(Cz s).2.2.1.toNat,?_,fun he=>?_⟩
 ·rw [Pz h]
  simp only [beq_iff_eq]
  rfl
 obtain ⟨n,h1,h2,h3⟩:=vp (s:=s) (by cases s with|nil=>exact absurd rfl h|cons c r=>simp) he
 rw [h1]
 exact ⟨rfl,by simpa using h2,by simpa using h3⟩
/-! ### Gaps -/
/-! ### Words -/
theorem AIa {s:Str} (h:(I7 s).2.1=0):s.length≤4000∧(∀it∈Cw s,it.2=0)∧I7 s=((Cw s).map (·.1)++[⟨0,[],s.length⟩],0,0):=by
 unfold I7 at h ⊢
 split at h
 ·exact absurd h (show ¬(3:Int)=0 by decide)
 rename_i hl
 rw [if_neg hl]
 cases hf:(Cw s).find? (fun it=>it.2 != 0) with
 | some it =>
  rw [hf] at h
  have:=gq hf
  simp at this
  exact absurd h this
 | none =>
  rw [Na] at hf
  refine ⟨by omega,fun it hit=>by simpa using hf it hit,rfl⟩
def zz (c:UInt8):Str:=if c=39 then [39,39] else [c]
def U1 (t:Str):Str:=t.flatMap zz
theorem Vn (c:UInt8) (r:Str):U1 (c::r)=zz c++U1 r:=by unfold U1;rw [gr]
theorem vu:∀s:Str,(Lib.index s [39] = -1∧U1 s=s)∨∃i:Nat,Lib.index s [39]=(i:Int)∧i<s.length∧U1 s=s.take i++[39,39]++U1 (s.drop (i+1))
 | []=>.inl ⟨rfl,rfl⟩
 | b::l=>by
  by_cases hb:b=39
  ·subst hb
   refine .inr ⟨0,by simp [Lib.index,List.isPrefixOf],by simp,?_⟩
   rw [Vn]
   simp [zz]
  have hp:([39]:Str).isPrefixOf (b::l)=false:=by
   simp [List.isPrefixOf,Ne.symm hb]
  have hd:U1 (b::l)=b::U1 l:=by
   rw [Vn,zz,if_neg hb]
   rfl
  rcases vu l with ⟨h1,h2⟩|⟨i,h1,h2,h3⟩
  ·refine .inl ⟨?_,by rw [hd,h2]⟩
   rw [Lib.index,hp,h1];rfl
  refine .inr ⟨i+1,?_,by simp;omega,?_⟩
  ·rw [Lib.index,hp,h1,if_neg (by simp),if_neg (by simp)]
   rfl
  rw [hd,h3]
  simp
theorem U3:∀(n:Nat) (s:Str),s.length≤n→Lib.replaceK [39] [39,39] (Lib.count s [39]) s=U1 s
 | n,s,hn=>by
  rcases vu s with ⟨h1,h2⟩|⟨i,h1,h2,h3⟩
  ·rw [Lib.count_miss h1,h2];rfl
  cases n with
  | zero=>omega
  | succ n =>
   rw [Lib.count_hit (by decide) h1,Tb,Lib.replaceK_hit _ _ _ _ i h1]
   have e:i+([39]:Str).length=i+1:=rfl
   rw [e,U3 n (s.drop (i+1)) (by rw [Fh];omega),h3]
theorem mz (s:Str):Lib.replaceAll s [39] [39,39]=U1 s:=by
 unfold Lib.replaceAll Lib.replace
 rw [if_neg (by decide)]
 have e:Lib.replaceNum s [39] (-1)=Lib.count s [39]:=by unfold Lib.replaceNum;rw [if_pos (.inl (by decide))]
 rw [e]
 exact U3 _ s (Aj _)
def vw (t:Tok):Str:=if t.kind=4 then [39]++U1 t.text++[39] else t.text
theorem tj {q:Str} (h0:q.headD 0=39) (h1:1≤q.length) (h:(Ji q).2=0):[39]++U1 (Ji q).1.s++[39]=q:=by
 cases q with
 | nil=>simp at h1
 | cons c r =>
  have hc:c=39:=h0
  subst hc
  unfold Ji at h ⊢
  have n1:((39::r:Str)==[110,117,108,108])=false:=by rw [beq_eq_false_iff_ne];intro e;injection e with e;exact absurd e (by decide)
  have n2:((39::r:Str)==[116,114,117,101])=false:=by rw [beq_eq_false_iff_ne];intro e;injection e with e;exact absurd e (by decide)
  have n3:((39::r:Str)==[102,97,108,115,101])=false:=by rw [beq_eq_false_iff_ne];intro e;injection e with e;exact absurd e (by decide)
  rw [n1,n2,n3] at h ⊢
  simp only [Ag,if_false,Bool.or_self] at h ⊢
  by_cases hq:dx (39::r)=true
  ·rw [if_pos hq] at h ⊢
   unfold mh at h ⊢
   split at h
   ·exact absurd h (show ¬(7:Int)=0 by decide)
   rename_i hp
   rw [if_neg hp]
   have hp':L4 (Z5 (39::r))=39::r:=by simpa using hp
   have hk:(Z5 (39::r)).kind=2:=rfl
   show [39]++U1 (Z5 (39::r)).s++[39]=39::r
   generalize Z5 (39::r)=v at hp' hk
   have hne:L4 v≠[]:=by rw [hp'];simp
   rw [←hp']
   unfold L4 at hne ⊢
   split at hne
   ·exact absurd rfl hne
   rename_i hpl
   rw [if_neg hpl,hk,if_neg (by decide),if_pos (by decide),mz]
  rw [if_neg hq] at h
  have hd:I0 (39::r)=true:=by
   unfold I0
   have e:Np (39::r)=39::r:=by
    rcases Ku (39::r) with ⟨_,h4⟩|⟨r',h3,_⟩
    ·exact h4
    injection h3 with h3;exact absurd h3 (by decide)
   rw [e]
   have:(Lib.trimS (39::r) digs==[])=false:=by
    rw [beq_eq_false_iff_ne]
    intro e
    rw [trimS_nil] at e
    exact absurd (e 39 (by simp)) (by decide)
   rw [this]
   simp
  have hn:Bv (39::r)=(0,6):=by unfold Bv;rw [if_pos hd]
  rw [hn] at h
  simp at h
theorem d8 (s:Str) (m:Nat):s.take (s.take m).length=s.take m:=by
 rw [Bx]
 rcases Nat.le_total m s.length with h|h
 ·rw [ve h]
 rw [Nat.min_eq_right h,D9 (Aj _),D9 h]
theorem Q5 (s of:Str):s.take (Ek s of).length=Ek s of:=by
 unfold Ek
 exact d8 s _
/-- What a word's print spells is what was read. -/
theorem tm {s:Str} {n p:Nat} (h0:1≤s.length) (he:(Cz s).2.2.2=0) (hn:(Cz s).2.2.1=(n:Int)):vw ⟨(Cz s).1,(Cz s).2.1,p⟩=s.take n:=by
 cases s with
 | nil=>simp at h0
 | cons c r =>
  unfold Cz at he hn ⊢
  by_cases c1:decide (0<Tv ((c::r).take 1) letters)=true
  ·rw [if_pos c1] at he hn
   simp only [if_pos c1]
   unfold Si at he hn ⊢
   by_cases r1:I6 (Ek (c::r) tails)=true
   ·rw [if_pos r1] at hn
    simp only [if_pos r1]
    have hn':(((Ek (c::r) tails).length:Nat):Int)=n:=hn
    have e:n=(Ek (c::r) tails).length:=by omega
    rw [e,Q5]
    rfl
   rw [if_neg r1] at he hn
   simp only [if_neg r1]
   by_cases r2:(!Dg (Ek (c::r) tails))=true
   ·rw [if_pos r2] at he;exact absurd he (show ¬(3:Int)=0 by decide)
   rw [if_neg r2] at hn
   simp only [if_neg r2]
   have hn':(((Ek (c::r) tails).length:Nat):Int)=n:=hn
   have e:n=(Ek (c::r) tails).length:=by omega
   rw [e,Q5]
   rfl
  rw [if_neg c1] at he hn
  simp only [if_neg c1]
  by_cases c2:decide (0<Tv ((c::r).take 1) digs)=true
  ·rw [if_pos c2] at he hn
   simp only [if_pos c2]
   have hn':(((Ek (c::r) digs).length:Nat):Int)=n:=hn
   have e:n=(Ek (c::r) digs).length:=by omega
   rw [e,Q5]
   rfl
  rw [if_neg c2] at he hn
  simp only [if_neg c2]
  by_cases c3:(((((c::r)).getD 0 0).toNat:Int)==39)=true
  ·rw [if_pos c3] at he hn
   simp only [if_pos c3]
   have hc:c=39:=by
    have c3':((c.toNat:Int)==39)=true:=c3
    exact Lo.1 (by have:(39:UInt8).toNat=39:=rfl;simp at c3';omega)
   unfold N5 at he hn ⊢
   cases hq:E3 ((c::r).drop 1) with
   | none=>rw [hq] at he;exact absurd he (show ¬(7:Int)=0 by decide)
   | some m =>
    rw [hq] at he hn
    simp only at he hn ⊢
    split at he
    ·exact absurd he (show ¬(3:Int)=0 by decide)
    rename_i hr
    rw [if_neg hr] at hn
    simp only [if_neg hr]
    have hm':(((m+1:Nat)):Int)=n:=hn
    have hm:n=m+1:=by omega
    subst hm
    have hr':(Ji ((c::r).take (m+1))).2=0:=by simpa using hr
    have:=tj (q:=(c::r).take (m+1)) (by rw [hc];rfl) (by simp) hr'
    unfold vw
    rw [if_pos rfl]
    exact this
  rw [if_neg c3] at he hn
  simp only [if_neg c3]
  unfold Zd at he hn ⊢
  split at hn
  ·rename_i h2
   simp only [if_pos h2]
   have hn':(2:Int)=n:=hn
   have:n=2:=by omega
   subst this
   rfl
  rename_i h2
  rw [if_neg h2] at he
  simp only [if_neg h2]
  split at hn
  ·rename_i h3
   simp only [if_pos h3]
   have hn':(1:Int)=n:=hn
   have:n=1:=by omega
   subst this
   rfl
  rename_i h3
  rw [if_neg h3] at he
  exact absurd he (show ¬(7:Int)=0 by decide)
/-! What is printed of columns, word by word. -/
structure ColOk (x:Col):Prop where
 name:Dg x.name=true
 lo:1≤x.kind
 hi:x.kind≤3
def ktT (t:Tok):Int×Str:=(t.kind,t.text)
def Wo (s:Str):Int:=if Ci 1==s then 1 else if Ci 2==s then 2 else if Ci 3==s then 3 else 0
structure KindUpto (s:Str) (x:Nat):Prop where
 le:x≤3
 a:1≤x→(Ci 1==s)=false
 b:2≤x→(Ci 2==s)=false
 c:3≤x→(Ci 3==s)=false
theorem AIb {s:Str} {x:Nat} (h:KindUpto s x) (hx:x<3) (e:(Ci ((x:Int)+1)==s)=true):Wo s=(x:Int)+1:=by
 have h3:x=0∨x=1∨x=2:=by omega
 unfold Wo
 rcases h3 with rfl|rfl|rfl
 ·have e:(Ci 1==s)=true:=e
  rw [if_pos e];rfl
 ·have e:(Ci 2==s)=true:=e
  rw [if_neg (by rw [h.a (by omega)];simp),if_pos e];rfl
 have e:(Ci 3==s)=true:=e
 rw [if_neg (by rw [h.a (by omega)];simp),if_neg (by rw [h.b (by omega)];simp),if_pos e];rfl
theorem AIc {s:Str} {x:Nat} (h:KindUpto s x) (hx:x<3) (e:(Ci ((x:Int)+1)==s)=false):KindUpto s (x+1):=by
 have h3:x=0∨x=1∨x=2:=by omega
 rcases h3 with rfl|rfl|rfl
 ·exact ⟨by omega,fun _=>e,fun h=>by omega,fun h=>by omega⟩
 ·exact ⟨by omega,fun _=>h.a (by omega),fun _=>e,fun h=>by omega⟩
 exact ⟨by omega,fun _=>h.a (by omega),fun _=>h.b (by omega),fun _=>e⟩
theorem AId {s:Str} {x:Nat} (h:KindUpto s x) (hx:3≤x):Wo s=0:=by
 unfold Wo
 rw [if_neg (by rw [h.a (by omega)];simp),if_neg (by rw [h.b (by omega)];simp),if_neg (by rw [h.c (by omega)];simp)]
theorem ATb (s:Str) (Hp:List AObj):AFun Tryz.prog 186 [Af s] Hp (A5 (Wo s)):=by
 refine Ah [.tmp 2] [0] Tryz.func186 Tryz.ntmps186 (fun d=>?_)
 refine rr ?_;refine Oj ?_
 refine Az (α:=Nat) (fun x=>⟨13,A6 0 (Af s) (A6 3 (A5 ((x:Nat)+1)) (fun _=>.any)),Hp,[],[],none⟩) (fun x=>KindUpto s x) (fun x=>3-x) (0) ⟨by omega,fun h=>by omega,fun h=>by omega,fun h=>by omega⟩ (F6 _) rfl (fun x hx=>?_)
 refine Z8 ?_;refine A2 [0,3,5] ?_
 refine A3 (fun ht5=>?_) (fun ht5=>?_)
 ·have hx3:x<3:=by simp at ht5;omega
  refine rq ?_;refine A9 Tryz.call60 (c60 _ _) ?_;refine Z0 ?_;refine A2 [0,3,11] ?_
  refine A3 (fun ht11=>?_) (fun ht11=>?_)
  ·refine j5 ?_;refine Z73 ?_;exact A8 (Ae A7) ⟨by rw [AIb hx hx3 (by simpa using ht11)],rfl⟩
  refine re ?_;exact Ay (x+1) (AIc hx hx3 (by simpa using ht11)) (by omega) (Bh (by simp))
 have hx3:3≤x:=by simp at ht5;omega
 refine m9 ?_;exact A8 (Ae A7) ⟨by rw [AId hx hx3],rfl⟩

theorem wrap_u64 {n:Int} (h1:0≤n) (h2:n<18446744073709551616):IntKind.u64.wrap n=n:=by
 have e1:(2 ^ IntKind.u64.bits:Int)=18446744073709551616:=rfl
 have e3:IntKind.u64.signed=false:=rfl
 unfold IntKind.wrap
 simp only [e1,e3,Ey]
 simp
 omega
theorem vz:∀t:Str,t.length≤(U1 t).length
 | []=>Aj _
 | c::r=>by
  have:=vz r
  rw [Vn,Ao,B6]
  have h:1≤(zz c).length:=by unfold zz;split<;>simp
  omega
theorem AIe (t:Tok):t.text.length≤(vw t).length:=by
 unfold vw
 split
 ·have:=vz t.text
  simp only [Ao,B6,Bw]
  omega
 exact Aj _
/-- Words with an end. -/
structure TokEnd (l:List Tok):Prop where
 split:∃L z,l=L++[z]∧z.kind=0∧∀t∈L,t.kind≠0
 texts:∀t∈l,t.text.length≤1048576
theorem TokEnd.pos {l:List Tok} (h:TokEnd l):1≤l.length:=by
 obtain ⟨L,z,rfl,_,_⟩:=h.split
 simp
theorem TokEnd.text {l:List Tok} (h:TokEnd l) (i:Nat):(Aq l i).text.length≤1048576:=by
 unfold Aq
 rcases Be i l.length with hi|hi
 ·rw [D4,Aa hi]
  exact h.texts _ (Av hi)
 rw [D4,G9 hi]
 exact ru
theorem AIf (s:Str) (he:(Cz s).2.2.2=0):(Cz s).1≠0:=by
 revert he
 unfold Cz Si je N5 Zd
 repeat' split
 all_goals simp
theorem n5:∀(f q:Nat) (s:Str),(∀it∈K6 f q s,it.2=0)→∀it∈K6 f q s,it.1.kind≠0∧it.1.text.length≤s.length
 | 0,_,_,_,it,hm=>by cases hm
 | f+1,q,s,h,it,hm=>by
  by_cases hs:s=[]
  ·subst hs;cases hm
  obtain ⟨n,h1,h2⟩:=my (f:=f) (q:=q) hs
  rw [h1] at hm h
  have h0:(Cz s).2.2.2=0:=h (⟨(Cz s).1,(Cz s).2.1,q⟩,(Cz s).2.2.2) (Lj ..)
  obtain ⟨hn,hn1,hn2⟩:=h2 h0
  rw [if_pos h0] at hm h
  rcases Bu.1 hm with rfl|hm
  ·refine ⟨AIf s h0,?_⟩
   have hs1:1≤s.length:=by cases s with|nil=>exact absurd rfl hs|cons c r=>simp
   have:=tm (p:=q) hs1 h0 hn
   have h3:=AIe ⟨(Cz s).1,(Cz s).2.1,q⟩
   rw [this] at h3
   simp only [Bx] at h3
   show (Cz s).2.1.length≤s.length
   omega
  have:=n5 f _ _ (fun it hit=>h it (Qj _ hit)) it hm
  simp only [Fh] at this
  exact ⟨this.1,by omega⟩
theorem AIg {s:Str} (h:(I7 s).2.1=0):TokEnd (I7 s).1:=by
 by_cases h4:4000<s.length
 ·unfold I7 at h
  rw [if_pos h4] at h
  exact ADn
 have e:I7 s=((Cw s).map (·.1)++[⟨0,[],s.length⟩],0,0)∧∀it∈Cw s,it.2=0:=by
  unfold I7 at h ⊢
  rw [if_neg h4] at h ⊢
  cases hf:(Cw s).find? (fun it=>it.2 != 0) with
  | none =>
   rw [Na] at hf
   exact ⟨rfl,fun it hit=>by simpa using hf it hit⟩
  | some it =>
   rw [hf] at h
   have:=gq hf
   simp only [bne_iff_ne] at this
   exact absurd h this
 obtain ⟨e,hz⟩:=e
 have hnz:=n5 _ _ _ hz
 rw [e]
 refine ⟨⟨_,_,rfl,rfl,fun t ht=>?_⟩,fun t ht=>?_⟩
 ·obtain ⟨it,hit,rfl⟩:=D6.1 ht
  exact (hnz it hit).1
 rcases Eo.1 ht with ht|ht
 ·obtain ⟨it,hit,rfl⟩:=D6.1 ht
  have:=(hnz it hit).2
  simp only [Fh] at this
  omega
 have e:t=⟨0,[],s.length⟩:=by simpa using ht
 subst e
 exact ru
/-! What is printed of a schema is read. -/
/-- What goes together: names of their own. -/
theorem AEt {c:List Col} (h:H5 c=true):(∀y∈c,ColOk y)∧(c.map (·.name)).Nodup:=by
 rw [colsM_true] at h
 have hat:∀(j:Nat) (y:Col),c[j]? = some y→Nr y.name=true∧1≤y.kind∧y.kind≤3∧Bn y.name c=(j:Int):=by
  intro j y hj
  have:=h j y hj
  unfold Tu at this
  simp only [Jc,Cq,Jw,decide_eq_false_iff_not,bne_eq_false_iff_eq] at this
  obtain ⟨⟨⟨h1,h2⟩,h3⟩,h4⟩:=this
  exact ⟨h1,by omega,by omega,h4⟩
 refine ⟨fun y hy=>?_,?_⟩
 ·obtain ⟨j,hj⟩:=Cf hy
  obtain ⟨h1,h2,h3,_⟩:=hat j y hj
  exact ⟨by rw [Gy];exact h1,h2,h3⟩
 show List.Pairwise _ _
 rw [Xm]
 intro i j hi hj hij e
 simp only [Am] at hi hj
 simp only [Li] at e
 have e1:=(hat i c[i] (Aa hi)).2.2.2
 have e2:=(hat j c[j] (Aa hj)).2.2.2
 rw [e] at e1
 omega
theorem n6 {c:List Col} (h:Zm c=true):c.length≤12∧(∀y∈c,ColOk y)∧(c.map (·.name)).Nodup:=by
 rw [Nw] at h
 unfold D8 at h
 rw [As] at h
 obtain ⟨h1,h2⟩:=h
 have:=of_decide_eq_true h1
 exact ⟨by omega,AEt h2⟩
theorem ATc (c:List Col) (Hp:List AObj):AFun Tryz.prog 19 [An c] Hp (B4 (J6 c)):=by
 refine Ah [.tmp 2] [0] Tryz.func19 Tryz.ntmps19 (fun d=>?_)
 refine j4 ?_;refine A2 [0,6] ?_
 refine A3 (fun ht6=>?_) (fun ht6=>?_)
 ·refine Z28 ?_;refine F8 ?_;exact A8 (Ae A7) ⟨by simp [J6] at ht6 ⊢;omega,rfl⟩
 refine yt ?_
 refine Az (α:=Nat) (fun x=>⟨20,A6 0 (An c) (A6 3 (A5 (x:Nat)) (fun _=>.any)),Hp,[],[],none⟩) (fun x=>x≤c.length∧∀(j:Nat) (y:Col),j<x→c[j]? = some y→decide ((100:Int)<y.name.length)=false) (fun x=>c.length-x) (0) (by simp) (F6 _) rfl (fun x hx=>?_)
 refine AHh ?_
 refine A3 (fun ht10=>?_) (fun ht10=>?_)
 ·have hlt:x<c.length:=by simpa using ht10
  have hcl:c.length≤50:=by simp at ht6;omega
  refine Se ?_
  refine A4 (h:=Ac (x) (Bj c[x]) (fun _=>Aw hlt)) (hr:=?_)
  refine Z70 ?_;refine A2 [0,3,19] ?_
  refine A3 (fun ht19=>?_) (fun ht19=>?_)
  ·refine cm ?_;exact A8 (Ae A7) ⟨by rw [show J6 c=true from by unfold J6;rw [AE4 (p:=fun y:Col=>decide ((100:Int)<y.name.length)) hlt ht19,Fp]],rfl⟩
  refine re ?_;exact Ay (x+1) ⟨hlt,C1 hlt hx.2 ht19⟩ (by omega) (Bh rfl)
 refine m9 ?_;exact A8 (Ae A7) ⟨by rw [show J6 c=false from by unfold J6;rw [me (Ml (by simp at ht10;omega) hx.2)];simpa using ht6],rfl⟩
theorem w4 {c:List Col} (h:J6 c=false):OkCols c:=by
 unfold J6 at h
 simp only [Cq,decide_eq_false_iff_not,M8,decide_eq_true_eq] at h
 refine ⟨by omega,fun y hy=>?_⟩
 have:=h.2 y hy
 omega
def H6 {α:Type} [BEq α] (v:α) (l:List α):Int:=match l.findIdx? (·==v) with|some i=>i|none => -1
theorem tq {α:Type} [BEq α] [LawfulBEq α] {v:α} {l:List α} {x:Nat} (h:x<l.length) (h1:l[x]=v) (h2:∀(j:Nat) (y:α),j<x→l[j]? = some y→¬(y=v)):H6 v l=x:=by
 have:l.findIdx? (·==v)=some x:=by
  rw [Jy]
  exact ⟨h,by simpa using h1,fun j hj=>by simpa using h2 j l[j] hj (Aa _)⟩
 simp [H6,this]
theorem AEu {α:Type} [BEq α] [LawfulBEq α] {v:α} {l:List α} (h:∀(j:Nat) (y:α),l[j]? = some y→¬(y=v)):H6 v l = -1:=by
 have:l.findIdx? (·==v)=none:=by
  rw [Rw]
  intro y hy
  obtain ⟨j,hj⟩:=Cf hy
  simpa using h j y hj
 simp [H6,this]
theorem jn {α:Type} [BEq α] [LawfulBEq α] (v:α) (l:List α):decide (0≤H6 v l)=l.contains v:=by
 unfold H6
 cases h:l.findIdx? (·==v) with
 | none =>
  rw [Rw] at h
  have:l.contains v=false:=by
   rw [Ic]
   intro hc
   have:=h v (by simpa using hc)
   simp at this
  rw [this];rfl
 | some i =>
  rw [Jy] at h
  obtain ⟨hi,e,_⟩:=h
  have:l.contains v=true:=by
   have:l[i]=v:=by simpa using e
   rw [←this]
   simp
  rw [this]
  simp only [decide_eq_true_eq]
  omega
theorem c45 (l:List Str) (v:Str) (hl:l.length≤1048576) (Hp:List AObj):AFun Tryz.prog 45 [Gg l,Af v] Hp (A5 (H6 v l)):=by
 refine Ah [.tmp 4] [0,1] Tryz.func45 Tryz.ntmps45 (fun d=>?_)
 refine Z61 ?_;refine AD9 ?_
 refine Az (α:=Nat) (fun x=>⟨19,A6 0 (Gg l) (A6 1 (Af v) (A6 7 (A5 l.length) (A6 8 (A5 (x:Nat)) (fun _=>.any)))),Hp,[],[],none⟩) (fun x=>x≤l.length∧∀(j:Nat) (y:Str),j<x→l[j]? = some y→¬(y=v)) (fun x=>l.length-x) (0) (by simp) (B2 (by simp)) rfl (fun x hx=>?_)
 refine AD7 ?_
 refine Ej (fun ht9=>?_) (fun ht9=>?_)
 ·have hlt:x<l.length:=by simpa using ht9
  refine Z18 ?_;refine Z1 ?_;refine AD5 ?_
  refine A4 (h:=Ac (x) (Af l[x]) (fun _=>Aw hlt)) (hr:=?_)
  refine Z0 ?_;refine ADm ?_
  refine A3 (fun ht16=>?_) (fun ht16=>?_)
  ·refine yz ?_;refine Tp ?_;exact A8 (Ae A7) ⟨by rw [tq hlt (by simpa using (Eq.symm (by simpa using ht16):l[x]=v)) hx.2],rfl⟩
  refine Nm ?_;refine A2 [0,1,7,8] ?_;exact Ay (x+1) ⟨hlt,C1 hlt hx.2 (fun e=>by rw [e] at ht16;simp at ht16)⟩ (by omega) (Bh rfl)
 refine Ts ?_;refine Z39 ?_;exact A8 (Ae A7) ⟨by rw [AEu (Ml (by simp at ht9;omega) hx.2)],rfl⟩

theorem c61 (l:List Str) (v:Str) (hl:l.length≤1048576) (Hp:List AObj):AFun Tryz.prog 61 [Gg l,Af v] Hp (B4 (l.contains v)):=by
 refine Ah [.tmp 4] [0,1] Tryz.func61 Tryz.ntmps61 (fun d=>?_)
 refine Z61 ?_;refine Z1 ?_;refine A9 Tryz.call45 (c45 l v hl _) ?_;refine Z0 ?_;refine Z39 ?_;exact A8 (Ae A7) ⟨by rw [jn],rfl⟩

theorem AA0 {n k:Nat} {o:Bool} {l:List Col} {z:Col}:Low n (.slice o k (l.map Bj++[Bj z])):=by
 refine .slice _ _ _ (fun y hy=>?_)
 have key:∀c:Col,∀w∈(Bj c).cells,Low n w:=by
  intro c w hw
  have hw':w∈[AV.v (sv c.name),AV.v (.int .i64 c.kind)]:=hw
  simp only [Bu,I3,or_false] at hw'
  rcases hw' with rfl|rfl
  ·exact .v _
  exact .v _
 rcases Eo.1 hy with hy|hy
 ·obtain ⟨a,_,rfl⟩:=D6.1 hy
  exact key a
 rw [Bs.1 hy]
 exact key z
def I8 (c:List Col) (take:List Str) (j:Nat) (nm:Str):Bool := !(decide (Bn nm c<0) || (H6 nm take != (j:Int)))
def Gz (c:List Col) (take:List Str):Bool:=take.zipIdx.all fun x=>I8 c take x.2 x.1
theorem takenM_true {c:List Col} {take:List Str}:Gz c take=true↔∀(j:Nat) (y:Str),take[j]? = some y→I8 c take j y=true:=Sg
def Jl (c:List Col) (x:Nat) (y:Col):Bool := !((!Nr y.name) || (Bn y.name c != (x:Int)))
def J2 (c:List Col):Bool:=c.zipIdx.all fun x=>Jl c x.2 x.1
theorem namedC_true {c:List Col}:J2 c=true↔∀(j:Nat) (y:Col),c[j]? = some y→Jl c j y=true:=Sg
def Ch (c:List Col) (take:List Str):List Col:=c.filter fun y => !take.contains y.name
theorem w5 {c:List Col} {take:List Str} {k:Nat} {y:Col} (h:c[k]? = some y) (hn:take.contains y.name=false):Ch (c.take (k+1)) take=Ch (c.take k) take++[y]:=by
 unfold Ch
 have e:c.take (k+1)=c.take k++[y]:=by rw [Xn,h];rfl
 have hm:¬y.name∈take:=by simpa using hn
 rw [e,gn]
 simp [Pe,hm]
theorem er {c:List Col} {take:List Str} {k:Nat} {y:Col} (h:c[k]? = some y) (hn:take.contains y.name=true):Ch (c.take (k+1)) take=Ch (c.take k) take:=by
 unfold Ch
 have e:c.take (k+1)=c.take k++[y]:=by rw [Xn,h];rfl
 have hm:y.name∈take:=by simpa using hn
 rw [e,gn]
 simp [Pe,hm]
theorem Ih (c:List Col) (take:List Str):(Ch c take).length≤c.length:=uz _ _
def D5 (c:List Col) (take:List Str) (give:List Col):List Col×Int:=
 if D8 c=false then ([],1) else if Gz c take=false then ([],9) else if J2 (Ch c take++give)=false then ([],9)
 else if H5 (Ch c take++give)=false then ([],10) else if 12<(Ch c take++give).length then ([],3) else (Ch c take++give,0)
theorem AEv {c:List Col} {take:List Str} {give:List Col} (h:D8 c=false):D5 c take give=([],1):=by unfold D5;rw [if_pos h]
theorem tr {c:List Col} {take:List Str} {give:List Col} (h:D8 c=true) (h2:Gz c take=false):D5 c take give=([],9):=by unfold D5;rw [if_neg (by rw [h];simp),if_pos h2]
theorem tt {c:List Col} {take:List Str} {give out:List Col} (h:D8 c=true) (h2:Gz c take=true) (ho:Ch c take++give=out) (h3:J2 out=false):D5 c take give=([],9):=by
 unfold D5;rw [ho,if_neg (by rw [h];simp),if_neg (by rw [h2];simp),if_pos h3]
theorem tw {c:List Col} {take:List Str} {give out:List Col} (h:D8 c=true) (h2:Gz c take=true) (ho:Ch c take++give=out) (h3:J2 out=true) (h4:H5 out=false):D5 c take give=([],10):=by
 unfold D5;rw [ho,if_neg (by rw [h];simp),if_neg (by rw [h2];simp),if_neg (by rw [h3];simp),if_pos h4]
theorem tx {c:List Col} {take:List Str} {give out:List Col} (h:D8 c=true) (h2:Gz c take=true) (ho:Ch c take++give=out) (h3:J2 out=true) (h4:H5 out=true) (h5:12<out.length):D5 c take give=([],3):=by
 unfold D5;rw [ho,if_neg (by rw [h];simp),if_neg (by rw [h2];simp),if_neg (by rw [h3];simp),if_neg (by rw [h4];simp),if_pos h5]
theorem tz {c:List Col} {take:List Str} {give out:List Col} (h:D8 c=true) (h2:Gz c take=true) (ho:Ch c take++give=out) (h3:J2 out=true) (h4:H5 out=true) (h5:¬12<out.length):D5 c take give=(out,0):=by
 unfold D5;rw [ho,if_neg (by rw [h];simp),if_neg (by rw [h2];simp),if_neg (by rw [h3];simp),if_neg (by rw [h4];simp),if_neg h5]
theorem Nx {c:List Col} (h:D8 c=true):c.length≤12:=by
 unfold D8 at h
 simp at h
 omega
theorem u4 {c give:List Col} {take:List Str} {out:List Col} (hc:OkCols c) (h:D8 c=true) (hg:OkCols give) (hg2:give.length≤1000000) (ho:Ch c take++give=out):OkCols out:=by
 subst ho
 have h1:=Ih c take
 have h2:=Nx h
 refine ⟨by simp only [Ao];omega,fun y hy=>?_⟩
 rcases Eo.1 hy with hy|hy
 ·exact hc.2 y ((Qk.1 hy).1)
 exact hg.2 y hy
theorem ATd (c:List Col) (hc:OkCols c) (take:List Str) (ht:take.length≤1048576) (Hp:List AObj):AFun Tryz.prog 138 [An c,Gg take] Hp (B4 (Gz c take)):=by
 refine Ah [.tmp 4] [0,1] Tryz.func138 Tryz.ntmps138 (fun d=>?_)
 refine Z61 ?_;refine Z33 ?_;refine A2 [0,1,7,8,9] ?_
 refine Az (α:=Nat) (fun x=>⟨26,A6 0 (An c) (A6 1 (Gg take) (A6 7 (Gg take) (A6 8 (A5 take.length) (A6 9 (A5 (x:Nat)) (fun _=>.any))))),Hp,[],[],none⟩) (fun x=>x≤take.length∧∀(j:Nat) (y:Str),j<x→take[j]? = some y→I8 c take j y=true) (fun x=>take.length-x) (0) (by simp) (B2 (by simp)) rfl (fun x hx=>?_)
 refine Z2 ?_;refine A2 [0,1,7,8,9,10] ?_
 refine Ej (fun ht10=>?_) (fun ht10=>?_)
 ·have hlt:x<take.length:=by simpa using ht10
  refine Tr ?_
  refine A4 (h:=Ac (x) (Af take[x]) (fun _=>Aw hlt)) (hr:=?_)
  refine Z10 ?_;refine A2 [0,1,5,6,7,8,9] ?_;refine Z1 ?_;refine A9 Tryz.call46 (c46 c hc _ _) ?_;refine Z44 ?_;refine Bm Tryz.call45 (fun hB=>c45 take _ ht _) ?_;refine Z97 ?_;refine A2 [0,1,7,8,9,24] ?_
  refine A3 (fun ht24=>?_) (fun ht24=>?_)
  ·refine Z89 ?_;refine Tp ?_
   exact A8 (Ae A7) ⟨by rw [show Gz c take=false from Ic.2 fun h=>by have:=takenM_true.1 h x take[x] (Aa hlt);unfold I8 at this;rw [ht24] at this;cases this],rfl⟩
  refine Nm ?_;refine A2 [0,1,7,8,9] ?_;exact Ay (x+1) ⟨hlt,I1 hlt hx.2 (by unfold I8;rw [ht24];rfl)⟩ (by omega) (Bh rfl)
 refine Ts ?_;refine Z39 ?_;exact A8 (Ae A7) ⟨by rw [takenM_true.2 (J5 (by simp at ht10;omega) hx.2)],rfl⟩

theorem ATe (c:List Col) (hc:OkCols c) (Hp:List AObj):AFun Tryz.prog 140 [An c] Hp (B4 (J2 c)):=by
 refine Ah [.tmp 2] [0] Tryz.func140 Tryz.ntmps140 (fun d=>?_)
 refine j4 ?_;refine A2 [0,5,6,7] ?_
 refine Az (α:=Nat) (fun x=>⟨25,A6 0 (An c) (A6 5 (An c) (A6 6 (A5 c.length) (A6 7 (A5 (x:Nat)) (fun _=>.any)))),Hp,[],[],none⟩) (fun x=>x≤c.length∧∀(j:Nat) (y:Col),j<x→c[j]? = some y→Jl c j y=true) (fun x=>c.length-x) (0) (by simp) (B2 (by simp)) rfl (fun x hx=>?_)
 refine Z2 ?_;refine A2 [0,5,6,7,8] ?_
 refine Ej (fun ht8=>?_) (fun ht8=>?_)
 ·have hlt:x<c.length:=by simpa using ht8
  have hcl:=hc.len
  refine Tr ?_
  refine A4 (h:=Ac (x) (Bj c[x]) (fun _=>Aw hlt)) (hr:=?_)
  refine rl ?_;refine A2 [0,3,4,5,6,7] ?_;refine Z1 ?_;refine A9 Tryz.call111 (AE7 _ (hc.names _ (Av hlt)) _) ?_;refine Z0 ?_;refine Z38 ?_;refine Bm Tryz.call46 (fun hB=>c46 c hc _ _) ?_;refine Z97 ?_;refine A2 [0,5,6,7,23] ?_
  refine A3 (fun ht23=>?_) (fun ht23=>?_)
  ·rw [Gy] at ht23
   refine cm ?_
   exact A8 (Ae A7) ⟨by rw [show J2 c=false from Ic.2 fun h=>by have:=namedC_true.1 h x c[x] (Aa hlt);unfold Jl at this;rw [ht23] at this;cases this],rfl⟩
  rw [Gy] at ht23
  refine Nm ?_;refine A2 [0,5,6,7] ?_
  refine Ay (x+1) ⟨hlt,I1 hlt hx.2 (by unfold Jl;rw [ht23];rfl)⟩ (by omega) ?_
  exact Dq (own:=[]) (fun _=>.refl _) (by repeat (first|exact Bq|refine Bp (by simp [or_imp,forall_and]) ?_)) (by simp) (by simp)
 refine Z26 ?_;refine Z28 ?_;exact A8 (Ae A7) ⟨by rw [namedC_true.2 (J5 (by simp at ht8;omega) hx.2)],rfl⟩

theorem ATf (c:List Col) (take:List Str) (Hp:List AObj):AFun Tryz.prog 139 [An c,Gg take] Hp (.fn (.func 167) [] [.ro [An c],.ro [Gg take]]):=by
 refine Ah [.tmp 4] [0,1] Tryz.func139 Tryz.ntmps139 (fun d=>?_)
 refine yw ?_;refine Ec ?_;refine ADh ?_;exact AH3

theorem ATg (l:Nat) (c:List Col) (take:List Str) (hc:c.length≤1048576) (ht:take.length≤1048576) (U:Nat→List AObj) (hlen:∀k,(U k).length=(U 0).length) (hll:l<(U 0).length)
  (hlw:∀k,∀x∈U k,ObjLow (U 0).length x) (hn:∀k y,c[k]? = some y→take.contains y.name=true→U (k+1)=U k)
  (hy:∀k y X,c[k]? = some y→take.contains y.name=false→AYield Tryz.prog l [Bj y] (U k++X) (fun b H'=>b=true∧H'=U (k+1)++X)):ACall Tryz.prog 167 [.yield l,.ro [An c],.ro [Gg take]] (U 0) (fun _ H'=>H'=U c.length):=by
 refine Ah [] [0,1,2] Tryz.func167 Tryz.ntmps167 (fun d=>?_)
 refine Z19 ?_;refine A2 [0,2,6,7,8] ?_
 refine Az (α:=Nat) (fun x=>⟨24,A6 0 (.yield l) (A6 2 (.ro [Gg take]) (A6 6 (An c) (A6 7 (A5 c.length) (A6 8 (A5 (x:Nat)) (fun _=>.any))))),U x,[],[],none⟩) (fun x=>x≤c.length) (fun x=>c.length-x) (0) (Ap _) (B2 (by simp)) rfl (fun x hx=>?_)
 refine Z2 ?_;refine A2 [0,2,6,7,8,9] ?_
 refine Ej (fun ht9=>?_) (fun ht9=>?_)
 ·have hlt:x<c.length:=by simpa using ht9
  refine X6 ?_
  refine A4 (h:=Ac (x) (Bj c[x]) (fun _=>Aw hlt)) (hr:=?_)
  refine X9 ?_;refine A2 [0,2,5,6,7,8] ?_;refine Z19 ?_;refine A9 Tryz.call61 (c61 take _ ht _) ?_;refine Z44 ?_
  refine G.yield (l:=l) (C:=((!take.contains c[x].name)==true)) (args:=[Bj c[x]]) (fun hC=>hy x c[x] _ (Aa hlt) (by simpa using hC)) ?_
  intro b V O hV hb hb0
  have hVO:V=U (x+1)∧O=[AObj.cells 36 [Af c[x].name,A5 c[x].kind]]∧(take.contains c[x].name=false→b=true):=by
   cases hcn:take.contains c[x].name with
   | true =>
    obtain ⟨h1,h2⟩:=hb0 (by rw [hcn];rfl)
    exact ⟨h1.trans (hn x c[x] (Aa hlt) hcn).symm,h2,fun e=>by cases e⟩
   | false =>
    obtain ⟨h1,h2⟩:=hb (by rw [hcn];rfl)
    have h3:=Ur h2 (by rw [hV,hlen x,hlen (x+1)])
    exact ⟨h3.1,h3.2,fun _=>h1⟩
  obtain ⟨rfl,rfl,hbt⟩:=hVO
  refine ⟨fun _=>by rw [hlen (x+1)];exact hlw (x+1),fun o ho=>(by cases ho),?_⟩
  refine Z93 ?_;refine A2 [0,2,6,7,8,22] ?_
  refine A3 (fun ht22=>?_) (fun ht22=>?_)
  ·exfalso
   have hcf:take.contains c[x].name=false:=by simp at ht22 ⊢;exact ht22.1
   rw [hbt hcf] at ht22
   simp at ht22
  refine Nm ?_;refine A2 [0,2,6,7,8] ?_;refine ADq ?_
  exact Dq (own:=[]) (fun _=>.refl _) (by repeat (first|exact Bq|refine Bp (by first|(simp [or_imp,forall_and];done)|(have:=hlen (x+1);simp;omega)) ?_)) (by simp) (by simp)
 have hxe:x=c.length:=by simp at ht9;omega
 refine K.lpE ?_;exact Gn .nores (hp:=by rw [hxe])

theorem n7 {c:List Col} {take:List Str} {x:Nat} (hlt:x<take.length) (h:I8 c take x take[x]=false):Gz c take=false:=
 Ic.2 fun h'=>by rw [takenM_true.1 h' x take[x] (Aa hlt)] at h;cases h
theorem u5 {α:Type} [BEq α] [LawfulBEq α] {v:α} {l:List α} {k x:Nat} (hlk:k<l.length) (hkx:k<x) (h:l[k]=v):(H6 v l != (x:Int))=true:=by
 rw [bne_iff_ne]
 intro e
 unfold H6 at e
 cases hf:l.findIdx? (·==v) with
 | none=>rw [hf] at e;exact absurd (show (-1:Int)=(x:Int) from e) (by omega)
 | some i =>
  rw [hf] at e
  have hix:i=x:=by simp at e;omega
  subst hix
  rw [Jy] at hf
  obtain ⟨_,_,h3⟩:=hf
  have:=h3 k hkx
  rw [h] at this
  simp at this
theorem AEw {α:Type} {p:α→Bool} {l:List α} {x:Nat} (h:x<l.length):(l.take (x+1)).all p=((l.take x).all p&&p l[x]):=by
 have e:l.take (x+1)=l.take x++[l[x]]:=by rw [Xn,Aa h];rfl
 rw [e,List.all_append]
 simp
theorem AMw (l:List Str) (n:Str):(l.all fun t => !(t==n)) = !l.contains n:=by
 induction l with
 | nil=>rfl
 | cons x r ih =>
  rw [List.all_cons,ih,List.contains_cons,Bool.not_or]
  congr 2
  exact Bool.beq_comm ..
def Sm (y:Col):Bool := !(decide (y.kind<1) || decide ((3:Int)<y.kind))
theorem n8 (c:List Col) (j:Nat) (y:Col):Tu c j y=(Jl c j y&&Sm y):=by
 unfold Tu Jl Sm
 cases Nr y.name<;>cases decide (y.kind<1)<;>cases decide ((3:Int)<y.kind)<;>cases (Bn y.name c != (j:Int))<;>rfl
theorem u6 {c:List Col} (h:J2 c=true) (hk:∀(j:Nat) (y:Col),c[j]? = some y→Sm y=true):H5 c=true:=
 colsM_true.2 fun j y hj=>by rw [n8,namedC_true.1 h j y hj,hk j y hj];rfl
theorem jo {c:List Col} {x:Nat} (hlt:x<c.length) (hk:Sm c[x]=false):H5 c=false:=
 Ic.2 fun h=>by have:=colsM_true.1 h x c[x] (Aa hlt);rw [n8,hk,Bool.and_false] at this;cases this
theorem AEx {c:List Col} {x:Nat} (hlt:x<c.length) (hk:Jl c x c[x]=false):J2 c=false:=
 Ic.2 fun h=>by rw [namedC_true.1 h x c[x] (Aa hlt)] at hk;cases hk
theorem c49 (c:List Col) (hc:OkCols c) (take:List Str) (ht:take.length≤1048576) (give:List Col) (hg:OkCols give) (hg2:give.length≤1000000) (Hp:List AObj):AFun Tryz.prog 49 [An c,Gg take,An give] Hp (.tup [An (D5 c take give).1,A5 (D5 c take give).2]):=by
 refine Ah [.tmp 6,.tmp 7] [0,1,2] Tryz.func49 Tryz.ntmps49 (fun d=>?_)
 refine yr ?_;refine Z29 ?_;refine A9 Tryz.call27 (c27 c hc _) ?_;refine A4 ?_;refine A2 [0,1,2,18] ?_
 refine A3 (fun ht18=>?_) (fun ht18=>?_)
 ·have hr:D8 c=false:=by simpa using ht18
  refine Yr ?_;exact AOy
 have hr:D8 c=true:=by simpa using ht18
 refine Sd ?_;refine rx ?_
 refine Az (α:=Nat) (fun x=>⟨131,A6 0 (An c) (A6 1 (Gg take) (A6 2 (An give) (A6 8 (A5 (x:Nat)) (fun _=>.any)))),Hp,[],[],none⟩) (fun x=>x≤take.length∧∀(j:Nat) (y:Str),j<x→take[j]? = some y→I8 c take j y=true) (fun x=>take.length-x) (0) (by simp) (F6 _) rfl (fun x hx=>?_)
 refine Z50 ?_;refine A2 [0,1,2,8,22] ?_
 refine A3 (fun ht22=>?_) (fun ht22=>?_)
 ·have hlt:x<take.length:=by simpa using ht22
  refine Z42 ?_;refine Z33 ?_
  refine A4 (h:=Ac (x) (Af take[x]) (fun _=>Aw hlt)) (hr:=?_)
  refine A4 ?_;refine A9 Tryz.call33 (c33 c hc _ _) ?_;refine A4 ?_;refine A2 [0,1,2,8,31] ?_
  refine A3 (fun ht31=>?_) (fun ht31=>?_)
  ·have hkn:Gz c take=false:=n7 hlt (by unfold I8;rw [ht31];rfl)
   refine Yr ?_;refine Z13 ?_;exact AOr
  refine Z92 ?_;refine A2 [0,1,2,8,9] ?_
  refine Az (α:=Nat) (fun k=>⟨131,A6 0 (An c) (A6 1 (Gg take) (A6 2 (An give) (A6 8 (A5 (x:Nat)) (A6 9 (A5 (k:Nat)) (fun _=>.any))))),Hp,[],[],none⟩) (fun k=>k≤x∧∀(j:Nat) (y:Str),j<k→take[j]? = some y→¬(y=take[x])) (fun k=>x-k) (0) (by simp) (F6 _) rfl (fun k hk=>?_)
  refine Z33 ?_;refine A2 [0,1,2,8,9,34] ?_
  refine A3 (fun ht34=>?_) (fun ht34=>?_)
  ·have hkx:k<x:=by simpa using ht34
   have hlk:k<take.length:=by omega
   refine Z42 ?_;refine ALs ?_
   refine Ak (h:=Ac (k) (Af take[k]) (fun _=>Aw hlk)) (hr:=?_)
   refine Z40 ?_
   refine Ak (h:=Ac (x) (Af take[x]) (fun _=>Aw hlt)) (hr:=?_)
   refine Sc ?_;refine A4 ?_;refine A2 [0,1,2,8,9,45] ?_
   refine A3 (fun ht45=>?_) (fun ht45=>?_)
   ·have hkn:Gz c take=false:=n7 hlt (by unfold I8;rw [u5 hlk hkx (by simpa using ht45)];simp)
    refine Yr ?_;refine Z21 ?_;refine Mg ?_;exact AOr
   refine Z71 ?_;refine A2 [0,1,2,8,9] ?_;exact Ay (k+1) ⟨hkx,C1 (l:=take) hlk hk.2 (by simpa using ht45)⟩ (by omega) (Bh rfl)
  have hkx:k=x:=by simp at ht34;omega
  have htk:I8 c take x take[x]=true:=by
   unfold I8
   rw [ht31,tq hlt rfl (fun j y hj=>hk.2 j y (by omega))]
   simp
  refine rm ?_;refine Z83 ?_;refine rx ?_;exact Ay (x+1) ⟨hlt,I1 hlt hx.2 htk⟩ (by omega) (Bh rfl)
 have hk0:Gz c take=true:=takenM_true.2 (J5 (by simp at ht22;omega) hx.2)
 refine Z45 ?_;refine lr ?_;refine A2 [0,1,2,10] ?_;refine Z29 ?_;refine A2 [0,1,2,10,11] ?_
 refine Az (α:=Nat) (fun i=>⟨131,A6 0 (An c) (A6 1 (Gg take) (A6 2 (An give) (A6 10 (.slice true 2 ((Ch (c.take i) take).map Bj)) (A6 11 (A5 (i:Nat)) (fun _=>.any))))),Hp,[],[],none⟩) (fun i=>i≤c.length) (fun i=>c.length-i) (0) (Ap _) (B2 (by simp [Ch])) rfl (fun i hi=>?_)
 refine Z50 ?_;refine A2 [0,1,2,10,11,50] ?_
 refine A3 (fun ht50=>?_) (fun ht50=>?_)
 ·have hli:i<c.length:=by simpa using ht50
  have hcl:=hc.len
  refine rq ?_;refine A2 [0,1,2,10,11,12] ?_;refine Z29 ?_;refine A2 [0,1,2,10,11,12,13] ?_
  refine Az (α:=Nat) (fun m=>⟨131,A6 0 (An c) (A6 1 (Gg take) (A6 2 (An give) (A6 10 (.slice true 2 ((Ch (c.take i) take).map Bj)) (A6 11 (A5 (i:Nat)) (A6 12 (B4 ((take.take m).all fun t => !(t==c[i].name))) (A6 13 (A5 (m:Nat)) (fun _=>.any))))))),Hp,[],[],none⟩) (fun m=>m≤take.length) (fun m=>take.length-m) (0) (Ap _) (F6 _) rfl (fun m hm=>?_)
  refine Z50 ?_;refine A2 [0,1,2,10,11,12,13,56] ?_
  refine A3 (fun ht56=>?_) (fun ht56=>?_)
  ·have hlm:m<take.length:=by simpa using ht56
   refine Z42 ?_;refine W.drawQ0 [0,1,3,3,15,31,3,3,195,451,963,2047,4095,8191] 11 Ai (by kernel_rfl) ?_;refine Z12 ?_;refine Z56 ?_
   refine Ei (h:=Ac (m) (Af take[m]) (fun _=>Aw hlm)) (hr:=?_)
   refine lv ?_
   refine Ei (h:=Ac (i) (Bj c[i]) (fun _=>Aw hli)) (hr:=?_)
   refine Z56 ?_;refine J0 ?_;refine Bd ?_;refine Z0 ?_;refine A2 [0,1,2,10,11,12,13] ?_;refine Z83 ?_;refine A2 [0,1,2,10,11,12,13] ?_;exact Ay (m+1) hlm (by omega) (Bh (by rw [AEw hlm];rfl))
  have hme:take.take m=take:=D9 (by simp at ht56;omega)
  rw [hme,AMw]
  refine Xc ?_;refine A2 [0,1,2,10,11,72] ?_
  refine A3 (fun ht72=>?_) (fun ht72=>?_)
  ·have hst:=w5 (take:=take) (Aa hli) (by simpa using ht72)
   refine Z91 ?_;refine Z0 ?_
   refine A4 (h:=Ac (i) (Bj c[i]) (fun _=>Aw hli)) (hr:=?_)
   refine Z54 ?_
   refine Ee jU Tryz.type36 ?_ ?_ ?_
   ·have h1:=Ih (c.take i) take;have h2:=hc.len;simp only [Bx] at h1;simp [Tryz.t36];omega
   ·have h1:=Ih (c.take i) take;have h2:=hc.len;simp only [Bx] at h1;simp [Tryz.t36];omega
   refine Lr ?_;refine A2 [0,1,2,10,11] ?_;refine Z83 ?_;exact AOf
  have hst:=er (take:=take) (Aa hli) (by simpa using ht72)
  refine Z71 ?_;exact AOf
 have hie:c.take i=c:=D9 (by simp at ht50;omega)
 rw [hie]
 refine z3 ?_;refine R.moveT ?_;refine A4 ?_
 refine Ee jU Tryz.type36 ?_ ?_ ?_
 ·have h1:=Ih c take;have h2:=Nx hr;simp [Tryz.t36];omega
 ·have h1:=Ih c take;have h2:=Nx hr;simp [Tryz.t36];omega
 refine Lr ?_;refine A2 [10] ?_;refine Z74 ?_
 have e10:(Ch c take).map Bj++give.map Bj=(Ch c take++give).map Bj:=(C4 ..).symm
 rw [e10]
 generalize hout:Ch c take++give=out
 have ho:OkCols out:=u4 hc hr hg hg2 hout
 have hol:=ho.len
 refine A4 ?_;refine A2 [10,14] ?_
 refine Az (α:=Nat) (fun a=>⟨131,A6 10 (.slice true 2 (out.map Bj)) (A6 14 (A5 (a:Nat)) (fun _=>.any)),Hp,[],[],none⟩) (fun a=>a≤out.length∧∀(j:Nat) (y:Col),j<a→out[j]? = some y→Jl out j y=true) (fun a=>out.length-a) (0) (by simp) (F6 _) rfl (fun a ha=>?_)
 refine Z50 ?_;refine A2 [10,14,86] ?_
 refine A3 (fun ht86=>?_) (fun ht86=>?_)
 ·have hla:a<out.length:=by simpa using ht86
  refine Se ?_
  refine A4 (h:=Ac (a) (Bj out[a]) (fun _=>Aw hla)) (hr:=?_)
  refine Z0 ?_;refine A9 Tryz.call51 (c51 _ (ho.names _ (Av hla)) _) ?_;refine Z0 ?_;refine Z38 ?_
  refine Bd (h:=Ac (a) (Bj out[a]) (fun _=>Aw hla)) (hr:=?_)
  refine Z7 ?_;refine Bm Tryz.call33 (fun hB=>c33 out ho _ _) ?_;refine Z97 ?_;refine A2 [10,14,106] ?_
  refine A3 (fun ht106=>?_) (fun ht106=>?_)
  ·have hn:J2 out=false:=AEx hla (by unfold Jl;rw [ht106];rfl)
   refine Yr ?_;refine Tp ?_;exact A8 (B1 A7 A7) ⟨by rw [tt hr hk0 hout hn];try rfl,rfl⟩
  refine Z71 ?_;refine A2 [10,14] ?_;exact Ay (a+1) ⟨hla,I1 hla ha.2 (by unfold Jl;rw [ht106];rfl)⟩ (by omega) (Bh rfl)
 have hn:J2 out=true:=namedC_true.2 (J5 (by simp at ht86;omega) ha.2)
 refine Z45 ?_;refine Z29 ?_;refine A2 [10,15] ?_
 refine Az (α:=Nat) (fun b=>⟨131,A6 10 (.slice true 2 (out.map Bj)) (A6 15 (A5 (b:Nat)) (fun _=>.any)),Hp,[],[],none⟩) (fun b=>b≤out.length∧∀(j:Nat) (y:Col),j<b→out[j]? = some y→Sm y=true) (fun b=>out.length-b) (0) (by simp) (F6 _) rfl (fun b hb=>?_)
 refine Z50 ?_;refine A2 [10,15,110] ?_
 refine A3 (fun ht110=>?_) (fun ht110=>?_)
 ·have hlb:b<out.length:=by simpa using ht110
  refine Se ?_
  refine A4 (h:=Ac (b) (Bj out[b]) (fun _=>Aw hlb)) (hr:=?_)
  refine Z0 ?_;refine Z44 ?_
  refine Bd (h:=Ac (b) (Bj out[b]) (fun _=>Aw hlb)) (hr:=?_)
  refine Oh ?_;refine A2 [10,15,126] ?_
  refine A3 (fun ht126=>?_) (fun ht126=>?_)
  ·have hq:H5 out=false:=jo hlb (by unfold Sm;rw [ht126];rfl)
   refine Yr ?_;refine Tp ?_;exact A8 (B1 A7 A7) ⟨by rw [tw hr hk0 hout hn hq];try rfl,rfl⟩
  refine Z71 ?_;refine A2 [10,15] ?_;exact Ay (b+1) ⟨hlb,C1 hlb hb.2 (by unfold Sm;rw [ht126];rfl)⟩ (by omega) (Bh rfl)
 have hq:H5 out=true:=u6 hn (Ml (by simp at ht110;omega) hb.2)
 refine Z45 ?_;refine Z33 ?_;refine A2 [10,129] ?_
 refine A3 (fun ht129=>?_) (fun ht129=>?_)
 ·have h12:12<out.length:=by simp at ht129;omega
  refine Yr ?_;refine Z13 ?_;exact A8 (B1 A7 A7) ⟨by rw [tx hr hk0 hout hn hq h12];try rfl,rfl⟩
 have h12:¬12<out.length:=by simp at ht129;omega
 refine No ?_;refine A2 [6,7] ?_;refine Dd ?_;exact A8 (B1 A7 A7) ⟨by rw [tz hr hk0 hout hn hq h12];try rfl,rfl⟩

/-! What went and came, taken back: the same columns. -/
theorem AEy {α β:Type} {f:α→β} {c:List α} (h:(c.map f).Nodup) {i j:Nat} {y z:α} (hi:c[i]? = some y) (hj:c[j]? = some z) (e:f y=f z):i=j:=by
 obtain ⟨hi',ei⟩:=Ad.1 hi
 obtain ⟨hj',ej⟩:=Ad.1 hj
 have h':List.Pairwise (·≠·) (c.map f):=h
 rw [Xm] at h'
 rcases i6 i j with hlt|rfl|hlt
 ·have h2:=h' i j (by simpa using hi') (by simpa using hj') hlt
  rw [Li,Li,ei,ej] at h2
  exact absurd e h2
 ·rfl
 have h2:=h' j i (by simpa using hj') (by simpa using hi') hlt
 rw [Li,Li,ei,ej] at h2
 exact absurd e.symm h2
theorem Sn {c:List Col} (h:(c.map (·.name)).Nodup) {j:Nat} {y:Col} (hj:c[j]? = some y):Bn y.name c=(j:Int):=by
 obtain ⟨hj',ej⟩:=Ad.1 hj
 exact Yy hj' (by rw [ej]) (fun k z hk hz e=>by have:=AEy h hz hj e;omega)
theorem find_mem {nm:Str} {c:List Col}:¬(Bn nm c<0)↔∃(j:Nat) (y:Col),c[j]? = some y∧y.name=nm∧Bn nm c=(j:Int):=by
 unfold Bn
 cases h:c.findIdx? (fun y=>y.name==nm) with
 | none =>
  constructor
  ·intro h';exact absurd (by decide) h'
  rintro ⟨j,y,_,_,e⟩
  exact absurd (show (-1:Int)=(j:Int) from e) (by omega)
 | some i =>
  rw [Jy] at h
  obtain ⟨hi,e,_⟩:=h
  constructor
  ·intro _;exact ⟨i,c[i],Aa hi,by simpa using e,rfl⟩
  intro _ h'
  have:(i:Int)<0:=h'
  omega
theorem u7 {c:List Col} {take:List Str} (h:Gz c take=true):(∀t∈take,¬(Bn t c<0))∧take.Nodup:=by
 rw [takenM_true] at h
 have hat:∀(j:Nat) (t:Str),take[j]? = some t→¬(Bn t c<0)∧H6 t take=(j:Int):=by
  intro j t hj
  have:=h j t hj
  unfold I8 at this
  simp only [Jc,Cq,decide_eq_false_iff_not,bne_eq_false_iff_eq] at this
  exact this
 refine ⟨fun t ht=>?_,?_⟩
 ·obtain ⟨j,hj⟩:=Cf ht
  exact (hat j t hj).1
 show List.Pairwise _ _
 rw [Xm]
 intro i j hi hj hij e
 have e1:=(hat i take[i] (Aa hi)).2
 have e2:=(hat j take[j] (Aa hj)).2
 rw [e,e2] at e1
 omega
theorem w6 {c:List Col} {take:List Str} {give:List Col} (h:(D5 c take give).2=0):D8 c=true∧Gz c take=true∧H5 (Ch c take++give)=true∧(Ch c take++give).length≤12∧D5 c take give=(Ch c take++give,0):=by
 cases h1:D8 c with
 | false=>rw [AEv h1] at h;exact absurd (show (1:Int)=0 from h) (by decide)
 | true =>
  cases h2:Gz c take with
  | false=>rw [tr h1 h2] at h;exact absurd (show (9:Int)=0 from h) (by decide)
  | true =>
   cases h3:J2 (Ch c take++give) with
   | false=>rw [tt h1 h2 rfl h3] at h;exact absurd (show (9:Int)=0 from h) (by decide)
   | true =>
    cases h4:H5 (Ch c take++give) with
    | false=>rw [tw h1 h2 rfl h3 h4] at h;exact absurd (show (10:Int)=0 from h) (by decide)
    | true =>
     by_cases h5:12<(Ch c take++give).length
     ·rw [tx h1 h2 rfl h3 h4 h5] at h;exact absurd (show (3:Int)=0 from h) (by decide)
     exact ⟨rfl,rfl,rfl,by omega,tz h1 h2 rfl h3 h4 h5⟩
set_option maxRecDepth 8000
/-- What a node asks of its kids, and what it is. -/
structure Sign where
 kids:List Int
 own:Int
def Di (s:Str):Sign:=if (s==[111,114]) || (s==[97,110,100]) then ⟨[3,3],3⟩ else if (((((s==[61]) || (s==[33,61])) || (s==[60])) || (s==[60,61])) || (s==[62])) || (s==[62,61]) then ⟨[-1, -1],3⟩ else if s==[38] then ⟨[2,2],2⟩ else ⟨[1,1],1⟩
def Dy (s:Str):Sign:=if (s==[108,101,110]) || (s==[110,117,109]) then ⟨[2],1⟩ else if s==[115,116,114] then ⟨[1],2⟩ else if (s==[108,101,102,116]) || (s==[114,105,103,104,116]) then ⟨[2,1],2⟩ else if s==[105,115,110,117,108,108] then ⟨[-2],3⟩ else if s==[110,118,108] then ⟨[-1, -1], -1⟩ else ⟨[3, -1, -1], -1⟩
def Jt (o:Int) (t:Str):Sign:=if o==3 then ⟨[1],1⟩ else if o==4 then ⟨[3],3⟩ else if o==5 then Di t else Dy t
def Gi (a b:Int):Int×Bool:=if a==0 then (b,true) else if (b==0) || (a==b) then (a,true) else (0,false)
def Hj:List Int→List Int→Int→Option Int
 | _,[],c=>some c
 | [],_::_,_=>none
 | w::ws,k::ks,c=>if w == -2 then Hj ws ks c else if w == -1 then (if (Gi c k).2 then Hj ws ks (Gi c k).1 else none) else if (Gi w k).2 then Hj ws ks c else none
def L6 (s:Sign) (ks:List Int):Int×Int:=match Hj s.kids ks 0 with|none=>(0,10)|some c=>if s.own == -1 then (c,0) else (s.own,0)
def Ro (c:List Col) (t:Str):Int×Int:=if Bn t c<0 then (0,9) else ((c.getD (Bn t c).toNat ⟨[],0⟩).kind,0)
def Rp (c:List Col) (o:Int) (t:Str) (v:Val) (ks:List (Int×Int)):Int×Int:=
 if o==1 then (v.kind,0) else if o==2 then Ro c t else match ks.find? (fun q=>q.2 != 0) with|some q=>(0,q.2)|none=>L6 (Jt o t) (ks.map (·.1))
mutual
def Bt (c:List Col):Expr→Int×Int
 | .mk o t v k=>Rp c o t v (w7 c k)
def w7 (c:List Col):List Expr→List (Int×Int)
  | []=>[]
  | e::r=>Bt c e::w7 c r
 end
theorem Vo (c:List Col):∀l,w7 c l=l.map (Bt c)
 | []=>rfl
 | e::r=>by rw [w7,Vo c r];rfl
theorem U4 (c:List Col) (e:Expr):Bt c e=Rp c e.op e.text e.val (e.kids.map (Bt c)):=by cases e;rw [Bt,Vo];rfl
/-- infer.Kind. -/
def Eu (e:Expr) (c:List Col):Int×Int:=if (!(Bk e)) || !(Tz c) then (0,1) else Bt c e
/-! The signs have as many as the nodes have kids. -/
theorem So (s:Str):(Di s).kids.length=2:=by
 unfold Di;repeat' split
 all_goals rfl
theorem u9 {t:Str} {n:Nat} (h:Cc t=(n:Int)):(Dy t).kids.length=n:=by
 rw [show Cc t=Cc t from rfl] at h
 by_cases hm:t∈arityList.map (·.1)
 ·have:((arityList.map (·.1)).all fun s=>decide (((Dy s).kids.length:Int)=Cc s))=true:=by kernel_rfl
  have:=of_decide_eq_true (B5.1 this t hm)
  omega
 have h1:Cc t = -1:=by
  unfold Cc
  rw [Na.2 fun p hp=>by
   simp only [beq_iff_eq]
   rintro rfl
   exact hm (D6.2 ⟨p,hp,rfl⟩)]
 omega
theorem Ny {e:Expr} (h:E9 e=true) (h1:(e.op==1)=false) (h2:(e.op==2)=false):(Jt e.op e.text).kids.length=e.kids.length:=by
 unfold E9 at h
 rw [h1,h2] at h
 simp only [Ag,if_false] at h
 unfold Jt
 by_cases h3:(e.op==3)=true
 ·rw [h3] at h
  simp only [Db,if_true,As,beq_iff_eq] at h
  rw [if_pos h3]
  show 1=_
  omega
 have h3':(e.op==3)=false:=by simpa using h3
 rw [if_neg h3]
 rw [h3'] at h
 by_cases h4:(e.op==4)=true
 ·rw [h4] at h
  simp only [C7,if_true,As,beq_iff_eq] at h
  rw [if_pos h4]
  show 1=_
  omega
 have h4':(e.op==4)=false:=by simpa using h4
 rw [if_neg h4]
 rw [h4'] at h
 simp only [Ky,Ag,if_false] at h
 by_cases h5:(e.op==5)=true
 ·rw [h5] at h
  simp only [if_true,As,beq_iff_eq] at h
  rw [if_pos h5,So]
  omega
 have h5':(e.op==5)=false:=by simpa using h5
 rw [if_neg h5]
 rw [h5'] at h
 simp only [Ag,if_false] at h
 by_cases h6:(e.op==6)=true
 ·rw [h6] at h
  simp only [if_true,As,beq_iff_eq] at h
  exact u9 h.2
 have h6':(e.op==6)=false:=by simpa using h6
 rw [h6'] at h
 cases h
/-! More columns. -/
theorem AEz {c:List Col} {o:Int} {t:Str} {v:Val} {ks:List (Int×Int)} (h:(Rp c o t v ks).2=0) (h1:(o==1)=false) (h2:(o==2)=false):∀q∈ks,q.2=0:=by
 unfold Rp at h
 rw [h1,h2] at h
 simp only [Ag,if_false] at h
 cases hf:ks.find? (fun q=>q.2 != 0) with
 | some q =>
  rw [hf] at h
  have:=gq hf
  simp only [bne_iff_ne] at this
  exact absurd h this
 | none =>
  intro q hq
  have:=Na.1 hf q hq
  simpa using this
/-! A tree in a column's place. -/
set_option maxRecDepth 4000
/-- Where a parser of expressions stands: its word, its nest, its fault. -/
structure PS where
 i:Nat
 nest:Nat
 code:Int
 at_:Int
def noV:Val:=⟨0,0,[]⟩
def At:Expr:=.mk 0 [] noV []
def Fb (e a:Int) (S:PS):PS:=if S.code==0 then ⟨S.i,S.nest,e,a⟩ else S
def isM (l:List Tok) (of:Str) (S:PS):Bool:=(((Aq l S.i).kind==5) || ((Aq l S.i).kind==2))&&Qy (Aq l S.i).text of
def Au (S:PS):PS:=⟨S.i+1,S.nest,S.code,S.at_⟩
def E5 (S:PS):PS:=⟨S.i,S.nest+1,S.code,S.at_⟩
def eu (S:PS):PS:=⟨S.i,S.nest-1,S.code,S.at_⟩
def H7 (l:List Tok) (s:Str) (S:PS):PS:=if S.code != 0 then S else if ((Aq l S.i).kind != 5) || !((Aq l S.i).text==s) then Fb 8 (Aq l S.i).at_ S else Au S
/-- What stands one nest deeper. -/
structure Fam where
 ei:PS→Expr×PS
 no:PS→Expr×PS
 ne:PS→Expr×PS
def Da (a:Int) (f:PS→Expr×PS) (S:PS):Expr×PS:=if (S.nest:Int)==30 then (At,Fb 18 a S) else ((f (E5 S)).1,eu (f (E5 S)).2)
def Mv (t:Str) (x y:Expr):Expr:=.mk 5 t noV [x,y]
def ew (l:List Tok) (of:Str) (f:PS→Expr×PS):Nat→Expr×PS→Expr×PS
 | 0,r=>r
 | n+1,r=>if (r.2.code==0)&&isM l of r.2 then ew l of f n (Mv (Aq l r.2.i).text r.1 (f (Au r.2)).1,(f (Au r.2)).2) else r
def Ho (l:List Tok) (of:Str) (f:PS→Expr×PS) (S:PS):Expr×PS:=ew l of f l.length (f S)
def aa:Str:=[32,44,32]
def argsF (l:List Tok) (f:PS→Expr×PS):Nat→List Expr×PS→List Expr×PS
 | 0,r=>r
 | n+1,r=>if (r.2.code==0)&&isM l aa r.2 then argsF l f n (r.1++[(f (Au r.2)).1],(f (Au r.2)).2) else r
def Ju (l:List Tok) (f:PS→Expr×PS) (S:PS):List Expr×PS:=argsF l f l.length ([(f S).1],(f S).2)
def Wp (l:List Tok) (a:Int) (f:PS→Expr×PS) (S:PS):List Expr×PS:=if (S.nest:Int)==30 then ([],Fb 18 a S) else ((Ju l f (E5 S)).1,eu (Ju l f (E5 S)).2)
def H0:Str:=[41]
def El (l:List Tok) (D:Fam) (S:PS):List Expr×PS:=Wp l (Aq l S.i).at_ D.ei (Au S)
def Jv (l:List Tok) (D:Fam) (t:Tok) (S:PS):Expr×PS:=
 if Cc t.text<0 then (At,Fb 9 t.at_ S)
 else if ((H7 l H0 (El l D S).2).code==0) && !(((El l D S).1.length:Int)==Cc t.text) then (At,Fb 8 t.at_ (H7 l H0 (El l D S).2))
 else (.mk 6 t.text noV (El l D S).1,H7 l H0 (El l D S).2)
def orT:Str:=[32,111,114,32]
def AA1:Str:=[32,97,110,100,32]
def AMx:Str:=[32,110,111,116,32]
def AIh:Str:=[32,61,32,33,61,32,60,32,60,61,32,62,32,62,61,32]
def AA2:Str:=[32,43,32,45,32,38,32]
def ey:Str:=[32,42,32,47,32,37,32]
def AMy:Str:=[32,45,32]
def opT:Str:=[32,40,32]
def AMz:Str:=[32,116,114,117,101,32,102,97,108,115,101,32,110,117,108,108,32]
def Rb (v:Val):Expr:=.mk 1 [] v []
def Ib (l:List Tok) (D:Fam) (S:PS):Expr×PS:=
 if S.code != 0 then (At,S)
 else if ((Aq l S.i).kind==3) || isM l AMz S then (Rb (Ji (Aq l S.i).text).1,Au S)
 else if (Aq l S.i).kind==4 then (Rb ⟨2,0,(Aq l S.i).text.take 200⟩,Au S)
 else if (Aq l S.i).kind==1 then (if isM l opT (Au S) then Jv l D (Aq l S.i) (Au S) else (Dt (Aq l S.i).text,Au S))
 else if isM l opT S then ((Da (Aq l S.i).at_ D.ei (Au S)).1,H7 l H0 (Da (Aq l S.i).at_ D.ei (Au S)).2)
 else (At,Fb 8 (Aq l S.i).at_ S)
def Mw (op:Int) (x:Expr):Expr:=.mk op [] noV [x]
def Xe (l:List Tok) (D:Fam) (S:PS):Expr×PS:=if !isM l AMy S then Ib l D S else (Mw 3 (Da (Aq l S.i).at_ D.ne (Au S)).1,(Da (Aq l S.i).at_ D.ne (Au S)).2)
def n9 (l:List Tok) (D:Fam):PS→Expr×PS:=Ho l ey (Xe l D)
def Fs (l:List Tok) (D:Fam):PS→Expr×PS:=Ho l AA2 (n9 l D)
def H8 (l:List Tok) (D:Fam) (S:PS):Expr×PS:=
 if ((Fs l D S).2.code != 0) || !isM l AIh (Fs l D S).2 then Fs l D S
 else (Mv (Aq l (Fs l D S).2.i).text (Fs l D S).1 (Fs l D (Au (Fs l D S).2)).1,(Fs l D (Au (Fs l D S).2)).2)
def Xf (l:List Tok) (D:Fam) (S:PS):Expr×PS:=if !isM l AMx S then H8 l D S else (Mw 4 (Da (Aq l S.i).at_ D.no (Au S)).1,(Da (Aq l S.i).at_ D.no (Au S)).2)
def na (l:List Tok) (D:Fam):PS→Expr×PS:=Ho l AA1 (Xf l D)
def Xw (l:List Tok) (D:Fam):PS→Expr×PS:=Ho l orT (na l D)
def H1 (l:List Tok):Nat→Fam
 | 0=>⟨fun S=>(At,S),fun S=>(At,S),fun S=>(At,S)⟩
 | d+1=>⟨Xw l (H1 l d),Xf l (H1 l d),Xe l (H1 l d)⟩

/-! What is so of them. -/
theorem K8:∀{n m:Nat},n≤m→∀{e:Expr},okE n e→okE m e
 | 0,_,_,_,h=>h.elim
 | n+1,0,h,_,_=>by omega
 | n+1,m+1,h,_,ho=>⟨ho.1,ho.2.1,fun y hy=>K8 (by omega) (ho.2.2 y hy)⟩
theorem ae:sizeE At=1:=rfl
theorem AA3 (t:Str) (a b:Expr):sizeE (Mv t a b)=1+(sizeE a+(sizeE b+0)):=by rw [Mv,sizeE,D7,D7,D7]
theorem AA4 (o:Int) (a:Expr):sizeE (Mw o a)=1+(sizeE a+0):=by rw [Mw,sizeE,D7,D7]
theorem f5:∀a b:List Expr,D7 (a++b)=D7 a+D7 b
 | [],b=>by rw [F5,D7,Bl]
 | e::r,b=>by rw [Fe,D7,D7,f5 r b,Ll]
theorem nb {n:Nat} (h:1≤n):okE n At:=K8 h ⟨by decide,by decide,fun y hy=>by cases hy⟩
theorem w8 {n:Nat} (h:1≤n) (v:Val):okE n (Rb v):=K8 h ⟨by simp [Rb,Expr.text],by simp [Rb,Expr.kids],fun y hy=>by cases hy⟩
structure Fact (l:List Tok) (S:PS) (r:Expr×PS):Prop where
 le:S.i≤r.2.i
 lt:r.2.i<l.length
 nest:r.2.nest=S.nest
 ok:okE (2*(r.2.i-S.i)+1) r.1
 sz:sizeE r.1≤2*(r.2.i-S.i)+1
def Ft (l:List Tok) (n:Nat) (f:PS→Expr×PS):Prop:=∀S,S.i<l.length→S.nest=n→Fact l S (f S)
theorem TokEnd.step {l:List Tok} (h:TokEnd l) {i:Nat} (hi:i<l.length) (hk:(Aq l i).kind≠0):i+1<l.length:=by
 obtain ⟨L,z,rfl,hz,_⟩:=h.split
 rcases Be i L.length with h1|h1
 ·simp only [Ao,B6,Bw];omega
 have:i=L.length:=by simp only [Ao,B6,Bw] at hi;omega
 subst this
 exact absurd (by unfold Aq;simpa using hz) hk
theorem AF0 {l:List Tok} {of:Str} {S:PS} (h:isM l of S=true):(Aq l S.i).kind≠0:=by
 unfold isM at h
 simp only [As,Co,beq_iff_eq] at h
 omega
theorem TokEnd.stepIs {l:List Tok} (h:TokEnd l) {of:Str} {S:PS} (hi:S.i<l.length) (hk:isM l of S=true):(Au S).i<l.length:=h.step hi (AF0 hk)
theorem failM_i {e a:Int} {S:PS}:(Fb e a S).i=S.i∧(Fb e a S).nest=S.nest:=by unfold Fb;split<;>exact ⟨rfl,rfl⟩
theorem w9 {l:List Tok} (hl:TokEnd l) {s:Str} {S:PS} (hi:S.i<l.length):S.i≤(H7 l s S).i∧(H7 l s S).i<l.length∧(H7 l s S).nest=S.nest:=by
 unfold H7
 split
 ·exact ⟨Aj _,hi,rfl⟩
 split
 ·rw [failM_i.1,failM_i.2];exact ⟨Aj _,hi,rfl⟩
 rename_i h
 simp only [Co,bne_iff_ne,ne_eq,not_or,Classical.not_not] at h
 have:=hl.step hi (by rw [h.1];decide)
 exact ⟨Kh _,this,rfl⟩
theorem U5 {l:List Tok} {S S0:PS} (h0:S0.i≤S.i) (h1:S.i<l.length) (h2:S.nest=S0.nest) (e a:Int):Fact l S0 (At,Fb e a S):=by
 refine ⟨?_,?_,?_,nb (by omega),by rw [ae];omega⟩
 ·show _≤(Fb e a S).i;rw [failM_i.1];exact h0
 ·show (Fb e a S).i<_;rw [failM_i.1];exact h1
 show (Fb e a S).nest=_;rw [failM_i.2];exact h2
/-- A state of a loop of marks. -/
structure LeftAt (l:List Tok) (of:Str) (f:PS→Expr×PS) (S:PS) (r:Expr×PS):Prop where
 fact:Fact l S r
 eq:∃n,l.length≤r.2.i+n∧Ho l of f S=ew l of f n r
theorem LeftAt.start {l:List Tok} {of:Str} {f:PS→Expr×PS} {S:PS} (h:Fact l S (f S)):LeftAt l of f S (f S):=⟨h,l.length,by omega,rfl⟩
theorem wc {l:List Tok} {S:PS} {r q:Expr×PS} (h:Fact l S r) (hq:Fact l (Au r.2) q) (hl:TokEnd l):Fact l S (Mv (Aq l r.2.i).text r.1 q.1,q.2):=by
 have h1:=h.le
 have h2:r.2.i+1≤q.2.i:=hq.le
 refine ⟨by show S.i≤q.2.i;omega,hq.lt,by show q.2.nest=S.nest;rw [hq.nest];exact h.nest,?_,?_⟩
 rotate_left
 ·have s1:=h.sz
  have s2:sizeE q.1≤2*(q.2.i-(r.2.i+1))+1:=hq.sz
  show sizeE (Mv _ r.1 q.1)≤2*(q.2.i-S.i)+1
  rw [AA3]
  omega
 show okE (2*(q.2.i-S.i)+1) _
 refine ⟨hl.text _,by simp [Mv,Expr.kids],fun y hy=>?_⟩
 have hy':y=r.1∨y=q.1:=by simpa [Mv,Expr.kids] using hy
 rcases hy' with rfl|rfl
 ·exact K8 (by omega) h.ok
 exact K8 (by show 2*(q.2.i-(r.2.i+1))+1≤_;omega) hq.ok
theorem LeftAt.on {l:List Tok} {of:Str} {f:PS→Expr×PS} {S:PS} {r:Expr×PS} (hl:TokEnd l) (h:LeftAt l of f S r) (hc:((r.2.code==0)&&isM l of r.2)=true) (hf:Ft l S.nest f):(Au r.2).i<l.length∧Fact l (Au r.2) (f (Au r.2))∧LeftAt l of f S (Mv (Aq l r.2.i).text r.1 (f (Au r.2)).1,(f (Au r.2)).2):=by
 have hi:=hl.stepIs h.fact.lt (ACe.1 hc).2
 have hq:=hf (Au r.2) hi h.fact.nest
 obtain ⟨n,hn,e⟩:=h.eq
 have h1:=h.fact.lt
 have h2:r.2.i+1≤(f (Au r.2)).2.i:=hq.le
 obtain ⟨m,rfl⟩:∃m,n=m+1:=⟨n-1,by omega⟩
 refine ⟨hi,hq,wc h.fact hq hl,m,by show l.length≤(f (Au r.2)).2.i+m;omega,?_⟩
 rw [e,ew,if_pos hc]
theorem LeftAt.out {l:List Tok} {of:Str} {f:PS→Expr×PS} {S:PS} {r:Expr×PS} (h:LeftAt l of f S r) (hc:¬((r.2.code==0)&&isM l of r.2)=true):Ho l of f S=r:=by
 obtain ⟨n,hn,e⟩:=h.eq
 have h1:=h.fact.lt
 obtain ⟨m,rfl⟩:∃m,n=m+1:=⟨n-1,by omega⟩
 rw [e,ew,if_neg hc]
theorem nd {l:List Tok} {of:Str} {f:PS→Expr×PS} {S:PS} (hl:TokEnd l) (hf:Ft l S.nest f):∀(k:Nat) (r:Expr×PS),l.length-r.2.i≤k→LeftAt l of f S r→Fact l S (Ho l of f S)
 | 0,r,hk,h=>by have:=h.fact.lt;omega
 | k+1,r,hk,h=>by
  by_cases hc:((r.2.code==0)&&isM l of r.2)=true
  ·obtain ⟨h1,h2,h3⟩:=h.on hl hc hf
   have h4:r.2.i+1≤(f (Au r.2)).2.i:=h2.le
   exact nd hl hf k _ (by show l.length-(f (Au r.2)).2.i≤k;have:=h.fact.lt;omega) h3
  rw [h.out hc];exact h.fact
theorem J3 {l:List Tok} {of:Str} {f:PS→Expr×PS} {n:Nat} (hl:TokEnd l) (hf:Ft l n f):Ft l n (Ho l of f):=fun S hi hn=>nd hl (hn ▸ hf) l.length (f S) (by omega) (.start (hf S hi hn))
theorem Ls {l:List Tok} {f:PS→Expr×PS} {S:PS} (a:Int) (hi:S.i<l.length) (hf:S.nest≠30→Ft l (S.nest+1) f):Fact l S (Da a f S):=by
 unfold Da
 split
 ·exact U5 (Aj _) hi rfl _ _
 rename_i h
 have h30:S.nest≠30:=fun e=>h (by rw [e];rfl)
 have:=hf h30 (E5 S) hi rfl
 refine ⟨this.le,this.lt,?_,this.ok,this.sz⟩
 show (f (E5 S)).2.nest-1=S.nest
 rw [this.nest]
 rfl
/-- What is so of some kids. -/
structure KFact (l:List Tok) (S:PS) (r:List Expr×PS):Prop where
 le:S.i≤r.2.i
 lt:r.2.i<l.length
 nest:r.2.nest=S.nest
 len:r.1.length≤r.2.i-S.i+1
 ok:∀y∈r.1,okE (2*(r.2.i-S.i)+1) y
 sz:D7 r.1≤2*(r.2.i-S.i)+1
structure ArgsAt (l:List Tok) (f:PS→Expr×PS) (S:PS) (r:List Expr×PS):Prop where
 fact:KFact l S r
 eq:∃n,l.length≤r.2.i+n∧Ju l f S=argsF l f n r
theorem ArgsAt.start {l:List Tok} {f:PS→Expr×PS} {S:PS} (h:Fact l S (f S)):ArgsAt l f S ([(f S).1],(f S).2):=⟨⟨h.le,h.lt,h.nest,by simp,fun y hy=>by rw [Bs.1 hy];exact h.ok,by have:=h.sz;show sizeE (f S).1+0≤_;exact this⟩,l.length,by omega,rfl⟩
theorem ArgsAt.on {l:List Tok} {f:PS→Expr×PS} {S:PS} {r:List Expr×PS} (hl:TokEnd l) (h:ArgsAt l f S r) (hc:((r.2.code==0)&&isM l aa r.2)=true) (hf:Ft l S.nest f):(Au r.2).i<l.length∧Fact l (Au r.2) (f (Au r.2))∧ArgsAt l f S (r.1++[(f (Au r.2)).1],(f (Au r.2)).2):=by
 have hi:=hl.stepIs h.fact.lt (ACe.1 hc).2
 have hq:=hf (Au r.2) hi h.fact.nest
 obtain ⟨n,hn,e⟩:=h.eq
 have h1:=h.fact.lt
 have h0:=h.fact.le
 have h2:r.2.i+1≤(f (Au r.2)).2.i:=hq.le
 obtain ⟨m,rfl⟩:∃m,n=m+1:=⟨n-1,by omega⟩
 refine ⟨hi,hq,⟨by show S.i≤(f (Au r.2)).2.i;omega,hq.lt,by show (f (Au r.2)).2.nest=_;rw [hq.nest];exact h.fact.nest,?_,fun y hy=>?_,?_⟩,m,by show l.length≤(f (Au r.2)).2.i+m;omega,?_⟩
 ·have:=h.fact.len
  show (r.1++_).length≤(f (Au r.2)).2.i-S.i+1
  simp only [Ao,B6,Bw]
  omega
 ·show okE (2*((f (Au r.2)).2.i-S.i)+1) y
  rcases Eo.1 hy with hy|hy
  ·exact K8 (by omega) (h.fact.ok y hy)
  rw [Bs.1 hy]
  exact K8 (by show 2*((f (Au r.2)).2.i-(r.2.i+1))+1≤_;omega) hq.ok
 ·have s1:=h.fact.sz
  have s2:sizeE (f (Au r.2)).1≤2*((f (Au r.2)).2.i-(r.2.i+1))+1:=hq.sz
  show D7 (r.1++[(f (Au r.2)).1])≤2*((f (Au r.2)).2.i-S.i)+1
  rw [f5,D7,D7]
  omega
 rw [e,argsF,if_pos hc]
theorem ArgsAt.out {l:List Tok} {f:PS→Expr×PS} {S:PS} {r:List Expr×PS} (h:ArgsAt l f S r) (hc:¬((r.2.code==0)&&isM l aa r.2)=true):Ju l f S=r:=by
 obtain ⟨n,hn,e⟩:=h.eq
 have h1:=h.fact.lt
 obtain ⟨m,rfl⟩:∃m,n=m+1:=⟨n-1,by omega⟩
 rw [e,argsF,if_neg hc]
theorem nf {l:List Tok} {f:PS→Expr×PS} {S:PS} (hl:TokEnd l) (hf:Ft l S.nest f):∀(k:Nat) (r:List Expr×PS),l.length-r.2.i≤k→ArgsAt l f S r→KFact l S (Ju l f S)
 | 0,r,hk,h=>by have:=h.fact.lt;omega
 | k+1,r,hk,h=>by
  by_cases hc:((r.2.code==0)&&isM l aa r.2)=true
  ·obtain ⟨h1,h2,h3⟩:=h.on hl hc hf
   have h4:r.2.i+1≤(f (Au r.2)).2.i:=h2.le
   exact nf hl hf k _ (by show l.length-(f (Au r.2)).2.i≤k;have:=h.fact.lt;omega) h3
  rw [h.out hc];exact h.fact
theorem af {l:List Tok} {f:PS→Expr×PS} {S:PS} (hl:TokEnd l) (hi:S.i<l.length) (hf:Ft l S.nest f):KFact l S (Ju l f S):=nf hl hf l.length _ (by show l.length-(f S).2.i≤_;omega) (.start (hf S hi rfl))
theorem ag {l:List Tok} {f:PS→Expr×PS} {S:PS} (hl:TokEnd l) (a:Int) (hi:S.i<l.length) (hf:S.nest≠30→Ft l (S.nest+1) f):KFact l S (Wp l a f S):=by
 unfold Wp
 split
 ·refine ⟨?_,?_,?_,by simp,fun y hy=>(by cases hy),by simp [D7]⟩
  ·show _≤(Fb _ _ S).i;rw [failM_i.1];exact Aj _
  ·show (Fb _ _ S).i<_;rw [failM_i.1];exact hi
  show (Fb _ _ S).nest=_;rw [failM_i.2]
 rename_i h
 have h30:S.nest≠30:=fun e=>h (by rw [e];rfl)
 have:=af (S:=E5 S) hl hi (hf h30)
 refine ⟨this.le,this.lt,?_,this.len,this.ok,this.sz⟩
 show (Ju l f (E5 S)).2.nest-1=S.nest
 rw [this.nest]
 rfl
theorem ua {l:List Tok} {D:Fam} {S:PS} (hl:TokEnd l) (hll:l.length≤1048576) {t:Tok} (ht:t.text.length≤1048576) (hi:(Au S).i<l.length) (hf:S.nest≠30→Ft l (S.nest+1) D.ei):Fact l S (Jv l D t S):=by
 have hk:KFact l (Au S) (El l D S):=ag hl _ hi hf
 have h1:S.i+1≤(El l D S).2.i:=hk.le
 obtain ⟨w1,w2,w3⟩:=w9 (s:=H0) hl hk.lt
 unfold Jv
 split
 ·exact U5 (Aj _) (by show S.i<_;have:S.i+1<l.length:=hi;omega) rfl _ _
 split
 ·exact U5 (show S.i≤(H7 l H0 (El l D S).2).i by omega) w2 (w3.trans hk.nest) 8 t.at_
 refine ⟨by show S.i≤(H7 l H0 (El l D S).2).i;omega,w2,w3.trans hk.nest,?_,?_⟩
 rotate_left
 ·have s1:D7 (El l D S).1≤2*((El l D S).2.i-(S.i+1))+1:=hk.sz
  show sizeE (.mk 6 t.text noV (El l D S).1)≤2*((H7 l H0 (El l D S).2).i-S.i)+1
  rw [sizeE]
  omega
 show okE (2*((H7 l H0 (El l D S).2).i-S.i)+1) _
 refine ⟨ht,?_,fun y hy=>?_⟩
 ·have h5:(El l D S).1.length≤(El l D S).2.i-(Au S).i+1:=hk.len
  have h6:=hk.lt
  show (El l D S).1.length≤1048576
  omega
 exact K8 (by show 2*((El l D S).2.i-(S.i+1))+1≤_;omega) (hk.ok y hy)
theorem ub {l:List Tok} {D:Fam} {n:Nat} (hl:TokEnd l) (hll:l.length≤1048576) (hf:n≠30→Ft l (n+1) D.ei):Ft l n (Ib l D):=by
 intro S hi hn
 subst hn
 unfold Ib
 have leaf:∀e:Expr,okE 1 e→sizeE e=1→(Aq l S.i).kind≠0→Fact l S (e,Au S):=fun e he hs hk=>⟨Kh _,hl.step hi hk,rfl,K8 (by omega) he,by show sizeE e≤_;omega⟩
 split
 ·exact ⟨Aj _,hi,rfl,nb (by omega),by show sizeE At≤_;rw [ae];omega⟩
 split
 ·rename_i h
  refine leaf _ (w8 (Aj _) _) rfl ?_
  rcases Bool.or_eq_true_iff.1 h with h|h
  ·rw [beq_iff_eq] at h;rw [h];decide
  exact AF0 h
 split
 ·rename_i h
  rw [beq_iff_eq] at h
  exact leaf _ (w8 (Aj _) _) rfl (by rw [h];decide)
 split
 ·rename_i h
  rw [beq_iff_eq] at h
  have hk:(Aq l S.i).kind≠0:=by rw [h];decide
  split
  ·rename_i h2
   have hi1:(Au S).i<l.length:=hl.step hi hk
   have:=ua (S:=Au S) (D:=D) hl hll (hl.text S.i) (hl.stepIs hi1 h2) hf
   have h3:S.i+1≤(Jv l D (Aq l S.i) (Au S)).2.i:=this.le
   have h4:sizeE (Jv l D (Aq l S.i) (Au S)).1≤2*((Jv l D (Aq l S.i) (Au S)).2.i-(S.i+1))+1:=this.sz
   exact ⟨by omega,this.lt,this.nest,K8 (by show 2*((Jv l D (Aq l S.i) (Au S)).2.i-(S.i+1))+1≤_;omega) this.ok,by omega⟩
  exact leaf _ (mq _ (hl.text _)) rfl hk
 split
 ·rename_i h
  have hi1:(Au S).i<l.length:=hl.stepIs hi h
  have:=Ls (S:=Au S) (l:=l) (f:=D.ei) (Aq l S.i).at_ hi1 hf
  obtain ⟨w1,w2,w3⟩:=w9 (s:=H0) hl this.lt
  have h3:S.i+1≤(Da (Aq l S.i).at_ D.ei (Au S)).2.i:=this.le
  have h4:sizeE (Da (Aq l S.i).at_ D.ei (Au S)).1≤2*((Da (Aq l S.i).at_ D.ei (Au S)).2.i-(S.i+1))+1:=this.sz
  refine ⟨by show S.i≤(H7 l H0 _).i;omega,w2,w3.trans this.nest,K8 ?_ this.ok,by show sizeE (Da (Aq l S.i).at_ D.ei (Au S)).1≤2*((H7 l H0 (Da (Aq l S.i).at_ D.ei (Au S)).2).i-S.i)+1;omega⟩
  show 2*((Da (Aq l S.i).at_ D.ei (Au S)).2.i-(S.i+1))+1≤2*((H7 l H0 (Da (Aq l S.i).at_ D.ei (Au S)).2).i-S.i)+1
  omega
 exact U5 (Aj _) hi rfl _ _
theorem wd {l:List Tok} {S:PS} {r:Expr×PS} (h:Fact l (Au S) r) (op:Int):Fact l S (Mw op r.1,r.2):=by
 have h1:S.i+1≤r.2.i:=h.le
 refine ⟨by show S.i≤r.2.i;omega,h.lt,h.nest,?_,?_⟩
 rotate_left
 ·have s1:sizeE r.1≤2*(r.2.i-(S.i+1))+1:=h.sz
  show sizeE (Mw op r.1)≤2*(r.2.i-S.i)+1
  rw [AA4]
  omega
 show okE (2*(r.2.i-S.i)+1) _
 refine ⟨by simp [Mw,Expr.text],by simp [Mw,Expr.kids],fun y hy=>?_⟩
 have hy':y=r.1:=by simpa [Mw,Expr.kids] using hy
 subst hy'
 exact K8 (by show 2*(r.2.i-(S.i+1))+1≤_;omega) h.ok
theorem Vp {l:List Tok} {D:Fam} {n:Nat} (hl:TokEnd l) (hll:l.length≤1048576) (hf:n≠30→Ft l (n+1) D.ei) (hg:n≠30→Ft l (n+1) D.ne):Ft l n (Xe l D):=by
 intro S hi hn
 unfold Xe
 split
 ·exact ub hl hll hf S hi hn
 rename_i h
 subst hn
 exact wd (Ls (S:=Au S) _ (hl.stepIs hi (by simpa using h)) hg) 3
theorem f6 {l:List Tok} {D:Fam} {n:Nat} (hl:TokEnd l) (hll:l.length≤1048576) (hf:n≠30→Ft l (n+1) D.ei) (hg:n≠30→Ft l (n+1) D.ne):Ft l n (Fs l D):=J3 hl (J3 hl (Vp hl hll hf hg))
theorem Rq {l:List Tok} {D:Fam} {n:Nat} (hl:TokEnd l) (hll:l.length≤1048576) (hf:n≠30→Ft l (n+1) D.ei) (hg:n≠30→Ft l (n+1) D.ne):Ft l n (H8 l D):=by
 intro S hi hn
 have h1:=f6 hl hll hf hg S hi hn
 unfold H8
 split
 ·exact h1
 rename_i h
 simp only [Co,not_or,Uq,Jw] at h
 exact wc h1 (f6 hl hll hf hg _ (hl.stepIs h1.lt h.2) (h1.nest.trans hn)) hl
theorem f7 {l:List Tok} {D:Fam} {n:Nat} (hl:TokEnd l) (hll:l.length≤1048576) (hf:n≠30→Ft l (n+1) D.ei) (hg:n≠30→Ft l (n+1) D.ne) (hh:n≠30→Ft l (n+1) D.no):Ft l n (Xf l D):=by
 intro S hi hn
 unfold Xf
 split
 ·exact Rq hl hll hf hg S hi hn
 rename_i h
 subst hn
 exact wd (Ls (S:=Au S) _ (hl.stepIs hi (by simpa using h)) hh) 4
theorem Vq {l:List Tok} (hl:TokEnd l) (hll:l.length≤1048576):∀(d n:Nat),n+d=31→n≠31→Ft l n (H1 l d).ei∧Ft l n (H1 l d).no∧Ft l n (H1 l d).ne
 | 0,n,h,h2=>by omega
 | d+1,n,h,_=>by
  have ih:n≠30→_:=fun h30=>Vq hl hll d (n+1) (by omega) (by omega)
  have hn:=f7 (D:=H1 l d) (n:=n) hl hll (fun h=>(ih h).1) (fun h=>(ih h).2.2) (fun h=>(ih h).2.1)
  exact ⟨J3 hl (J3 hl hn),hn,Vp hl hll (fun h=>(ih h).1) (fun h=>(ih h).2.2)⟩
abbrev pr (l:List Tok) (S:PS):AObj:=.cells 209 [.slice false 3 (l.map Mm),A5 (S.i:Int),A5 (S.nest:Int),A5 S.code,A5 S.at_]
theorem Du {n:Nat} {l:List Tok} {S:PS}:ObjLow n (pr l S):=by
 show ∀y∈[AV.slice false 3 (l.map Mm),A5 (S.i:Int),A5 (S.nest:Int),A5 S.code,A5 S.at_],Low n y
 intro y hy
 simp only [Bu,I3,or_false] at hy
 rcases hy with rfl|rfl|rfl|rfl|rfl
 ·simp [or_imp,forall_and]
 all_goals simp
theorem ng (o:Int) (t:Str) (v:Val):Le (.agg [A5 o,Af t,A5 v.kind,A5 v.n,Af v.s,.nil]) (Ab (.mk o t v [])):=by
 rw [Ax]
 refine .agg _ _ rfl (by simp [AV.one,Value.oneCell',sv]) fun i y y' h1 h2=>?_
 match i with
 | 0=>simp at h1 h2;subst h1;subst h2;exact .inl rfl
 | 1=>simp at h1 h2;subst h1;subst h2;exact .inl rfl
 | 2=>simp at h1 h2;subst h1;subst h2;exact .inl rfl
 | 3=>simp at h1 h2;subst h1;subst h2;exact .inl rfl
 | 4=>simp at h1 h2;subst h1;subst h2;exact .inl rfl
 | 5=>simp at h1 h2;subst h1;subst h2;exact .inr ⟨rfl,6,rfl⟩
 | i+6=>simp at h1
theorem ai:Le (.agg [A5 0,Af [],A5 0,A5 0,Af [],.nil]) (Ab At):=ng 0 [] noV
theorem ARb (l:List Tok) (S:PS) (o:Nat) (Hp:List AObj) (ho:Hp[o]? = some (pr l S)) (hi:S.i<l.length):AFun Tryz.prog 275 [.ptr o 0] Hp (Mm (Aq l S.i)):=by
 refine Ah [.cell 2 103] [0] Tryz.func275 Tryz.ntmps275 (fun d=>?_)
 refine APt ?_;refine Z40 ?_
 refine Ak (h:=Cm ho) (hr:=?_)
 refine Z40 ?_
 refine Ak (h:=Cm ho) (hr:=?_)
 refine J0 ?_
 refine A4 (h:=Ac (S.i) (Mm (Aq l S.i)) (fun _=>Zo hi)) (hr:=?_)
 refine A4 ?_;exact AD3

theorem nh (l:List Tok) (S:PS) (of:Str) (o:Nat) (Hp:List AObj) (ho:Hp[o]? = some (pr l S)) (hi:S.i<l.length) (hl:TokEnd l) (hof:of.length≤1048576):AFun Tryz.prog 258 [.ptr o 0,Af of] Hp (B4 (isM l of S)):=by
 refine Ah [.tmp 4] [0,1] Tryz.func258 Tryz.ntmps258 (fun d=>?_)
 refine Z61 ?_;refine AM0 ?_;refine Z20 ?_;refine A2 [1,5] ?_;refine lz ?_;refine Z38 ?_;refine Bm Tryz.call112 (fun hB=>AR8 (Aq l S.i).text of (hl.text _) hof _) ?_;exact AHp

theorem AF1 (l:List Tok) (S:PS) (o:Nat) (Hp:List AObj) (ho:Hp[o]? = some (pr l S)) (hi:S.i<l.length) (hll:l.length≤1048576):ACall Tryz.prog 259 [.ptr o 0] Hp (fun r H'=>r=Mm (Aq l S.i)∧H'=Hp.set o (pr l (Au S))):=by
 refine Ah [.cell 2 103] [0] Tryz.func259 Tryz.ntmps259 (fun d=>?_)
 refine Z67 ?_;refine AM0 ?_;refine lm ?_;refine Z19 ?_
 refine A4 (h:=Cm ho) (hr:=?_)
 refine Z10 ?_
 refine Gm jS ho ?_ ?_
 ·simp
 refine Ja ?_;refine Z2 ?_;exact AD3

theorem AA5 (l:List Tok) (S:PS) (e a:Int) (o:Nat) (Hp:List AObj) (ho:Hp[o]? = some (pr l S)):ACall Tryz.prog 215 [.ptr o 0,A5 e,A5 a] Hp (fun r H'=>r=Ab At∧H'=Hp.set o (pr l (Fb e a S))):=by
 refine Ah [.cell 6 62] [0,1,2] Tryz.func215 Tryz.ntmps215 (fun d=>?_)
 refine AH9 ?_;refine Z50 ?_
 refine A4 (h:=Cm ho) (hr:=?_)
 refine A4 ?_;refine A2 [0,1,2,6,12] ?_
 refine A3 (fun ht12=>?_) (fun ht12=>?_)
 ·have e:Fb e a S=⟨S.i,S.nest,e,a⟩:=if_pos ht12
  refine Z23 ?_;refine j7 ?_;refine Z0 ?_
  refine Gm jS ho ?_ ?_
  ·simp
  refine A2 [6] ?_;refine Es ?_;refine ALl ?_;refine R.wk 19 _ ai ?_;refine ADa ?_;exact A8 (Ae (B8 jA jS)) ⟨rfl,by rw [e]⟩ (hlow:=B7 _ At)
 have e:Fb e a S=S:=if_neg (by rw [ht12];simp)
 refine Z4 ?_;refine ALl ?_;refine R.wk 19 _ ai ?_;refine ADa ?_;exact A8 (Ae (B8 jA jS)) ⟨rfl,by rw [e];exact (Jh ho).symm⟩ (hlow:=B7 _ At)

theorem ARc (v:Val) (Hp:List AObj):AFun Tryz.prog 297 [Bi v] Hp (Ab (Rb v)):=by
 refine Ah [.cell 2 62] [0] Tryz.func297 Tryz.ntmps297 (fun d=>?_)
 refine Z2 ?_;refine Mj ?_;refine A2 [1,2] ?_;refine Z2 ?_;refine zc ?_;refine R.wk 4 _ (ng 1 [] v) ?_;refine Z16 ?_;exact A8 (Ae (B8 jA jS)) ⟨rfl,rfl⟩ (hlow:=B7 _ (Rb v))

theorem ARd (l:List Tok) (S:PS) (s:Str) (o:Nat) (Hp:List AObj) (ho:Hp[o]? = some (pr l S)) (hi:S.i<l.length) (hll:l.length≤1048576):ACall Tryz.prog 299 [.ptr o 0,Af s] Hp (fun r H'=>r=.v (.tuple #[])∧H'=Hp.set o (pr l (H7 l s S))):=by
 refine Ah [] [0,1] Tryz.func299 Tryz.ntmps299 (fun d=>?_)
 refine Z50 ?_
 refine A4 (h:=Cm ho) (hr:=?_)
 refine A4 ?_;refine A2 [0,1,10] ?_
 refine A3 (fun ht10=>?_) (fun ht10=>?_)
 ·have e:H7 l s S=S:=if_pos ht10
  refine Z13 ?_;exact A8 .nores (hp:=⟨rfl,by rw [e];exact (Jh ho).symm⟩)
 have e0:¬(S.code != 0)=true:=by rw [ht10];simp
 refine Sd ?_;refine A9 Tryz.call275 (ARb l S o _ (Ar ho) hi) ?_;refine Z20 ?_;refine A2 [0,1,4] ?_;refine Z25 ?_;refine Z7 ?_;refine Z97 ?_;refine A2 [0,4,21] ?_
 refine A3 (fun ht21=>?_) (fun ht21=>?_)
 ·have e:H7 l s S=Fb 8 (Aq l S.i).at_ S:=by unfold H7;rw [if_neg e0,if_pos ht21]
  refine APc ?_;refine A2 [] ?_;refine Z13 ?_;exact A8 .nores (hp:=⟨rfl,by rw [e]⟩)
 have e:H7 l s S=Au S:=by unfold H7;rw [if_neg e0,if_neg (by rw [ht21];simp)]
 refine Z4 ?_;refine Z23 ?_
 refine A4 (h:=Cm ho) (hr:=?_)
 refine Z10 ?_
 refine Gm jS ho ?_ ?_
 ·simp
 refine A2 [] ?_;exact Gn .nores (hp:=⟨rfl,by rw [e];rfl⟩)

/-- The contract of one of the parser's functions. -/
def PC (g:FuncId) (l:List Tok) (f:PS→Expr×PS) (n:Nat):Prop:=∀(o:Nat) (Hp:List AObj) (S:PS),Hp[o]? = some (pr l S)→S.i<l.length→S.nest=n→ACall Tryz.prog g [.ptr o 0] Hp (fun r H'=>r=Ab (f S).1∧H'=Hp.set o (pr l (f S).2))
abbrev Ni:AObj:=.cells 62 [A5 0,Af [],A5 0,A5 0,Af [],.nil]
theorem we {n:Nat}:ObjLow n Ni:=by
 show ∀y∈[A5 0,Af [],A5 0,A5 0,Af [],AV.nil],Low n y
 simp
theorem AIi {n:Nat} (e:Expr):ObjLow n (.cells 62 (Dz e)):=by
 have h:=B7 n e
 rw [Ax] at h
 show ∀y∈Dz e,Low n y
 intro y hy
 cases h with
 | agg _ h=>exact h y hy
theorem AIj (l:List Tok) (S:PS) (a:Int) (g:FuncId) (first caps:List AV) (x:Expr) (S2:PS) (o:Nat) (Hp Hx:List AObj) (ho:Hp[o]? = some (pr l S)) (hnl:S.nest≤1048576) (hgc:∀args w,(callFunc g args).run Tryz.prog w=.ok (.enter g args) w) (hxl:Hx.length=Hp.length) (hxo:Hx[o]? = some (pr l S2)) (hn2:S2.nest=S.nest+1) (hlow:(∀y∈Hp.set o (pr l (E5 S)),ObjLow Hp.length y)→∀y∈Hx,ObjLow Hp.length y) (hcf:S.nest≠30→∀own,ACall Tryz.prog g (first++caps) (Hp.set o (pr l (E5 S))++own) (fun y H'=>y=Ab x∧H'=Hx++own)):ACall Tryz.prog 277 [.ptr o 0,A5 a,.fn (.func g) first caps] Hp (fun r H'=>(S.nest=30→r=Ab At∧H'=Hp.set o (pr l (Fb 18 a S)))∧(S.nest≠30→r=Ab x∧H'=Hx.set o (pr l (eu S2)))):=by
 refine Ah [.cell 6 62] [0,1,2] Tryz.func277 Tryz.ntmps277 (fun d=>?_)
 refine AH9 ?_;refine Z33 ?_
 refine A4 (h:=Cm ho) (hr:=?_)
 refine A4 ?_;refine A2 [0,1,2,6,12] ?_
 refine A3 (fun ht12=>?_) (fun ht12=>?_)
 ·have hn30:S.nest=30:=by have:=ht12;simp at this;omega
  refine Z1 ?_;refine E2 Tryz.call215 ho (by simp) Du (AA5 l S 18 a o _ (Ar ho)) ?_;refine Gc ?_;refine iy ?_;exact A8 (Ae (B8 jA jS)) ⟨fun _=>⟨by rw [Ax],rfl⟩,fun h=>absurd hn30 h⟩ (hlow:=by have:=B7 Hp.length At;rw [Ax] at this;simpa using this)
 have hn30:S.nest≠30:=by have:=ht12;simp at this;omega
 refine No ?_
 refine A4 (h:=Cm ho) (hr:=?_)
 refine Z10 ?_
 refine Gm jS ho ?_ ?_
 ·simp
 refine A2 [0,2,6] ?_;refine Z2 ?_
 refine R.callVX (up':=Hx) (own':=[Ni]) hgc (hcf hn30 [Ni]) (by simpa using hxl) (by rw [Dx];exact hlow) ?_
 rw [←hxl]
 refine Z20 ?_;refine A2 [0,6,7] ?_;refine Z19 ?_
 refine A4 (h:=Cm hxo) (hr:=?_)
 refine Z10 ?_
 refine Gm jS hxo ?_ ?_
 ·simp
 refine A2 [6,7] ?_;refine Z2 ?_;refine ADa ?_;exact A8 (Ae (B8 jA jS)) ⟨fun h=>absurd h hn30,fun _=>⟨by rw [Ax],by rw [show ((S2.nest:Int)-1)=((eu S2).nest:Int) by show _=((S2.nest-1:Nat):Int);omega];rfl⟩⟩ (hlow:=by have:=B7 Hx.length x;rw [Ax] at this;simpa using this)

theorem AA6 (t:Str) (a b:Expr):Dz (Mv t a b)=[A5 5,.v (sv t),A5 0,A5 0,Af [],.slice false 6 [Ab a,Ab b]]:=rfl
theorem AIk {n:Nat} (t:Str) (a b:Expr):ObjLow n (.cells 62 [A5 5,.v (sv t),A5 0,A5 0,Af [],.slice false 6 [Ab a,Ab b]]):=AIi (Mv t a b)
theorem AIl {n:Nat} {U:List AObj} {i:Nat} {x:AObj} (h:∀y∈U,ObjLow n y) (hx:ObjLow n x):∀y∈U.set i x,ObjLow n y:=by
 intro y hy
 rcases My hy with h1|h1
 ·exact h y h1
 rw [h1];exact hx
/-- within, with a method's value. -/
theorem AF2 {g:FuncId} (hgc:∀args w,(callFunc g args).run Tryz.prog w=.ok (.enter g args) w) (l:List Tok) (S:PS) (a:Int) (f:PS→Expr×PS) (o:Nat) (Hp:List AObj) (ho:Hp[o]? = some (pr l S)) (hi:S.i<l.length) (hnl:S.nest≤30) (hf:S.nest≠30→Ft l (S.nest+1) f) (hcf:S.nest≠30→PC g l f (S.nest+1)):
  ACall Tryz.prog 277 [.ptr o 0,A5 a,.fn (.func g) [.ptr o 0] []] Hp (fun r H'=>r=Ab (Da a f S).1∧H'=Hp.set o (pr l (Da a f S).2)):=by
 have hlt:=(Ad.1 ho).1
 by_cases h30:S.nest=30
 ·refine (AIj l S a g [.ptr o 0] [] At (E5 S) o Hp (Hp.set o (pr l (E5 S))) ho (by omega) hgc (by simp) (by simp [hlt]) rfl (fun h=>h) (fun h=>absurd h30 h)).mono fun r H' h=>?_
  have e:Da a f S=(At,Fb 18 a S):=if_pos (by rw [h30];rfl)
  rw [e]
  exact h.1 h30
 have hq:=hf h30 (E5 S) hi rfl
 refine (AIj l S a g [.ptr o 0] [] (f (E5 S)).1 (f (E5 S)).2 o Hp (Hp.set o (pr l (f (E5 S)).2)) ho (by omega) hgc (by simp) (by simp [hlt]) hq.nest (fun h y hy=>?_) (fun _ own=>?_)).mono fun r H' h=>?_
 ·rcases My hy with h1|h1
  ·obtain ⟨i,hi',rfl⟩:=Qh h1
   by_cases hio:i=o
   ·subst hio
    have:Hp[i]=pr l S:=by rw [Aa hi'] at ho;injection ho
    rw [this];exact Du
   refine h _ ?_
   rw [v0]
   exact ⟨i,by rw [Ed (Ne.symm hio),Aa hi']⟩
  rw [h1];exact Du
 ·have hg:(Hp.set o (pr l (E5 S))++own)[o]? = some (pr l (E5 S)):=Ar (by simp [hlt])
  refine (hcf h30 o (Hp.set o (pr l (E5 S))++own) (E5 S) hg hi rfl).mono fun r H' h=>⟨h.1,h.2.trans ?_⟩
  rw [Lk _ _ (by simpa using hlt),E0]
 have e:Da a f S=((f (E5 S)).1,eu (f (E5 S)).2):=if_neg (by
  show ¬(((S.nest:Int)==30)=true)
  simp
  omega)
 rw [e]
 obtain ⟨h1,h2⟩:=h.2 h30
 exact ⟨h1,by rw [h2,E0]⟩
theorem AIm {g:FuncId} (hgc:∀args w,(callFunc g args).run Tryz.prog w=.ok (.enter g args) w) (l:List Tok) (S:PS) (of:Str) (hof:of.length≤1048576) (f:PS→Expr×PS) (o:Nat) (Hp:List AObj) (ho:Hp[o]? = some (pr l S)) (hi:S.i<l.length) (hl:TokEnd l) (hll:l.length≤1048576) (hf:Ft l S.nest f) (hcf:PC g l f S.nest):ACall Tryz.prog 237 [.ptr o 0,Af of,.fn (.func g) [.ptr o 0] []] Hp (fun r H'=>r=Ab (Ho l of f S).1∧H'=Hp.set o (pr l (Ho l of f S).2)):=by
 have holt:=(Ad.1 ho).1
 refine Ah [.cell 6 62] [0,1,2] Tryz.func237 Tryz.ntmps237 (fun d=>?_)
 refine AH9 ?_;refine Z2 ?_;refine R.callVUp hgc ho (by simp) Du (hcf o _ S (Ar ho) hi rfl) ?_;refine Z20 ?_;refine A2 [0,1,2,6,7] ?_;refine Mh ?_
 refine Az (α:=Expr×PS) (fun r=>⟨32,A6 0 (.ptr o 0) (A6 1 (Af of) (A6 2 (.fn (.func g) [.ptr o 0] []) (A6 6 (.ptr (oid Hp.length 0) 0) (A6 7 (.ptr (oid Hp.length 1) 0) (fun _=>.any))))),Hp.set o (pr l r.2),[.cells 62 [A5 0,Af [],A5 0,A5 0,Af [],.nil],.cells 62 (Dz r.1)],[],none⟩) (fun r=>LeftAt l of f S r) (fun r=>l.length-r.2.i) (f S) (.start (hf S hi rfl)) (B2 (by simp)) rfl (fun r hx=>?_)
 refine Z50 ?_
 refine A4 (h:=Cm (getset ho)) (hr:=?_)
 refine Z44 ?_;refine Bm Tryz.call258 (fun hB=>nh l r.2 of o _ (Ar (getset ho)) hx.fact.lt hl hof) ?_;refine A4 ?_;refine A2 [0,1,2,6,7,21] ?_
 refine A3 (fun ht21=>?_) (fun ht21=>?_)
 ·have hon:=hx.on hl ht21 hf
  have hle:=hon.2.1.le
  have hlt0:=hx.fact.lt
  have hU1:(Hp.set o (pr l r.2)).set o (pr l (Au r.2))=Hp.set o (pr l (Au r.2)):=E0 ..
  refine ADl ?_;refine Z2 ?_;refine E2 Tryz.call259 (getset ho) (by simp) Du (AF1 l r.2 o _ (Ar (getset ho)) hx.fact.lt hll) ?_;refine Z20 ?_;refine A2 [0,1,2,6,7,8] ?_;refine W.drawY0 [0,1,0,0,8,28,63,127] [4] [.q 4 [] [],.s [28] (some 0) [] [],.q 1 [0] []] (fun B=>Hp.set o (if B 0=true then pr l (f (Au r.2)).2 else pr l (Au r.2))) (fun _=>[.cells 62 [A5 0,Af [],A5 0,A5 0,Af [],.nil],.cells 62 (Dz r.1),.cells 103 [A5 (Aq l r.2.i).kind,Af (Aq l r.2.i).text,A5 (Aq l r.2.i).at_]]) Ai (by kernel_rfl) (by simp [E0]) rfl (fun B=>by simp) ?_
  apply Y.q
  ·intro B hT hF
   exact ADc
  case hTF=>decide
  refine Y.callVUp (r:=Ab (f (Au r.2)).1) (o:=o) (x0:=pr l (Au r.2)) (x:=pr l (f (Au r.2)).2) hgc (fun B hT hF hB=>⟨by simp only [hB];exact getset ho,by simp [upd],rfl,Du,?_⟩) ?_
  ·simp only [hB]
   exact hcf o _ (Au r.2) (Ar (getset ho)) hon.1 hx.fact.nest
  apply Y.q
  ·intro B hT hF
   exact Z81
  case hTF=>decide
  refine Gx (tn:=[4]) (U:=Hp.set o (pr l (f (Au r.2)).2)) ?_;refine APd ?_;refine A2 [0,1,2,6,7] ?_;refine L3 ?_
  refine Ay (Mv (Aq l r.2.i).text r.1 (f (Au r.2)).1,(f (Au r.2)).2) hon.2.2 (by show l.length-(f (Au r.2)).2.i<l.length-r.2.i;have:r.2.i+1≤(f (Au r.2)).2.i:=hle;omega) ?_
  simp only [AA6]
  have hlow2:=fun n=>AIk (n:=n) (Aq l r.2.i).text r.1 (f (Au r.2)).1
  simp only [Ax] at hlow2 ⊢
  exact Dq (fun _=>.refl _) (by repeat (first|exact Bq|refine Bp (by simp [oid]<;>omega) ?_)) (by intro y hy;rcases Bu.1 hy with rfl|hy;exact we;rw [Bs.1 hy];exact hlow2 _) (by simp)
 have hout:=hx.out (by rw [ht21];simp)
 refine Xc ?_;refine ADa ?_;exact A8 (Ae (B8 jA jS)) ⟨by rw [hout,Ax],by rw [hout]⟩ (hlow:=by have:=B7 (Hp.set o (pr l r.2)).length r.1;rw [Ax] at this;simpa using this)

theorem ATh (l:List Tok) (S:PS) (f:PS→Expr×PS) (o:Nat) (Hp:List AObj) (ho:Hp[o]? = some (pr l S)) (hi:S.i<l.length) (hl:TokEnd l) (hll:l.length≤1048576) (hf:Ft l S.nest f) (hcf:PC 238 l f S.nest):ACall Tryz.prog 213 [.ptr o 0] Hp (fun r H'=>r=Ab (Ho l orT f S).1∧H'=Hp.set o (pr l (Ho l orT f S).2)):=by
 refine Ah [.cell 2 62] [0] Tryz.func213 Tryz.ntmps213 (fun d=>?_)
 refine Z67 ?_;refine Z1 ?_;refine K1 ?_;refine E2 Tryz.call237 ho (by simp) Du (AIm Tryz.call238 l S orT (by decide) f o _ (Ar ho) hi hl hll hf hcf) ?_;refine Z16 ?_;exact A8 (Ae (B8 jA jS)) ⟨by rw [Ax],rfl⟩ (hlow:=by have:=B7 Hp.length (Ho l orT f S).1;rw [Ax] at this;simpa using this)

theorem ATi (l:List Tok) (S:PS) (f:PS→Expr×PS) (o:Nat) (Hp:List AObj) (ho:Hp[o]? = some (pr l S)) (hi:S.i<l.length) (hl:TokEnd l) (hll:l.length≤1048576) (hf:Ft l S.nest f) (hcf:PC 260 l f S.nest):ACall Tryz.prog 238 [.ptr o 0] Hp (fun r H'=>r=Ab (Ho l AA1 f S).1∧H'=Hp.set o (pr l (Ho l AA1 f S).2)):=by
 refine Ah [.cell 2 62] [0] Tryz.func238 Tryz.ntmps238 (fun d=>?_)
 refine Z67 ?_;refine Z1 ?_;refine K1 ?_;refine E2 Tryz.call237 ho (by simp) Du (AIm Tryz.call260 l S AA1 (by decide) f o _ (Ar ho) hi hl hll hf hcf) ?_;refine Z16 ?_;exact A8 (Ae (B8 jA jS)) ⟨by rw [Ax],rfl⟩ (hlow:=by have:=B7 Hp.length (Ho l AA1 f S).1;rw [Ax] at this;simpa using this)

theorem ATj (l:List Tok) (S:PS) (f:PS→Expr×PS) (o:Nat) (Hp:List AObj) (ho:Hp[o]? = some (pr l S)) (hi:S.i<l.length) (hl:TokEnd l) (hll:l.length≤1048576) (hf:Ft l S.nest f) (hcf:PC 292 l f S.nest):ACall Tryz.prog 286 [.ptr o 0] Hp (fun r H'=>r=Ab (Ho l AA2 f S).1∧H'=Hp.set o (pr l (Ho l AA2 f S).2)):=by
 refine Ah [.cell 2 62] [0] Tryz.func286 Tryz.ntmps286 (fun d=>?_)
 refine Z67 ?_;refine Z1 ?_;refine K1 ?_;refine E2 Tryz.call237 ho (by simp) Du (AIm Tryz.call292 l S AA2 (by decide) f o _ (Ar ho) hi hl hll hf hcf) ?_;refine Z16 ?_;exact A8 (Ae (B8 jA jS)) ⟨by rw [Ax],rfl⟩ (hlow:=by have:=B7 Hp.length (Ho l AA2 f S).1;rw [Ax] at this;simpa using this)

theorem ATk (l:List Tok) (S:PS) (f:PS→Expr×PS) (o:Nat) (Hp:List AObj) (ho:Hp[o]? = some (pr l S)) (hi:S.i<l.length) (hl:TokEnd l) (hll:l.length≤1048576) (hf:Ft l S.nest f) (hcf:PC 295 l f S.nest):ACall Tryz.prog 292 [.ptr o 0] Hp (fun r H'=>r=Ab (Ho l ey f S).1∧H'=Hp.set o (pr l (Ho l ey f S).2)):=by
 refine Ah [.cell 2 62] [0] Tryz.func292 Tryz.ntmps292 (fun d=>?_)
 refine Z67 ?_;refine Z1 ?_;refine K1 ?_;refine E2 Tryz.call237 ho (by simp) Du (AIm Tryz.call295 l S ey (by decide) f o _ (Ar ho) hi hl hll hf hcf) ?_;refine Z16 ?_;exact A8 (Ae (B8 jA jS)) ⟨by rw [Ax],rfl⟩ (hlow:=by have:=B7 Hp.length (Ho l ey f S).1;rw [Ax] at this;simpa using this)

/-- What is so of the functions one nest deeper. -/
structure DeepC (l:List Tok) (Dv:Fam) (n:Nat):Prop where
 ei:n≠30→Ft l (n+1) Dv.ei∧PC 213 l Dv.ei (n+1)
 no:n≠30→Ft l (n+1) Dv.no∧PC 260 l Dv.no (n+1)
 ne:n≠30→Ft l (n+1) Dv.ne∧PC 295 l Dv.ne (n+1)
theorem Xx (op:Int) (x:Expr):Ab (Mw op x)=.agg [A5 op,Af [],A5 0,A5 0,Af [],.slice false 6 [Ab x]]:=by rw [Ax];rfl
theorem wg (t:Str) (a b:Expr):Ab (Mv t a b)=.agg [A5 5,.v (sv t),A5 0,A5 0,Af [],.slice false 6 [Ab a,Ab b]]:=by rw [Ax];rfl
theorem low_agg {n:Nat} (e:Expr):Low n (.agg [.v (.int .i64 e.op),.v (sv e.text),.v (.int .i64 e.val.kind),.v (.int .i64 e.val.n),.v (sv e.val.s),.slice false 6 (e.kids.map Ab)]):=by
 have:=B7 n e
 rwa [Ax] at this
theorem ATl (l:List Tok) (S:PS) (Dv:Fam) (o:Nat) (Hp:List AObj) (ho:Hp[o]? = some (pr l S)) (hi:S.i<l.length) (hl:TokEnd l) (hll:l.length≤1048576) (hnl:S.nest≤30) (hd:DeepC l Dv S.nest) (hc:PC 296 l (Ib l Dv) S.nest):ACall Tryz.prog 295 [.ptr o 0] Hp (fun r H'=>r=Ab (Xe l Dv S).1∧H'=Hp.set o (pr l (Xe l Dv S).2)):=by
 refine Ah [.cell 2 62] [0] Tryz.func295 Tryz.ntmps295 (fun d=>?_)
 refine Z67 ?_;refine Z29 ?_;refine A9 Tryz.call258 (nh l S AMy o _ (Ar ho) hi hl (by decide)) ?_;refine A4 ?_;refine A2 [0,2,6] ?_
 refine A3 (fun ht6=>?_) (fun ht6=>?_)
 ·have e:Xe l Dv S=Ib l Dv S:=if_pos ht6
  refine Z2 ?_;refine E2 Tryz.call296 ho (by simp) Du (hc o _ S (Ar ho) hi rfl) ?_;refine Z16 ?_;exact ALg
 have his:isM l AMy S=true:=by simpa using ht6
 have hi1:(Au S).i<l.length:=hl.stepIs hi his
 have e:Xe l Dv S=(Mw 3 (Da (Aq l S.i).at_ Dv.ne (Au S)).1,(Da (Aq l S.i).at_ Dv.ne (Au S)).2):=if_neg (by rw [ht6];simp)
 refine Z4 ?_;refine Z82 ?_;refine lm ?_;refine Z25 ?_;refine K1 ?_;refine E2 Tryz.call277 (getset ho) (by simp) Du (AF2 Tryz.call295 l (Au S) (Aq l S.i).at_ Dv.ne o _ (Ar (getset ho)) hi1 hnl (fun h=>(hd.ne h).1) (fun h=>(hd.ne h).2)) ?_;refine Ra ?_;refine ALn ?_;exact A8 (Ae (B8 jA jS)) ⟨by rw [e,Xx];simp only [Ax],by rw [e,E0]⟩ (hlow:=by have:=B7 Hp.length (Mw 3 (Da (Aq l S.i).at_ Dv.ne (Au S)).1);rw [Xx] at this;simp only [Ax] at this;simpa only [Dx] using this)

theorem ATm (l:List Tok) (S:PS) (Dv:Fam) (o:Nat) (Hp:List AObj) (ho:Hp[o]? = some (pr l S)) (hi:S.i<l.length) (hl:TokEnd l) (hll:l.length≤1048576) (hnl:S.nest≤30) (hd:DeepC l Dv S.nest) (hc:PC 276 l (H8 l Dv) S.nest):ACall Tryz.prog 260 [.ptr o 0] Hp (fun r H'=>r=Ab (Xf l Dv S).1∧H'=Hp.set o (pr l (Xf l Dv S).2)):=by
 refine Ah [.cell 2 62] [0] Tryz.func260 Tryz.ntmps260 (fun d=>?_)
 refine Z67 ?_;refine Z29 ?_;refine A9 Tryz.call258 (nh l S AMx o _ (Ar ho) hi hl (by decide)) ?_;refine A4 ?_;refine A2 [0,2,6] ?_
 refine A3 (fun ht6=>?_) (fun ht6=>?_)
 ·have e:Xf l Dv S=H8 l Dv S:=if_pos ht6
  refine Z2 ?_;refine E2 Tryz.call276 ho (by simp) Du (hc o _ S (Ar ho) hi rfl) ?_;refine Z16 ?_;exact ALg
 have his:isM l AMx S=true:=by simpa using ht6
 have hi1:(Au S).i<l.length:=hl.stepIs hi his
 have e:Xf l Dv S=(Mw 4 (Da (Aq l S.i).at_ Dv.no (Au S)).1,(Da (Aq l S.i).at_ Dv.no (Au S)).2):=if_neg (by rw [ht6];simp)
 refine Z4 ?_;refine Z82 ?_;refine lm ?_;refine Z25 ?_;refine K1 ?_;refine E2 Tryz.call277 (getset ho) (by simp) Du (AF2 Tryz.call260 l (Au S) (Aq l S.i).at_ Dv.no o _ (Ar (getset ho)) hi1 hnl (fun h=>(hd.no h).1) (fun h=>(hd.no h).2)) ?_;refine Ra ?_;refine ALn ?_;exact A8 (Ae (B8 jA jS)) ⟨by rw [e,Xx];simp only [Ax],by rw [e,E0]⟩ (hlow:=by have:=B7 Hp.length (Mw 4 (Da (Aq l S.i).at_ Dv.no (Au S)).1);rw [Xx] at this;simp only [Ax] at this;simpa only [Dx] using this)

theorem ATn (l:List Tok) (S:PS) (Dv:Fam) (o:Nat) (Hp:List AObj) (ho:Hp[o]? = some (pr l S)) (hi:S.i<l.length) (hl:TokEnd l) (hll:l.length≤1048576) (hnl:S.nest≤30) (hd:DeepC l Dv S.nest) (hg:Ft l S.nest (Fs l Dv)) (hc:PC 286 l (Fs l Dv) S.nest):ACall Tryz.prog 276 [.ptr o 0] Hp (fun r H'=>r=Ab (H8 l Dv S).1∧H'=Hp.set o (pr l (H8 l Dv S).2)):=by
 have hq:=hg S hi rfl
 refine Ah [.cell 2 62] [0] Tryz.func276 Tryz.ntmps276 (fun d=>?_)
 refine Z67 ?_;refine Z2 ?_;refine E2 Tryz.call286 ho (by simp) Du (hc o _ S (Ar ho) hi rfl) ?_;refine lm ?_;refine Z50 ?_
 refine A4 (h:=Cm (getset ho)) (hr:=?_)
 refine Sf ?_;refine Bm Tryz.call258 (fun hB=>nh l (Fs l Dv S).2 AIh o _ (Ar (getset ho)) hq.lt hl (by decide)) ?_;refine Z93 ?_;refine A2 [0,2,3,17] ?_
 refine A3 (fun ht17=>?_) (fun ht17=>?_)
 ·have e:H8 l Dv S=Fs l Dv S:=if_pos ht17
  refine Z2 ?_;refine Z16 ?_;exact ALg
 have his:isM l AIh (Fs l Dv S).2=true:=by
  have:=ht17
  simp only [Cq,Jw] at this
  exact this.2
 have hi1:(Au (Fs l Dv S).2).i<l.length:=hl.stepIs hq.lt his
 have e:H8 l Dv S=(Mv (Aq l (Fs l Dv S).2.i).text (Fs l Dv S).1 (Fs l Dv (Au (Fs l Dv S).2)).1,(Fs l Dv (Au (Fs l Dv S).2)).2):=if_neg (by rw [ht17];simp)
 refine Z92 ?_;refine E2 Tryz.call259 (getset ho) (by simp) Du (AF1 l (Fs l Dv S).2 o _ (Ar (getset ho)) hq.lt hll) ?_;refine Z20 ?_;refine A2 [0,2,3,4] ?_;refine Hy [0,1,0,0,8,28,63,127] [4] [.q 4 [] [],.s [25] (some 0) [] [],.q 1 [0] []] (fun B=>Hp.set o (if B 0=true then pr l (Fs l Dv (Au (Fs l Dv S).2)).2 else pr l (Au (Fs l Dv S).2))) (fun _=>[.cells 62 [A5 0,Af [],A5 0,A5 0,Af [],.nil],.cells 62 (Dz (Fs l Dv S).1),.cells 103 [A5 (Aq l (Fs l Dv S).2.i).kind,Af (Aq l (Fs l Dv S).2.i).text,A5 (Aq l (Fs l Dv S).2.i).at_]]) Ai (by kernel_rfl) (by simp [E0]) rfl (fun B=>by simp) ?_
 apply Y.q
 ·intro B hT hF
  exact ADc
 case hTF=>decide
 refine Of (r:=Ab (Fs l Dv (Au (Fs l Dv S).2)).1) (o:=o) (x0:=pr l (Au (Fs l Dv S).2)) (x:=pr l (Fs l Dv (Au (Fs l Dv S).2)).2) Tryz.call286 (fun B hT hF hB=>⟨by simp only [hB];exact getset ho,by simp [upd],rfl,Du,?_⟩) ?_
 ·simp only [hB]
  exact hc o _ (Au (Fs l Dv S).2) (Ar (getset ho)) hi1 hq.nest
 apply Y.q
 ·intro B hT hF
  exact Z81
 case hTF=>decide
 refine Gx (tn:=[4]) (U:=Hp.set o (pr l (Fs l Dv (Au (Fs l Dv S).2)).2)) ?_;refine ALn ?_;exact A8 (Ae (B8 jA jS)) ⟨by rw [e,wg];simp only [Ax],by rw [e]⟩ (hlow:=by have:=B7 Hp.length (Mv (Aq l (Fs l Dv S).2.i).text (Fs l Dv S).1 (Fs l Dv (Au (Fs l Dv S).2)).1);rw [wg] at this;simp only [Ax] at this;simpa only [Dx] using this)

/-- The contract of the parser of calls. -/
def ni (l:List Tok) (Dv:Fam) (n:Nat):Prop:=∀(o:Nat) (Hp:List AObj) (S:PS) (t:Tok),Hp[o]? = some (pr l S)→(Au S).i<l.length→S.nest=n→t.text.length≤1048576→isM l opT S=true→ACall Tryz.prog 298 [.ptr o 0,Mm t] Hp (fun r H'=>r=Ab (Jv l Dv t S).1∧H'=Hp.set o (pr l (Jv l Dv t S).2))
theorem AF3:Ab At=.agg [A5 0,Af [],A5 0,A5 0,Af [],.slice false 6 []]:=by rw [Ax];rfl
theorem ATo (l:List Tok) (S:PS) (Dv:Fam) (o:Nat) (Hp:List AObj) (ho:Hp[o]? = some (pr l S)) (hi:S.i<l.length) (hl:TokEnd l) (hll:l.length≤1048576) (hnl:S.nest≤30) (hd:DeepC l Dv S.nest) (hcl:ni l Dv S.nest):ACall Tryz.prog 296 [.ptr o 0] Hp (fun r H'=>r=Ab (Ib l Dv S).1∧H'=Hp.set o (pr l (Ib l Dv S).2)):=by
 refine Ah [.cell 2 62] [0] Tryz.func296 Tryz.ntmps296 (fun d=>?_)
 refine Z67 ?_;refine AM0 ?_;refine lm ?_;refine Z50 ?_
 refine A4 (h:=Cm ho) (hr:=?_)
 refine A4 ?_;refine A2 [0,2,3,14] ?_
 refine A3 (fun ht14=>?_) (fun ht14=>?_)
 ·have e:Ib l Dv S=(At,S):=if_pos ht14
  refine ALl ?_;refine R.wk 15 _ ai ?_;refine Z16 ?_;refine F8 ?_;exact A8 (Ae (B8 jA jS)) ⟨by rw [e,Ax],by rw [e];exact (Jh ho).symm⟩ (hlow:=by have:=B7 Hp.length (At);simpa only [Ax,Dx] using this)
 have e0:¬(S.code != 0)=true:=by rw [ht14];simp
 refine Z42 ?_;refine rp ?_;refine Bm Tryz.call258 (fun hB=>nh l S AMz o _ (Ar ho) hi hl (by decide)) ?_;refine Z0 ?_;refine A2 [0,2,3,16] ?_
 refine A3 (fun ht16=>?_) (fun ht16=>?_)
 ·have e:Ib l Dv S=(Rb (Ji (Aq l S.i).text).1,Au S):=by unfold Ib;rw [if_neg e0,if_pos ht16]
  refine Z82 ?_;refine A4 ?_;refine A9 Tryz.call159 (AMp (Aq l S.i).text (hl.text _) _) ?_;refine Ys ?_;refine A2 [2,4] ?_;refine Z2 ?_;refine A9 Tryz.call297 (ARc (Ji (Aq l S.i).text).1 _) ?_;refine Z16 ?_;refine Z6 ?_;exact A8 (Ae (B8 jA jS)) ⟨by rw [e,Ax],by rw [e]⟩ (hlow:=by have:=B7 Hp.length (Rb (Ji (Aq l S.i).text).1);simpa only [Ax,Dx] using this)
 have e1:¬(((Aq l S.i).kind==3) || isM l AMz S)=true:=by rw [ht16];simp
 refine Z25 ?_;refine A2 [0,2,3,33] ?_
 refine A3 (fun ht33=>?_) (fun ht33=>?_)
 ·have e:Ib l Dv S=(Rb ⟨2,0,(Aq l S.i).text.take 200⟩,Au S):=by unfold Ib;rw [if_neg e0,if_neg e1,if_pos ht33]
  refine Z82 ?_;refine A4 ?_;refine A9 Tryz.call206 (zm (Aq l S.i).text _) ?_;refine A9 Tryz.call297 (ARc ⟨2,0,(Aq l S.i).text.take 200⟩ _) ?_;refine Z16 ?_;refine Z6 ?_;exact A8 (Ae (B8 jA jS)) ⟨by rw [e,Ax],by rw [e]⟩ (hlow:=by have:=B7 Hp.length (Rb ⟨2,0,(Aq l S.i).text.take 200⟩);simpa only [Ax,Dx] using this)
 have e2:¬((Aq l S.i).kind==4)=true:=by rw [ht33];simp
 refine Z25 ?_;refine A2 [0,2,3,42] ?_
 refine A3 (fun ht42=>?_) (fun ht42=>?_)
 ·have hi1:(Au S).i<l.length:=hl.step hi (by rw [beq_iff_eq] at ht42;rw [ht42];decide)
  refine Z82 ?_;refine A2 [0,2,3] ?_;refine Z29 ?_;refine A9 Tryz.call258 (nh l (Au S) opT o _ (Ar (getset ho)) hi1 hl (by decide)) ?_;refine A2 [0,2,3,49] ?_
  refine A3 (fun ht49=>?_) (fun ht49=>?_)
  ·have e:Ib l Dv S=Jv l Dv (Aq l S.i) (Au S):=by unfold Ib;rw [if_neg e0,if_neg e1,if_neg e2,if_pos ht42,if_pos ht49]
   have hi2:(Au (Au S)).i<l.length:=hl.stepIs hi1 ht49
   refine Z1 ?_;refine E2 Tryz.call298 (getset ho) (by simp) Du (hcl o _ (Au S) (Aq l S.i) (Ar (getset ho)) hi2 rfl (hl.text _) ht49) ?_;refine Z16 ?_;refine F8 ?_;refine Z6 ?_;exact A8 (Ae (B8 jA jS)) ⟨by rw [e,Ax],by rw [e,E0]⟩ (hlow:=by have:=B7 Hp.length ((Jv l Dv (Aq l S.i) (Au S)).1);simpa only [Ax,Dx] using this)
  have e:Ib l Dv S=(Dt (Aq l S.i).text,Au S):=by unfold Ib;rw [if_neg e0,if_neg e1,if_neg e2,if_pos ht42,if_neg (by rw [ht49];simp)]
  refine Lq ?_;refine zc ?_;refine R.wk 55 _ (mp _) ?_;refine Z16 ?_;refine Z6 ?_;exact A8 (Ae (B8 jA jS)) ⟨by rw [e,Ax],by rw [e]⟩ (hlow:=by have:=B7 Hp.length (Dt (Aq l S.i).text);simpa only [Ax,Dx] using this)
 have e3:¬((Aq l S.i).kind==1)=true:=by rw [ht42];simp
 refine Z2 ?_;refine A9 Tryz.call258 (nh l S opT o _ (Ar ho) hi hl (by decide)) ?_;refine A4 ?_;refine A2 [0,2,3,56] ?_
 refine A3 (fun ht56=>?_) (fun ht56=>?_)
 ·have e:Ib l Dv S=((Da (Aq l S.i).at_ Dv.ei (Au S)).1,H7 l H0 (Da (Aq l S.i).at_ Dv.ei (Au S)).2):=by unfold Ib;rw [if_neg e0,if_neg e1,if_neg e2,if_neg e3,if_pos ht56]
  have hi1:(Au S).i<l.length:=hl.stepIs hi ht56
  have hwf:=Ls (S:=Au S) (l:=l) (f:=Dv.ei) (Aq l S.i).at_ hi1 (fun h=>(hd.ei h).1)
  refine Z82 ?_;refine A2 [0,2,3] ?_;refine Z25 ?_;refine K1 ?_;refine E2 Tryz.call277 (getset ho) (by simp) Du (AF2 Tryz.call213 l (Au S) (Aq l S.i).at_ Dv.ei o _ (Ar (getset ho)) hi1 hnl (fun h=>(hd.ei h).1) (fun h=>(hd.ei h).2)) ?_;refine Z20 ?_;refine A2 [0,2,6] ?_;refine Z2 ?_;refine E2 Tryz.call299 (getset (getset ho)) (by simp) Du (ARd l (Da (Aq l S.i).at_ Dv.ei (Au S)).2 H0 o _ (Ar (getset (getset ho))) hwf.lt hll) ?_;refine A2 [2,6] ?_;refine Z2 ?_;refine Z16 ?_;refine Z6 ?_;exact A8 (Ae (B8 jA jS)) ⟨by rw [e,Ax],by rw [e,E0,E0]⟩ (hlow:=by have:=B7 Hp.length ((Da (Aq l S.i).at_ Dv.ei (Au S)).1);simpa only [Ax,Dx] using this)
 have e:Ib l Dv S=(At,Fb 8 (Aq l S.i).at_ S):=by unfold Ib;rw [if_neg e0,if_neg e1,if_neg e2,if_neg e3,if_neg (by rw [ht56];simp)]
 refine Z17 ?_;refine APc ?_;refine Z16 ?_;exact A8 (Ae (B8 jA jS)) ⟨by rw [e,Ax],by rw [e]⟩ (hlow:=by have:=B7 Hp.length (At);simpa only [Ax,Dx] using this)

theorem AIn {l:List Tok} (hl:TokEnd l) (hll:l.length≤1048576) {d n:Nat} (h:n+(d+1)=31) (hp:n≠30→PC 213 l (H1 l d).ei (n+1)∧PC 260 l (H1 l d).no (n+1)∧PC 295 l (H1 l d).ne (n+1)):DeepC l (H1 l d) n:=by
 have g:n≠30→_:=fun h30=>Vq hl hll d (n+1) (by omega) (by omega)
 exact ⟨fun h=>⟨(g h).1,(hp h).1⟩,fun h=>⟨(g h).2.1,(hp h).2.1⟩,fun h=>⟨(g h).2.2,(hp h).2.2⟩⟩
/-- All functions of the parser. -/
theorem nj {l:List Tok} (hl:TokEnd l) (hll:l.length≤1048576) (hcl:∀n Dv,n≤30→DeepC l Dv n→ni l Dv n):∀(d n:Nat),n+d=31→n≤30→PC 213 l (H1 l d).ei n∧PC 260 l (H1 l d).no n∧PC 295 l (H1 l d).ne n
 | 0,n,h,hn=>by omega
 | d+1,n,h,hn=>by
  have hd:DeepC l (H1 l d) n:=AIn hl hll h (fun h30=>nj hl hll hcl d (n+1) (by omega) (by omega))
  have g1:Ft l n (Xe l (H1 l d)):=Vp hl hll (fun h=>(hd.ei h).1) (fun h=>(hd.ne h).1)
  have g2:Ft l n (n9 l (H1 l d)):=J3 hl g1
  have g3:Ft l n (Fs l (H1 l d)):=J3 hl g2
  have g4:Ft l n (H8 l (H1 l d)):=Rq hl hll (fun h=>(hd.ei h).1) (fun h=>(hd.ne h).1)
  have g5:Ft l n (Xf l (H1 l d)):=f7 hl hll (fun h=>(hd.ei h).1) (fun h=>(hd.ne h).1) (fun h=>(hd.no h).1)
  have g6:Ft l n (na l (H1 l d)):=J3 hl g5
  have p0:PC 296 l (Ib l (H1 l d)) n:=fun o Hp S ho hi hS=>by
   subst hS
   exact ATo l S (H1 l d) o Hp ho hi hl hll hn hd (hcl _ _ hn hd)
  have p1:PC 295 l (Xe l (H1 l d)) n:=fun o Hp S ho hi hS=>by
   subst hS
   exact ATl l S (H1 l d) o Hp ho hi hl hll hn hd p0
  have p2:PC 292 l (n9 l (H1 l d)) n:=fun o Hp S ho hi hS=>by
   subst hS
   exact ATk l S (Xe l (H1 l d)) o Hp ho hi hl hll g1 p1
  have p3:PC 286 l (Fs l (H1 l d)) n:=fun o Hp S ho hi hS=>by
   subst hS
   exact ATj l S (n9 l (H1 l d)) o Hp ho hi hl hll g2 p2
  have p4:PC 276 l (H8 l (H1 l d)) n:=fun o Hp S ho hi hS=>by
   subst hS
   exact ATn l S (H1 l d) o Hp ho hi hl hll hn hd g3 p3
  have p5:PC 260 l (Xf l (H1 l d)) n:=fun o Hp S ho hi hS=>by
   subst hS
   exact ATm l S (H1 l d) o Hp ho hi hl hll hn hd p4
  have p6:PC 238 l (na l (H1 l d)) n:=fun o Hp S ho hi hS=>by
   subst hS
   exact ATi l S (Xf l (H1 l d)) o Hp ho hi hl hll g5 p5
  have p7:PC 213 l (Xw l (H1 l d)) n:=fun o Hp S ho hi hS=>by
   subst hS
   exact ATh l S (na l (H1 l d)) o Hp ho hi hl hll g6 p6
  exact ⟨p7,p5,p1⟩
theorem f8:∀(n:Nat) (e:Expr),okE n e→depthE e≤n
 | 0,_,h=>h.elim
 | n+1,e,h=>by
  rw [el]
  have:∀l:List Expr,(∀y∈l,okE n y)→Ff l≤n:=by
   intro l
   induction l with
   | nil=>intro _;exact Ap _
   | cons y r ih =>
    intro hl
    rw [Ff]
    have h1:=f8 n y (hl y (by simp))
    have h2:=ih (fun z hz=>hl z (by simp [hz]))
    omega
  have:=this e.kids h.2.2
  omega
theorem AF4 (e:Expr) (x:Nat):D7 (e.kids.take x)+1≤sizeE e:=by
 rw [Kv]
 have:∀(l:List Expr) (x:Nat),D7 (l.take x)≤D7 l:=by
  intro l
  induction l with
  | nil=>intro x;simp
  | cons y r ih =>
   intro x
   cases x with
   | zero=>simp [D7]
   | succ x =>
    have:=ih x
    rw [List.take_succ_cons,D7,D7]
    omega
 have:=this e.kids x
 omega
theorem ATp:∀(n:Nat) (e:Expr),okE n e→n≤1048576→∀Hp:List AObj,AFun Tryz.prog 148 [Ab e] Hp (A5 (depthE e:Nat)):=by
 intro n
 induction n with
 | zero=>exact fun e h=>h.elim
 | succ n ih =>
 intro e hok hn Hp
 refine Ah [.tmp 2] [0] Tryz.func148 Tryz.ntmps148 (fun d=>?_)
 refine Pv ?_;refine Z2 ?_;refine A2 [1,3] ?_;refine Z29 ?_;refine j8 ?_
 refine Az (α:=Nat) (fun x=>⟨25,A6 1 (.ro (Dz e)) (A6 3 (A5 (Ff (e.kids.take x):Nat)) (A6 4 (A5 (x:Nat)) (fun _=>.any))),Hp,[],[],none⟩) (fun x=>x≤e.kids.length) (fun x=>e.kids.length-x) (0) (Ap _) (B2 (by simp [Ff])) rfl (fun x hx=>?_)
 refine Oi ?_;refine A2 [1,3,4,10] ?_
 refine A3 (fun ht10=>?_) (fun ht10=>?_)
 ·have hlt:x<e.kids.length:=by simpa using ht10
  have hkl:=hok.2.1
  refine Xa ?_
  refine A4 (h:=Ac (x) (Ab e.kids[x]) (fun _=>Aw hlt)) (hr:=?_)
  refine A4 ?_;refine A9 Tryz.call148 (ih e.kids[x] (hok.2.2 _ (Av hlt)) (by omega) _) ?_;refine A4 ?_;refine A2 [1,3,4,5] ?_;refine Z19 ?_;refine A2 [1,3,4,5,21] ?_
  refine A3 (fun ht21=>?_) (fun ht21=>?_)
  ·have em:Ff (e.kids.take (x+1))=depthE e.kids[x]:=by rw [Wm _ hlt];have:=of_decide_eq_true ht21;omega
   refine Z31 ?_;refine j8 ?_;refine Z83 ?_;exact AOl
  have em:Ff (e.kids.take (x+1))=Ff (e.kids.take x):=by rw [Wm _ hlt];have:=of_decide_eq_false ht21;omega
  refine Z71 ?_;exact AOl
 have hd1:=f8 _ e hok
 have hxe:e.kids.take x=e.kids:=D9 (by simp at ht10;omega)
 have hdd:=el e
 refine Xc ?_
 rw [hxe]
 refine Z53 ?_;exact A8 (Ae A7) ⟨by rw [hdd];rfl,rfl⟩

theorem ATq:∀(n:Nat) (e:Expr),okE n e→sizeE e≤1048576→∀Hp:List AObj,AFun Tryz.prog 149 [Ab e] Hp (A5 (sizeE e:Nat)):=by
 intro n
 induction n with
 | zero=>exact fun e h=>h.elim
 | succ n ih =>
 intro e hok hn Hp
 refine Ah [.tmp 2] [0] Tryz.func149 Tryz.ntmps149 (fun d=>?_)
 refine Pv ?_;refine Z2 ?_;refine A2 [1,3] ?_;refine Z29 ?_;refine j8 ?_
 refine Az (α:=Nat) (fun x=>⟨21,A6 1 (.ro (Dz e)) (A6 3 (A5 ((D7 (e.kids.take x):Nat)+1)) (A6 4 (A5 (x:Nat)) (fun _=>.any))),Hp,[],[],none⟩) (fun x=>x≤e.kids.length) (fun x=>e.kids.length-x) (0) (Ap _) (B2 (by simp [D7])) rfl (fun x hx=>?_)
 refine Oi ?_;refine A2 [1,3,4,9] ?_
 refine A3 (fun ht9=>?_) (fun ht9=>?_)
 ·have hlt:x<e.kids.length:=by simpa using ht9
  have hkl:=hok.2.1
  have hs1:=tc e.kids hlt
  have hs2:=AF4 e (x+1)
  refine Z42 ?_;refine Z31 ?_;refine Z0 ?_
  refine A4 (h:=Ac (x) (Ab e.kids[x]) (fun _=>Aw hlt)) (hr:=?_)
  refine A4 ?_
  refine A9 Tryz.call149 (ih e.kids[x] (hok.2.2 _ (Av hlt)) (by have:=mm e hlt;omega) _) ?_
  refine Z0 ?_;refine j8 ?_;refine Z83 ?_;refine j8 ?_;exact Ay (x+1) hlt (by omega) (Bh (by simp only [hs1];congr 4;simp only [AV.v.injEq,Value.int.injEq,true_and];omega))
 have hxe:e.kids.take x=e.kids:=D9 (by simp at ht9;omega)
 have hdd:=Kv e
 refine Z45 ?_;refine j5 ?_;exact A8 (Ae A7) ⟨by rw [hxe,hdd];simp;omega,rfl⟩

def Vr (s:Str):Int:=if (((s==[108,101,110]) || (s==[115,116,114])) || (s==[110,117,109])) || (s==[105,115,110,117,108,108]) then 1 else if ((s==[110,118,108]) || (s==[108,101,102,116])) || (s==[114,105,103,104,116]) then 2 else if s==[105,102] then 3 else -1
theorem AA7 (s:Str):Cc s=Vr s:=by
 by_cases h:s∈arityList.map (·.1)
 ·have:((arityList.map (·.1)).all fun s=>decide (Cc s=Vr s))=true:=by kernel_rfl
  exact of_decide_eq_true (B5.1 this s h)
 have h1:Cc s = -1:=by
  unfold Cc
  rw [Na.2 fun p hp=>by
   simp only [beq_iff_eq]
   rintro rfl
   exact h (D6.2 ⟨p,hp,rfl⟩)]
 rw [h1]
 simp only [arityList,C5,Ef,Bu,I3,or_false,not_or] at h
 obtain ⟨a1,a2,a3,a4,a5,a6,a7,a8⟩:=h
 simp [Vr,a1,a2,a3,a4,a5,a6,a7,a8]
theorem ARe (s:Str) (Hp:List AObj):AFun Tryz.prog 196 [Af s] Hp (A5 (Vr s)):=by
 refine Ah [.tmp 2] [0] Tryz.func196 Tryz.ntmps196 (fun d=>?_)
 refine rr ?_;refine A2 [3] ?_;refine Mi ?_;refine Z8 ?_;refine A2 [3,4] ?_
 refine A3 (fun ht4=>?_) (fun ht4=>?_)
 ·refine Z4 ?_
  refine A3 (fun ht4=>?_) (fun ht4=>?_)
  ·exact Z72
  refine Z8 ?_;refine A2 [3,9] ?_
  refine A3 (fun ht9=>?_) (fun ht9=>?_)
  ·refine Z4 ?_
   refine A3 (fun ht9=>?_) (fun ht9=>?_)
   ·exact Z72
   refine X5 ?_
   refine A3 (fun ht13=>?_) (fun ht13=>?_)
   ·exact Z72
   exact X7
  refine Z1 ?_;refine A2 [3,9] ?_
  refine A3 (fun ht9=>?_) (fun ht9=>?_)
  ·refine Z4 ?_
   refine A3 (fun ht9=>?_) (fun ht9=>?_)
   ·exact Z72
   refine X5 ?_
   refine A3 (fun ht13=>?_) (fun ht13=>?_)
   ·exact Z72
   exact X7
  refine Z31 ?_;refine AHl ?_
  refine A3 (fun ht9=>?_) (fun ht9=>?_)
  ·exact Z72
  refine X5 ?_
  refine A3 (fun ht13=>?_) (fun ht13=>?_)
  ·exact Z72
  exact X7
 refine Z1 ?_;refine A2 [3,4] ?_
 refine A3 (fun ht4=>?_) (fun ht4=>?_)
 ·refine Z4 ?_
  refine A3 (fun ht4=>?_) (fun ht4=>?_)
  ·exact Z72
  refine Z8 ?_;refine A2 [3,9] ?_
  refine A3 (fun ht9=>?_) (fun ht9=>?_)
  ·refine Z4 ?_
   refine A3 (fun ht9=>?_) (fun ht9=>?_)
   ·exact Z72
   refine X5 ?_
   refine A3 (fun ht13=>?_) (fun ht13=>?_)
   ·exact Z72
   exact X7
  refine Z1 ?_;refine A2 [3,9] ?_
  refine A3 (fun ht9=>?_) (fun ht9=>?_)
  ·refine Z4 ?_
   refine A3 (fun ht9=>?_) (fun ht9=>?_)
   ·exact Z72
   refine X5 ?_
   refine A3 (fun ht13=>?_) (fun ht13=>?_)
   ·exact Z72
   exact X7
  refine Z31 ?_;refine AHl ?_
  refine A3 (fun ht9=>?_) (fun ht9=>?_)
  ·exact Z72
  refine X5 ?_
  refine A3 (fun ht13=>?_) (fun ht13=>?_)
  ·exact Z72
  exact X7
 refine Z1 ?_;refine A2 [3,4] ?_
 refine A3 (fun ht4=>?_) (fun ht4=>?_)
 ·refine Z4 ?_
  refine A3 (fun ht4=>?_) (fun ht4=>?_)
  ·exact Z72
  refine Z8 ?_;refine A2 [3,9] ?_
  refine A3 (fun ht9=>?_) (fun ht9=>?_)
  ·refine Z4 ?_
   refine A3 (fun ht9=>?_) (fun ht9=>?_)
   ·exact Z72
   refine X5 ?_
   refine A3 (fun ht13=>?_) (fun ht13=>?_)
   ·exact Z72
   exact X7
  refine Z1 ?_;refine A2 [3,9] ?_
  refine A3 (fun ht9=>?_) (fun ht9=>?_)
  ·refine Z4 ?_
   refine A3 (fun ht9=>?_) (fun ht9=>?_)
   ·exact Z72
   refine X5 ?_
   refine A3 (fun ht13=>?_) (fun ht13=>?_)
   ·exact Z72
   exact X7
  refine Z31 ?_;refine AHl ?_
  refine A3 (fun ht9=>?_) (fun ht9=>?_)
  ·exact Z72
  refine X5 ?_
  refine A3 (fun ht13=>?_) (fun ht13=>?_)
  ·exact Z72
  exact X7
 refine Z31 ?_;refine A2 [3,4] ?_;refine Es ?_
 refine A3 (fun ht4=>?_) (fun ht4=>?_)
 ·exact Z72
 refine Z8 ?_;refine A2 [3,9] ?_
 refine A3 (fun ht9=>?_) (fun ht9=>?_)
 ·refine Z4 ?_
  refine A3 (fun ht9=>?_) (fun ht9=>?_)
  ·exact Z72
  refine X5 ?_
  refine A3 (fun ht13=>?_) (fun ht13=>?_)
  ·exact Z72
  exact X7
 refine Z1 ?_;refine A2 [3,9] ?_
 refine A3 (fun ht9=>?_) (fun ht9=>?_)
 ·refine Z4 ?_
  refine A3 (fun ht9=>?_) (fun ht9=>?_)
  ·exact Z72
  refine X5 ?_
  refine A3 (fun ht13=>?_) (fun ht13=>?_)
  ·exact Z72
  exact X7
 refine Z31 ?_;refine AHl ?_
 refine A3 (fun ht9=>?_) (fun ht9=>?_)
 ·exact Z72
 refine X5 ?_
 refine A3 (fun ht13=>?_) (fun ht13=>?_)
 ·exact Z72
 exact X7

theorem AF5 {s:Str} {x:Nat} (hx:x<levels.length) (h:levels[x].contains s=true) (h0:∀(j:Nat) (l:List Str),j<x→levels[j]? = some l→l.contains s=false):Dr s=(x:Int):=by
 unfold Dr
 rw [Jy.2 ⟨hx,h,fun j hj=>by
  have e:=h0 j levels[j] hj (Aa _)
  show ¬(levels[j].contains s=true)
  rw [e]
  simp⟩]
theorem AF6 {s:Str} (h0:∀(j:Nat) (l:List Str),j<levels.length→levels[j]? = some l→l.contains s=false):Dr s = -1:=by
 unfold Dr
 rw [Rw.2 fun l hl=>by
  obtain ⟨j,hj⟩:=Cf hl
  exact h0 j l (Ad.1 hj).1 hj]
theorem uc:levels.length=6:=rfl
theorem jp {x:Nat} (hx:x<levels.length):levels[x].length≤6:=by
 have:(levels.all fun l=>decide (l.length≤6))=true:=by kernel_rfl
 exact of_decide_eq_true (B5.1 this _ (Av hx))
theorem d9 {l:List Str} {s:Str} (h:∀(j:Nat) (w:Str),j<l.length→l[j]? = some w→(w==s)=false):l.contains s=false:=by
 rw [Ic]
 intro hc
 have hm:s∈l:=by simpa using hc
 obtain ⟨j,hj⟩:=Cf hm
 have:=h j s (Ad.1 hj).1 hj
 simp at this
theorem c82 (s:Str) (Hp:List AObj):AFun Tryz.prog 82 [Af s] Hp (A5 (Dr s)):=by
 refine Ah [.tmp 2] [0] Tryz.func82 Tryz.ntmps82 (fun d=>?_)
 refine Z49 ?_;refine Z84 ?_;refine AM6 ?_;refine AM6 ?_;refine AM6 ?_;refine Lr ?_;refine Oj ?_;refine Z29 ?_;refine A2 [0,3,4] ?_
 refine Az (α:=Nat) (fun x=>⟨38,A6 0 (Af s) (A6 3 (.slice true 1 (levels.map Gg)) (A6 4 (A5 (x:Nat)) (fun _=>.any))),Hp,[],[],none⟩) (fun x=>x≤levels.length∧∀(j:Nat) (l:List Str),j<x→levels[j]? = some l→l.contains s=false) (fun x=>levels.length-x) (0) ⟨Ap _,fun j l h=>by omega⟩ (F6 _) rfl (fun x hx=>?_)
 refine Z50 ?_;refine A2 [0,3,4,16] ?_
 refine A3 (fun ht16=>?_) (fun ht16=>?_)
 ·have hlt:x<levels.length:=by simpa using ht16
  have h6:=uc
  have hls:=jp hlt
  refine rq ?_;refine A2 [0,3,4,5] ?_
  refine Az (α:=Nat) (fun y=>⟨38,A6 0 (Af s) (A6 3 (.slice true 1 (levels.map Gg)) (A6 4 (A5 (x:Nat)) (A6 5 (A5 (y:Nat)) (fun _=>.any)))),Hp,[],[],none⟩) (fun y=>y≤levels[x].length∧∀(j:Nat) (w:Str),j<y→levels[x][j]? = some w→(w==s)=false) (fun y=>levels[x].length-y) (0) ⟨Ap _,fun j l h=>by omega⟩ (F6 _) rfl (fun y hy=>?_)
  refine Z33 ?_
  refine A4 (h:=Ac (x) (Gg levels[x]) (fun _=>Aw hlt)) (hr:=?_)
  refine Z10 ?_;refine A2 [0,3,4,5,25] ?_
  refine A3 (fun ht25=>?_) (fun ht25=>?_)
  ·have hly:y<levels[x].length:=by simpa using ht25
   refine Se ?_
   refine A4 (h:=Ac (x) (Gg levels[x]) (fun _=>Aw hlt)) (hr:=?_)
   refine Z0 ?_
   refine A4 (h:=Ac (y) (Af (levels[x])[y]) (fun _=>Aw hly)) (hr:=?_)
   refine Z10 ?_;refine A2 [0,3,4,5,36] ?_
   refine A3 (fun ht36=>?_) (fun ht36=>?_)
   ·refine j5 ?_;refine Z6 ?_;refine Mg ?_;refine Z73 ?_;exact A8 (Ae A7) ⟨by rw [AF5 hlt (by simp only [List.contains_iff_mem];have:=ht36;simp only [beq_iff_eq] at this;rw [←this];exact Av hly) hx.2],rfl⟩
   refine Z71 ?_;refine A2 [0,3,4,5] ?_;exact Ay (y+1) ⟨hly,C1 hly hy.2 ht36⟩ (by omega) (Bh rfl)
  have hny:levels[x].length≤y:=by simpa using ht25
  refine rm ?_;refine Z83 ?_;refine A2 [0,3,4] ?_;exact Ay (x+1) ⟨hlt,C1 hlt hx.2 (d9 fun j w hj hw=>hy.2 j w (by omega) hw)⟩ (by omega) (Bh rfl)
 have hnx:levels.length≤x:=by simpa using ht16
 refine m9 ?_;exact A8 (Ae A7) ⟨by rw [AF6 (fun j l hj h=>hx.2 j l (by omega) h)],rfl⟩

theorem ATr (e:Expr) (hs:e.text.length≤1048576) (Hp:List AObj):AFun Tryz.prog 171 [Ab e] Hp (B4 (If e)):=by
 refine Ah [.tmp 2] [0] Tryz.func171 Tryz.ntmps171 (fun d=>?_)
 refine Pv ?_;refine Z25 ?_;refine A2 [1,3] ?_;refine Z33 ?_;refine A2 [1,3,9] ?_
 refine A3 (fun ht9=>?_) (fun ht9=>?_)
 ·refine Z1 ?_;refine A9 Tryz.call31 (c31 e.val _) ?_;refine A4 ?_;refine Pw ?_;refine Z0 ?_;refine Xb ?_;refine Z53 ?_;exact AOq
 refine Xd ?_;refine co ?_
 refine A4 (h:=Q.neqAgg Tt (Hn e.val.kind e.val.n 0 0 e.val.s [])) (hr:=?_)
 refine A2 [1,3,31] ?_
 refine A3 (fun ht31=>?_) (fun ht31=>?_)
 ·refine Z28 ?_;exact AOq
 refine Xd ?_;refine A2 [1,3,33] ?_;refine P8 ?_;refine A2 [1,3,33,34] ?_
 refine A3 (fun ht34=>?_) (fun ht34=>?_)
 ·refine Z1 ?_;refine A9 Tryz.call51 (c51 e.text hs _) ?_;refine A4 ?_;refine ll ?_;exact Z65
 refine Z8 ?_;refine A2 [1,3,33,43] ?_
 refine A3 (fun ht43=>?_) (fun ht43=>?_)
 ·refine Z4 ?_
  refine A3 (fun ht43=>?_) (fun ht43=>?_)
  ·refine Z25 ?_;refine ll ?_;exact Z65
  refine Z1 ?_;refine A2 [1,3,33,53] ?_
  refine A3 (fun ht53=>?_) (fun ht53=>?_)
  ·refine Z1 ?_;refine A9 Tryz.call82 (c82 e.text _) ?_;refine Z44 ?_;refine Z53 ?_;exact Z65
  refine Z1 ?_;refine A2 [1,3,63] ?_
  refine A3 (fun ht63=>?_) (fun ht63=>?_)
  ·refine Z1 ?_;refine A9 Tryz.call196 (ARe e.text _) ?_;refine Z10 ?_;refine Z3 ?_;exact Z65
  refine Z17 ?_;exact AOs
 refine Z31 ?_;refine A2 [1,3,33,43] ?_;refine Es ?_
 refine A3 (fun ht43=>?_) (fun ht43=>?_)
 ·refine Z25 ?_;refine ll ?_;exact Z65
 refine Z1 ?_;refine A2 [1,3,33,53] ?_
 refine A3 (fun ht53=>?_) (fun ht53=>?_)
 ·refine Z1 ?_;refine A9 Tryz.call82 (c82 e.text _) ?_;refine Z44 ?_;refine Z53 ?_;exact Z65
 refine Z1 ?_;refine A2 [1,3,63] ?_
 refine A3 (fun ht63=>?_) (fun ht63=>?_)
 ·refine Z1 ?_;refine A9 Tryz.call196 (ARe e.text _) ?_;refine Z10 ?_;refine Z3 ?_;exact Z65
 refine Z17 ?_;exact AOs

theorem ATs:∀(n:Nat) (e:Expr),okE n e→∀Hp:List AObj,AFun Tryz.prog 150 [Ab e] Hp (B4 (Et If e)):=by
 intro n
 induction n with
 | zero=>exact fun e h=>h.elim
 | succ n ih =>
 intro e hok Hp
 refine Ah [.tmp 2] [0] Tryz.func150 Tryz.ntmps150 (fun d=>?_)
 refine Pv ?_;refine Z29 ?_;refine A9 Tryz.call171 (ATr e hok.1 _) ?_;refine A4 ?_;refine A2 [1,6] ?_
 refine A3 (fun ht6=>?_) (fun ht6=>?_)
 ·refine Z28 ?_;refine F8 ?_;exact A8 (Ae A7) ⟨by rw [Jk];simp at ht6;rw [ht6];rfl,rfl⟩
 refine Sd ?_;refine A2 [1,3] ?_
 refine Az (α:=Nat) (fun x=>⟨21,A6 1 (.ro (Dz e)) (A6 3 (A5 (x:Nat)) (fun _=>.any)),Hp,[],[],none⟩) (fun x=>x≤e.kids.length∧Jj If (e.kids.take x)=true) (fun x=>e.kids.length-x) (0) ⟨Ap _,rfl⟩ (F6 _) rfl (fun x hx=>?_)
 refine Oi ?_;refine A2 [1,3,11] ?_
 refine A3 (fun ht11=>?_) (fun ht11=>?_)
 ·have hlt:x<e.kids.length:=by simpa using ht11
  have hkl:=hok.2.1
  refine Xa ?_
  refine A4 (h:=Ac (x) (Ab e.kids[x]) (fun _=>Aw hlt)) (hr:=?_)
  refine A4 ?_;refine A9 Tryz.call150 (ih e.kids[x] (hok.2.2 _ (Av hlt)) _) ?_;refine A4 ?_;refine A2 [1,3,20] ?_
  refine A3 (fun ht20=>?_) (fun ht20=>?_)
  ·refine cm ?_;exact A8 (Ae A7) ⟨by rw [show Et If e=false from by rw [Ic];intro h;rw [Jk,As] at h;have:=(F3 _ _).1 h.2 _ (Av hlt);rw [this] at ht20;cases ht20],rfl⟩
  refine Z71 ?_;refine A2 [1,3] ?_;exact Ay (x+1) ⟨hlt,by rw [Ip hlt,Wl,hx.2,Jj,Jj,Pc,Dm];simpa using ht20⟩ (by omega) (Bh rfl)
 have hxe:e.kids.take x=e.kids:=D9 (by simp at ht11;omega)
 refine m9 ?_;exact A8 (Ae A7) ⟨by have:=hx.2;rw [hxe] at this;rw [Jk,this];simp at ht6;rw [ht6];rfl,rfl⟩

theorem AF7 (e:Expr):Et If e=Et E9 e:=by rw [show E9=If from funext Zw]
theorem ARf (n:Nat) (e:Expr) (hok:okE n e) (hn:n≤1048576) (hs:sizeE e≤1048576) (Hp:List AObj):AFun Tryz.prog 106 [Ab e] Hp (B4 (Eb e)):=by
 refine Ah [.tmp 2] [0] Tryz.func106 Tryz.ntmps106 (fun d=>?_)
 refine Pv ?_;refine Z2 ?_;refine A9 Tryz.call148 (ATp n e hok hn _) ?_;refine Sf ?_;refine Bm Tryz.call149 (fun hB=>ATq n e hok hs _) ?_;refine Bd ?_;refine Sf ?_;refine Bm Tryz.call150 (fun hB=>ATs n e hok _) ?_;refine Z53 ?_;exact A8 (Ae A7) ⟨by rw [Eb,AF7,show decide ((depthE e:Int)≤30)=decide (depthE e≤30) by rw [decide_eq_decide];omega,show decide ((sizeE e:Int)≤300)=decide (sizeE e≤300) by rw [decide_eq_decide];omega],rfl⟩

theorem wh {n:Nat} {U F:Nat→List AObj} {H':List AObj} (h:Nv (fun _=>true) U F n H'):H'=U n:=by
 rcases h with ⟨_,h⟩|⟨j,_,_,h,_⟩
 ·exact h
 cases h
theorem AA8 {α:Type} {l:List α} {k:Nat} {y:α} (h:l[k]? = some y):l.take (k+1)=l.take k++[y]:=by rw [List.take_add_one,h];rfl
theorem AF8 {L:List (Int×Expr)} {k:Nat} {it:Int×Expr} (h:L[k]? = some it):Gt 0 (L.take (k+1))=if Gt 0 (L.take k)<it.1 then it.1 else Gt 0 (L.take k):=by
 have e:Gt 0 (L.take (k+1))=max (Gt 0 (L.take k)) it.1:=by
  unfold Gt
  rw [AA8 h,gu]
  rfl
 rw [e]
 split<;>omega
theorem f9 {n k:Nat} {o:Bool} {l:List Str}:Low n (.slice o k (l.map Af)):=by simp [or_imp,forall_and]
theorem ATt (n:Nat) (e:Expr) (hok:okE n e) (hn:n≤1048576) (hs:sizeE e≤1048576) (Hp:List AObj):AFun Tryz.prog 214 [Ab e] Hp (A5 (depthE e:Nat)):=by
 refine Ah [.tmp 2] [0,4] Tryz.func214 Tryz.ntmps214 (fun d=>?_)
 refine Z1 ?_;refine A2 [1,4] ?_;refine Ec ?_;refine Z20 ?_;refine j8 ?_;refine Z74 ?_
 refine Pu (fun hlow=>?_)
 refine AMa ?_;refine A2 [3,4,6] ?_;refine Mi ?_
 refine Sb (m:=1) Tryz.call109 (fun FR as' bd' hFR has hbd=>?_)
 have hFRl:∀s,Low (Hp.length+3) (FR s):=by
  intro s
  rw [hFR]
  refine Uw ?_
  revert s
  repeat (first|exact Bq|refine Bp (by simp [oid,B7]<;>try omega) ?_)
 have hOl:∀{k:Nat},∀x∈[AObj.cells 3 [A5 (Gt 0 ((C3 1 e).take k))],AObj.defs,AObj.loop LoopState.ready none FR 13 #[7,8] as' bd' (oid Hp.length 1)],ObjLow (Hp.length+3) x:=by
  intro k x hx
  simp only [Bu,Fi,or_false] at hx
  rcases hx with rfl|rfl|rfl
  ·intro y hy
   rw [Bs.1 hy]
   first|exact f9|simp
  ·trivial
  exact ADo
 refine ⟨fun _ H'=>Nv (fun _=>true) (fun k=>Hp++[AObj.cells 3 [A5 (Gt 0 ((C3 1 e).take k))],AObj.defs,AObj.loop LoopState.ready none FR 13 #[7,8] as' bd' (oid Hp.length 1)]) (fun k=>Hp++[AObj.cells 3 [A5 (Gt 0 ((C3 1 e).take k))],AObj.defs,AObj.loop LoopState.ready none FR 13 #[7,8] as' bd' (oid Hp.length 1)]) (C3 1 e).length H',AMs (l:=oid Hp.length 2) (go:=fun _=>true) (U:=fun k=>Hp++[AObj.cells 3 [A5 (Gt 0 ((C3 1 e).take k))],AObj.defs,AObj.loop LoopState.ready none FR 13 #[7,8] as' bd' (oid Hp.length 1)]) (F:=fun k=>Hp++[AObj.cells 3 [A5 (Gt 0 ((C3 1 e).take k))],AObj.defs,AObj.loop LoopState.ready none FR 13 #[7,8] as' bd' (oid Hp.length 1)]) (n0:=Hp.length+3) ⟨fun k=>by simp,fun k=>by simp,fun k x hx=>?_,fun k x hx=>?_,by simp [oid],fun X k it hit hgo=>?_⟩ n hok hn,?_⟩
 ·exact ADp
 ·exact ADp
 ·have hklt:k<sizeE e:=by rw [←I2 1 e];exact (Ad.1 hit).1
  generalize hV:(Hp++[AObj.cells 3 [A5 (Gt 0 ((C3 1 e).take k))],AObj.defs,AObj.loop LoopState.ready none FR 13 #[7,8] as' bd' (oid Hp.length 1)]++X)=V
  have hL:V[oid Hp.length 2]? = some (AObj.loop LoopState.ready none FR 13 #[7,8] as' bd' (oid Hp.length 1)):=by rw [←hV,C9,C0];rfl
  have hA0:V[oid Hp.length 0]? = some (AObj.cells 3 [A5 (Gt 0 ((C3 1 e).take k))]):=by rw [←hV,C9,C0];rfl
  refine S3 (pd:=none) (fr:=FR) (sz:=13) (ps:=#[7,8]) (df:=oid Hp.length 1) (asg:=as') (bd:=bd') hL rfl (by decide) (fun d=>?_)
  subst hFR has hbd
  refine Hh [3,7,8] ?_;refine Z52 ?_;refine A2 [3,4] ?_
  refine ⟨rfl,none,hL,?_⟩
  generalize hbz:(AObj.loop LoopState.busy _ _ _ _ _ _ _)=bz
  have hA:(V.set (oid Hp.length 2) bz)[oid Hp.length 0]? = some (AObj.cells 3 [A5 (Gt 0 ((C3 1 e).take k))]):=by rw [Ed (Cv (by decide))];exact hA0
  refine Mi ?_;refine Ix ?_
  refine A4 (h:=Cm hA) (hr:=?_)
  refine A4 ?_;refine R.maxI ?_
  refine Gm jS hA ?_ ?_
  ·simp
  refine Yq ?_
  subst hbz
  refine K.rdN (li hL (Cv (by decide))) ?_
  refine ⟨rfl,?_⟩
  rw [if_pos rfl]
  subst hV
  simp only [C9,Hm,Fe,F5,List.set_cons_succ,List.set_cons_zero]
  rw [AF8 hit]
 intro r H' hq
 obtain rfl:=wh hq
 refine ⟨Hp,_,_,_,rfl,rfl,fun h=>h,?_,rfl,by simp,?_⟩
 ·intro o ho
  have:o=oid Hp.length 1:=by simpa using ho
  subst this
  rw [C0]
  rfl
 refine Z11 ?_;refine j5 ?_;exact A8 (Ae A7) ⟨by rw [Ta,Wn],rfl⟩

theorem ATu (n:Nat) (e:Expr) (hok:okE n e) (hn:n≤1048576) (hs:sizeE e≤1048576) (Hp:List AObj):AFun Tryz.prog 216 [Ab e] Hp (A5 (sizeE e:Nat)):=by
 refine Ah [.tmp 2] [0] Tryz.func216 Tryz.ntmps216 (fun d=>?_)
 refine Pv ?_;refine Ec ?_;refine Z20 ?_;refine A2 [1,3] ?_;refine Z74 ?_
 refine Pu (fun hlow=>?_)
 refine AMa ?_;refine A2 [3,5] ?_;refine Mi ?_
 refine Sb (m:=1) Tryz.call109 (fun FR as' bd' hFR has hbd=>?_)
 have hFRl:∀s,Low (Hp.length+3) (FR s):=by
  intro s
  rw [hFR]
  refine Uw ?_
  revert s
  repeat (first|exact Bq|refine Bp (by simp [oid,B7]<;>try omega) ?_)
 have hOl:∀{k:Nat},∀x∈[AObj.cells 3 [A5 ((k:Nat))],AObj.defs,AObj.loop LoopState.ready none FR 11 #[6,7] as' bd' (oid Hp.length 1)],ObjLow (Hp.length+3) x:=by
  intro k x hx
  simp only [Bu,Fi,or_false] at hx
  rcases hx with rfl|rfl|rfl
  ·intro y hy
   rw [Bs.1 hy]
   first|exact f9|simp
  ·trivial
  exact ADo
 refine ⟨fun _ H'=>Nv (fun _=>true) (fun k=>Hp++[AObj.cells 3 [A5 ((k:Nat))],AObj.defs,AObj.loop LoopState.ready none FR 11 #[6,7] as' bd' (oid Hp.length 1)]) (fun k=>Hp++[AObj.cells 3 [A5 ((k:Nat))],AObj.defs,AObj.loop LoopState.ready none FR 11 #[6,7] as' bd' (oid Hp.length 1)]) (C3 1 e).length H',AMs (l:=oid Hp.length 2) (go:=fun _=>true) (U:=fun k=>Hp++[AObj.cells 3 [A5 ((k:Nat))],AObj.defs,AObj.loop LoopState.ready none FR 11 #[6,7] as' bd' (oid Hp.length 1)]) (F:=fun k=>Hp++[AObj.cells 3 [A5 ((k:Nat))],AObj.defs,AObj.loop LoopState.ready none FR 11 #[6,7] as' bd' (oid Hp.length 1)]) (n0:=Hp.length+3) ⟨fun k=>by simp,fun k=>by simp,fun k x hx=>?_,fun k x hx=>?_,by simp [oid],fun X k it hit hgo=>?_⟩ n hok hn,?_⟩
 ·exact ADp
 ·exact ADp
 ·have hklt:k<sizeE e:=by rw [←I2 1 e];exact (Ad.1 hit).1
  generalize hV:(Hp++[AObj.cells 3 [A5 ((k:Nat))],AObj.defs,AObj.loop LoopState.ready none FR 11 #[6,7] as' bd' (oid Hp.length 1)]++X)=V
  have hL:V[oid Hp.length 2]? = some (AObj.loop LoopState.ready none FR 11 #[6,7] as' bd' (oid Hp.length 1)):=by rw [←hV,C9,C0];rfl
  have hA0:V[oid Hp.length 0]? = some (AObj.cells 3 [A5 ((k:Nat))]):=by rw [←hV,C9,C0];rfl
  refine S3 (pd:=none) (fr:=FR) (sz:=11) (ps:=#[6,7]) (df:=oid Hp.length 1) (asg:=as') (bd:=bd') hL rfl (by decide) (fun d=>?_)
  subst hFR has hbd
  refine Hh [3,6,7] ?_;refine Je ?_
  refine ⟨rfl,none,hL,?_⟩
  generalize hbz:(AObj.loop LoopState.busy _ _ _ _ _ _ _)=bz
  have hA:(V.set (oid Hp.length 2) bz)[oid Hp.length 0]? = some (AObj.cells 3 [A5 ((k:Nat))]):=by rw [Ed (Cv (by decide))];exact hA0
  refine Mi ?_;refine Ix ?_
  refine A4 (h:=Cm hA) (hr:=?_)
  refine A4 ?_
  refine Gm jS hA ?_ ?_
  ·simp
  refine Yq ?_
  subst hbz
  refine K.rdN (li hL (Cv (by decide))) ?_
  refine ⟨rfl,?_⟩
  rw [if_pos rfl]
  subst hV
  simp only [C9,Hm,Fe,F5,List.set_cons_succ,List.set_cons_zero]
  rfl
 intro r H' hq
 obtain rfl:=wh hq
 refine ⟨Hp,_,_,_,rfl,rfl,fun h=>h,?_,rfl,by simp,?_⟩
 ·intro o ho
  have:o=oid Hp.length 1:=by simpa using ho
  subst this
  rw [C0]
  rfl
 refine Z11 ?_;refine j5 ?_;exact A8 (Ae A7) ⟨by rw [I2],rfl⟩

set_option maxRecDepth 8000
abbrev TK:=Int×Str
/-- What stands from word i on. -/
def seg (l:List Tok) (i:Nat):List TK:=(l.drop i).map ktT
theorem nk (s:Str):s∈levels.flatten∨(Dr s = -1∧∀l∈levels,l.contains s=false):=by
 by_cases h:s∈levels.flatten
 ·exact .inl h
 have h2:∀l∈levels,l.contains s=false:=fun l hl=>by
  rw [Ic]
  intro h3
  exact h (List.mem_flatten.2 ⟨l,hl,by simpa using h3⟩)
 refine .inr ⟨?_,h2⟩
 unfold Dr
 rw [Rw.2 fun l hl=>h2 l hl]
/-- The texts of levels of marks. -/
def ofL (k:Nat):Str:=if k=0 then orT else if k=1 then AA1 else if k=3 then AIh else if k=4 then AA2 else ey
/-- A row of words behind which no mark of a level, or of a tighter one, stands. -/
def AF9 (k:Nat) (rest:List TK):Prop:=∀h r,rest=h::r→((h.1==5) || (h.1==2))=true→Dr h.2<(k:Int)∧h.2≠[40]
def ATv:Str:=[110,111,116]
def AFa (e:Expr):Nat:=if e.op==4 then 2 else if e.op==3 then 6 else if e.op==5 then (Dr e.text).toNat else 7
def AIo (least:Nat) (x:Expr) (T:List TK):List TK:=if least≤AFa x then T else (5,[40])::(T++[(5,[41])])
def AIp (least:Nat) (x:Expr) (n:Nat):Nat:=if least≤AFa x then n else n+1
def AFb (own:Nat):Nat:=if own=3 then 4 else own
def AN0 (v:Val):TK:=if v.kind==1 then (3,L4 v) else if v.kind==2 then (4,v.s) else (2,L4 v)
def ARg (t:Str):TK:=(if I5 (t.headD 0) then 2 else 5,t)
def ARh:List (List TK)→List TK
 | []=>[]
 | T::r=>(5,[44])::(T++ARh r)
def ARi (o:Int) (t:Str) (v:Val) (k:List Expr) (ts:List (List TK)):List TK:=
 if o==1 then [AN0 v] else if o==2 then [(1,t)]
 else if o==3 then (5,[45])::AIo 6 (k.getD 0 At) (ts.getD 0 [])
 else if o==4 then (2,ATv)::AIo 2 (k.getD 0 At) (ts.getD 0 [])
 else if o==5 then AIo (AFb (Dr t).toNat) (k.getD 0 At) (ts.getD 0 [])++ARg t::AIo ((Dr t).toNat+1) (k.getD 1 At) (ts.getD 1 [])
 else (1,t)::(5,[40])::((ARh ts).drop 1++[(5,[41])])
mutual
def aj:Expr→List TK
 | .mk o t v k=>ARi o t v k (AKx k)
def AKx:List Expr→List (List TK)
  | []=>[]
  | e::r=>aj e::AKx r
 end
def ARj:List Nat→Nat
 | []=>0
 | n::r=>max n (ARj r)
def ARk (o:Int) (t:Str) (k:List Expr) (ns:List Nat):Nat:=
 if o==1 then 0 else if o==2 then 0
 else if o==3 then 1+AIp 6 (k.getD 0 At) (ns.getD 0 0)
 else if o==4 then 1+AIp 2 (k.getD 0 At) (ns.getD 0 0)
 else if o==5 then max (AIp (AFb (Dr t).toNat) (k.getD 0 At) (ns.getD 0 0)) (AIp ((Dr t).toNat+1) (k.getD 1 At) (ns.getD 1 0))
 else 1+ARj ns
mutual
def wi:Expr→Nat
 | .mk o t v k=>ARk o t k (AKy k)
def AKy:List Expr→List Nat
  | []=>[]
  | e::r=>wi e::AKy r
 end
theorem AIq {v:Val} (h:Nu v=true):v=noV:=by
 unfold Nu at h
 simp only [As,beq_iff_eq] at h
 cases v
 simp_all [noV]
/-- What a right node is. -/
inductive NodeC:Expr→Prop
 | val (v:Val) (h:Cg v=true) (h0:0≤v.n):NodeC (Rb v)
 | name (t:Str) (h:Nr t=true):NodeC (Dt t)
 | neg (a:Expr):NodeC (Mw 3 a)
 | no (a:Expr):NodeC (Mw 4 a)
 | bin (t:Str) (a b:Expr) (h:0≤Dr t):NodeC (Mv t a b)
 | call (t:Str) (k:List Expr) (h:Cc t=(k.length:Int)):NodeC (.mk 6 t noV k)
theorem ak (o:Int) (t:Str) (v:Val) (k:List Expr):If (.mk o t v k) =
 if o==1 then ((Cg v&&decide (0≤v.n))&&(t==[]))&&((k.length:Int)==0)
 else if !(Nu v) then false
 else if o==2 then Nr t&&((k.length:Int)==0)
 else if o==3 || o==4 then (t==[])&&((k.length:Int)==1)
 else if o==5 then decide (0≤Dr t)&&((k.length:Int)==2)
 else if o==6 then Cc t==(k.length:Int)
 else false:=rfl
theorem Oo {e:Expr} (h:E9 e=true):NodeC e:=by
 rw [Zw] at h
 cases e with
 | mk o t v k =>
 rw [ak] at h
 by_cases h1:(o==1)=true
 ·rw [if_pos h1] at h
  simp only [As,beq_iff_eq,decide_eq_true_eq] at h h1
  obtain ⟨⟨⟨a1,a2⟩,a3⟩,a4⟩:=h
  subst h1
  subst a3
  have:k=[]:=by cases k with|nil=>rfl|cons x r=>simp at a4;omega
  subst this
  exact .val v a1 a2
 rw [if_neg h1] at h
 by_cases hb:(!(Nu v))=true
 ·rw [if_pos hb] at h;cases h
 rw [if_neg hb] at h
 have hv:v=noV:=AIq (by simpa using hb)
 subst hv
 by_cases h2:(o==2)=true
 ·rw [if_pos h2] at h
  simp only [As,beq_iff_eq] at h h2
  subst h2
  have:k=[]:=by cases k with|nil=>rfl|cons x r=>have:=h.2;simp at this;omega
  subst this
  exact .name t h.1
 rw [if_neg h2] at h
 by_cases h3:(o==3 || o==4)=true
 ·rw [if_pos h3] at h
  simp only [As,Co,beq_iff_eq] at h h3
  obtain ⟨rfl,h4⟩:=h
  match k,h4 with
  | [a],_ =>
   rcases h3 with rfl|rfl
   ·exact .neg a
   exact .no a
  | [],h4=>simp at h4
  | _::_::_,h4=>simp at h4;omega
 rw [if_neg h3] at h
 by_cases h5:(o==5)=true
 ·rw [if_pos h5] at h
  simp only [As,beq_iff_eq,decide_eq_true_eq] at h h5
  subst h5
  match k,h.2 with
  | [a,b],_=>exact .bin t a b h.1
  | [],h4=>simp at h4
  | [_],h4=>simp at h4
  | _::_::_::_,h4=>simp at h4;omega
 rw [if_neg h5] at h
 by_cases h6:(o==6)=true
 ·rw [if_pos h6] at h
  simp only [beq_iff_eq] at h h6
  subst h6
  exact .call t k h
 rw [if_neg h6] at h;cases h
/-- The functions of the levels. -/
def pf (l:List Tok) (D:Fam):Nat→PS→Expr×PS
 | 0=>Xw l D
 | 1=>na l D
 | 2=>Xf l D
 | 3=>H8 l D
 | 4=>Fs l D
 | 5=>n9 l D
 | 6=>Xe l D
 | _=>Ib l D
abbrev fam (l:List Tok) (n:Nat):Fam:=H1 l (30-n)
def adv (S:PS) (n:Nat):PS:=⟨S.i+n,S.nest,S.code,S.at_⟩
def T1 (l:List Tok) (x:Expr):Prop:=∀(k:Nat) (S:PS) (rest:List TK),k≤AFa x→S.code=0→S.nest+wi x≤30→seg l S.i=aj x++rest→AF9 k rest→pf l (fam l S.nest) k S=(x,adv S (aj x).length)
def T2 (l:List Tok) (x:Expr):Prop:=∀(k:Nat) (S:PS) (rest:List TK),(k=0∨k=1∨k=4∨k=5)→k≤AFa x→S.code=0→S.nest+wi x≤30→seg l S.i=aj x++rest→AF9 (k+1) rest →
 ∃n,l.length≤S.i+(aj x).length+n∧Ho l (ofL k) (pf l (fam l S.nest) (k+1)) S=ew l (ofL k) (pf l (fam l S.nest) (k+1)) n (x,adv S (aj x).length)
theorem AA9 {e:Expr} {n:Nat} (h:sizeE e≤n+1) {y:Expr} (hy:y∈e.kids):sizeE y≤n:=by
 rw [Kv] at h
 obtain ⟨i,hi,rfl⟩:=Qh hy
 have:=Vf e.kids hi
 omega
/-! The parser from a word on, and of a source. -/
def atS (l:List Tok) (i:Nat) (r:Expr×PS):PS:=if r.2.code != 0 then r.2 else if decide ((30:Int)<depthE r.1) then Fb 18 (Aq l i).at_ r.2 else if decide ((300:Int)<sizeE r.1) then Fb 3 (Aq l i).at_ r.2 else r.2
def atR (l:List Tok) (i:Nat):Expr×PS:=Xw l (H1 l 30) ⟨i,0,0,0⟩
/-- The tree, the word behind it, the fault. -/
def atM (l:List Tok) (i:Nat):Expr×Int×Int×Int:=if (atS l i (atR l i)).code != 0 then (At,0,(atS l i (atR l i)).code,(atS l i (atR l i)).at_) else ((atR l i).1,((atS l i (atR l i)).i:Int),0,0)
set_option maxRecDepth 4000
theorem al {l:List Tok} (hl:TokEnd l) (hll:l.length≤1048576) {i:Nat} (hi:i<l.length):Fact l ⟨i,0,0,0⟩ (atR l i):=(Vq hl hll 31 0 rfl (by decide)).1 ⟨i,0,0,0⟩ hi rfl
theorem AN1 {l:List Tok} {i:Nat} (hi:i<l.length) (hl:TokEnd l) (hll:l.length≤1048576) (hcl:∀n Dv,n≤30→DeepC l Dv n→ni l Dv n) (o:Nat) (Hp:List AObj) (ho:Hp[o]? = some (pr l ⟨i,0,0,0⟩)):ACall Tryz.prog 213 [.ptr o 0] Hp (fun r H'=>r=Ab (atR l i).1∧H'=Hp.set o (pr l (atR l i).2)):=(nj hl hll hcl 31 0 rfl (by decide)).1 o Hp ⟨i,0,0,0⟩ ho hi rfl
theorem nl {l:List Tok} (hl:TokEnd l):(Aq l (l.length-1)).kind=0:=by
 obtain ⟨L,z,rfl,hz,_⟩:=hl.split
 unfold Aq
 simp [hz]
theorem ATw (l:List Tok) (i:Nat) (hi:i<l.length) (hl:TokEnd l) (hll:l.length≤500000) (hcl:∀n Dv,n≤30→DeepC l Dv n→ni l Dv n) (Hp:List AObj):AFun Tryz.prog 187 [vn l,A5 (i:Int)] Hp (.tup [Ab (atM l i).1,A5 (atM l i).2.1,.agg [A5 (atM l i).2.2.1,A5 (atM l i).2.2.2]]):=by
 have hmap:(l.map Mm).length=l.length:=Am ..
 have hll1:l.length≤1048576:=by omega
 have hq:=al hl hll1 hi
 have hlast:=nl hl
 have hpos:=hl.pos
 have hqlt:=hq.lt
 have hqs:=hq.sz
 have hok0:okE 1048576 (atR l i).1:=K8 (by have:=hq.lt;omega) hq.ok
 have hsz0:sizeE (atR l i).1≤1048576:=by have:=hq.sz;have:=hq.lt;omega
 refine Ah [.cell 4 62,.tmp 5,.cell 6 38] [0,1] Tryz.func187 Tryz.ntmps187 (fun d=>?_)
 refine lx ?_;refine Mj ?_;refine A2 [0,1,4,6] ?_;refine Z33 ?_;refine Pw ?_;refine rt ?_
 refine Bd (h:=Ac ((l.length-1)) (Mm (Aq l (l.length-1))) (fun _=>Zo (by omega))) (hr:=?_)
 refine Oh ?_;refine A2 [0,1,4,6,26] ?_
 refine A3 (fun ht26=>?_) (fun ht26=>?_)
 ·simp only [Co,decide_eq_true_eq,bne_iff_ne,ne_eq] at ht26
  rcases ht26 with (h|h)|h
  ·omega
  ·simp at h;omega
  exact absurd hlast h
 refine Lq ?_;refine S5 (places:=#[(0,1),(1,1),(2,1),(3,2)]) jU (fun w=>by simp) jZ ?_;refine R.box ?_;refine A4 ?_;refine A2 [0,1,4,6,7] ?_;refine Z2 ?_
 refine R.callOwn (n:=2) (x:=pr l (atR l i).2) Tryz.call213 (AN1 hi hl hll1 hcl (oid Hp.length 2) _ (by rw [C0];rfl)) ?_
 refine Z20 ?_;refine A2 [0,1,4,6,7,8] ?_
 refine W.join ⟨81,A6 4 (.ptr (oid Hp.length 0) 0) (A6 6 (.ptr (oid Hp.length 1) 0) (A6 7 (.ptr (oid Hp.length 2) 0) (A6 8 (.ptr (oid Hp.length 3) 0) (fun _=>.any)))),Hp,[.cells 62 [A5 0,Af [],A5 0,A5 0,Af [],.nil],.cells 38 [A5 0,A5 0],pr l (atS l i (atR l i)),.cells 62 (Dz (atR l i).1)],[],none⟩ ?_ ?_
 ·refine Mi ?_;refine Z25 ?_;refine Z10 ?_;refine A2 [0,1,4,6,7,8,35] ?_
  refine A3 (fun ht35=>?_) (fun ht35=>?_)
  ·have e:atS l i (atR l i)=(atR l i).2:=if_pos ht35
   refine Hh [4,6,7,8] ?_;refine Je ?_;exact AH5
  have e0:¬((atR l i).2.code != 0)=true:=by rw [ht35];simp
  refine Z2 ?_;refine A9 Tryz.call214 (ATt 1048576 _ hok0 (Aj _) hsz0 _) ?_;refine Z0 ?_;refine A2 [0,1,4,6,7,8,42] ?_
  refine A3 (fun ht42=>?_) (fun ht42=>?_)
  ·have e:atS l i (atR l i)=Fb 18 (Aq l i).at_ (atR l i).2:=by unfold atS;rw [if_neg e0,if_pos ht42]
   refine Z23 ?_
   refine A4 (h:=Ac (i) (Mm (Aq l i)) (fun _=>Zo hi)) (hr:=?_)
   refine Z0 ?_
   refine R.callOwn (n:=2) (x:=pr l (Fb 18 (Aq l i).at_ (atR l i).2)) Tryz.call215 (AA5 l (atR l i).2 18 (Aq l i).at_ (oid Hp.length 2) _ (by rw [C0];rfl)) ?_
   refine A2 [4,6,7,8] ?_;exact AH5
  have e1:¬decide ((30:Int)<depthE (atR l i).1)=true:=by rw [ht42];simp
  refine Z2 ?_;refine A9 Tryz.call216 (ATu 1048576 _ hok0 (Aj _) hsz0 _) ?_;refine Z0 ?_;refine A2 [0,1,4,6,7,8,53] ?_
  refine A3 (fun ht53=>?_) (fun ht53=>?_)
  ·have e:atS l i (atR l i)=Fb 3 (Aq l i).at_ (atR l i).2:=by unfold atS;rw [if_neg e0,if_neg e1,if_pos ht53]
   refine Z23 ?_
   refine A4 (h:=Ac (i) (Mm (Aq l i)) (fun _=>Zo hi)) (hr:=?_)
   refine Z0 ?_
   refine R.callOwn (n:=2) (x:=pr l (Fb 3 (Aq l i).at_ (atR l i).2)) Tryz.call215 (AA5 l (atR l i).2 3 (Aq l i).at_ (oid Hp.length 2) _ (by rw [C0];rfl)) ?_
   refine A2 [4,6,7,8] ?_;exact AH5
  have e:atS l i (atR l i)=(atR l i).2:=by unfold atS;rw [if_neg e0,if_neg e1,if_neg (by rw [ht53];simp)]
  refine Hh [4,6,7,8] ?_;refine Je ?_;exact AH5
 refine Z50 ?_;refine Z0 ?_;refine A2 [4,6,7,8,69] ?_
 refine A3 (fun ht69=>?_) (fun ht69=>?_)
 ·have e:atM l i=(At,0,(atS l i (atR l i)).code,(atS l i (atR l i)).at_):=if_pos ht69
  refine Hy [0,0,2,6,14,1,33,127] [5] [.q 5 [] [],.s [] (some 0) [] [],.q 1 [0] []] (fun _=>Hp) (fun _=>[.cells 62 [A5 0,Af [],A5 0,A5 0,Af [],.nil],.cells 38 [A5 0,A5 0],pr l (atS l i (atR l i)),.cells 62 (Dz (atR l i).1)]) Ai (by kernel_rfl) rfl rfl (fun _=>rfl) ?_
  apply Y.q
  ·intro B hT hF
   refine D.build (places:=#[(0,1),(1,1),(2,3),(5,1)]) jU (fun w=>by simp) jZ ?_;exact ADc
  case hTF=>decide
  refine Y.storeOwn (u:=Hp.length) (n:=0) (t':=62) (cs:=[A5 0,Af [],A5 0,A5 0,Af [],.nil]) (cs':=[A5 0,Af [],A5 0,A5 0,Af [],.nil]) Tryz.sizeOf62 (fun B hB=>⟨rfl,rfl,rfl,rfl⟩) ?_
  apply Y.q
  ·intro B hT hF
   exact Yo
  case hTF=>decide
  refine Gx (tn:=[5])  ?_;refine Sa 0 5 6 ?_;refine Gc ?_;refine A2 [4,5,6] ?_;refine Z13 ?_;exact A8 (V.three (B8 jA jS) A7 (B8 jA jS)) ⟨by rw [e,AF3]<;>rfl,rfl⟩
 have e:atM l i=((atR l i).1,((atS l i (atR l i)).i:Int),0,0):=if_neg (by rw [ht69];simp)
 refine Z4 ?_;refine Hy [0,0,2,6,14,0,1,95,255] [6] [.q 6 [] [],.s [] (some 0) [] [],.q 1 [0] []] (fun _=>Hp) (fun B=>[.cells 62 (if B 0=true then Dz (atR l i).1 else [A5 0,Af [],A5 0,A5 0,Af [],.nil]),.cells 38 [A5 0,A5 0],pr l (atS l i (atR l i)),.cells 62 (Dz (atR l i).1)]) Ai (by kernel_rfl) rfl rfl (fun _=>rfl) ?_
 apply Y.q
 ·intro B hT hF
  refine Z12 ?_;refine Z40 ?_;exact AOo
 case hTF=>decide
 refine Y.storeOwn (u:=Hp.length) (n:=0) (t':=62) (cs:=[A5 0,Af [],A5 0,A5 0,Af [],.nil]) (cs':=Dz (atR l i).1) Tryz.sizeOf62 (fun B hB=>⟨rfl,by simp only [hB];rfl,by simp [upd],rfl⟩) ?_
 apply Y.q
 ·intro B hT hF
  exact Yo
 case hTF=>decide
 refine Gx (tn:=[6]) (O:=[.cells 62 (Dz (atR l i).1),.cells 38 [A5 0,A5 0],pr l (atS l i (atR l i)),.cells 62 (Dz (atR l i).1)]) ?_;refine Gc ?_;refine A2 [4,5,6] ?_;refine Dd ?_;exact A8 (V.three (B8 jA jS) A7 (B8 jA jS)) ⟨by rw [e,Ax]<;>rfl,rfl⟩ (hlow:=by have:=low_agg (n:=Hp.length) (atR l i).1;simp at this ⊢;exact this)

theorem AIr {s:Str} (h:(I7 s).2.1=0):(I7 s).1.length≤4002:=by
 obtain ⟨h1,_,h3⟩:=AIa h
 have h2:=Zj s
 rw [h3]
 simp only [Ao,Am,B6,Bw]
 omega
theorem AIs {l:List Tok} (hl:TokEnd l) (hll:l.length≤1048576) {i:Nat} (hi:i<l.length) (h:(atM l i).2.2.1=0):∃k:Nat,(atM l i).2.1=(k:Int)∧k<l.length:=by
 have hq:=al hl hll hi
 unfold atM at h ⊢
 split at h
 ·rename_i h1
  have:(atS l i (atR l i)).code=0:=h
  rw [this] at h1
  cases h1
 rename_i h1
 rw [if_neg h1]
 refine ⟨(atS l i (atR l i)).i,rfl,?_⟩
 have e:(atS l i (atR l i)).i=(atR l i).2.i:=by
  unfold atS
  repeat' split
  all_goals first|rfl|exact failM_i.1
 rw [e]
 exact hq.lt
theorem dc {α:Type} {a b:List α} (hl:a.length=b.length) (h:∀(j:Nat) (y:α),j<a.length→a[j]? = some y→b[j]? = some y):a=b:=by
 apply qh hl
 intro j h1 h2
 have:=h j a[j] h1 (Aa h1)
 rw [Aa h2] at this
 injection this with this
 exact this.symm
theorem Fx {n k:Nat} {o:Bool} {l:List Expr}:Low n (.slice o k (l.map Ab)):=low_slice.2 fun y hy=>by
 obtain ⟨a,_,rfl⟩:=D6.1 hy
 exact B7 _ a
theorem AAa {l:List Expr} {n f:Nat} (h0:l.isEmpty=false) (h:Rn l n=true):Ig f l n=true:=by
 cases f with
 | zero=>rw [Ig,h0];rfl
 | succ f=>rw [Ig,if_neg (by rw [h0];simp),if_pos h]
theorem AIt {l:List Expr} {n y:Nat} (hy:y<l.length) (h:500<n+y+1∨Vm l[y]=true):Rn l n=true:=by
 unfold Rn
 rcases h with h|h
 ·rw [decide_eq_true (by omega)];rfl
 rw [Jx.2 ⟨_,Av hy,h⟩,Fp]
theorem am {l:List Expr}:∀(y:Nat),y≤l.length→(∀(j:Nat) (e:Expr),j<y→l[j]? = some e→Vm e=false)→((l.take y).flatMap Expr.kids).length≤100*y
 | 0,_,_=>by simp
 | y+1,hy,h=>by
  rw [Ip hy,List.flatMap_append,Ao]
  have h1:=am y (by omega) (fun j e hj he=>h j e (by omega) he)
  have h2:=jm (h y l[y] (by omega) (Aa _))
  simp only [gr,List.flatMap_nil,Ht]
  omega
structure WideAt (l0:List Expr) (x:List Expr×Nat×Nat):Prop where
 eq:Ig 61 l0 0=Ig x.2.2 x.1 x.2.1
 f:x.2.2≤61
 n:x.2.1≤500
theorem c67 (l0:List Expr) (Hp:List AObj):AFun Tryz.prog 67 [.slice false 6 (l0.map Ab),A5 0] Hp (B4 (Ig 61 l0 0)):=by
 refine Ah [.tmp 4] [0,1] Tryz.func67 Tryz.ntmps67 (fun d=>?_)
 refine Z61 ?_;refine Z2 ?_;refine Yu ?_;refine Mh ?_
 refine Az (α:=List Expr×Nat×Nat) (fun x=>⟨67,A6 0 (.slice false 6 (x.1.map Ab)) (A6 1 (A5 (61-(x.2.2:Int))) (A6 5 (A5 (x.2.1:Nat)) (fun _=>.any))),Hp,[],[],none⟩) (fun x=>WideAt l0 x) (fun x=>x.2.2) ((l0,0,61)) ⟨rfl,Aj _,Ap _⟩ (B2 (by simp)) rfl (fun x hx=>?_)
 refine Z33 ?_;refine A2 [0,1,5,10] ?_
 refine A3 (fun ht10=>?_) (fun ht10=>?_)
 ·have hpos:0<x.1.length:=by simpa using ht10
  have hne:x.1.isEmpty=false:=by cases hxx:x.1 with
   | nil=>rw [hxx] at hpos;simp at hpos
   | cons a r=>rfl
  have hxf:=hx.f
  refine ADl ?_;refine lr ?_;refine A2 [0,1,5,6] ?_;refine Z29 ?_;refine A2 [0,1,5,6,7] ?_
  refine Az (α:=Nat) (fun y=>⟨67,A6 0 (.slice false 6 (x.1.map Ab)) (A6 1 (A5 (61-(x.2.2:Int))) (A6 5 (A5 ((x.2.1+y:Nat):Int)) (A6 6 (.slice true 6 (((x.1.take y).flatMap Expr.kids).map Ab)) (A6 7 (A5 (y:Nat)) (fun _=>.any))))),Hp,[],[],none⟩) (fun y=>y≤x.1.length∧x.2.1+y≤500∧∀(j:Nat) (e:Expr),j<y→x.1[j]? = some e→Vm e=false) (fun y=>x.1.length-y) (0) ⟨Ap _,hx.n,fun j e h=>by omega⟩ (B2 (by simp)) rfl (fun y hy=>?_)
  refine Z50 ?_;refine A2 [0,1,5,6,7,15] ?_
  refine A3 (fun ht15=>?_) (fun ht15=>?_)
  ·have hlt:y<x.1.length:=by simpa using ht15
   have hyn:=hy.2.1
   refine Xa ?_;refine A2 [0,1,5,6,7] ?_;refine Z33 ?_;refine Z7 ?_
   refine Bd (h:=Ac (y) (Ab x.1[y]) (fun _=>Aw hlt)) (hr:=?_)
   refine Pw ?_;refine Z44 ?_
   refine Bd (h:=Ac (y) (Ab x.1[y]) (fun _=>Aw hlt)) (hr:=?_)
   refine Z7 ?_;refine Xb ?_
   refine Bd (h:=Ac (y) (Ab x.1[y]) (fun _=>Aw hlt)) (hr:=?_)
   refine Z7 ?_;refine Z97 ?_;refine A2 [0,1,5,6,7,49] ?_
   refine A3 (fun ht49=>?_) (fun ht49=>?_)
   ·have hm:Rn x.1 x.2.1=true:=AIt hlt (by
     simp only [Co,decide_eq_true_eq,Am] at ht49
     unfold Vm
     simp only [Co,decide_eq_true_eq]
     omega)
    have hw:=AAa (f:=x.2.2) hne hm
    refine Z89 ?_;refine Z13 ?_;refine Z73 ?_;refine Mf ?_;exact APg
   have hfat:Vm x.1[y]=false∧x.2.1+y+1≤500:=by
    simp only [Cq,decide_eq_false_iff_not,Am] at ht49
    unfold Vm
    simp only [Cq,decide_eq_false_iff_not]
    omega
   have hkl:=(jm hfat.1).2.2
   have hfm:(x.1.take (y+1)).flatMap Expr.kids=(x.1.take y).flatMap Expr.kids++x.1[y].kids:=by rw [Ip hlt,List.flatMap_append];simp
   refine AM4 ?_;refine Z0 ?_
   refine A4 (h:=Ac (y) (Ab x.1[y]) (fun _=>Aw hlt)) (hr:=?_)
   refine Z0 ?_
   refine Ee jU Tryz.type62 ?_ ?_ ?_
   ·have h1:=am y hy.1 hy.2.2;have h2:=hkl;have h3:=hy.2.1;simp only [Am,Tryz.t62];omega
   ·have h1:=am y hy.1 hy.2.2;have h2:=hkl;have h3:=hy.2.1;simp only [Am,Tryz.t62];omega
   refine Lr ?_;refine A2 [0,1,5,6,7] ?_;refine Z83 ?_;refine A2 [0,1,5,6,7] ?_
   refine Ay (y+1) ⟨hlt,by omega,C1 hlt hy.2.2 hfat.1⟩ (by omega) (Bh ?_)
   rw [hfm,C4]
   rfl
  have hye:x.1.take y=x.1:=D9 (by simp at ht15;omega)
  have hyl:y=x.1.length:=by have:=hy.1;simp at ht15;omega
  have hmany:Rn x.1 x.2.1=false:=by
   unfold Rn
   rw [decide_eq_false (by have:=hy.2.1;omega),C7,M8]
   intro e he
   obtain ⟨j,hj⟩:=Cf he
   rw [hy.2.2 j e (by have:=(Ad.1 hj).1;omega) hj]
   simp
  refine Z45 ?_;refine Z8 ?_;refine Z44 ?_;refine A4 ?_;refine A2 [1,5,6,63] ?_
  refine A3 (fun ht63=>?_) (fun ht63=>?_)
  ·have hw:Ig x.2.2 x.1 x.2.1=true:=by
    have h9:=ht63
    rw [hye] at h9
    simp only [Co,decide_eq_true_eq,Am] at h9
    cases hf:x.2.2 with
    | zero=>rw [Ig,hne];rfl
    | succ f =>
     rw [Ig,if_neg (by rw [hne];simp),if_neg (by rw [hmany];simp),if_pos (by rw [decide_eq_true_eq];omega)]
   refine Z89 ?_;refine Z13 ?_;refine Mf ?_;exact APg
  have h9:=ht63
  rw [hye] at h9
  simp only [Cq,decide_eq_false_iff_not,Am] at h9
  obtain ⟨f,hf⟩:∃f,x.2.2=f+1:=⟨x.2.2-1,by omega⟩
  have hw:Ig x.2.2 x.1 x.2.1=Ig f (x.1.flatMap Expr.kids) (x.2.1+x.1.length):=by
   rw [hf,Ig,if_neg (by rw [hne];simp),if_neg (by rw [hmany];simp),if_neg (by rw [decide_eq_true_eq];omega)]
  refine Lq ?_;refine Yu ?_;refine Z23 ?_;refine Yu ?_;refine L3 ?_
  refine Ay (x.1.flatMap Expr.kids,x.2.1+x.1.length,f) ⟨hx.eq.trans hw,by show f≤61;omega,by show x.2.1+x.1.length≤500;have:=hy.2.1;omega⟩ (by show f<x.2.2;omega) (Bh ?_)
  rw [hye,hyl]
  congr 4
  simp only [AV.v.injEq,Value.int.injEq,true_and]
  omega
 have hnil:x.1=[]:=by have:=ht10;simp at this;exact this
 refine Xc ?_;refine Z39 ?_;exact A8 (Ae A7) ⟨by rw [hx.eq,hnil];cases x.2.2<;>rfl,rfl⟩

theorem c39 (e:Expr) (Hp:List AObj):AFun Tryz.prog 39 [Ab e] Hp (B4 (Zz e)):=by
 refine Ah [.tmp 2] [0] Tryz.func39 Tryz.ntmps39 (fun d=>?_)
 refine Pv ?_;refine Z2 ?_;refine Ra ?_;refine A9 Tryz.call67 (c67 [e] _) ?_;refine A4 ?_;exact AM7

set_option maxRecDepth 8000
/-! What a tree comes to: eval's model. -/
abbrev Rs:=Val×Int
def D0 (e:Int):Rs:=(noV,e)
def Sp (s:Str):Val:=⟨2,0,s.take 200⟩
def Fu (x:Int×Int):Rs:=if x.2 != 0 then D0 x.2 else (⟨1,x.1,[]⟩,0)
def an (a b:Int):Int×Int:=if decide (Wa .i64 (P5 .i64 a (IntKind.i64.wrap (a+b))) (P5 .i64 b (IntKind.i64.wrap (a+b)))<0) then (0,4) else (IntKind.i64.wrap (a+b),0)
def Lt (a b:Int):Int×Int:=if decide (Wa .i64 (P5 .i64 a b) (P5 .i64 a (IntKind.i64.wrap (a-b)))<0) then (0,4) else (IntKind.i64.wrap (a-b),0)
def Ld (a:Int):Int:=if decide (a<0) then IntKind.u64.wrap (0-IntKind.u64.wrap a) else IntKind.u64.wrap a
def By:List Val→List Int→Bool
 | _,[]=>true
 | [],_::_=>false
 | v::vs,k::ks=>(v.kind==k)&&By vs ks
def J7 (a b:Val):Rs:=if !By [a,b] [2,2] then D0 10 else if decide ((200:Int)<(a.s.length:Int)+(b.s.length:Int)) then D0 3 else (Sp (a.s++b.s),0)
def B9 (r:Rs):Rs:=if (r.2==0)&&(r.1.kind != 0)&&(r.1.kind != 3) then D0 10 else r
def Gp (strong:Val) (a b:Rs):Rs:=if ((B9 a).2 != 0) || ((B9 a).1==strong) then B9 a else if (((B9 b).2 != 0) || ((B9 b).1==strong)) || ((B9 a).1.kind != 0) then B9 b else ((B9 a).1,0)
def ifW:Str:=[105,102]
def P9:Str:=[110,118,108]
def C6:Str:=[105,115,110,117,108,108]
def Ea (t:Str) (a b c:Rs):Rs:=
 if t==ifW then (if (B9 a).2 != 0 then D0 (B9 a).2 else if (B9 a).1==E4 true then b else c)
 else if a.2 != 0 then D0 a.2 else if t==C6 then (E4 (a.1.kind==0),0) else if a.1.kind != 0 then (a.1,0) else b
def I9 (strict:List Val→Rs) (l:List Rs):Rs:=match l.find? (fun q=>q.2 != 0) with|some q=>D0 q.2|none=>if l.any (fun q=>q.1.kind==0) then (noV,0) else strict (l.map (·.1))
def Lf (c:List Col) (l:List Val) (t:Str):Rs:=if Bn t c<0 then D0 9 else (l.getD (Bn t c).toNat noV,0)
def orW:Str:=[111,114]
def Rc:Str:=[97,110,100]
/-- A node, of what its kids come to; what a strict node comes to is a parameter. -/
def J8 (strict:Int→Str→List Val→Rs) (c:List Col) (l:List Val) (o:Int) (t:Str) (v:Val) (ks:List Rs):Rs:=
 if o==1 then (v,0) else if o==2 then Lf c l t
 else if (o==5)&&(t==orW) then Gp (E4 true) (ks.getD 0 (noV,0)) (ks.getD 1 (noV,0))
 else if (o==5)&&(t==Rc) then Gp (E4 false) (ks.getD 0 (noV,0)) (ks.getD 1 (noV,0))
 else if (o==6)&&(((t==ifW) || (t==P9)) || (t==C6)) then Ea t (ks.getD 0 (noV,0)) (ks.getD 1 (noV,0)) (ks.getD 2 (noV,0))
 else I9 (strict o t) ks
mutual
def G6 (strict:Int→Str→List Val→Rs) (c:List Col) (l:List Val):Expr→Rs
 | .mk o t v k=>J8 strict c l o t v (Rr strict c l k)
def Rr (strict:Int→Str→List Val→Rs) (c:List Col) (l:List Val):List Expr→List Rs
  | []=>[]
  | e::r=>G6 strict c l e::Rr strict c l r
 end
theorem M2 (f:Int→Str→List Val→Rs) (c:List Col) (l:List Val):∀k,Rr f c l k=k.map (G6 f c l)
 | []=>rfl
 | e::r=>by rw [Rr,M2 f c l r];rfl
theorem U6 (f:Int→Str→List Val→Rs) (c:List Col) (l:List Val) (e:Expr):G6 f c l e=J8 f c l e.op e.text e.val (e.kids.map (G6 f c l)):=by cases e;rw [G6,M2];rfl
def F9 (c:List Col) (l:List Val):Bool:=(Tz c&&(l.length==c.length))&&(l.zip c).all fun p=>Cg p.1&&((p.1.kind==0) || (p.1.kind==p.2.kind))
/-- eval.Eval. -/
def wj (f:Int→Str→List Val→Rs) (x:Expr) (c:List Col) (l:List Val):Rs:=if (!(Bk x)) || !(F9 c l) then D0 1 else G6 f c l x
/-! A tree in a column's place comes to what its value would there. -/
mutual
theorem eval_put {f:Int→Str→List Val→Rs} {c:List Col} {l m:List Val} {s:Str} {y:Expr} (hs:Lf c m s=G6 f c l y) (ho:∀t,t≠s→Lf c m t=Lf c l t):∀x:Expr,G6 f c l (AMv s y x)=G6 f c m x
 | .mk o t v k=>by
  rw [AMv]
  split
  ·rename_i h
   rw [As,beq_iff_eq,beq_iff_eq] at h
   obtain ⟨rfl,rfl⟩:=h
   rw [←hs,G6]
   rfl
  rename_i h
  rw [G6,G6,fe hs ho k]
  unfold J8
  by_cases h2:(o==2)=true
  ·have:t≠s:=fun e=>h (by rw [h2,e];simp)
   rw [ho t this]
  rw [if_neg h2,if_neg h2]
theorem fe {f:Int→Str→List Val→Rs} {c:List Col} {l m:List Val} {s:Str} {y:Expr} (hs:Lf c m s=G6 f c l y) (ho:∀t,t≠s→Lf c m t=Lf c l t):∀k:List Expr,Rr f c l (AI7 s y k)=Rr f c m k
  | []=>rfl
  | e::r=>by rw [AI7,Rr,Rr,eval_put hs ho e,fe hs ho r]
 end
/-! Who is not named plays no part. -/
/-! What a strict node comes to. -/
def Sq (a b:Int):Int×Int:=
 let p:=Ld a*Ld b
 let below:=decide (a<0) != decide (b<0)
 if decide (0<p / 18446744073709551616) || decide ((if below then 9223372036854775808 else 9223372036854775807)<p % 18446744073709551616) then (0,4)
 else if below then (IntKind.i64.wrap (IntKind.u64.wrap (0-p % 18446744073709551616)),0) else (IntKind.i64.wrap (p % 18446744073709551616),0)
def Xg (a b:Int):Int×Int:=if b==0 then (0,5) else if (a == -9223372036854775808)&&(b == -1) then (0,4) else (IntKind.i64.wrap (a.tdiv b),0)
def Sr (a b:Int):Int×Int:=if b==0 then (0,5) else if b == -1 then (0,0) else (IntKind.i64.wrap (a.tmod b),0)
def Ev (t:Str) (a b:Int):Int×Int:=if t==[43] then an a b else if t==[45] then Lt a b else if t==[42] then Sq a b else if t==[47] then Xg a b else Sr a b
def Fc (t:Str) (c:Int):Bool×Bool:=if t==[61] then (c==0,true) else if t==[33,61] then (c != 0,true) else if t==[60] then (decide (c<0),true) else if t==[60,61] then (decide (c≤0),true) else if t==[62] then (decide (0<c),true) else if t==[62,61] then (decide (0≤c),true) else (false,false)
def Lu (a b:Int):Int:=if decide (a<b) then -1 else if decide (b<a) then 1 else 0
def orI:List Int→Int
 | []=>0
 | a::r=>if a != 0 then a else orI r
def Ss (a b:Val):Int:=if (!(Cg a)) || !(Cg b) then 0 else orI [Lu a.kind b.kind,Lu a.n b.n,Lib.compareBytes a.s b.s]
def Id (t:Str) (a b:Val):Rs:=if (Fc t (Ss a b)).2 then (if a.kind != b.kind then D0 10 else (E4 (Fc t (Ss a b)).1,0)) else if t==[38] then J7 a b else if !By [a,b] [1,1] then D0 10 else Fu (Ev t a.n b.n)
def H9 (t:Str) (v:Val):Rs:=if (t==[115,116,114])&&(v.kind==1) then (Sp (Lib.itoa v.n),0) else if (t==[108,101,110])&&(v.kind==2) then (⟨1,v.s.length,[]⟩,0) else if (t==[110,117,109])&&(v.kind==2) then Fu (Bv v.s) else D0 10
def L7 (t:Str) (s:Str) (n:Int):Val:=if t==[108,101,102,116] then Sp (s.take (max 0 (min n s.length)).toNat) else Sp (s.drop (s.length-(max 0 (min n s.length)).toNat))
def B0 (o:Int) (t:Str) (l:List Val):Rs:=
 if o==5 then Id t (l.getD 0 noV) (l.getD 1 noV) else if (o==3)&&By l [1] then Fu (Lt 0 (l.getD 0 noV).n) else if (o==4)&&By l [3] then (E4 ((l.getD 0 noV).n==0),0)
 else if o != 6 then D0 10 else if (l.length:Int)==1 then H9 t (l.getD 0 noV) else if !By l [2,1] then D0 10 else (L7 t (l.getD 0 noV).s (l.getD 1 noV).n,0)
abbrev Al (c:List Col) (l:List Val) (e:Expr):Rs:=G6 B0 c l e
abbrev En (x:Expr) (c:List Col) (l:List Val):Rs:=wj B0 x c l
/-! Values are plain, and their numbers have 64 bits. -/
structure Fine (v:Val):Prop where
 plain:Cg v=true
 lo : -9223372036854775808≤v.n
 hi:v.n≤9223372036854775807
theorem N7:Fine noV:=⟨rfl,by decide,by decide⟩
theorem Vs (b:Bool):Fine (E4 b):=by cases b<;>exact ⟨rfl,by decide,by decide⟩
theorem np {n:Int} (h0 : -9223372036854775808≤n) (h1:n≤9223372036854775807):Fine ⟨1,n,[]⟩:=⟨rfl,h0,h1⟩
theorem ap (s:Str):Fine (Sp s):=⟨by
 unfold Cg Sp
 simp only [show ((2:Int)==0)=false from rfl,show ((2:Int)==1)=false from rfl,show ((2:Int)==2)=true from rfl,Ag,if_false,if_true,show ((0:Int)==0)=true from rfl,Dm,decide_eq_true_eq,Bx]
 omega,by show -9223372036854775808≤(0:Int);decide,by show (0:Int)≤9223372036854775807;decide⟩
theorem Fine.len {v:Val} (h:Fine v):v.s.length≤200:=by
 have h:=h.plain
 unfold Cg at h
 split at h
 ·simp only [As,beq_iff_eq] at h;rw [h.2];exact Ap _
 split at h
 ·rw [beq_iff_eq] at h;rw [h];exact Ap _
 split at h
 ·simp only [As,decide_eq_true_eq] at h;omega
 simp only [As,beq_iff_eq] at h;rw [h.1.1.2];exact Ap _
theorem Su {x:Int×Int} (h0:x.2=0 → -9223372036854775808≤x.1) (h1:x.2=0→x.1≤9223372036854775807):Fine (Fu x).1:=by
 unfold Fu
 split
 ·exact N7
 rename_i h
 have h:x.2=0:=by simpa using h
 exact np (h0 h) (h1 h)
theorem aq (e:Int):Fine (D0 e).1:=N7
theorem Kn (n:Int) : -9223372036854775808≤IntKind.i64.wrap n∧IntKind.i64.wrap n≤9223372036854775807:=by rw [IntKind.wrap_i64];omega
theorem AFc (a b:Int):Fine (Fu (Lt a b)).1:=by
 refine Su (fun _=>?_) (fun _=>?_)<;>unfold Lt<;>split
 ·show -9223372036854775808≤(0:Int);decide
 ·exact (Kn _).1
 ·show (0:Int)≤9223372036854775807;decide
 exact (Kn _).2
theorem nq (t:Str) (a b:Int) : -9223372036854775808≤(Ev t a b).1∧(Ev t a b).1≤9223372036854775807:=by
 have z : -9223372036854775808≤(0:Int)∧(0:Int)≤9223372036854775807:=by decide
 unfold Ev
 split
 ·unfold an;split;exact z;exact Kn _
 split
 ·unfold Lt;split;exact z;exact Kn _
 split
 ·unfold Sq
  simp only
  repeat' split
  all_goals first|exact z|exact Kn _
 split
 ·unfold Xg;split;exact z;split;exact z;exact Kn _
 unfold Sr;split;exact z;split;exact z;exact Kn _
theorem AFd {t:Str} {a b:Val}:Fine (Id t a b).1:=by
 unfold Id
 split
 ·split
  ·exact cq
  exact Vs _
 split
 ·unfold J7
  split
  ·exact cq
  split
  ·exact cq
  exact ap _
 split
 ·exact cq
 exact Su (fun _=>(nq _ _ _).1) (fun _=>(nq _ _ _).2)
theorem AFe (s:Str) : -9223372036854775808≤(Bv s).1∧(Bv s).1≤9223372036854775807:=by
 unfold Bv
 split
 ·decide
 split
 ·rename_i v h
  have:=Lib.parseIntB_bounds h
  simp only [show ((2 ^ (64-1):Nat):Int)=9223372036854775808 by decide] at this
  show -9223372036854775808≤v∧v≤9223372036854775807
  omega
 ·decide
 decide
theorem AFf {t:Str} {v:Val} (h:Fine v):Fine (H9 t v).1:=by
 unfold H9
 split
 ·exact ap _
 split
 ·have:=h.len
  exact np (by omega) (by omega)
 split
 ·exact Su (fun _=>(AFe _).1) (fun _=>(AFe _).2)
 exact cq
theorem nr {o:Int} {t:Str} {l:List Val} (h:∀v∈l,Fine v):Fine (B0 o t l).1:=by
 have h0:Fine (l.getD 0 noV):=by cases l with|nil=>exact N7|cons a r=>exact h a Lj
 unfold B0
 split
 ·exact AFd
 split
 ·exact AFc _ _
 split
 ·exact Vs _
 split
 ·exact cq
 split
 ·exact AFf h0
 split
 ·exact cq
 unfold L7
 split<;>exact ap _
theorem Sv {r:Rs} (h:Fine r.1):Fine (B9 r).1:=by
 unfold B9
 split
 ·exact cq
 exact h
theorem ar {s:Val} {a b:Rs} (ha:Fine a.1) (hb:Fine b.1):Fine (Gp s a b).1:=by
 unfold Gp
 split
 ·exact Sv ha
 split
 ·exact Sv hb
 exact Sv ha
theorem AAb {t:Str} {a b c:Rs} (ha:Fine a.1) (hb:Fine b.1) (hc:Fine c.1):Fine (Ea t a b c).1:=by
 unfold Ea
 repeat' split
 all_goals first|exact aq _|exact hb|exact hc|exact ha|exact Vs _
theorem AFg {f:List Val→Rs} {l:List Rs} (hf:∀k:List Val,(∀v∈k,Fine v)→Fine (f k).1) (h:∀r∈l,Fine r.1):Fine (I9 f l).1:=by
 unfold I9
 split
 ·exact cq
 split
 ·exact N7
 refine hf _ fun v hv=>?_
 obtain ⟨r,hr,rfl⟩:=D6.1 hv
 exact h r hr
theorem AAc {c:List Col} {l:List Val} (h:∀v∈l,Fine v) (t:Str):Fine (Lf c l t).1:=by
 unfold Lf
 split
 ·exact cq
 show Fine (l.getD _ noV)
 rw [D4]
 cases hg:l[(Bn t c).toNat]? with
 | none=>exact N7
 | some v=>exact h v (B3 hg)
def Nz (e:Expr):Bool := !(e.op==1) || Cg e.val
theorem K9 {k:List Rs} (h:∀r∈k,Fine r.1) (i:Nat):Fine (k.getD i (noV,0)).1:=by
 rw [D4]
 cases hg:k[i]? with
 | none=>exact N7
 | some r=>exact h r (B3 hg)
mutual
theorem R0 {c:List Col} {l:List Val} (h:∀v∈l,Fine v):∀e:Expr,Et Nz e=true→Et L5 e=true→Fine (Al c l e).1
 | .mk o t v k,h1,h2=>by
  rw [Et,As] at h1 h2
  have hk:=au (c:=c) h k h1.2 h2.2
  rw [Al,G6]
  unfold J8
  split
  ·rename_i ho
   have p:=h1.1
   unfold Nz at p
   rw [show (Expr.mk o t v k).op=o from rfl,ho] at p
   have q:=h2.1
   unfold L5 at q
   simp only [As,decide_eq_true_eq] at q
   exact ⟨by show Cg (Expr.mk o t v k).val=true;simpa using p,q.1,q.2⟩
  split
  ·exact AAc h t
  split
  ·exact ar (K9 hk 0) (K9 hk 1)
  split
  ·exact ar (K9 hk 0) (K9 hk 1)
  split
  ·exact AAb (K9 hk 0) (K9 hk 1) (K9 hk 2)
  exact AFg (fun _ hl=>nr hl) hk
theorem au {c:List Col} {l:List Val} (h:∀v∈l,Fine v):∀k:List Expr,Jj Nz k=true→Jj L5 k=true→∀r∈Rr B0 c l k,Fine r.1
  | [],_,_=>fun r hr=>by cases hr
  | e::k,h1,h2=>by
    rw [Jj,As] at h1 h2
    intro r hr
    rw [Rr] at hr
    rcases Bu.1 hr with rfl|hr
    · exact R0 h e h1.1 h2.1
    exact au h k h1.2 h2.2 r hr
 end
/-! What the signs of bits tell. -/
theorem av (x:BitVec 64):IntKind.i64.wrap (x.toNat:Int)=x.toInt:=by
 rw [IntKind.wrap_i64,BitVec.toInt_eq_toNat_cond]
 have:=x.isLt
 split<;>omega
theorem R1 {m:Int} (h0 : -9223372036854775808≤m) (h1:m≤9223372036854775807):(BitVec.ofInt 64 m).msb=decide (m<0):=by
 rw [BitVec.msb_eq_toInt,BitVec.toInt_ofInt]
 congr 1
 have:m.bmod (2 ^ 64)=m:=by
  rw [Int.bmod_eq_of_le]<;>omega
 rw [this]
theorem nt {m n:Int} (m0 : -9223372036854775808≤m) (m1:m≤9223372036854775807) (n0 : -9223372036854775808≤n) (n1:n≤9223372036854775807):decide (Wa .i64 m n<0)=(decide (m<0)&&decide (n<0)):=by
 have e:Wa .i64 m n=(BitVec.ofInt 64 m &&& BitVec.ofInt 64 n).toInt:=av _
 rw [e,←BitVec.msb_eq_toInt,BitVec.msb_and,R1 m0 m1,R1 n0 n1]
theorem U7 {m n:Int} (m0 : -9223372036854775808≤m) (m1:m≤9223372036854775807) (n0 : -9223372036854775808≤n) (n1:n≤9223372036854775807):decide (P5 .i64 m n<0)=(decide (m<0) ^^ decide (n<0)):=by
 have e:P5 .i64 m n=(BitVec.ofInt 64 m ^^^ BitVec.ofInt 64 n).toInt:=av _
 rw [e,←BitVec.msb_eq_toInt,BitVec.msb_xor,R1 m0 m1,R1 n0 n1]
theorem Kw (m n:Int) : -9223372036854775808≤P5 .i64 m n∧P5 .i64 m n≤9223372036854775807:=Kn _
/-- num.Add: the sum, where 64 bits hold it. -/
theorem AIu {a b:Int} (a0 : -9223372036854775808≤a) (a1:a≤9223372036854775807) (b0 : -9223372036854775808≤b) (b1:b≤9223372036854775807):an a b=if -9223372036854775808≤a+b∧a+b≤9223372036854775807 then (a+b,0) else (0,4):=by
 have hw:=IntKind.wrap_i64 (a+b)
 have hc:=Kn (a+b)
 unfold an
 generalize IntKind.i64.wrap (a+b)=c at hw hc ⊢
 rw [nt (Kw _ _).1 (Kw _ _).2 (Kw _ _).1 (Kw _ _).2,U7 a0 a1 hc.1 hc.2,U7 b0 b1 hc.1 hc.2]
 by_cases ha:a<0<;>by_cases hb:b<0<;>by_cases hcn:c<0<;>simp [ha,hb,hcn]<;>(try split)<;>(try simp)<;>omega
/-- num.Sub. -/
theorem wl {a b:Int} (a0 : -9223372036854775808≤a) (a1:a≤9223372036854775807) (b0 : -9223372036854775808≤b) (b1:b≤9223372036854775807):Lt a b=if -9223372036854775808≤a-b∧a-b≤9223372036854775807 then (a-b,0) else (0,4):=by
 have hw:=IntKind.wrap_i64 (a-b)
 have hc:=Kn (a-b)
 unfold Lt
 generalize IntKind.i64.wrap (a-b)=c at hw hc ⊢
 rw [nt (Kw _ _).1 (Kw _ _).2 (Kw _ _).1 (Kw _ _).2,U7 a0 a1 b0 b1,U7 a0 a1 hc.1 hc.2]
 by_cases ha:a<0<;>by_cases hb:b<0<;>by_cases hcn:c<0<;>simp [ha,hb,hcn]<;>(try split)<;>(try simp)<;>omega
theorem R2 {a:Int} (a0 : -9223372036854775808≤a) (a1:a≤9223372036854775807):Ld a=(a.natAbs:Int):=by
 have h1:=IntKind.wrap_u64 a
 have h2:=IntKind.wrap_u64 (0-IntKind.u64.wrap a)
 unfold Ld
 split
 ·rename_i h
  have h:a<0:=by simpa using h
  omega
 rename_i h
 have h:¬a<0:=by simpa using h
 omega
/-- num.Mul. -/
theorem AIv {a b:Int} (a0 : -9223372036854775808≤a) (a1:a≤9223372036854775807) (b0 : -9223372036854775808≤b) (b1:b≤9223372036854775807):Sq a b=if -9223372036854775808≤a*b∧a*b≤9223372036854775807 then (a*b,0) else (0,4):=by
 have hs:((a<0↔b<0)→a*b=(a.natAbs:Int)*(b.natAbs:Int))∧(¬(a<0↔b<0)→a*b = -((a.natAbs:Int)*(b.natAbs:Int))):=by
  rcases Int.natAbs_eq a with ha|ha<;>rcases Int.natAbs_eq b with hb|hb
  ·refine ⟨fun _=>by rw [←ha,←hb],fun h=>?_⟩
   exfalso
   omega
  ·refine ⟨fun h=>?_,fun _=>by rw [Int.neg_mul_eq_mul_neg,←hb,←ha]⟩
   have hz:b.natAbs=0:=by omega
   have:b=0:=by omega
   subst this
   simp
  ·refine ⟨fun h=>?_,fun _=>by rw [←Int.neg_mul,←hb,←ha]⟩
   have:a=0:=by omega
   subst this
   simp
  refine ⟨fun _=>?_,fun h=>?_⟩
  ·have:=Int.neg_mul_neg (a.natAbs:Int) (b.natAbs:Int)
   rw [←ha,←hb] at this
   exact this
  by_cases hz:a=0
  ·subst hz;simp
  have:b=0:=by omega
  subst this
  simp
 unfold Sq
 simp only [R2 a0 a1,R2 b0 b1]
 have hp:0≤(a.natAbs:Int)*(b.natAbs:Int):=Int.mul_nonneg (q9 _) (q9 _)
 generalize hP:(a.natAbs:Int)*(b.natAbs:Int)=p at hs hp ⊢
 generalize hQ:a*b=q at hs ⊢
 have hu:=IntKind.wrap_u64 (0-p % 18446744073709551616)
 have hi:=IntKind.wrap_i64 (IntKind.u64.wrap (0-p % 18446744073709551616))
 have hj:=IntKind.wrap_i64 (p % 18446744073709551616)
 by_cases hab:(a<0↔b<0)
 ·have hq:=hs.1 hab
  have hbl:(decide (a<0) != decide (b<0))=false:=by simp [hab]
  rw [hbl]
  simp only [Ag,if_false]
  subst hq
  by_cases hc:(decide (0<q / 18446744073709551616) || decide (9223372036854775807<q % 18446744073709551616))=true
  ·rw [if_pos hc,if_neg]
   simp only [Co,decide_eq_true_eq] at hc
   omega
  rw [if_neg hc]
  simp only [Co,decide_eq_true_eq,not_or,Int.not_lt] at hc
  rw [if_pos (by omega)]
  congr 1
  omega
 have hq:=hs.2 hab
 have hbl:(decide (a<0) != decide (b<0))=true:=by
  by_cases h1:a<0<;>by_cases h2:b<0<;>simp_all
 rw [hbl]
 simp only [if_true]
 subst hq
 by_cases hc:(decide (0<p / 18446744073709551616) || decide (9223372036854775808<p % 18446744073709551616))=true
 ·rw [if_pos hc,if_neg]
  simp only [Co,decide_eq_true_eq] at hc
  omega
 rw [if_neg hc]
 simp only [Co,decide_eq_true_eq,not_or,Int.not_lt] at hc
 rw [if_pos (by omega)]
 congr 1
 omega
/-! Sizes in digits to the base of 2^32. -/
abbrev B32:Nat:=4294967296
def dig (m i:Nat):Nat:=m / B32 ^ i % B32
theorem C2 (m i:Nat):dig m i<4294967296:=Is _ (by decide)
theorem pw (i:Nat):0<B32 ^ i:=Nat.pow_pos (by decide)
theorem Mo (m i:Nat):m % B32 ^ (i+1)=m % B32 ^ i+B32 ^ i*dig m i:=Nat.mod_pow_succ
theorem U8 (m i:Nat):m / B32 ^ (i+1)=m / B32 ^ i / B32:=by rw [Nat.pow_succ,i3]
def car (a b i:Nat):Nat:=(a % B32 ^ i+b % B32 ^ i) / B32 ^ i
theorem AFh (a b:Nat):car a b 0=0:=by simp [car,Qr]
theorem AFi (a b i:Nat):car a b i≤1:=by
 have h1:=Is a (pw i)
 have h2:=Is b (pw i)
 have:car a b i<2:=by
  unfold car
  rw [v9 (pw i)]
  omega
 omega
theorem AFj (P x y da db:Nat) (hP:0<P):(da+db+(x+y) / P) / B32=(x+P*da+(y+P*db)) / (P*B32):=by
 have e:x+P*da+(y+P*db)=(x+y)+P*(da+db):=by rw [Lm];omega
 rw [e,←i3,Xo _ _ hP,Tb]
theorem AFk (a b i:Nat):(dig a i+dig b i+car a b i) / 4294967296=car a b (i+1):=by
 unfold car
 rw [Mo,Mo,Nat.pow_succ]
 exact AFj _ _ _ _ _ (pw i)
theorem AIw (P a b:Nat) (hP:0<P):(a+b) / P=a / P+b / P+(a % P+b % P) / P:=by
 have ha:=Qp a P
 have hb:=Qp b P
 have e:a+b=(a % P+b % P)+P*(a / P+b / P):=by rw [Lm];omega
 calc (a+b) / P=((a % P+b % P)+P*(a / P+b / P)) / P:=by rw [←e]
  _=(a % P+b % P) / P+(a / P+b / P):=Xo _ _ hP
  _=_:=Tb _ _
theorem AIx (a b i:Nat):(dig a i+dig b i+car a b i) % 4294967296=dig (a+b) i:=by
 unfold dig
 rw [AIw _ a b (pw i)]
 unfold car
 generalize (a % B32 ^ i+b % B32 ^ i) / B32 ^ i=c
 generalize a / B32 ^ i=x
 generalize b / B32 ^ i=y
 show (x % 4294967296+y % 4294967296+c) % 4294967296=(x+y+c) % 4294967296
 omega
def bor (a b i:Nat):Nat:=if a % B32 ^ i<b % B32 ^ i then 1 else 0
theorem nu (a b:Nat):bor a b 0=0:=by simp [bor,Qr]
theorem ud (a b i:Nat):bor a b i≤1:=by unfold bor;split<;>omega
theorem AAd (P x y da db:Nat) (hx:x<P) (hy:y<P):(x+P*da<y+P*db)↔(da<db∨(da=db∧x<y)):=by
 constructor
 ·intro h
  rcases i6 da db with h1|h1|h1
  ·exact .inl h1
  ·subst h1;exact .inr ⟨rfl,by omega⟩
  exfalso
  have:P*(db+1)≤P*da:=i7 P h1
  rw [Lm] at this
  omega
 rintro (h|⟨rfl,h⟩)
 ·have:P*(da+1)≤P*db:=i7 P h
  rw [Lm] at this
  omega
 omega
theorem nv (a b i:Nat):1-(4294967296+dig a i-dig b i-bor a b i) / 4294967296=bor a b (i+1):=by
 have hd:=AAd (B32 ^ i) (a % B32 ^ i) (b % B32 ^ i) (dig a i) (dig b i) (Is _ (pw i)) (Is _ (pw i))
 have h1:=C2 a i
 have h2:=C2 b i
 have hb:bor a b (i+1)=if (dig a i<dig b i∨(dig a i=dig b i∧a % B32 ^ i<b % B32 ^ i)) then 1 else 0:=by
  unfold bor
  rw [Mo,Mo]
  by_cases h:a % B32 ^ i+B32 ^ i*dig a i<b % B32 ^ i+B32 ^ i*dig b i
  ·rw [if_pos h,if_pos (hd.1 h)]
  rw [if_neg h,if_neg fun h'=>h (hd.2 h')]
 rw [hb]
 unfold bor
 by_cases hlt:a % B32 ^ i<b % B32 ^ i
 ·rw [if_pos hlt]
  by_cases hc:dig a i<dig b i∨dig a i=dig b i∧a % B32 ^ i<b % B32 ^ i
  ·rw [if_pos hc]
   have:dig a i≤dig b i:=by rcases hc with h|h;omega;omega
   omega
  rw [if_neg hc]
  have:dig b i<dig a i:=by
   rcases i6 (dig a i) (dig b i) with h|h|h
   ·exact absurd (.inl h) hc
   ·exact absurd (.inr ⟨h,hlt⟩) hc
   exact h
  omega
 rw [if_neg hlt]
 by_cases hc:dig a i<dig b i∨dig a i=dig b i∧a % B32 ^ i<b % B32 ^ i
 ·rw [if_pos hc]
  have:dig a i<dig b i:=by
   rcases hc with h|h
   ·exact h
   exact absurd h.2 hlt
  omega
 rw [if_neg hc]
 have:dig b i≤dig a i:=by
  rcases Be (dig a i) (dig b i) with h|h
  ·exact absurd (.inl h) hc
  exact h
 omega
theorem AIy (P a b:Nat) (hP:0<P) (h:b≤a):(a-b) / P+(if a % P<b % P then 1 else 0)+b / P=a / P:=by
 have ha:=Qp a P
 have hb:=Qp b P
 have hm1:=Is a hP
 have hm2:=Is b hP
 have hq:b / P≤a / P:=i4 h
 obtain ⟨t,ht⟩:∃t,a / P=b / P+t:=⟨a / P-b / P,by omega⟩
 rw [ht,Lm] at ha
 by_cases hlt:a % P<b % P
 ·rw [if_pos hlt]
  cases t with
  | zero=>rw [Nat.mul_zero] at ha;omega
  | succ t =>
   rw [Lm,Nat.mul_one] at ha
   have e:a-b=(P+a % P-b % P)+P*t:=by omega
   rw [e,Xo _ _ hP,Qo (by omega),ht]
   omega
 rw [if_neg hlt]
 have e:a-b=(a % P-b % P)+P*t:=by omega
 rw [e,Xo _ _ hP,Qo (by omega),ht]
 omega
theorem wm {a b:Nat} (h:b≤a) (i:Nat):(4294967296+dig a i-dig b i-bor a b i) % 4294967296=dig (a-b) i:=by
 have hd:=AIy (B32 ^ i) a b (pw i) h
 have hb:=ud a b i
 unfold bor at hb ⊢
 unfold dig
 generalize (if a % B32 ^ i<b % B32 ^ i then 1 else 0)=c at *
 generalize (a-b) / B32 ^ i=z at *
 generalize a / B32 ^ i=x at *
 generalize b / B32 ^ i=y at *
 show (4294967296+x % 4294967296-y % 4294967296-c) % 4294967296=z % 4294967296
 omega
/-- Which of two sizes is smaller, digit by digit from above. -/
theorem AIz {a b n:Nat} (h:a / B32 ^ (n+1)=b / B32 ^ (n+1)) (hd:dig a n≠dig b n):decide (a<b)=decide (dig a n<dig b n):=by
 rw [U8,U8] at h
 have e:a / B32 ^ n<b / B32 ^ n↔dig a n<dig b n:=by
  unfold dig at hd ⊢
  generalize a / B32 ^ n=x at *
  generalize b / B32 ^ n=y at *
  have h':x / 4294967296=y / 4294967296:=h
  show x<y↔x % 4294967296<y % 4294967296
  omega
 have hne:a / B32 ^ n≠b / B32 ^ n:=fun e'=>hd (by unfold dig;rw [e'])
 rw [decide_eq_decide,←e]
 constructor
 ·intro hl
  have:=i4 (c:=B32 ^ n) (Nat.le_of_lt hl)
  omega
 intro hl
 rcases Be a b with h1|h1
 ·exact h1
 have:=i4 (c:=B32 ^ n) h1
 omega
theorem AAe {a b n:Nat} (h:a / B32 ^ (n+1)=b / B32 ^ (n+1)) (hd:dig a n=dig b n):a / B32 ^ n=b / B32 ^ n:=by
 rw [U8,U8] at h
 unfold dig at hd
 generalize a / B32 ^ n=x at *
 generalize b / B32 ^ n=y at *
 have h':x / 4294967296=y / 4294967296:=h
 have hd':x % 4294967296=y % 4294967296:=hd
 omega
set_option maxRecDepth 4000
abbrev Q6 (r:Rs):AV:=.tup [Bi r.1,A5 r.2]
abbrev wn (l:List Int):AV:=.slice false 1 (l.map A5)
abbrev aw (c:List Col) (l:List Val):AV:=.agg [An c,Br l]
theorem ATx (e:Int) (Hp:List AObj):AFun Tryz.prog 104 [A5 e] Hp (Q6 (D0 e)):=by
 refine Ah [.cell 2 42,.tmp 3] [0] Tryz.func104 Tryz.ntmps104 (fun d=>?_)
 refine lx ?_;refine A2 [0,2] ?_;refine AM8 ?_;refine A4 ?_;refine To ?_;refine Dd ?_;exact A8 (B1 (B8 jA jS) A7)

theorem ATy (n e:Int) (Hp:List AObj):AFun Tryz.prog 192 [A5 n,A5 e] Hp (Q6 (Fu (n,e))):=by
 refine Ah [.cell 4 42,.tmp 5] [0,1] Tryz.func192 Tryz.ntmps192 (fun d=>?_)
 refine lx ?_;refine A2 [0,1,4] ?_;refine Z8 ?_;refine A2 [0,1,4,7] ?_
 refine A3 (fun ht7=>?_) (fun ht7=>?_)
 ·have hw:Fu (n,e)=D0 e:=if_pos ht7
  refine Z2 ?_;refine Z62 ?_;refine Z41 ?_;exact AOw
 have hw:Fu (n,e)=(⟨1,n,[]⟩,0):=if_neg (by rw [ht7];simp)
 refine Z92 ?_;refine A9 Tryz.call184 (AMn _ _) ?_;refine Z41 ?_;exact AOu

theorem nw {vs:List Val} {ks:List Int} (hl:ks.length≤vs.length) {x:Nat} (hk:x<ks.length) (hx:By vs ks=By (vs.drop x) (ks.drop x)):By vs ks=((vs[x].kind==ks[x])&&By (vs.drop (x+1)) (ks.drop (x+1))):=by
 rw [hx,Hd hk,Hd (show x<vs.length by omega),By]
theorem AFl (vs:List Val) (ks:List Int) (hks:ks.length≤vs.length) (hk2:ks.length≤1048576) (Hp:List AObj):AFun Tryz.prog 191 [Br vs,wn ks] Hp (B4 (By vs ks)):=by
 refine Ah [.tmp 4] [0,1] Tryz.func191 Tryz.ntmps191 (fun d=>?_)
 refine Z61 ?_;refine Z33 ?_;refine A2 [0,7,8,9] ?_
 refine Az (α:=Nat) (fun x=>⟨22,A6 0 (Br vs) (A6 7 (wn ks) (A6 8 (A5 (ks.length:Nat)) (A6 9 (A5 (x:Nat)) (fun _=>.any)))),Hp,[],[],none⟩) (fun x=>x≤ks.length∧By vs ks=By (vs.drop x) (ks.drop x)) (fun x=>ks.length-x) (0) ⟨Ap _,rfl⟩ (B2 (by simp)) rfl (fun x hx=>?_)
 refine Z2 ?_;refine A2 [0,7,8,9,10] ?_
 refine Ej (fun ht10=>?_) (fun ht10=>?_)
 ·have hlt:x<ks.length:=by simpa using ht10
  have hls:x<vs.length:=by omega
  have hst:=nw hks hlt hx.2
  refine Tr ?_
  refine A4 (h:=Ac (x) (A5 ks[x]) (fun _=>Aw hlt)) (hr:=?_)
  refine Z10 ?_;refine A2 [0,5,6,7,8,9] ?_;refine Z1 ?_
  refine A4 (h:=Ac (x) (Bi vs[x]) (fun _=>Aw hls)) (hr:=?_)
  refine Z70 ?_;refine A2 [0,7,8,9,20] ?_
  refine A3 (fun ht20=>?_) (fun ht20=>?_)
  ·have hm:By vs ks=false:=by rw [hst];simp only [bne_iff_ne,ne_eq] at ht20;simp [ht20]
   refine Z89 ?_;exact AHd
  have hn:By vs ks=By (vs.drop (x+1)) (ks.drop (x+1)):=by rw [hst];simp only [bne_eq_false_iff_eq] at ht20;simp [ht20]
  refine Nm ?_;refine A2 [0,7,8,9] ?_;exact AP4
 have hxe:ks.length≤x:=by simpa using ht10
 have hm:By vs ks=true:=by rw [hx.2,Uu hxe];cases vs.drop x<;>rfl
 refine Ts ?_;exact yo

theorem ATz (t:Str) (c:Int) (Hp:List AObj):AFun Tryz.prog 220 [Af t,A5 c] Hp (.tup [B4 (Fc t c).1,B4 (Fc t c).2]):=by
 refine Ah [.tmp 4,.tmp 5] [0,1] Tryz.func220 Tryz.ntmps220 (fun d=>?_)
 refine ln ?_;refine Z29 ?_;refine A2 [1,6] ?_;refine P8 ?_;refine A2 [1,6,7] ?_
 refine A3 (fun ht7=>?_) (fun ht7=>?_)
 ·exact yx
 refine Z1 ?_;refine A2 [1,6,11] ?_
 refine A3 (fun ht11=>?_) (fun ht11=>?_)
 ·exact yx
 refine Z1 ?_;refine A2 [1,6,15] ?_
 refine A3 (fun ht15=>?_) (fun ht15=>?_)
 ·exact yx
 refine Z1 ?_;refine A2 [1,6,19] ?_
 refine A3 (fun ht19=>?_) (fun ht19=>?_)
 ·exact yx
 refine Z1 ?_;refine A2 [1,6,23] ?_
 refine A3 (fun ht23=>?_) (fun ht23=>?_)
 ·exact yx
 refine Z1 ?_;refine A2 [1,27] ?_
 refine A3 (fun ht27=>?_) (fun ht27=>?_)
 ·exact yx
 refine j6 ?_;refine Z77 ?_;exact AQg

theorem ARl (a b:Int) (Hp:List AObj):AFun Tryz.prog 224 [A5 a,A5 b] Hp (.tup [A5 (Lt a b).1,A5 (Lt a b).2]):=by
 refine Ah [.tmp 4,.tmp 5] [0,1] Tryz.func224 Tryz.ntmps224 (fun d=>?_)
 refine ln ?_;refine Z1 ?_
 refine A4 (h:=L2) (hr:=?_)
 refine A4 ?_;refine A2 [0,1,6] ?_;refine Z8 ?_;refine R.xor ?_;refine Z0 ?_;refine R.xor ?_;refine R.and ?_;refine A4 ?_;refine A2 [6,17] ?_
 refine A3 (fun ht17=>?_) (fun ht17=>?_)
 ·have hm:Lt a b=(0,4):=if_pos ht17
  exact APk
 have hm:Lt a b=(IntKind.i64.wrap (a-b),0):=if_neg (by rw [ht17];simp)
 refine No ?_;exact ALz

theorem AU0 (a b:Int) (Hp:List AObj):AFun Tryz.prog 243 [A5 a,A5 b] Hp (.tup [A5 (an a b).1,A5 (an a b).2]):=by
 refine Ah [.tmp 4,.tmp 5] [0,1] Tryz.func243 Tryz.ntmps243 (fun d=>?_)
 refine ln ?_;refine Z1 ?_
 refine A4 (h:=Gb) (hr:=?_)
 refine A4 ?_;refine A2 [0,1,6] ?_;refine Z8 ?_;refine R.xor ?_;refine Z0 ?_;refine R.xor ?_;refine R.and ?_;refine A4 ?_;refine A2 [6,17] ?_
 refine A3 (fun ht17=>?_) (fun ht17=>?_)
 ·have hm:an a b=(0,4):=if_pos ht17
  exact APk
 have hm:an a b=(IntKind.i64.wrap (a+b),0):=if_neg (by rw [ht17];simp)
 refine No ?_;exact ALz

theorem AU1 (a:Int) (Hp:List AObj):AFun Tryz.prog 193 [A5 a] Hp (.tup [A5 (Lt 0 a).1,A5 (Lt 0 a).2]):=by
 refine Ah [.tmp 2,.tmp 3] [0] Tryz.func193 Tryz.ntmps193 (fun d=>?_)
 refine Z1 ?_;refine A2 [0] ?_;refine Z2 ?_;refine A9 Tryz.call224 (ARl _ _ _) ?_;refine Z70 ?_;refine Ja ?_;refine Dd ?_;exact A8 (B1 A7 A7)

theorem ARm (a:Int) (Hp:List AObj):AFun Tryz.prog 265 [A5 a] Hp (Bo (Ld a)):=by
 refine Ah [.tmp 2] [0] Tryz.func265 Tryz.ntmps265 (fun d=>?_)
 refine Z49 ?_;refine Z8 ?_;refine A2 [0,4] ?_
 refine A3 (fun ht4=>?_) (fun ht4=>?_)
 ·have hm:Ld a=IntKind.u64.wrap (0-IntKind.u64.wrap a):=if_pos ht4
  refine Z25 ?_;refine Z3 ?_;exact AOb
 have hm:Ld a=IntKind.u64.wrap a:=if_neg (by rw [ht4];simp)
 refine No ?_;refine Z3 ?_;exact mc

theorem AN2 (n:Int):0≤IntKind.u64.wrap n∧IntKind.u64.wrap n<18446744073709551616:=by rw [IntKind.wrap_u64];omega
theorem AFm (a:Int):0≤Ld a∧Ld a<18446744073709551616:=by
 unfold Ld
 split<;>exact AN2 _
theorem AU2 (x y:Int) (hx:0≤x∧x<18446744073709551616) (hy:0≤y∧y<18446744073709551616) (Hp:List AObj):AFun Tryz.prog 264 [Bo x,Bo y] Hp (.tup [Bo (x*y / 18446744073709551616),Bo (x*y % 18446744073709551616)]):=by
 obtain ⟨m,rfl⟩:=q8 hx.1
 obtain ⟨n,rfl⟩:=q8 hy.1
 refine N4 (xs:=[.int .u64 m,.int .u64 n]) (v:=.tuple #[.int .u64 ((m*n / 18446744073709551616:Nat):Int),.int .u64 ((m*n % 18446744073709551616:Nat):Int)]) (fun G w=>Ob rfl (fun i y u hy hu=>?_)) (fun w hg=>?_)
 ·match i with
  | 0=>simp at hy hu;subst hy;subst hu;exact .v _ _
  | 1=>simp at hy hu;subst hy;subst hu;exact .v _ _
  | i+2=>simp at hy
 refine (Any.bits_Mul64 Tryz.lays264 m n (by omega) (by omega) w).mono ?_
 rintro e w' ⟨rfl,rfl⟩
 exact ⟨rfl,Go.RowKit.Below.refl _ _⟩
theorem AU3 (s t:Str) (Hp:List AObj):AFun Tryz.prog 242 [Af s,Af t] Hp (A5 (Lib.compareBytes s t)):=by
 refine N4 (xs:=[sv s,sv t]) (v:=.int .i64 (Lib.compareBytes s t)) (fun G w=>.v _ _) (fun w hg=>?_)
 refine (Any.strings_Compare Tryz.lays106 ⟨s.toArray⟩ ⟨t.toArray⟩ w).mono ?_
 rintro e w' ⟨rfl,rfl⟩
 exact ⟨rfl,Go.RowKit.Below.refl _ _⟩
theorem AU4 (a b:Int) (Hp:List AObj):AFun Tryz.prog 244 [A5 a,A5 b] Hp (.tup [A5 (Sq a b).1,A5 (Sq a b).2]):=by
 refine Ah [.tmp 4,.tmp 5] [0,1] Tryz.func244 Tryz.ntmps244 (fun d=>?_)
 refine ln ?_;refine Z2 ?_;refine A9 Tryz.call265 (ARm _ _) ?_;refine A4 ?_;refine A9 Tryz.call265 (ARm _ _) ?_;refine A9 Tryz.call264 (AU2 _ _ (AFm a) (AFm b) _) ?_;refine Z63 ?_;refine A2 [0,1,6,7] ?_;refine Z25 ?_;refine Z0 ?_;refine A2 [6,7,8] ?_;refine Z2 ?_;refine A2 [6,7,8,9] ?_;refine Z29 ?_;refine A2 [6,7,8,9,23] ?_
 refine A3 (fun ht23=>?_) (fun ht23=>?_)
 ·refine Z52 ?_
  refine A4 (h:=Gb) (hr:=?_)
  refine A4 ?_;refine A2 [6,7,8,9] ?_;refine Es ?_;refine m8 ?_;refine Z94 ?_;refine A2 [7,8,26] ?_
  refine A3 (fun ht26=>?_) (fun ht26=>?_)
  ·refine Z1 ?_;refine Z75 ?_
   exact A8 (B1 A7 A7) ⟨by
    have w1:IntKind.u64.wrap 9223372036854775808=9223372036854775808:=rfl
    simp_all [Sq]
    try first|(rw [if_pos ht26];simp;done)|(rw [if_neg (by omega)];simp;done),rfl⟩
  refine Z1 ?_;refine A2 [7,34] ?_
  refine A3 (fun ht34=>?_) (fun ht34=>?_)
  ·refine Z1 ?_;refine Z10 ?_;refine Z75 ?_
   exact A8 (B1 A7 A7) ⟨by
    have w1:IntKind.u64.wrap 9223372036854775808=9223372036854775808:=rfl
    simp_all [Sq]
    try first|(rw [if_pos ht26];simp;done)|(rw [if_neg (by omega)];simp;done),rfl⟩
  refine Z17 ?_;refine Z25 ?_;refine Z77 ?_
  exact A8 (B1 A7 A7) ⟨by
   have w1:IntKind.u64.wrap 9223372036854775808=9223372036854775808:=rfl
   simp_all [Sq]
   try first|(rw [if_pos ht26];simp;done)|(rw [if_neg (by omega)];simp;done),rfl⟩
 refine Xa ?_;refine Z94 ?_;refine A2 [7,8,26] ?_
 refine A3 (fun ht26=>?_) (fun ht26=>?_)
 ·refine Z1 ?_;refine Z75 ?_
  exact A8 (B1 A7 A7) ⟨by
   have w1:IntKind.u64.wrap 9223372036854775808=9223372036854775808:=rfl
   simp_all [Sq]
   try first|(rw [if_pos ht26];simp;done)|(rw [if_neg (by omega)];simp;done),rfl⟩
 refine Z1 ?_;refine A2 [7,34] ?_
 refine A3 (fun ht34=>?_) (fun ht34=>?_)
 ·refine Z1 ?_;refine Z10 ?_;refine Z75 ?_
  exact A8 (B1 A7 A7) ⟨by
   have w1:IntKind.u64.wrap 9223372036854775808=9223372036854775808:=rfl
   simp_all [Sq]
   try first|(rw [if_pos ht26];simp;done)|(rw [if_neg (by omega)];simp;done),rfl⟩
 refine Z17 ?_;refine Z25 ?_;refine Z77 ?_
 exact A8 (B1 A7 A7) ⟨by
  have w1:IntKind.u64.wrap 9223372036854775808=9223372036854775808:=rfl
  simp_all [Sq]
  try first|(rw [if_pos ht26];simp;done)|(rw [if_neg (by omega)];simp;done),rfl⟩

theorem AU5 (a b:Int) (Hp:List AObj):AFun Tryz.prog 245 [A5 a,A5 b] Hp (.tup [A5 (Xg a b).1,A5 (Xg a b).2]):=by
 refine Ah [.tmp 4,.tmp 5] [0,1] Tryz.func245 Tryz.ntmps245 (fun d=>?_)
 refine ln ?_;refine m8 ?_;refine A2 [0,1,6] ?_
 refine A3 (fun ht6=>?_) (fun ht6=>?_)
 ·refine Z1 ?_;exact AP7
 refine Z19 ?_;refine Z7 ?_;refine Z0 ?_;refine A2 [0,1,9] ?_
 refine A3 (fun ht9=>?_) (fun ht9=>?_)
 ·refine Z1 ?_;exact AP7
 refine j6 ?_
 refine A4 (h:=Q.quo (h0:=fun _=>by simpa using ht6)) (hr:=?_)
 refine Z0 ?_;refine Z77 ?_;exact A8 (B1 A7 A7) ⟨by simp_all [Xg]<;>(rw [if_neg (by rintro ⟨rfl,rfl⟩;simp_all)];exact ⟨rfl,rfl⟩),rfl⟩

theorem AAf {a b:Int} (ha : -9223372036854775808≤a∧a≤9223372036854775807):IntKind.i64.wrap (a.tmod b)=a.tmod b:=by
 have h1:(a.tmod b).natAbs≤a.natAbs:=by rw [Int.natAbs_tmod];exact Tg _ _
 rw [IntKind.wrap_i64]
 rcases Int.le_total 0 a with h|h
 ·have:=Int.tmod_nonneg b h
  omega
 have h2:=Int.tmod_nonneg b (show 0 ≤ -a by omega)
 rw [qb] at h2
 omega
theorem AU6 (a b:Int) (ha : -9223372036854775808≤a∧a≤9223372036854775807) (Hp:List AObj):AFun Tryz.prog 246 [A5 a,A5 b] Hp (.tup [A5 (Sr a b).1,A5 (Sr a b).2]):=by
 refine Ah [.tmp 4,.tmp 5] [0,1] Tryz.func246 Tryz.ntmps246 (fun d=>?_)
 refine ln ?_;refine Z29 ?_;refine A2 [0,1,6] ?_;refine P8 ?_;refine A2 [0,1,6,7] ?_
 refine A3 (fun ht7=>?_) (fun ht7=>?_)
 ·have hm:Sr a b=(0,5):=if_pos ht7
  refine Z1 ?_;exact APn
 refine Z1 ?_;refine A2 [0,1,9] ?_
 refine A3 (fun ht9=>?_) (fun ht9=>?_)
 ·have hm:Sr a b=(0,0):=by unfold Sr;rw [if_neg (by rw [ht7];simp),if_pos ht9]
  refine Z1 ?_;exact APn
 have hm:Sr a b=(a.tmod b,0):=by unfold Sr;rw [if_neg (by rw [ht7];simp),if_neg (by rw [ht9];simp),AAf ha]
 refine j6 ?_
 refine A4 (h:=Q.rem (h0:=fun _=>by simpa using ht7)) (hr:=?_)
 refine Z0 ?_;exact ALz

theorem ARn (a:Int) (Hp:List AObj):AFun Tryz.prog 261 [A5 a] Hp (B4 false):=by
 refine Ah [.tmp 2] [0] Tryz.func261 Tryz.ntmps261 (fun d=>?_)
 refine Z49 ?_;refine Z25 ?_;exact AQ3

theorem ARo (a:Int) (Hp:List AObj):AFun Tryz.prog 262 [A5 a] Hp (B4 false):=by
 refine Ah [.tmp 2] [0] Tryz.func262 Tryz.ntmps262 (fun d=>?_)
 refine Z49 ?_;refine Z25 ?_;exact AQ3

theorem AU7 (a b:Int) (Hp:List AObj):AFun Tryz.prog 240 [A5 a,A5 b] Hp (A5 (Lu a b)):=by
 refine Ah [.tmp 4] [0,1] Tryz.func240 Tryz.ntmps240 (fun d=>?_)
 refine Z61 ?_;refine Z2 ?_;refine A9 Tryz.call261 (ARn _ _) ?_;refine A4 ?_;refine Yu ?_;refine Z2 ?_;refine A9 Tryz.call261 (ARn _ _) ?_;refine A4 ?_;refine A2 [0,1,5,6] ?_;refine Z29 ?_;refine A2 [0,1,6,11] ?_
 refine A3 (fun ht11=>?_) (fun ht11=>?_)
 ·cases ht11
 refine Sd ?_;refine A2 [0,1,13] ?_
 refine A3 (fun ht13=>?_) (fun ht13=>?_)
 ·cases ht13
 refine Nn ?_;refine A2 [0,1,16] ?_
 refine A3 (fun ht16=>?_) (fun ht16=>?_)
 ·have hm:Lu a b = -1:=if_pos ht16
  exact rh
 refine Nn ?_;refine A2 [19] ?_
 refine A3 (fun ht19=>?_) (fun ht19=>?_)
 ·have hm:Lu a b=1:=by unfold Lu;rw [if_neg (by rw [ht16];simp),if_pos ht19]
  exact rh
 have hm:Lu a b=0:=by unfold Lu;rw [if_neg (by rw [ht16];simp),if_neg (by rw [ht19];simp)]
 refine Z92 ?_;exact yo

theorem AU8 (a b:Int) (Hp:List AObj):AFun Tryz.prog 241 [A5 a,A5 b] Hp (A5 (Lu a b)):=by
 refine Ah [.tmp 4] [0,1] Tryz.func241 Tryz.ntmps241 (fun d=>?_)
 refine Z61 ?_;refine Z2 ?_;refine A9 Tryz.call262 (ARo _ _) ?_;refine A4 ?_;refine Yu ?_;refine Z2 ?_;refine A9 Tryz.call262 (ARo _ _) ?_;refine A4 ?_;refine A2 [0,1,5,6] ?_;refine Z29 ?_;refine A2 [0,1,6,11] ?_
 refine A3 (fun ht11=>?_) (fun ht11=>?_)
 ·cases ht11
 refine Sd ?_;refine A2 [0,1,13] ?_
 refine A3 (fun ht13=>?_) (fun ht13=>?_)
 ·cases ht13
 refine Nn ?_;refine A2 [0,1,16] ?_
 refine A3 (fun ht16=>?_) (fun ht16=>?_)
 ·have hm:Lu a b = -1:=if_pos ht16
  exact rh
 refine Nn ?_;refine A2 [19] ?_
 refine A3 (fun ht19=>?_) (fun ht19=>?_)
 ·have hm:Lu a b=1:=by unfold Lu;rw [if_neg (by rw [ht16];simp),if_pos ht19]
  exact rh
 have hm:Lu a b=0:=by unfold Lu;rw [if_neg (by rw [ht16];simp),if_neg (by rw [ht19];simp)]
 refine Z92 ?_;exact yo

theorem AFn {l:List Int} {x:Nat} (h:x<l.length) (hx:orI l=orI (l.drop x)):orI l=if l[x] != 0 then l[x] else orI (l.drop (x+1)):=by rw [hx,Hd h,orI]
theorem AU9 (l:List Int) (hl:l.length≤1048576) (Hp:List AObj):AFun Tryz.prog 239 [wn l] Hp (A5 (orI l)):=by
 refine Ah [.tmp 2] [0] Tryz.func239 Tryz.ntmps239 (fun d=>?_)
 refine Z49 ?_;refine Z2 ?_;refine Oj ?_;refine Z33 ?_;refine A2 [3,6,7,8] ?_
 refine Az (α:=Nat) (fun x=>⟨18,A6 3 (A5 0) (A6 6 (wn l) (A6 7 (A5 (l.length:Nat)) (A6 8 (A5 (x:Nat)) (fun _=>.any)))),Hp,[],[],none⟩) (fun x=>x≤l.length∧orI l=orI (l.drop x)) (fun x=>l.length-x) (0) ⟨Ap _,rfl⟩ (B2 (by simp)) rfl (fun x hx=>?_)
 refine Z2 ?_;refine A2 [3,6,7,8,9] ?_
 refine Ej (fun ht9=>?_) (fun ht9=>?_)
 ·have hlt:x<l.length:=by simpa using ht9
  have hst:=AFn hlt hx.2
  refine X6 ?_
  refine A4 (h:=Ac (x) (A5 l[x]) (fun _=>Aw hlt)) (hr:=?_)
  refine Z0 ?_;refine A2 [3,5,6,7,8] ?_;refine Z19 ?_;refine A2 [3,5,6,7,8,14] ?_
  refine A3 (fun ht14=>?_) (fun ht14=>?_)
  ·have hm:orI l=l[x]:=by rw [hst,if_pos ht14]
   refine j5 ?_;exact rd
  have hn:orI l=orI (l.drop (x+1)):=by rw [hst,if_neg (by rw [ht14];simp)]
  refine Nm ?_;refine A2 [3,6,7,8] ?_;exact AP4
 have hxe:l.length≤x:=by simpa using ht9
 have hm:orI l=0:=by rw [hx.2,Uu hxe];rfl
 refine Z26 ?_;refine j5 ?_;exact mc

theorem AUa (a b:Val) (Hp:List AObj):AFun Tryz.prog 221 [Bi a,Bi b] Hp (A5 (Ss a b)):=by
 refine Ah [.tmp 4] [0,1] Tryz.func221 Tryz.ntmps221 (fun d=>?_)
 refine yw ?_;refine Z29 ?_;refine A9 Tryz.call35 (c35 a _) ?_;refine Sf ?_;refine Bm Tryz.call35 (fun hB=>c35 b _) ?_;refine Z93 ?_;refine A2 [2,3,12] ?_
 refine A3 (fun ht12=>?_) (fun ht12=>?_)
 ·have hm:Ss a b=0:=if_pos ht12
  exact rh
 have hm:Ss a b=orI [Lu a.kind b.kind,Lu a.n b.n,Lib.compareBytes a.s b.s]:=if_neg (by rw [ht12];simp)
 refine Z4 ?_;refine Cb [0,1,0,4,15,0,32,0,128,511,0,1024,0,4096,16383,32767,65535,131071] 14 Ai (by kernel_rfl) ?_;refine Tq ?_;refine De Tryz.call240 (AU7 _ _ _) ?_;refine Tq ?_;refine De Tryz.call241 (AU8 _ _ _) ?_;refine Z12 ?_;refine Z88 ?_;refine A9 Tryz.call242 (AU3 _ _ _) ?_;refine Ra ?_;refine A9 Tryz.call239 (AU9 [Lu a.kind b.kind,Lu a.n b.n,Lib.compareBytes a.s b.s] (by simp) _) ?_;refine A4 ?_;exact yo

/-! A wide number: a sign and five digits to the base of 2^32. -/
abbrev wF (s:Bool) (f:Nat→Nat):List AV:=[B4 s,Bo (f 0:Nat),Bo (f 1:Nat),Bo (f 2:Nat),Bo (f 3:Nat),Bo (f 4:Nat)]
abbrev pF (f:Nat→Nat):List AV:=[Bo (f 0:Nat),Bo (f 1:Nat),Bo (f 2:Nat),Bo (f 3:Nat),Bo (f 4:Nat)]
theorem U9 {f:Nat→Nat} {k:Nat} (h:k<5):(pF f).drop (k*1)=Bo (f k:Nat)::(pF f).drop (k+1):=by
 rcases k with _|_|_|_|_|k
 all_goals first|rfl|omega
theorem Wq {s:Bool} {f:Nat→Nat} {k:Nat} (h:k<5):(wF s f)[1+k*1]? = some (Bo (f k:Nat)):=by
 rcases k with _|_|_|_|_|k
 all_goals first|rfl|omega
def Wr (m k i:Nat):Nat:=if i<k then dig m i else 0
theorem jq {s:Bool} {f g:Nat→Nat} {k v:Nat} (h:k<5) (hg:g k=v) (he:∀i,i≠k→g i=f i):Cd (wF s f) (1+k*1) [Bo (v:Nat)]=wF s g:=by
 subst hg
 rcases k with _|_|_|_|_|k
 ·rw [wF,wF,he 1 (by decide),he 2 (by decide),he 3 (by decide),he 4 (by decide)];rfl
 ·rw [wF,wF,he 0 (by decide),he 2 (by decide),he 3 (by decide),he 4 (by decide)];rfl
 ·rw [wF,wF,he 0 (by decide),he 1 (by decide),he 3 (by decide),he 4 (by decide)];rfl
 ·rw [wF,wF,he 0 (by decide),he 1 (by decide),he 2 (by decide),he 4 (by decide)];rfl
 ·rw [wF,wF,he 0 (by decide),he 1 (by decide),he 2 (by decide),he 3 (by decide)];rfl
 omega
theorem Vt {s:Bool} {m k:Nat} (h:k<5):Cd (wF s (Wr m k)) (1+k*1) [Bo (dig m k:Nat)]=wF s (Wr m (k+1)):=by
 refine jq h (by unfold Wr;rw [if_pos (by omega)]) fun i hi=>?_
 unfold Wr
 by_cases h1:i<k
 ·rw [if_pos h1,if_pos (by omega)]
 rw [if_neg h1,if_neg (by omega)]
theorem Vu (m:Nat) (s:Bool):wF s (Wr m 5)=wF s (dig m):=rfl
theorem AAg {x y z:Nat} (h:x+y+z<18446744073709551616):IntKind.u64.wrap (IntKind.u64.wrap ((x:Int)+(y:Int))+(z:Int))=((x+y+z:Nat):Int):=by
 simp only [IntKind.wrap_u64];omega
theorem Xh (x:Nat):(x:Int).tmod 4294967296=((x % 4294967296:Nat):Int):=by
 rw [Y7 (by omega)];omega
theorem Xi {x:Nat} (h:x<18446744073709551616):IntKind.u64.wrap ((x:Int).tdiv 4294967296)=((x / 4294967296:Nat):Int):=by
 rw [Y6 (by omega),IntKind.wrap_u64];omega
theorem Fy {m i:Nat} (h:m<B32 ^ i):dig m i=0:=by unfold dig;rw [Qo h];rfl
theorem wo (m:Nat):dig m 0=m % 4294967296:=by unfold dig;simp
theorem AFo (m:Nat):dig m 1=m / 4294967296 % 4294967296:=by unfold dig;simp [B32]
/-- A number's AJm. -/
abbrev ax (a:Int):List AV:=[B4 (decide (a<0)),Bo ((Ld a).tmod 4294967296),Bo (IntKind.u64.wrap ((Ld a).tdiv 4294967296)),Bo 0,Bo 0,Bo 0]
theorem AJ0 {a:Int} (h0 : -9223372036854775808≤a) (h1:a≤9223372036854775807):ax a=wF (decide (a<0)) (dig a.natAbs):=by
 have hs:=R2 h0 h1
 have hb:a.natAbs<18446744073709551616:=by omega
 unfold ax wF
 rw [hs,Xh,Xi hb,wo,AFo,Qq (show a.natAbs / 4294967296<4294967296 by omega)]
 have e2:dig a.natAbs 2=0:=Fy (Cp hb (by decide))
 have e3:dig a.natAbs 3=0:=Fy (Cp hb (by decide))
 have e4:dig a.natAbs 4=0:=Fy (Cp hb (by decide))
 rw [e2,e3,e4]
 rfl
theorem c56 (a:Int) (Hp:List AObj):AFun Tryz.prog 56 [A5 a] Hp (.agg (ax a)):=by
 refine Ah [.cell 2 91] [0] Tryz.func56 Tryz.ntmps56 (fun d=>?_)
 refine Z67 ?_;refine Z1 ?_;refine Z79 ?_;refine A2 [0,2,3] ?_;refine Z19 ?_;refine A2 [0,2,3,4] ?_;refine Z8 ?_;refine A2 [2,3,4,11] ?_
 refine A3 (fun ht11=>?_) (fun ht11=>?_)
 ·have hm:Ld a=IntKind.u64.wrap (0-IntKind.u64.wrap a):=if_pos ht11
  refine Z52 ?_
  refine A4 (h:=L2) (hr:=?_)
  refine A4 ?_;refine Yv ?_;refine Es ?_;refine Z19 ?_;refine AHr ?_;refine Gc ?_;refine Yv ?_;refine Z19 ?_;refine ADr ?_;refine r9 ?_;refine Z2 ?_;exact AOm
 have hm:Ld a=IntKind.u64.wrap a:=if_neg (by rw [ht11];simp)
 refine No ?_;refine AHr ?_;refine Gc ?_;refine Yv ?_;refine Z19 ?_;refine ADr ?_;refine r9 ?_;refine Z2 ?_;exact AOm

theorem AAh (a:Int) (h0 : -9223372036854775808≤a) (h1:a≤9223372036854775807) (Hp:List AObj):AFun Tryz.prog 56 [A5 a] Hp (.agg (wF (decide (a<0)) (dig a.natAbs))):=by
 rw [←AJ0 h0 h1]
 exact c56 a Hp
theorem c55 (s:Bool) (f:Nat→Nat) (Hp:List AObj):AFun Tryz.prog 55 [.agg (wF s f)] Hp (.agg (wF (!s) f)):=by
 refine Ah [.cell 2 91] [0] Tryz.func55 Tryz.ntmps55 (fun d=>?_)
 refine ri ?_;refine Mj ?_;refine A2 [1,2] ?_;refine Z25 ?_;refine Gc ?_;refine A2 [1,2] ?_;refine Z2 ?_;exact AD3

theorem AUb (a b:Nat) (ha:a<B32 ^ 5) (hb:b<B32 ^ 5) (Hp:List AObj):AFun Tryz.prog 108 [.agg (pF (dig a)),.agg (pF (dig b))] Hp (B4 (decide (a<b))):=by
 refine Ah [.tmp 4] [0,1] Tryz.func108 Tryz.ntmps108 (fun d=>?_)
 refine yw ?_;refine Z29 ?_;refine A2 [2,3,5] ?_
 refine Az (α:=Nat) (fun k=>⟨24,A6 2 (.ro (pF (dig a))) (A6 3 (.ro (pF (dig b))) (A6 5 (A5 ((k:Nat)-1)) (fun _=>.any))),Hp,[],[],none⟩) (fun k=>k≤5∧a / B32 ^ k=b / B32 ^ k) (fun k=>k) (5) ⟨Aj _,by rw [Qo ha,Qo hb]⟩ (B2 rfl) rfl (fun k hx=>?_)
 refine Z8 ?_;refine A2 [2,3,5,7] ?_
 refine A3 (fun ht7=>?_) (fun ht7=>?_)
 ·have hk0:1≤k:=by simp only [decide_eq_true_eq] at ht7;omega
  have hq:a / B32 ^ (k-1+1)=b / B32 ^ (k-1+1):=by rw [Nat.sub_add_cancel hk0];exact hx.2
  refine Z42 ?_;refine Cb [0,1,3,0,8,24,63] 6 Ai (by kernel_rfl) ?_;refine AOz ?_;refine Z12 ?_;refine AP0 ?_;refine A4 ?_;refine A2 [2,3,5,16] ?_
  refine A3 (fun ht16=>?_) (fun ht16=>?_)
  ·have hl:=AIz hq (fun e=>by rw [e] at ht16;simp at ht16)
   refine Cb [0,1,3,0,8,24,63,127] 6 Ai (by kernel_rfl) ?_;refine AOz ?_;refine Z12 ?_;refine AP0 ?_;refine Z0 ?_;refine A2 [4] ?_;refine Tp ?_;exact A8 (Ae A7) ⟨by rw [hl];simp,rfl⟩
  have hn:=AAe hq (by have:((dig a (k-1):Nat):Int)=((dig b (k-1):Nat):Int):=(by simpa using ht16);omega)
  refine Z71 ?_;refine A2 [2,3,5] ?_
  rw [show ((k:Int)-1-1)=(((k-1:Nat):Int)-1) by omega]
  exact Ay (k-1) ⟨by omega,hn⟩ (by omega) (Bh rfl)
 have hk0:k=0:=by simp only [decide_eq_false_iff_not] at ht7;omega
 have hab:a=b:=by have:=hx.2;rw [hk0] at this;simpa using this
 refine Xc ?_;refine Z39 ?_;exact A8 (Ae A7) ⟨by rw [hab];simp,rfl⟩

theorem ARp {x y z:Nat} (hx:x<4294967296) (hy:y<4294967296) (hz:z≤1):IntKind.u64.wrap (IntKind.u64.wrap (IntKind.u64.wrap (4294967296+(x:Int))-(y:Int))-(z:Int))=((4294967296+x-y-z:Nat):Int):=by
 simp only [IntKind.wrap_u64];omega
theorem AKz {q:Nat} (h:q≤1):IntKind.u64.wrap (1-(q:Int))=((1-q:Nat):Int):=by
 simp only [IntKind.wrap_u64];omega
section
variable (sa:Bool) (a:Nat) (sb:Bool) (b:Nat)
/-- The greater one, and the other. -/
def hiW:Bool×Nat:=if decide (a<b)=true then (sb,b) else (sa,a)
def loW:Bool×Nat:=if decide (a<b)=true then (sa,a) else (sb,b)
def Ua:Bool×Nat:=if (sa==sb)=true then (sa,a+b) else ((hiW sa a sb b).1,(hiW sa a sb b).2-(loW sa a sb b).2)
end
theorem AL0 {sa:Bool} {a:Nat} {sb:Bool} {b:Nat}:(loW sa a sb b).2≤(hiW sa a sb b).2:=by
 unfold loW hiW
 split
 ·rename_i h;have:=of_decide_eq_true h;simp only;omega
 rename_i h;simp only [decide_eq_true_eq] at h;simp only;omega
theorem c84 (sa:Bool) (a:Nat) (sb:Bool) (b:Nat) (ha:a<B32 ^ 5) (hb:b<B32 ^ 5) (Hp:List AObj):AFun Tryz.prog 84 [.agg (wF sa (dig a)),.agg (wF sb (dig b))] Hp (.agg (wF (Ua sa a sb b).1 (dig (Ua sa a sb b).2))):=by
 refine Ah [.cell 4 91] [0,1] Tryz.func84 Tryz.ntmps84 (fun d=>?_)
 refine ri ?_;refine R.box ?_;refine Mj ?_;refine Yv ?_;refine Z1 ?_;refine Z79 ?_;refine cp ?_;refine Oi ?_;refine A2 [2,3,4,5,19] ?_
 refine A3 (fun ht19=>?_) (fun ht19=>?_)
 ·have had:Ua sa a sb b=(sa,a+b):=if_pos ht19
  refine Z2 ?_;refine A2 [2,3,4,5,6] ?_;refine Z29 ?_;refine A2 [2,3,4,5,6,7] ?_
  refine Az (α:=Nat) (fun k=>⟨78,A6 2 (.ptr (oid Hp.length 0) 0) (A6 3 (.ptr (oid Hp.length 1) 0) (A6 4 (.ptr (oid Hp.length 2) 0) (A6 5 (.ptr (oid Hp.length 3) 0) (A6 6 (Bo (car a b k:Nat)) (A6 7 (A5 (k:Nat)) (fun _=>.any)))))),Hp,[.cells 91 (wF sa (dig a)),.cells 91 (wF sb (dig b)),.cells 91 [B4 false,Bo 0,Bo 0,Bo 0,Bo 0,Bo 0],.cells 91 (wF sa (Wr (a+b) k))],[],none⟩) (fun k=>k≤5) (fun k=>5-k) (0) (Ap _) (B2 (by rw [AFh];rfl)) rfl (fun k hx=>?_)
  refine Z8 ?_;refine A2 [2,3,4,5,6,7,21] ?_
  refine A3 (fun ht21=>?_) (fun ht21=>?_)
  ·have hk:k<5:=by simp at ht21;omega
   refine Z42 ?_;refine Cb [0,0,3,7,0,0,48,112,255,0,1023,2047] 10 Ai (by kernel_rfl) ?_;refine AD2 ?_
   refine Ak (h:=Pp (hy:=Wq hk)) (hr:=?_)
   refine AD2 ?_
   refine Ak (h:=Pp (hy:=Wq hk)) (hr:=?_)
   refine Ak (h:=Gb) (hr:=?_)
   refine Sc ?_
   refine A4 (h:=Gb) (hr:=?_)
   refine A4 ?_;refine A2 [2,3,4,5,7,8] ?_;refine Ec ?_
   rw [AAg (by have:=C2 a k;have:=C2 b k;have:=AFi a b k;omega)]
   refine Z10 ?_
   rw [Xh,AIx]
   refine AM5 ?_
   refine Nf jS (hput:=Vt hk) (hfit:=by simp;omega) ?_
   refine A2 [2,3,4,5,7,8] ?_;refine Z31 ?_
   rw [Xi (by have:=C2 a k;have:=C2 b k;have:=AFi a b k;omega),AFk]
   refine A4 ?_;refine A2 [2,3,4,5,6,7] ?_;refine Z83 ?_;refine A2 [2,3,4,5,6,7] ?_;exact Ay (k+1) hk (by omega) (Bh rfl)
  have hke:k=5:=by simp at ht21;omega
  refine z3 ?_
  rw [hke,Vu]
  refine AHo ?_;refine A2 [4] ?_;refine Z13 ?_;exact AQh
 have had:Ua sa a sb b=((hiW sa a sb b).1,(hiW sa a sb b).2-(loW sa a sb b).2):=if_neg (by rw [ht19];simp)
 refine ma ?_;refine A9 Tryz.call108 (AUb a b ha hb _) ?_;refine A2 [2,3,4,5,47] ?_
 refine A3 (fun ht47=>?_) (fun ht47=>?_)
 ·have hhi:(hiW sa a sb b)=(sb,b):=if_pos ht47
  have hlo:(loW sa a sb b)=(sa,a):=if_pos ht47
  refine Z1 ?_;refine Gc ?_;refine Gc ?_;refine cp ?_;refine Z23 ?_;refine Gc ?_;refine cp ?_;refine Es ?_;refine Z2 ?_;refine A2 [2,3,4,5,9] ?_;refine Z29 ?_;refine ADs ?_
  refine Az (α:=Nat) (fun k=>⟨78,A6 2 (.ptr (oid Hp.length 0) 0) (A6 3 (.ptr (oid Hp.length 1) 0) (A6 4 (.ptr (oid Hp.length 2) 0) (A6 5 (.ptr (oid Hp.length 3) 0) (A6 9 (Bo (bor (hiW sa a sb b).2 (loW sa a sb b).2 k:Nat)) (A6 10 (A5 (k:Nat)) (fun _=>.any)))))),Hp,[.cells 91 (wF (hiW sa a sb b).1 (dig (hiW sa a sb b).2)),.cells 91 (wF (loW sa a sb b).1 (dig (loW sa a sb b).2)),.cells 91 [B4 false,Bo 0,Bo 0,Bo 0,Bo 0,Bo 0],.cells 91 (wF (hiW sa a sb b).1 (Wr ((hiW sa a sb b).2-(loW sa a sb b).2) k))],[],none⟩) (fun k=>k≤5) (fun k=>5-k) (0) (Ap _) (B2 (by rw [nu,hhi,hlo];rfl)) rfl (fun k hx=>?_)
  refine Z8 ?_;refine A2 [2,3,4,5,9,10,54] ?_
  refine A3 (fun ht54=>?_) (fun ht54=>?_)
  ·have hk:k<5:=by simp at ht54;omega
   refine Z42 ?_;refine AP5 ?_
   refine Ak (h:=Pp (hy:=Wq hk)) (hr:=?_)
   refine Ak (h:=Gb) (hr:=?_)
   refine AD2 ?_
   refine Ak (h:=Pp (hy:=Wq hk)) (hr:=?_)
   refine Ak (h:=L2) (hr:=?_)
   refine Sc ?_
   refine A4 (h:=L2) (hr:=?_)
   refine A4 ?_;refine A2 [2,3,4,5,10,11] ?_;refine Ec ?_
   rw [ARp (C2 _ k) (C2 _ k) (ud _ _ k)]
   refine Z10 ?_
   rw [Xh,wm AL0]
   refine AM5 ?_
   refine Nf jS (hput:=Vt hk) (hfit:=by simp;omega) ?_
   refine A2 [2,3,4,5,10,11] ?_;refine Z31 ?_
   rw [Xi (by have:=C2 (hiW sa a sb b).2 k;omega)]
   refine A4 (h:=L2) (hr:=?_)
   rw [AKz (by have:=C2 (hiW sa a sb b).2 k;omega),nv]
   refine A4 ?_;refine ADs ?_;refine Z83 ?_;exact AOt
  have hke:k=5:=by simp at ht54;omega
  refine z3 ?_
  rw [hke,Vu]
  refine AHo ?_;exact APh
 have hhi:(hiW sa a sb b)=(sa,a):=if_neg (by rw [ht47];simp)
 have hlo:(loW sa a sb b)=(sb,b):=if_neg (by rw [ht47];simp)
 refine Z92 ?_;refine A2 [2,3,4,5,9] ?_;refine Z29 ?_;refine ADs ?_
 refine Az (α:=Nat) (fun k=>⟨78,A6 2 (.ptr (oid Hp.length 0) 0) (A6 3 (.ptr (oid Hp.length 1) 0) (A6 4 (.ptr (oid Hp.length 2) 0) (A6 5 (.ptr (oid Hp.length 3) 0) (A6 9 (Bo (bor (hiW sa a sb b).2 (loW sa a sb b).2 k:Nat)) (A6 10 (A5 (k:Nat)) (fun _=>.any)))))),Hp,[.cells 91 (wF (hiW sa a sb b).1 (dig (hiW sa a sb b).2)),.cells 91 (wF (loW sa a sb b).1 (dig (loW sa a sb b).2)),.cells 91 [B4 false,Bo 0,Bo 0,Bo 0,Bo 0,Bo 0],.cells 91 (wF (hiW sa a sb b).1 (Wr ((hiW sa a sb b).2-(loW sa a sb b).2) k))],[],none⟩) (fun k=>k≤5) (fun k=>5-k) (0) (Ap _) (B2 (by rw [nu,hhi,hlo];rfl)) rfl (fun k hx=>?_)
 refine Z8 ?_;refine A2 [2,3,4,5,9,10,54] ?_
 refine A3 (fun ht54=>?_) (fun ht54=>?_)
 ·have hk:k<5:=by simp at ht54;omega
  refine Z42 ?_;refine AP5 ?_
  refine Ak (h:=Pp (hy:=Wq hk)) (hr:=?_)
  refine Ak (h:=Gb) (hr:=?_)
  refine AD2 ?_
  refine Ak (h:=Pp (hy:=Wq hk)) (hr:=?_)
  refine Ak (h:=L2) (hr:=?_)
  refine Sc ?_
  refine A4 (h:=L2) (hr:=?_)
  refine A4 ?_;refine A2 [2,3,4,5,10,11] ?_;refine Ec ?_
  rw [ARp (C2 _ k) (C2 _ k) (ud _ _ k)]
  refine Z10 ?_
  rw [Xh,wm AL0]
  refine AM5 ?_
  refine Nf jS (hput:=Vt hk) (hfit:=by simp;omega) ?_
  refine A2 [2,3,4,5,10,11] ?_;refine Z31 ?_
  rw [Xi (by have:=C2 (hiW sa a sb b).2 k;omega)]
  refine A4 (h:=L2) (hr:=?_)
  rw [AKz (by have:=C2 (hiW sa a sb b).2 k;omega),nv]
  refine A4 ?_;refine ADs ?_;refine Z83 ?_;exact AOt
 have hke:k=5:=by simp at ht54;omega
 refine z3 ?_
 rw [hke,Vu]
 refine AHo ?_;exact APh

set_option maxRecDepth 8000
/-! Multiplied digit by digit. -/
def ue (F:Nat→Nat):Nat:=F 0+4294967296*(F 1+4294967296*(F 2+4294967296*(F 3+4294967296*F 4)))
def AAi (F:Nat→Nat) (p v j:Nat):Nat:=if j=p then v else F j
theorem Ii (x y j:Nat) (hx:x<4294967296):dig (x+4294967296*y) (j+1)=dig y j:=by
 unfold dig
 rw [Nat.pow_succ,Ln (B32 ^ j),←i3,show (x+4294967296*y) / B32=y by show (x+4294967296*y) / 4294967296=y;omega]
theorem Q7 (x y:Nat) (hx:x<4294967296):dig (x+4294967296*y) 0=x:=by
 unfold dig
 simp only [Nat.pow_zero,Nat.div_one]
 show (x+4294967296*y) % 4294967296=x
 omega
theorem wp {F:Nat→Nat} (h:∀j,F j<4294967296):∀j,j<5→dig (ue F) j=F j:=by
 intro j hj
 unfold ue
 rcases j with _|_|_|_|_|j
 ·exact Q7 _ _ (h 0)
 ·rw [Ii _ _ _ (h 0)];exact Q7 _ _ (h 1)
 ·rw [Ii _ _ _ (h 0),Ii _ _ _ (h 1)];exact Q7 _ _ (h 2)
 ·rw [Ii _ _ _ (h 0),Ii _ _ _ (h 1),Ii _ _ _ (h 2)];exact Q7 _ _ (h 3)
 ·rw [Ii _ _ _ (h 0),Ii _ _ _ (h 1),Ii _ _ _ (h 2),Ii _ _ _ (h 3)]
  have:=Q7 (F 4) 0 (h 4)
  simpa using this
 omega
theorem AJ1 (F:Nat→Nat) (x c p:Nat) (hp:p<5):ue (AAi F p ((F p+x % 4294967296+c % 4294967296) % 4294967296))+((F p+x % 4294967296+c % 4294967296) / 4294967296+x / 4294967296+c / 4294967296)*B32 ^ (p+1)=ue F+(x+c)*B32 ^ p:=by
 unfold ue AAi B32
 rcases p with _|_|_|_|_|p
 ·simp only [Nat.reduceEqDiff,if_true,if_false,Nat.reducePow,Nat.reduceAdd,Bl];simp;omega
 ·simp only [Nat.reduceEqDiff,if_true,if_false,Nat.reducePow,Nat.reduceAdd,Bl];simp;omega
 ·simp only [Nat.reduceEqDiff,if_true,if_false,Nat.reducePow,Nat.reduceAdd,Bl];simp;omega
 ·simp only [Nat.reduceEqDiff,if_true,if_false,Nat.reducePow,Nat.reduceAdd,Bl];simp;omega
 ·simp only [Nat.reduceEqDiff,if_true,if_false,Nat.reducePow,Nat.reduceAdd,Bl];simp;omega
 omega
def ay (a b i k:Nat):Nat:=(a % B32 ^ i)*b+dig a i*(b % B32 ^ k)*B32 ^ i
structure MulAt (F:Nat→Nat) (c a b i k:Nat):Prop where
 dg:∀j,F j<4294967296
 c2:c<8589934592
 eq:ue F+c*B32 ^ (i+k)=ay a b i k
theorem AAj (a b i k:Nat):ay a b i (k+1)=ay a b i k+dig a i*dig b k*B32 ^ (i+k):=by
 unfold ay
 rw [Mo b k,Lm,Eg,Nat.pow_add]
 have:dig a i*(B32 ^ k*dig b k)*B32 ^ i=dig a i*dig b k*(B32 ^ i*B32 ^ k):=by simp only [Ln,Nat.mul_left_comm,Nat.mul_assoc]
 omega
theorem AJ2 (a b i k:Nat):ay a b i k≤a*b:=by
 have h1:ay a b i k≤(a % B32 ^ (i+1))*b:=by
  unfold ay
  rw [Mo a i,Eg]
  have:dig a i*(b % B32 ^ k)*B32 ^ i≤B32 ^ i*dig a i*b:=by
   rw [Nat.mul_right_comm,Ln (dig a i)]
   exact i7 _ (Tg _ _)
  omega
 exact Ir h1 (Ki _ (Tg _ _))
theorem MulAt.start (a b:Nat):MulAt (fun _=>0) 0 a b 0 0:=⟨fun _=>by decide,by decide,by unfold ay;simp [ue,Qr]⟩
theorem It {x y:Nat} (hx:x<4294967296) (hy:y<4294967296):x*y / 4294967296≤4294967294∧x*y<18446744073709551616:=by
 have:x*y≤4294967295*4294967295:=Nat.mul_le_mul (by omega) (by omega)
 omega
theorem MulAt.step {F:Nat→Nat} {c a b i k:Nat} (h:MulAt F c a b i k) (hp:i+k<5):MulAt (AAi F (i+k) ((F (i+k)+dig a i*dig b k % 4294967296+c % 4294967296) % 4294967296)) ((F (i+k)+dig a i*dig b k % 4294967296+c % 4294967296) / 4294967296+dig a i*dig b k / 4294967296+c / 4294967296) a b i (k+1):=by
 have hx:=It (C2 a i) (C2 b k)
 have hf:=h.dg (i+k)
 have hc:=h.c2
 refine ⟨fun j=>?_,by omega,?_⟩
 ·unfold AAi
  split
  ·exact Is _ (by decide)
  exact h.dg j
 have:=AJ1 F (dig a i*dig b k) c (i+k) hp
 rw [AAj,←h.eq]
 rw [show i+(k+1)=i+k+1 by omega,this,Eg]
 omega
theorem MulAt.idx {F:Nat→Nat} {c a b i k:Nat} (h:MulAt F c a b i k) (ha:a<B32 ^ 2) (hb:b<B32 ^ 2) (hi:i<2) (hc:k<2∨0<c):i+k<4:=by
 rcases Be (i+k) 4 with h1|h1
 ·exact h1
 exfalso
 have hk:0<c:=by omega
 have h2:B32 ^ 4≤B32 ^ (i+k):=Xr (by decide) h1
 have h3:B32 ^ (i+k)≤c*B32 ^ (i+k):=Td _ hk
 have h4:=AJ2 a b i k
 have h5:a*b<B32 ^ 2*B32 ^ 2:=Nat.mul_lt_mul'' ha hb
 rw [←Nat.pow_add] at h5
 have h6:=h.eq
 have:B32 ^ (2+2)=B32 ^ 4:=rfl
 omega
theorem MulAt.next {F:Nat→Nat} {a b i k:Nat} (h:MulAt F 0 a b i k) (hb:b<B32 ^ 2) (hk:2≤k):MulAt F 0 a b (i+1) 0:=by
 refine ⟨h.dg,by decide,?_⟩
 have h1:=h.eq
 rw [Th] at h1 ⊢
 rw [h1]
 unfold ay
 have h2:b % B32 ^ k=b:=Qq (Cp hb (Xr (by decide) hk))
 rw [h2,Mo a i,Nat.pow_zero,Qr,Nat.mul_zero,Th,Nat.add_zero,Eg]
 have:dig a i*b*B32 ^ i=B32 ^ i*dig a i*b:=by rw [Nat.mul_right_comm,Ln (dig a i)]
 omega
theorem MulAt.done {F:Nat→Nat} {a b:Nat} (h:MulAt F 0 a b 2 0) (ha:a<B32 ^ 2):∀j,j<5→F j=dig (a*b) j:=by
 intro j hj
 have h1:=h.eq
 have h2:ay a b 2 0=a*b:=by
  unfold ay
  rw [Qq ha,Nat.pow_zero,Qr]
  simp
 rw [h2,Th,Nat.add_zero] at h1
 rw [←h1]
 exact (wp h.dg j hj).symm
set_option maxRecDepth 4000
theorem ARq {x y:Nat} (hx:x<4294967296) (hy:y<4294967296):IntKind.u64.wrap ((x:Int)*(y:Int))=((x*y:Nat):Int):=by
 have:=It hx hy
 rw [IntKind.wrap_u64,show (x:Int)*(y:Int)=((x*y:Nat):Int) by simp]
 omega
theorem AL1 {x:Nat} (h:x=0):(0:Int).tmod 4294967296=((x % 4294967296:Nat):Int):=by subst h;rfl
theorem AL2 {x:Nat} (h:x=0):IntKind.u64.wrap ((0:Int).tdiv 4294967296)=((x / 4294967296:Nat):Int):=by subst h;rfl
theorem AAk {b k:Nat} (hb:b<B32 ^ 2) (hk:2≤k):dig b k=0:=Fy (Cp hb (Xr (by decide) hk))
theorem c85 (sa:Bool) (a:Nat) (sb:Bool) (b:Nat) (ha:a<B32 ^ 2) (hb:b<B32 ^ 2) (Hp:List AObj):AFun Tryz.prog 85 [.agg (wF sa (dig a)),.agg (wF sb (dig b))] Hp (.agg (wF (sa != sb) (dig (a*b)))):=by
 refine Ah [.cell 4 91] [0,1] Tryz.func85 Tryz.ntmps85 (fun d=>?_)
 refine Z1 ?_;refine Mj ?_;refine Yv ?_;refine Z1 ?_;refine Z10 ?_;refine Z79 ?_;refine cp ?_;refine Z29 ?_;refine A2 [2,3,4,5,6] ?_
 refine Az (α:=Nat×(Nat→Nat)) (fun x=>⟨68,A6 2 (.ro (wF sa (dig a))) (A6 3 (.ro (wF sb (dig b))) (A6 4 (.ptr (oid Hp.length 0) 0) (A6 5 (.ptr (oid Hp.length 1) 0) (A6 6 (A5 (x.1:Nat)) (fun _=>.any))))),Hp,[.cells 91 [B4 false,Bo 0,Bo 0,Bo 0,Bo 0,Bo 0],.cells 91 (wF (sa != sb) (x.2))],[],none⟩) (fun x=>x.1≤2∧MulAt x.2 0 a b x.1 0) (fun x=>2-x.1) ((0,fun _=>0)) ⟨Ap _,.start a b⟩ (B2 rfl) rfl (fun x hx=>?_)
 obtain ⟨i,F0⟩:=x
 simp only at hx ⊢
 refine Z8 ?_;refine A2 [2,3,4,5,6,18] ?_
 refine A3 (fun ht18=>?_) (fun ht18=>?_)
 ·have hi:i<2:=by simp at ht18;omega
  refine rq ?_;refine A2 [2,3,4,5,6,7] ?_;refine Z2 ?_;refine ADt ?_
  refine Az (α:=Nat×Nat×(Nat→Nat)) (fun y=>⟨68,A6 2 (.ro (wF sa (dig a))) (A6 3 (.ro (wF sb (dig b))) (A6 4 (.ptr (oid Hp.length 0) 0) (A6 5 (.ptr (oid Hp.length 1) 0) (A6 6 (A5 (i:Nat)) (A6 7 (Bo (y.2.1:Nat)) (A6 8 (A5 (y.1:Nat)) (fun _=>.any))))))),Hp,[.cells 91 [B4 false,Bo 0,Bo 0,Bo 0,Bo 0,Bo 0],.cells 91 (wF (sa != sb) (y.2.2))],[],none⟩) (fun y=>MulAt y.2.2 y.2.1 a b i y.1) (fun y=>5-(i+y.1)) ((0,0,F0)) hx.2 (B2 rfl) rfl (fun y hm=>?_)
  obtain ⟨k,c,F⟩:=y
  simp only at hm ⊢
  refine Z33 ?_;refine Z97 ?_;refine A2 [2,3,4,5,6,7,8,26] ?_
  refine A3 (fun ht26=>?_) (fun ht26=>?_)
  ·have hp4:=hm.idx ha hb hi (by have h26:=ht26;simp at h26;omega)
   refine rq ?_;refine A2 [2,3,4,5,6,7,8,9] ?_;refine Z8 ?_;refine A2 [2,3,4,5,6,7,8,9,30] ?_
   refine A3 (fun ht30=>?_) (fun ht30=>?_)
   ·have hk2:k<2:=by simp at ht30;omega
    refine W.drawQ0 [0,0,3,7,0,0,48,112,255,511] 8 Ai (by kernel_rfl) ?_;refine Z12 ?_;refine r6 (i) jU Tryz.sizeOf88 (by omega) (hoff:=U9 (by omega)) ?_;refine Z40 ?_;refine r6 (k) jU Tryz.sizeOf88 (by omega) (hoff:=U9 (by omega)) ?_;refine Sc ?_;refine Z0 ?_;refine A2 [2,3,4,5,6,7,8,9] ?_;refine Es ?_;refine Ec ?_
    first|rw [ARq (C2 a i) (C2 b k)]|skip
    refine AQ1 ?_
    refine A4 (h:=Pp (hy:=Wq (by omega))) (hr:=?_)
    refine Z0 ?_
    first|rw [Xh (dig a i*dig b k)]|rw [AL1 hz]
    refine A4 (h:=Gb) (hr:=?_)
    refine Z0 ?_
    rw [Xh c]
    refine A4 (h:=Gb) (hr:=?_)
    refine A4 ?_;refine AHs ?_;refine Ec ?_
    rw [AAg (by have:=It (C2 a i) (C2 b k);have:=hm.dg (i+k);have:=hm.c2;omega)]
    refine Z63 ?_
    rw [Xh (F (i+k)+dig a i*dig b k % 4294967296+c % 4294967296)]
    refine APy ?_
    refine Nf jS (hput:=jq (g:=AAi F (i+k) ((F (i+k)+dig a i*dig b k % 4294967296+c % 4294967296) % 4294967296)) (by omega) (if_pos rfl) (fun j hj=>if_neg hj)) (hfit:=by simp;omega) ?_
    refine AHs ?_;refine Z31 ?_
    rw [Xi (x:=(F (i+k)+dig a i*dig b k % 4294967296+c % 4294967296)) (by have:=It (C2 a i) (C2 b k);have:=hm.dg (i+k);have:=hm.c2;omega)]
    refine Z0 ?_
    first|rw [Xi (x:=dig a i*dig b k) (It (C2 a i) (C2 b k)).2]|rw [AL2 hz]
    refine A4 (h:=Gb) (hr:=?_)
    refine Z0 ?_
    rw [Xi (x:=c) (by have:=It (C2 a i) (C2 b k);have:=hm.dg (i+k);have:=hm.c2;omega)]
    refine A4 (h:=Gb) (hr:=?_)
    rw [AAg (by have:=It (C2 a i) (C2 b k);have:=hm.dg (i+k);have:=hm.c2;omega)]
    refine A4 ?_;refine ADt ?_;refine Z83 ?_;refine ADt ?_
    refine Ay (k+1,_,_) (hm.step (by omega)) (by show 5-(i+(k+1))<5-(i+k);omega) (Bh rfl)
   have hk2:2≤k:=by simp at ht30;omega
   have hz:dig a i*dig b k=0:=by rw [AAk hb hk2,Nat.mul_zero]
   refine rk ?_
   first|rw [ARq (C2 a i) (C2 b k)]|skip
   refine AQ1 ?_
   refine A4 (h:=Pp (hy:=Wq (by omega))) (hr:=?_)
   refine Z0 ?_
   first|rw [Xh (dig a i*dig b k)]|rw [AL1 hz]
   refine A4 (h:=Gb) (hr:=?_)
   refine Z0 ?_
   rw [Xh c]
   refine A4 (h:=Gb) (hr:=?_)
   refine A4 ?_;refine AHs ?_;refine Ec ?_
   rw [AAg (by have:=It (C2 a i) (C2 b k);have:=hm.dg (i+k);have:=hm.c2;omega)]
   refine Z63 ?_
   rw [Xh (F (i+k)+dig a i*dig b k % 4294967296+c % 4294967296)]
   refine APy ?_
   refine Nf jS (hput:=jq (g:=AAi F (i+k) ((F (i+k)+dig a i*dig b k % 4294967296+c % 4294967296) % 4294967296)) (by omega) (if_pos rfl) (fun j hj=>if_neg hj)) (hfit:=by simp;omega) ?_
   refine AHs ?_;refine Z31 ?_
   rw [Xi (x:=(F (i+k)+dig a i*dig b k % 4294967296+c % 4294967296)) (by have:=It (C2 a i) (C2 b k);have:=hm.dg (i+k);have:=hm.c2;omega)]
   refine Z0 ?_
   first|rw [Xi (x:=dig a i*dig b k) (It (C2 a i) (C2 b k)).2]|rw [AL2 hz]
   refine A4 (h:=Gb) (hr:=?_)
   refine Z0 ?_
   rw [Xi (x:=c) (by have:=It (C2 a i) (C2 b k);have:=hm.dg (i+k);have:=hm.c2;omega)]
   refine A4 (h:=Gb) (hr:=?_)
   rw [AAg (by have:=It (C2 a i) (C2 b k);have:=hm.dg (i+k);have:=hm.c2;omega)]
   refine A4 ?_;refine ADt ?_;refine Z83 ?_;refine ADt ?_
   refine Ay (k+1,_,_) (hm.step (by omega)) (by show 5-(i+(k+1))<5-(i+k);omega) (Bh rfl)
  have hkc:2≤k∧c=0:=by simp at ht26;omega
  obtain ⟨hk2,hc0⟩:=hkc
  subst hc0
  refine rm ?_;refine Z83 ?_;refine A2 [2,3,4,5,6] ?_
  refine Ay (i+1,F) ⟨hi,hm.next hb hk2⟩ (by show 2-(i+1)<2-i;omega) (Bh rfl)
 have hie:i=2:=by have:=hx.1;simp at ht18;omega
 have hF:=MulAt.done (hie ▸ hx.2) ha
 refine Xc ?_;refine Gc ?_;refine Z39 ?_;exact A8 (Ae (B8 jA jS)) ⟨by rw [hF 0 (by decide),hF 1 (by decide),hF 2 (by decide),hF 3 (by decide),hF 4 (by decide)],rfl⟩

/-- A wide number as a number of 64 bits. -/
def F1 (s:Bool) (m:Nat):Int×Int:=if (s&&decide (m≤9223372036854775808))=true then (-(m:Int),0) else if ((!s)&&decide (m≤9223372036854775807))=true then ((m:Int),0) else (0,4)
def Ij (s:Bool) (m:Nat):Int:=if s then -(m:Int) else m
theorem M3 (s:Bool) (m:Nat):F1 s m=if -9223372036854775808≤Ij s m∧Ij s m≤9223372036854775807 then (Ij s m,0) else (0,4):=by
 unfold F1 Ij
 cases s
 ·simp only [Ey,D3,Dm,Ag,if_false]
  by_cases h:m≤9223372036854775807
  ·rw [if_pos (by simpa using h),if_pos ⟨by omega,by omega⟩]
  rw [if_neg (by simpa using h),if_neg (by omega)]
 simp only [Dm,C8,Ey,Ag,if_false,if_true]
 by_cases h:m≤9223372036854775808
 ·rw [if_pos (by simpa using h),if_pos ⟨by omega,by omega⟩]
 rw [if_neg (by simpa using h),if_neg (by omega)]
theorem az {x y:Nat} (hx:x<4294967296) (hy:y<4294967296):IntKind.u64.wrap (IntKind.u64.wrap ((y:Int)*4294967296)+(x:Int))=((x+4294967296*y:Nat):Int):=by
 simp only [IntKind.wrap_u64];omega
theorem AAl {m:Nat} (hm:m<B32 ^ 5) (h:(decide (0<((dig m 2+dig m 3+dig m 4:Nat):Int)) || decide (4294967296≤((dig m 1:Nat):Int)))=true):18446744073709551616≤m:=by
 rcases Be m 18446744073709551616 with h1|h1
 ·exfalso
  have e2:dig m 2=0:=Fy (Cp h1 (by decide))
  have e3:dig m 3=0:=Fy (Cp h1 (by decide))
  have e4:dig m 4=0:=Fy (Cp h1 (by decide))
  have:=C2 m 1
  rw [e2,e3,e4] at h
  simp at h
  omega
 exact h1
theorem AAm {m:Nat} (hm:m<B32 ^ 5) (h:(decide (0<((dig m 2+dig m 3+dig m 4:Nat):Int)) || decide (4294967296≤((dig m 1:Nat):Int)))=false):dig m 0+4294967296*dig m 1=m:=by
 simp only [Cq,decide_eq_false_iff_not] at h
 have h2:dig m 2=0:=by omega
 have h3:dig m 3=0:=by omega
 have h4:dig m 4=0:=by omega
 have e:=wp (F:=dig m) (fun j=>C2 m j)
 have m0:=Qp m 4294967296
 have m1:=Qp (m / 4294967296) 4294967296
 unfold dig at *
 simp only [B32,Nat.reducePow,Nat.div_one,Nat.pow_zero,Nat.pow_one] at *
 omega
theorem AJ3 {s:Bool} {m:Nat} (h:18446744073709551616≤m):F1 s m=(0,4):=by
 unfold F1
 rw [if_neg (by simp;omega),if_neg (by simp;omega)]
theorem ARr {u:Nat} (h:u≤9223372036854775808):IntKind.i64.wrap (IntKind.u64.wrap (0-(u:Int))) = -(u:Int):=by
 simp only [IntKind.wrap_u64,IntKind.wrap_i64];omega
theorem ARs {u:Nat} (h:u≤9223372036854775807):IntKind.i64.wrap (u:Int)=(u:Int):=by
 simp only [IntKind.wrap_i64];omega
theorem c87 (s:Bool) (m:Nat) (hm:m<B32 ^ 5) (Hp:List AObj):AFun Tryz.prog 87 [.agg (wF s (dig m))] Hp (.tup [A5 (F1 s m).1,A5 (F1 s m).2]):=by
 refine Ah [.tmp 2,.tmp 3] [0] Tryz.func87 Tryz.ntmps87 (fun d=>?_)
 refine Z19 ?_;refine A2 [1] ?_;refine Z2 ?_;refine Yl (1) jU Tryz.sizeOf88 (by decide) (hoff:=U9 (by decide)) ?_;refine Z10 ?_;refine Yl (0) jU Tryz.sizeOf88 (by decide) (hoff:=U9 (by decide)) ?_;refine A4 ?_
 refine A4 (h:=Gb) (hr:=?_)
 rw [az (C2 m 0) (C2 m 1)]
 refine A4 ?_;refine A2 [1,4] ?_;refine Z29 ?_;refine Yl (2) jU Tryz.sizeOf88 (by decide) (hoff:=U9 (by decide)) ?_;refine Z0 ?_;refine Yl (3) jU Tryz.sizeOf88 (by decide) (hoff:=U9 (by decide)) ?_;refine A4 ?_
 refine A4 (h:=Gb) (hr:=?_)
 refine A4 ?_;refine Yl (4) jU Tryz.sizeOf88 (by decide) (hoff:=U9 (by decide)) ?_;refine A4 ?_
 refine A4 (h:=Gb) (hr:=?_)
 rw [AAg (by have:=C2 m 2;have:=C2 m 3;have:=C2 m 4;omega)]
 refine Sf ?_;refine G.indexArrRo (1) jU Tryz.sizeOf88 (by decide) (hoff:=U9 (by decide)) ?_;refine Z97 ?_;refine A2 [1,4,30] ?_
 refine A3 (fun ht30=>?_) (fun ht30=>?_)
 ·have hw:=AJ3 (s:=s) (AAl hm ht30)
  refine yq ?_;exact ALx
 have hu:=AAm hm ht30
 rw [hu]
 refine Nn ?_;refine Z97 ?_;refine A2 [1,4,36] ?_
 refine A3 (fun ht36=>?_) (fun ht36=>?_)
 ·have hw:F1 s m=(-(m:Int),0):=if_pos (by simp at ht36 ⊢;exact ⟨ht36.1,by omega⟩)
  refine Z2 ?_
  refine A4 (h:=L2) (hr:=?_)
  refine A4 ?_
  rw [ARr (by simp at ht36;omega)]
  refine Z0 ?_;refine Ja ?_;exact ALx
 refine Xd ?_;refine Z44 ?_;refine A4 ?_;refine A2 [4,46] ?_
 refine A3 (fun ht46=>?_) (fun ht46=>?_)
 ·have hw:F1 s m=((m:Int),0):=by
   unfold F1
   rw [if_neg (by simp at ht46 ⊢;simp [ht46.1]),if_pos (by simp at ht46 ⊢;exact ⟨ht46.1,by omega⟩)]
  refine Z1 ?_
  rw [ARs (by simp at ht46;omega)]
  refine Z0 ?_;refine Ja ?_;exact ALx
 have hw:F1 s m=(0,4):=by
  unfold F1
  rw [if_neg (by simp at ht36 ⊢;intro hs;have:=ht36 hs;omega),if_neg (by simp at ht46 ⊢;intro hs;have:=ht46 hs;omega)]
 refine Lq ?_;refine Ja ?_;refine Dd ?_;exact A8 (B1 A7 A7) ⟨by rw [hw],rfl⟩

/-- ref16.num -/
def ff (s:Bool) (m:Nat):Rs:=if ((F1 s m).2 != 0)=true then (noV,(F1 s m).2) else (⟨1,(F1 s m).1,[]⟩,0)
theorem c54 (s:Bool) (m:Nat) (hm:m<B32 ^ 5) (Hp:List AObj):AFun Tryz.prog 54 [.agg (wF s (dig m))] Hp (Q6 (ff s m)):=by
 refine Ah [.cell 2 42,.tmp 3] [0] Tryz.func54 Tryz.ntmps54 (fun d=>?_)
 refine Z2 ?_;refine Z80 ?_;refine A2 [1,2] ?_;refine Z2 ?_;refine A9 Tryz.call87 (c87 s m hm _) ?_;refine Z63 ?_;refine A2 [2,4,5] ?_;refine Z8 ?_;refine A2 [2,4,5,12] ?_
 refine A3 (fun ht12=>?_) (fun ht12=>?_)
 ·have hw:ff s m=(noV,(F1 s m).2):=if_pos ht12
  refine Z34 ?_;refine A4 ?_;refine To ?_;exact AOw
 have hw:ff s m=(⟨1,(F1 s m).1,[]⟩,0):=if_neg (by rw [ht12];simp)
 refine Z92 ?_;refine co ?_;refine To ?_;exact AOu

theorem c52 (b:Bool) (Hp:List AObj):AFun Tryz.prog 52 [B4 b] Hp (Bi (E4 b)):=by
 refine Ah [.cell 2 42] [0] Tryz.func52 Tryz.ntmps52 (fun d=>?_)
 refine Z67 ?_;refine Z29 ?_;refine Ja ?_
 refine A3 (fun ht3=>?_) (fun ht3=>?_)
 ·have hb:b=true:=ht3
  refine Z34 ?_;refine Z16 ?_;refine F8 ?_;exact AQi
 have hb:b=false:=ht3
 refine Z4 ?_;refine Z34 ?_;refine Z16 ?_;exact AQi

theorem ARt {x y:Nat} (h:x<18446744073709551616):IntKind.u64.wrap ((x:Int).tdiv (y:Int))=((x / y:Nat):Int):=by
 have:x / y≤x:=Xp x y
 rw [Y6 (by omega),IntKind.wrap_u64,←Int.natCast_ediv]
 generalize x / y=z at *
 omega
theorem ARu (x y:Nat):(x:Int).tmod (y:Int)=((x % y:Nat):Int):=by
 rw [Y7 (by omega),←Int.natCast_emod]
theorem nx {s:Bool} {q:Nat} (h:q<18446744073709551616):[B4 s,Bo (q % 4294967296:Nat),Bo (q / 4294967296:Nat),Bo 0,Bo 0,Bo 0]=wF s (dig q):=by
 have e2:dig q 2=0:=Fy (Cp h (by decide))
 have e3:dig q 3=0:=Fy (Cp h (by decide))
 have e4:dig q 4=0:=Fy (Cp h (by decide))
 unfold wF
 rw [wo,AFo,e2,e3,e4,Qq (show q / 4294967296<4294967296 by omega)]
 rfl
theorem fg {m:Nat} (h:m<18446744073709551616):dig m 0+4294967296*dig m 1=m:=by
 rw [wo,AFo]
 omega
theorem c86 (a b:Int) (a0 : -9223372036854775808≤a) (a1:a≤9223372036854775807) (b0 : -9223372036854775808≤b) (b1:b≤9223372036854775807) (hb:b≠0) (Hp:List AObj):AFun Tryz.prog 86 [A5 a,A5 b] Hp (.tup [.agg (wF (decide (a<0) != decide (b<0)) (dig (a.natAbs / b.natAbs))),.agg (wF (decide (a<0)) (dig (a.natAbs % b.natAbs)))]):=by
 have hA:a.natAbs<18446744073709551616:=by omega
 have hB:b.natAbs<18446744073709551616:=by omega
 have hB0:((b.natAbs:Nat):Int)≠0:=by omega
 have hq:(a.natAbs / b.natAbs)<18446744073709551616:=Tf (Xp _ _) hA
 have hr:(a.natAbs % b.natAbs)<18446744073709551616:=Tf (Tg _ _) hA
 refine Ah [.cell 4 91,.cell 5 91] [0,1] Tryz.func86 Tryz.ntmps86 (fun d=>?_)
 refine Z37 ?_;refine Mj ?_;refine A2 [0,1,4,5] ?_;refine Z2 ?_;refine A9 Tryz.call56 (AAh a a0 a1 _) ?_;refine A4 ?_;refine A9 Tryz.call56 (AAh b b0 b1 _) ?_;refine Mj ?_;refine ADd ?_;refine A2 [4,5,6,7] ?_;refine Cb [0,1,3,7,0,16,48,127,0,256,768,1792,0,4096,12288,32512,255,131071] 17 Ai (by kernel_rfl) ?_;refine Ak ?_;refine Yk (1) jU Tryz.sizeOf88 (by decide) ?_;refine Z40 ?_;refine Yk (0) jU Tryz.sizeOf88 (by decide) ?_;refine Ak ?_
 refine Ak (h:=Gb) (hr:=?_)
 refine Ak ?_;refine Yk (1) jU Tryz.sizeOf88 (by decide) ?_;refine Z40 ?_;refine Yk (0) jU Tryz.sizeOf88 (by decide) ?_;refine Ak ?_
 refine Ak (h:=Gb) (hr:=?_)
 refine Sc ?_;refine A4 ?_;refine A2 [4,5,6,7,8,9] ?_;refine Cb [0,0,3,0,0,24,7,127] 7 Ai (by kernel_rfl) ?_
 rw [az (C2 a.natAbs 0) (C2 a.natAbs 1),az (C2 b.natAbs 0) (C2 b.natAbs 1),fg hA,fg hB]
 refine Z12 ?_
 refine Ak (h:=Q.quo (h0:=fun _=>hB0)) (hr:=?_)
 refine Z12 ?_
 refine Ak (h:=Q.rem (h0:=fun _=>hB0)) (hr:=?_)
 refine Sc ?_;refine A4 ?_;refine A2 [4,5,6,7,10,11] ?_;refine Ec ?_
 rw [ARt hA,ARu]
 refine Z63 ?_;refine Z79 ?_;refine A2 [4,5,6,10,11,12] ?_;refine Z25 ?_
 rw [Xh (a.natAbs / b.natAbs),Xi hq]
 refine AH4 ?_;refine Z9 ?_;refine ADr ?_;refine Gc ?_;refine A2 [4,5,6,11,12] ?_;refine Z1 ?_;refine Z79 ?_;refine A2 [4,5,11,12,13] ?_;refine Z25 ?_
 rw [Xh (a.natAbs % b.natAbs),Xi hr]
 refine AH4 ?_;refine Z9 ?_;refine ADr ?_;refine Gc ?_;refine A2 [4,5,12,13] ?_
 refine Hy [0,0,1,7] [2] [.q 2 [] [],.s [] (some 0) [] []] (fun _=>Hp) (fun B=>[.cells 91 (if B 0=true then [B4 (decide (a<0) != decide (b<0)),Bo ((a.natAbs / b.natAbs) % 4294967296:Nat),Bo ((a.natAbs / b.natAbs) / 4294967296:Nat),Bo 0,Bo 0,Bo 0] else [B4 false,Bo 0,Bo 0,Bo 0,Bo 0,Bo 0]),.cells 91 [B4 false,Bo 0,Bo 0,Bo 0,Bo 0,Bo 0],.cells 91 (wF (decide (a<0)) (dig a.natAbs)),.cells 91 (wF (decide (b<0)) (dig b.natAbs)),.cells 91 [B4 (decide (a<0) != decide (b<0)),Bo ((a.natAbs / b.natAbs) % 4294967296:Nat),Bo ((a.natAbs / b.natAbs) / 4294967296:Nat),Bo 0,Bo 0,Bo 0],.cells 91 [B4 (decide (a<0)),Bo ((a.natAbs % b.natAbs) % 4294967296:Nat),Bo ((a.natAbs % b.natAbs) / 4294967296:Nat),Bo 0,Bo 0,Bo 0]]) Ai (by kernel_rfl) rfl rfl (fun _=>rfl) ?_
 apply Y.q
 ·intro B hT hF
  exact Z96
 case hTF=>decide
 refine Y.storeOwn (u:=Hp.length) (n:=0) (t':=91) (cs:=[B4 false,Bo 0,Bo 0,Bo 0,Bo 0,Bo 0]) (cs':=[B4 (decide (a<0) != decide (b<0)),Bo ((a.natAbs / b.natAbs) % 4294967296:Nat),Bo ((a.natAbs / b.natAbs) / 4294967296:Nat),Bo 0,Bo 0,Bo 0]) Tryz.sizeOf91 (fun B hB=>⟨rfl,by simp only [hB];rfl,by simp [upd],rfl⟩) ?_
 refine Gx (tn:=[2]) (O:=[.cells 91 [B4 (decide (a<0) != decide (b<0)),Bo ((a.natAbs / b.natAbs) % 4294967296:Nat),Bo ((a.natAbs / b.natAbs) / 4294967296:Nat),Bo 0,Bo 0,Bo 0],.cells 91 [B4 false,Bo 0,Bo 0,Bo 0,Bo 0,Bo 0],.cells 91 (wF (decide (a<0)) (dig a.natAbs)),.cells 91 (wF (decide (b<0)) (dig b.natAbs)),.cells 91 [B4 (decide (a<0) != decide (b<0)),Bo ((a.natAbs / b.natAbs) % 4294967296:Nat),Bo ((a.natAbs / b.natAbs) / 4294967296:Nat),Bo 0,Bo 0,Bo 0],.cells 91 [B4 (decide (a<0)),Bo ((a.natAbs % b.natAbs) % 4294967296:Nat),Bo ((a.natAbs % b.natAbs) / 4294967296:Nat),Bo 0,Bo 0,Bo 0]]) ?_;refine Gc ?_;refine Z77 ?_;exact A8 (B1 (B8 jA jS) (B8 jA jS)) ⟨by rw [nx hq,nx hr],rfl⟩

/-- ref04.Before -/
def Iu (a b:Val):Bool:=if (a.kind != b.kind)=true then decide (a.kind<b.kind) else if (a.kind != 2)=true then decide (a.n<b.n) else decide (Lib.compareBytes a.s b.s<0)
theorem AJ4 {s t:Str} {k:Nat} (hs:k<s.length) (ht:k<t.length) (he:s[k]=t[k]):Lib.compareBytes (s.drop k) (t.drop k)=Lib.compareBytes (s.drop (k+1)) (t.drop (k+1)):=by
 rw [Hd hs,Hd ht,Lib.compareBytes,he,if_neg (by simp),if_neg (by simp)]
theorem AJ5 {s t:Str} {k:Nat} (hs:k<s.length) (ht:k<t.length) (he:s[k]≠t[k]):decide (Lib.compareBytes (s.drop k) (t.drop k)<0)=decide ((s[k].toNat:Int)<(t[k].toNat:Int)):=by
 rw [Hd hs,Hd ht,Lib.compareBytes]
 have e1:s[k]<t[k]↔s[k].toNat<t[k].toNat:=Xs
 have e2:t[k]<s[k]↔t[k].toNat<s[k].toNat:=Xs
 have e3:s[k].toNat≠t[k].toNat:=fun e=>he (Lo.1 e)
 by_cases h:s[k]<t[k]
 ·rw [if_pos h,decide_eq_true (show (-1:Int)<0 by decide),decide_eq_true (by have:=e1.1 h;omega)]
 have hnl:¬s[k].toNat<t[k].toNat:=fun h'=>h (e1.2 h')
 rw [if_neg h,if_pos (e2.2 (by omega)),decide_eq_false (show ¬(1:Int)<0 by decide),decide_eq_false (by omega)]
theorem AN3 {s t:Str} {k:Nat} (hs:k≤s.length) (ht:k≤t.length) (h:¬(k<s.length∧k<t.length)):decide (Lib.compareBytes (s.drop k) (t.drop k)<0)=decide ((s.length:Int)<(t.length:Int)):=by
 by_cases h1:k<s.length
 ·have h2:t.length=k:=by omega
  rw [Uu (l:=t) (by omega),Hd h1]
  rw [decide_eq_false (show ¬Lib.compareBytes _ _<0 by rw [Lib.compareBytes];decide),decide_eq_false (by omega)]
 rw [Uu (l:=s) (by omega)]
 by_cases h2:k<t.length
 ·rw [Hd h2]
  rw [decide_eq_true (show Lib.compareBytes _ _<0 by rw [Lib.compareBytes];decide),decide_eq_true (by omega)]
 rw [Uu (l:=t) (by omega)]
 rw [decide_eq_false (show ¬Lib.compareBytes _ _<0 by rw [Lib.compareBytes];decide),decide_eq_false (by omega)]
theorem c83 (a b:Val) (ha:a.s.length≤1048576) (Hp:List AObj):AFun Tryz.prog 83 [Bi a,Bi b] Hp (B4 (Iu a b)):=by
 refine Ah [.tmp 4] [0,1] Tryz.func83 Tryz.ntmps83 (fun d=>?_)
 refine yw ?_;refine Oi ?_;refine A2 [2,3,10] ?_
 refine A3 (fun ht10=>?_) (fun ht10=>?_)
 ·have hm:Iu a b=decide (a.kind<b.kind):=if_pos ht10
  refine Z25 ?_;refine Z0 ?_;refine A2 [4] ?_;exact Z57
 have e1:¬(a.kind != b.kind)=true:=by rw [ht10];simp
 refine Nn ?_;refine A2 [2,3,18] ?_
 refine A3 (fun ht18=>?_) (fun ht18=>?_)
 ·have hm:Iu a b=decide (a.n<b.n):=by unfold Iu;rw [if_neg e1,if_pos ht18]
  refine Z25 ?_;refine Z0 ?_;refine A2 [4] ?_;exact Z57
 have hm:Iu a b=decide (Lib.compareBytes a.s b.s<0):=by unfold Iu;rw [if_neg e1,if_neg (by rw [ht18];simp)]
 refine Sd ?_;refine A2 [2,3,5] ?_
 refine Az (α:=Nat) (fun k=>⟨63,A6 2 (.ro [A5 a.kind,A5 a.n,Af a.s]) (A6 3 (.ro [A5 b.kind,A5 b.n,Af b.s]) (A6 5 (A5 (k:Nat)) (fun _=>.any))),Hp,[],[],none⟩) (fun k=>k≤a.s.length∧k≤b.s.length∧Lib.compareBytes a.s b.s=Lib.compareBytes (a.s.drop k) (b.s.drop k)) (fun k=>a.s.length-k) (0) ⟨Ap _,Ap _,rfl⟩ (B2 rfl) rfl (fun k hx=>?_)
 refine Z50 ?_;refine Z44 ?_;refine Oh ?_;refine A2 [2,3,5,35] ?_
 refine A3 (fun ht35=>?_) (fun ht35=>?_)
 ·have hk:k<a.s.length∧k<b.s.length:=by have h35:=ht35;simp at h35;exact h35
  refine Z42 ?_;refine Cb [0,1,0,7,0,16,0,112,255] 8 Ai (by kernel_rfl) ?_;refine Z40 ?_
  refine Ak (h:=Fq k a.s[k] (fun _=>Aa hk.1)) (hr:=?_)
  refine Z40 ?_
  refine Ak (h:=Fq k b.s[k] (fun _=>Aa hk.2)) (hr:=?_)
  refine J0 ?_;refine A4 ?_;refine A2 [2,3,5,46] ?_
  refine A3 (fun ht46=>?_) (fun ht46=>?_)
  ·have hd:a.s[k]≠b.s[k]:=fun e=>by rw [e] at ht46;simp at ht46
   refine Cb [0,1,0,7,0,16,0,112,255,511] 8 Ai (by kernel_rfl) ?_;refine Z40 ?_
   refine Ak (h:=Fq k a.s[k] (fun _=>Aa hk.1)) (hr:=?_)
   refine Z40 ?_
   refine Ak (h:=Fq k b.s[k] (fun _=>Aa hk.2)) (hr:=?_)
   refine J0 ?_;refine Z0 ?_;refine A2 [4] ?_;refine Tp ?_;exact A8 (Ae A7) ⟨by rw [hm,hx.2.2,AJ5 hk.1 hk.2 hd],rfl⟩
  have hd:a.s[k]=b.s[k]:=Lo.1 (by have h46:((a.s[k].toNat:Nat):Int)=(b.s[k].toNat:Int):=(by simpa using ht46);omega)
  refine Z71 ?_;refine A2 [2,3,5] ?_;exact Ay (k+1) ⟨hk.1,hk.2,by rw [hx.2.2];exact AJ4 hk.1 hk.2 hd⟩ (by omega) (Bh rfl)
 have hk:¬(k<a.s.length∧k<b.s.length):=by have h35:=ht35;simp at h35;omega
 refine Z45 ?_;refine Z25 ?_;refine Z70 ?_;refine Z39 ?_;exact A8 (Ae A7) ⟨by rw [hm,hx.2.2,AN3 hx.1 hx.2.1 hk],rfl⟩

set_option maxRecDepth 8000
/-! The reference's Bin is the program's. -/
theorem AN4 (t:Str) (c:Int):(Dr t==3)=(Fc t c).2:=by
 unfold Fc
 by_cases h1:(t==[61])=true
 ·rw [if_pos h1,eq_of_beq h1];kernel_rfl
 rw [if_neg h1]
 by_cases h2:(t==[33,61])=true
 ·rw [if_pos h2,eq_of_beq h2];kernel_rfl
 rw [if_neg h2]
 by_cases h3:(t==[60])=true
 ·rw [if_pos h3,eq_of_beq h3];kernel_rfl
 rw [if_neg h3]
 by_cases h4:(t==[60,61])=true
 ·rw [if_pos h4,eq_of_beq h4];kernel_rfl
 rw [if_neg h4]
 by_cases h5:(t==[62])=true
 ·rw [if_pos h5,eq_of_beq h5];kernel_rfl
 rw [if_neg h5]
 by_cases h6:(t==[62,61])=true
 ·rw [if_pos h6,eq_of_beq h6];kernel_rfl
 rw [if_neg h6]
 show (Dr t==3)=false
 cases h:Dr t==3 with
 | false=>rfl
 | true =>
  exfalso
  have h':Dr t=3:=by simpa using h
  unfold Dr at h'
  split at h'
  ·rename_i i hi
   have e:i=3:=by omega
   subst e
   obtain ⟨hl,hp,_⟩:=Jy.1 hi
   have hm:t∈levels[3]:=by simpa using hp
   have:t∈([[61],[33,61],[60],[60,61],[62],[62,61]]:List Str):=hm
   simp only [Bu,I3,or_false] at this
   rcases this with rfl|rfl|rfl|rfl|rfl|rfl
   ·exact h1 rfl
   ·exact h2 rfl
   ·exact h3 rfl
   ·exact h4 rfl
   ·exact h5 rfl
   exact h6 rfl
  cases h'
def jr (lt gt:Bool) (t:Str):Bool:=if t==[61] then !lt && !gt else if t==[33,61] then lt || gt else if t==[60] then lt else if t==[60,61] then !gt else if t==[62] then gt else !lt
theorem AJ6 {t:Str} {c:Int} (h:(Fc t c).2=true):(Fc t c).1=jr (decide (c<0)) (decide (0<c)) t:=by
 unfold Fc at h ⊢
 unfold jr
 split
 ·rw [N9];simp;omega
 rename_i h1
 rw [if_neg h1] at h
 split
 ·rw [N9];simp;omega
 rename_i h2
 rw [if_neg h2] at h
 split
 ·rfl
 rename_i h3
 rw [if_neg h3] at h
 split
 ·rw [N9];simp
 rename_i h4
 rw [if_neg h4] at h
 split
 ·rfl
 rename_i h5
 rw [if_neg h5] at h
 split
 ·rw [N9];simp
 rename_i h6
 rw [if_neg h6] at h
 cases h
theorem wq:∀s t:Str,Lib.compareBytes t s = -Lib.compareBytes s t
 | [],[]=>rfl
 | [],b::r=>rfl
 | a::r,[]=>rfl
 | a::r,b::q=>by
  rw [Lib.compareBytes,Lib.compareBytes]
  by_cases h1:a<b
  ·rw [if_neg (by have:=Xs.1 h1;rw [Xs];omega),if_pos h1,if_pos h1];rfl
  rw [if_neg h1,if_neg h1]
  by_cases h2:b<a
  ·rw [if_pos h2,if_pos h2]
  rw [if_neg h2,if_neg h2];exact wq r q
theorem AFp {a b:Val} (ha:Cg a=true) (hb:Cg b=true) (hk:a.kind=b.kind):Ss a b=if a.kind=2 then Lib.compareBytes a.s b.s else Lu a.n b.n:=by
 obtain ⟨k,n,s⟩:=a
 obtain ⟨k',n',s'⟩:=b
 simp only at hk
 subst hk
 unfold Ss
 rw [ha,hb,if_neg (by simp)]
 have e0:Lu k k=0:=by simp [Lu]
 simp only [orI,e0]
 unfold Cg at ha hb
 simp only at ha hb
 by_cases h2:k=2
 ·subst h2
  simp at ha hb
  rw [ha.1,hb.1]
  simp [Lu]
  intro h;exact h.symm
 have hs:s=[]∧s'=[]:=by
  split at ha
  ·rename_i h;rw [if_pos h] at hb;simp at ha hb;exact ⟨ha.2,hb.2⟩
  rename_i h
  rw [if_neg h] at hb
  split at ha
  ·rename_i h;rw [if_pos h] at hb;simp at ha hb;exact ⟨ha,hb⟩
  rename_i h
  rw [if_neg h] at hb
  rw [if_neg (by simpa using h2)] at ha hb
  simp at ha hb
  exact ⟨ha.1.1.2,hb.1.1.2⟩
 rw [hs.1,hs.2,if_neg h2]
 simp [Lib.compareBytes]
 intro h;exact h.symm
theorem AAn {a b:Val} (ha:Cg a=true) (hb:Cg b=true) (hk:a.kind=b.kind):Iu a b=decide (Ss a b<0):=by
 rw [AFp ha hb hk]
 unfold Iu
 rw [if_neg (by simp [hk])]
 by_cases h2:a.kind=2
 ·rw [if_pos h2,if_neg (by simp [h2])]
 rw [if_neg h2,if_pos (by simp [h2])]
 unfold Lu
 rw [decide_eq_decide]
 split
 ·rename_i h;simp at h;omega
 rename_i h
 simp at h
 split<;>omega
theorem AAo {a b:Val} (ha:Cg a=true) (hb:Cg b=true) (hk:a.kind=b.kind):Iu b a=decide (0<Ss a b):=by
 rw [AFp ha hb hk]
 unfold Iu
 rw [if_neg (by simp [hk])]
 by_cases h2:a.kind=2
 ·rw [if_pos h2,if_neg (by rw [←hk];simp [h2]),wq a.s b.s,decide_eq_decide]
  omega
 rw [if_neg h2,if_pos (by rw [←hk];simp [h2])]
 unfold Lu
 rw [decide_eq_decide]
 split
 ·rename_i h;simp at h;omega
 rename_i h
 simp at h
 split
 ·rename_i h';simp at h';omega
 rename_i h';simp at h';omega
theorem AJ7 {t:Str} {a b:Val} (ha:Cg a=true) (hb:Cg b=true) (h3:(Dr t==3)=true) (hk:(a.kind != b.kind)=false):Id t a b=(E4 (jr (Iu a b) (Iu b a) t),0):=by
 have hk':a.kind=b.kind:=by simpa using hk
 rw [AAn ha hb hk',AAo ha hb hk']
 have h:=h3
 rw [AN4 t (Ss a b)] at h
 unfold Id
 rw [if_pos h,if_neg (by rw [hk];simp),AJ6 h]
theorem AFq {t:Str} {a b:Val} (h3:(Dr t==3)=true) (hk:(a.kind != b.kind)=true):Id t a b=(noV,10):=by
 rw [AN4 t (Ss a b)] at h3
 unfold Id
 rw [if_pos h3,if_pos hk]
 rfl
theorem b6 {t:Str} {a b:Val} (h3:(Dr t==3)=false):Id t a b=if t==[38] then J7 a b else if !By [a,b] [1,1] then D0 10 else Fu (Ev t a.n b.n):=by
 rw [AN4 t (Ss a b)] at h3
 unfold Id
 rw [if_neg (by rw [h3];simp)]
/-! Numbers. -/
theorem M4 (s:Bool) (m:Nat):ff s m=Fu (F1 s m):=rfl
section
variable {a b:Int}
theorem ny (s:Bool) (m:Nat) (s':Bool) (m':Nat):Ij (Ua s m s' m').1 (Ua s m s' m').2=Ij s m+Ij s' m':=by
 unfold Ua hiW loW Ij
 by_cases h:m<m'
 ·cases s<;>cases s'<;>simp [h]<;>omega
 cases s<;>cases s'<;>simp [h]<;>omega
theorem Q8 (a:Int):Ij (decide (a<0)) a.natAbs=a:=by
 unfold Ij
 by_cases h:a<0
 ·rw [if_pos (by simpa using h)];omega
 rw [if_neg (by simpa using h)];omega
theorem nz (s:Bool) (m:Nat):Ij (!s) m = -Ij s m:=by
 unfold Ij
 cases s<;>simp
theorem AAp (a0 : -9223372036854775808≤a) (a1:a≤9223372036854775807) (b0 : -9223372036854775808≤b) (b1:b≤9223372036854775807):F1 (Ua (decide (a<0)) a.natAbs (decide (b<0)) b.natAbs).1 (Ua (decide (a<0)) a.natAbs (decide (b<0)) b.natAbs).2=an a b:=by
 rw [M3,ny,Q8,Q8,AIu a0 a1 b0 b1]
theorem AAq (a0 : -9223372036854775808≤a) (a1:a≤9223372036854775807) (b0 : -9223372036854775808≤b) (b1:b≤9223372036854775807):F1 (Ua (decide (a<0)) a.natAbs (!decide (b<0)) b.natAbs).1 (Ua (decide (a<0)) a.natAbs (!decide (b<0)) b.natAbs).2=Lt a b:=by
 rw [M3,ny,nz,Q8,Q8,wl a0 a1 b0 b1,Int.sub_eq_add_neg]
theorem AFr:Ij (decide (a<0) != decide (b<0)) (a.natAbs*b.natAbs)=a*b:=by
 have h1:=Int.natAbs_mul a b
 unfold Ij
 rw [←h1]
 by_cases ha:a<0<;>by_cases hb:b<0
 ·have:=Int.mul_pos_of_neg_of_neg ha hb
  simp [ha,hb];omega
 ·have:a*b≤0:=Int.mul_nonpos_of_nonpos_of_nonneg (by omega) (by omega)
  simp [ha,hb];omega
 ·have:a*b≤0:=Int.mul_nonpos_of_nonneg_of_nonpos (by omega) (by omega)
  simp [ha,hb];omega
 have:0≤a*b:=Int.mul_nonneg (by omega) (by omega)
 simp [ha,hb];omega
theorem AAr (a0 : -9223372036854775808≤a) (a1:a≤9223372036854775807) (b0 : -9223372036854775808≤b) (b1:b≤9223372036854775807):F1 (decide (a<0) != decide (b<0)) (a.natAbs*b.natAbs)=Sq a b:=by
 rw [M3,AFr,AIv a0 a1 b0 b1]
end
/-! Divided. -/
theorem R3 (a:Int):(a<0∧a = -(a.natAbs:Int))∨(¬a<0∧a=(a.natAbs:Int)):=by omega
theorem o4 (a b:Int):Ij (decide (a<0) != decide (b<0)) (a.natAbs / b.natAbs)=a.tdiv b:=by
 have key:((a.natAbs / b.natAbs:Nat):Int)=(a.natAbs:Int).tdiv (b.natAbs:Int):=by
  rw [Y6 (by omega),Int.natCast_ediv]
 unfold Ij
 rcases R3 a with ⟨ha,ea⟩|⟨ha,ea⟩<;>rcases R3 b with ⟨hb,eb⟩|⟨hb,eb⟩
 ·rw [show (decide (a<0) != decide (b<0))=false by simp [ha,hb]]
  conv=>rhs;rw [ea,eb,Int.neg_tdiv,Int.tdiv_neg,Int.neg_neg]
  exact key
 ·rw [show (decide (a<0) != decide (b<0))=true by simp [ha,hb]]
  conv=>rhs;rw [ea,eb,Int.neg_tdiv]
  rw [if_pos rfl,key]
 ·rw [show (decide (a<0) != decide (b<0))=true by simp [ha,hb]]
  conv=>rhs;rw [ea,eb,Int.tdiv_neg]
  rw [if_pos rfl,key]
 rw [show (decide (a<0) != decide (b<0))=false by simp [ha,hb]]
 conv=>rhs;rw [ea,eb]
 exact key
theorem o5 (a b:Int):Ij (decide (a<0)) (a.natAbs % b.natAbs)=a.tmod b:=by
 have key:((a.natAbs % b.natAbs:Nat):Int)=(a.natAbs:Int).tmod (b.natAbs:Int):=by
  rw [Y7 (by omega),Int.natCast_emod]
 unfold Ij
 rcases R3 a with ⟨ha,ea⟩|⟨ha,ea⟩<;>rcases R3 b with ⟨hb,eb⟩|⟨hb,eb⟩
 ·rw [show decide (a<0)=true by simp [ha]]
  conv=>rhs;rw [ea,eb,qb,qc]
  rw [if_pos rfl,key]
 ·rw [show decide (a<0)=true by simp [ha]]
  conv=>rhs;rw [ea,eb,qb]
  rw [if_pos rfl,key]
 ·rw [show decide (a<0)=false by simp [ha]]
  conv=>rhs;rw [ea,eb,qc]
  exact key
 rw [show decide (a<0)=false by simp [ha]]
 conv=>rhs;rw [ea,eb]
 exact key
section
variable {a b:Int}
theorem AAs (a0 : -9223372036854775808≤a) (a1:a≤9223372036854775807) (b0 : -9223372036854775808≤b) (b1:b≤9223372036854775807) (hb:(b==0)=false):F1 (decide (a<0) != decide (b<0)) (a.natAbs / b.natAbs)=Xg a b:=by
 have hb':b≠0:=by simpa using hb
 have e1:Xg a b=if ((a == -9223372036854775808)&&(b == -1))=true then (0,4) else (IntKind.i64.wrap (a.tdiv b),0):=by
  unfold Xg
  rw [if_neg (by rw [hb];simp)]
 rw [M3,o4,e1]
 by_cases h:a = -9223372036854775808∧b = -1
 ·obtain ⟨rfl,rfl⟩:=h
  rfl
 have e2:¬((a == -9223372036854775808)&&(b == -1))=true:=by simpa using h
 rw [if_neg e2]
 have hw:=o4 a b
 have hle:a.natAbs / b.natAbs≤a.natAbs:=Xp _ _
 have h2:2≤b.natAbs→a.natAbs / b.natAbs≤a.natAbs / 2:=fun h=>Nat.div_le_div_left h (by decide)
 have hr : -9223372036854775808≤a.tdiv b∧a.tdiv b≤9223372036854775807:=by
  unfold Ij at hw
  generalize a.tdiv b=q at *
  generalize a.natAbs / b.natAbs=z at *
  by_cases ha:a<0<;>by_cases hbn:b<0<;>simp [ha,hbn] at hw<;>omega
 rw [if_pos hr]
 congr 1
 rw [IntKind.wrap_i64]
 omega
theorem AAt (a0 : -9223372036854775808≤a) (a1:a≤9223372036854775807) (b0 : -9223372036854775808≤b) (b1:b≤9223372036854775807) (hb:(b==0)=false):F1 (decide (a<0)) (a.natAbs % b.natAbs)=Sr a b:=by
 have hb':b≠0:=by simpa using hb
 have e1:Sr a b=if (b == -1)=true then (0,0) else (IntKind.i64.wrap (a.tmod b),0):=by
  unfold Sr
  rw [if_neg (by rw [hb];simp)]
 rw [M3,o5,e1]
 have hw:=o5 a b
 have hlt:a.natAbs % b.natAbs<b.natAbs:=Is _ (by omega)
 have hr : -9223372036854775808≤a.tmod b∧a.tmod b≤9223372036854775807:=by
  unfold Ij at hw
  generalize a.tmod b=q at *
  generalize a.natAbs % b.natAbs=z at *
  by_cases ha:a<0<;>simp [ha] at hw<;>omega
 rw [if_pos hr]
 by_cases h:b = -1
 ·rw [if_pos (by simp [h]),h]
  congr 1
  simp [qc]
 rw [if_neg (by simpa using h)]
 congr 1
 rw [IntKind.wrap_i64]
 omega
end
theorem AFs {a b:Int} {s s':Bool} (a0 : -9223372036854775808≤a) (a1:a≤9223372036854775807) (b0 : -9223372036854775808≤b) (b1:b≤9223372036854775807):(Ua s a.natAbs s' b.natAbs).2<B32 ^ 5:=by
 have:(Ua s a.natAbs s' b.natAbs).2≤a.natAbs+b.natAbs:=by
  unfold Ua hiW loW
  split
  ·exact Aj _
  simp only
  split<;>simp only<;>omega
 have h2:(36893488147419103232:Nat)≤B32 ^ 5:=by decide
 omega
end Go.SX.Nb
