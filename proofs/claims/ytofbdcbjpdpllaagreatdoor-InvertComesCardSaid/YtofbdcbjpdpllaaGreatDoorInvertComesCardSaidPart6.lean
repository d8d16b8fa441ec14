/- On the way (part 6). -/
import Derived.ReadAgain
import Derived.ChangeSame
import Derived.ChangeArms
import Derived.ChangeOld
import Derived.ChangeFn
import Derived.MapPlaces
import Derived.DataReads
import Derived.OpenShut
import Derived.RowKit
import Derived.Deep.DeepHandedRow
import Derived.Test.YtofbdcbjpdpllaaGreatDoorCards
import Derived.Test.YtofbdcbjpdpllaaGreatDoorTie
import Derived.Lay
import Derived.Lib.LaidTab
import Derived.Stop.LaidErr
import Derived.Shelf.Vars
import Derived.ChangeBears
import Derived.Lib.ParseIntBTie
import Derived.Test.YtofbdcbjpdpllaaGreatDoorInvertComesCardSaidPart5
set_option linter.all false
namespace Go.SX
variable [GI:GlobInv]
open Classical Go.RowKit Go.ChangeShapes
section
variable {P:Program} {H:Type} {enc:TypeId×Value→H}

/-- The first ghost: whatever lies there is read for good. -/
noncomputable def G0 (W:World):Gh:=⟨fun b o=>if (W.cell? ⟨b,o,none⟩).isSome then .fix else .free,fun _=>0,0⟩
theorem vk {W:World} {b o:Nat} {u:Value} (h:W.cell? ⟨b,o,none⟩=some u):(G0 W).tag b o=.fix:=by simp [G0,h]
theorem Pf {W:World} {b:Nat} (h:b<W.heap.size):Hv (G0 W) W b:=⟨h,fun o=>by simp only [G0];split<;>simp,fun i hi=>absurd hi (Nat.not_lt_zero _)⟩
theorem qt (W:World):HeapRel (G0 W) [] W:=⟨fun i x h=>by simp at h,rfl,fun i j hi=>absurd hi (Nat.not_lt_zero _)⟩
theorem qu {W:World} (h:Io W):TagOK (G0 W) W:=by
 refine ⟨fun b o hb=>?_,fun b o i hb=>?_,fun b o L hb=>?_,fun x hx=>?_⟩
 ·simp only [G0] at hb
  split at hb
  ·rename_i hs;exact dk.1 hs
  exact absurd rfl hb
 ·simp only [G0] at hb;split at hb<;>cases hb
 ·simp only [G0] at hb;split at hb<;>cases hb
 obtain ⟨v,h1,h2⟩:=h x hx
 exact ⟨Pf (M8.1 h1).1,v,h1,h2⟩

/-- What a datum of a plain type zy as. -/
inductive DRep (P:Program):TypeId→DataW H→AV→Prop
 | int {t:TypeId} {k:IntKind} {n:Int} (hu:P.underlying t=some (.int k)) (wf:(Lit.int k n).wf=true):DRep P t (.lit (.int k n)) (.v (.int k n))
 | bool {t:TypeId} {b:Bool} (hu:P.underlying t=some .bool):DRep P t (.lit (.bool b)) (.v (.bool b))
 | str {t:TypeId} {bs:List UInt8} (hu:P.underlying t=some .string):DRep P t (.lit (.string bs)) (.v (sv bs))
 | nil {t e:TypeId} (hu:P.underlying t=some (.slice e)):DRep P t .nil (.slice false (P.cellsOf e) [])
 | slice {t e:TypeId} {elems spare:List (DataW H)} {ys:List AV} (hu:P.underlying t=some (.slice e)) (hn:ys.length=elems.length)
   (h:∀(i:Nat) (d:DataW H) (y:AV),elems[i]? = some d→ys[i]? = some y→DRep P e d y):DRep P t (.slice elems spare) (.slice false (P.cellsOf e) ys)
 | struct {t:TypeId} {fs:Array Field} {parts:List (DataW H)} {ys:List AV} (hu:P.underlying t=some (.struct fs)) (hn:parts.length=fs.size) (hn':ys.length=fs.size)
   (h:∀(i:Nat) (f:Field) (d:DataW H) (y:AV),fs[i]? = some f→parts[i]? = some d→ys[i]? = some y→DRep P f.type d y):DRep P t (.agg parts) (.agg (ys.flatMap AV.cells))

/-- Types that are made of numbers, texts, bools, slices and structs alone. -/
structure PlainT (P:Program) (T:TypeId→Prop):Prop where
 look:∀t,T t→(P.cellsOf t=1∧((∃k,P.underlying t=some (.int k))∨P.underlying t=some .bool∨P.underlying t=some .string∨(∃e,P.underlying t=some (.slice e)∧T e∧0<P.cellsOf e))) ∨
  (∃fs,P.underlying t=some (.struct fs)∧(∀f∈fs.toList,T f.type)∧P.cellsOf t=(fs.toList.map fun f=>P.cellsOf f.type).sum ∧
   ∀(j:Nat) (f:Field),fs.toList[j]? = some f→f.offset=((fs.toList.take j).map fun f=>P.cellsOf f.type).sum)

/-- The reading of a row of cells. -/
def CRep (W:World) (y:AV) (cs:List Value):Prop:=
 y.cells.length=cs.length∧(∀c∈y.cells,c.one=true)∧∀(j:Nat) (c:AV) (v:Value),y.cells[j]? = some c→cs[j]? = some v→Rep (G0 W) W none c v

theorem CRep.v1 {W:World} {x:Value} (h:x.oneCell'=true):CRep W (.v x) [x]:=
 ⟨rfl,by simp [AV.cells,AV.one,h],fun j c v h1 h2=>by
  match j with
  | 0=>simp [AV.cells] at h1 h2;subst h1;subst h2;exact .v _ _
  | j+1=>simp [AV.cells] at h1⟩

theorem Yj {f:AV→List AV}:∀(ys:List AV) (j:Nat) (c:AV),(ys.flatMap f)[j]? = some c→∃(i:Nat) (y:AV) (q:Nat),ys[i]? = some y∧(f y)[q]? = some c∧j=((ys.take i).map fun y=>(f y).length).sum+q
 | [],j,c,h=>by simp at h
 | y::r,j,c,h=>by
  rw [Rj] at h
  rcases Bf j (f y).length with h'|h'
  ·rw [D0 h'] at h
   exact ⟨0,y,j,rfl,h,by simp⟩
  rw [Da h'] at h
  obtain ⟨i,z,q,h1,h2,h3⟩:=Yj r _ c h
  exact ⟨i+1,z,q,h1,h2,by simp only [List.take_succ_cons,Dk,List.sum_cons];omega⟩
theorem Lh {α:Type} {R:Nat→α→Prop}:∀(n:Nat),(∀i,i<n→∃y,R i y)→∃ys:List α,ys.length=n∧∀(i:Nat) (y:α),ys[i]? = some y→R i y
 | 0,_=>⟨[],rfl,fun i y h=>by simp at h⟩
 | n+1,h=>by
  obtain ⟨ys,h1,h2⟩:=Lh n (fun i hi=>h i (by omega))
  obtain ⟨y,hy⟩:=h n (by omega)
  refine ⟨ys++[y],by simp [h1],fun i z hz=>?_⟩
  rcases Bf i n with h'|h'
  ·rw [D0 (by omega)] at hz;exact h2 i z hz
  rw [Da (by omega)] at hz
  have:i=n:=by
   have:=(Ae.1 hz).1
   simp at this;omega
  subst this
  rw [h1] at hz
  simp at hz
  exact hz ▸ hy
theorem N4 {α β:Type} {f:α→Nat} {g:β→Nat}:∀(l:List α) (m:List β),l.length=m.length→(∀(i:Nat) (a:α) (b:β),l[i]? = some a→m[i]? = some b→f a=g b)→(l.map f).sum=(m.map g).sum
 | [],[],_,_=>rfl
 | [],b::m,h,_=>by simp at h
 | a::l,[],h,_=>by simp at h
 | a::l,b::m,h,hh=>by
  simp only [Dk,List.sum_cons]
  rw [hh 0 a b rfl rfl,N4 l m (by simpa using h) (fun i a b h1 h2=>hh (i+1) a b h1 h2)]

theorem mz {T:TypeId→Prop} (PT:PlainT P T) {W:World}:∀(n:Nat) (t:TypeId) (cs:List Value) (x:DataW H×List MemPlace),T t→DataW.trod enc P W 0 (fun _=>true) true n t cs=some x →
  ∃y,DRep P t x.1 y∧CRep W y cs∧cs.length=P.cellsOf t:=by
 intro n
 induction n with
 | zero=>intro t cs x _ h;simp [DataW.trod] at h
 | succ n ih =>
  intro t cs x hT h
  rcases PT.look t hT with ⟨hc1,⟨k,hu⟩|hu|hu|⟨e,hu,he,hz⟩⟩|⟨fs,hu,hf,hsum,hoff⟩
  ·obtain ⟨m,rfl,rfl,hw⟩:=DataW.trod_int hu h
   exact ⟨_,.int hu hw,.v1 rfl,hc1.symm⟩
  ·obtain ⟨b,rfl,rfl⟩:=DataW.trod_bool hu h
   exact ⟨_,.bool hu,.v1 rfl,hc1.symm⟩
  ·obtain ⟨s,rfl,rfl,_⟩:=DataW.trod_string hu h
   exact ⟨_,.str hu,.v1 rfl,hc1.symm⟩
  ·rcases DataW.trod_slice hu h with ⟨rfl,rfl⟩|⟨a,len,cap,elems,rest,m,hm,rfl,rfl,hb,hlc,hcm,hel,hE,_,_⟩
   ·refine ⟨_,.nil hu,⟨rfl,by simp [AV.cells,AV.one],fun j c v h1 h2=>?_⟩,hc1.symm⟩
    match j with
    | 0=>simp [AV.cells] at h1 h2;subst h1;subst h2;exact .slice0 _ _ _
    | j+1=>simp [AV.cells] at h1
   injection hm with hm
   subst hm
   subst hel
   have hEi:∀i,i<elems.length→∃y,(∀d,elems[i]? = some d→DRep P e d.1 y)∧∃ci,W.cells? 0 (a.add (i*P.cellsOf e)) (P.cellsOf e)=some ci∧CRep W y ci:=fun i hi=>by
    have h1:=hE i hi
    rw [Al hi,Option.bind_eq_some_iff] at h1
    obtain ⟨ci,h2,h3⟩:=h1
    obtain ⟨y,h4,h5,_⟩:=ih e ci _ he h3
    exact ⟨y,fun d hd=>by rw [Al hi] at hd;injection hd with hd;subst hd;exact h4,ci,h2,h5⟩
   obtain ⟨ys,hyl,hys⟩:=Lh elems.length hEi
   refine ⟨.slice false (P.cellsOf e) ys,.slice hu (by simp [hyl]) (fun i d y hd hy=>?_),⟨rfl,by simp [AV.cells,AV.one],fun j c v h1 h2=>?_⟩,hc1.symm⟩
   ·rw [Ce,Dp] at hd
    obtain ⟨d',hd',rfl⟩:=hd
    exact (hys i y hy).1 d' hd'
   match j with
   | j+1=>simp [AV.cells] at h1
   | 0 =>
    simp [AV.cells] at h1 h2
    subst h1;subst h2
    by_cases h0:elems.length=0
    ·have:ys=[]:=Oq (by omega)
     subst this
     rw [h0]
     exact .sliceE _ _ _ _
    have hspot:a.spot=none:=by
     obtain ⟨ci,hci,_⟩:=(hys 0 ys[0] (Al (by omega))).2
     obtain ⟨_,g1,g2⟩:=World.cells?_some hci
     have g3:=g2 0 hz
     rw [Al (by omega)] at g3
     simp only [Nat.zero_mul,Addr.add,if_true] at g3
     unfold World.cell? at g3
     split at g3
     ·split at g3
      ·cases g3
      rename_i hs;simpa using hs
     cases g3
    refine .slice _ false _ ys a _ cap (fun i j=>(W.cell? ⟨a.block,a.off+i*P.cellsOf e+j,none⟩).getD undef) hspot hyl.symm hlc (fun x hx=>?_) (fun x hx=>?_) (fun i x j y hx hy=>?_) (fun i x j y hx hy=>?_) (fun h=>by cases h)
    ·obtain ⟨i,hi⟩:=Cf hx
     obtain ⟨ci,hci,hcr⟩:=(hys i x hi).2
     rw [hcr.1]
     exact (World.cells?_some hci).2.1
    ·obtain ⟨i,hi⟩:=Cf hx
     obtain ⟨ci,hci,hcr⟩:=(hys i x hi).2
     exact hcr.2.1
    ·obtain ⟨ci,hci,hcr⟩:=(hys i x hx).2
     obtain ⟨_,g1,g2⟩:=World.cells?_some hci
     have hj:j<P.cellsOf e:=by
      have:=(Ae.1 hy).1
      rw [hcr.1] at this;omega
     have g3:=g2 j hj
     rw [Al (by omega),Cc hspot,Cc rfl] at g3
     exact ⟨vk g3,by rw [g3];rfl⟩
    obtain ⟨ci,hci,hcr⟩:=(hys i x hx).2
    obtain ⟨_,g1,g2⟩:=World.cells?_some hci
    have hj:j<P.cellsOf e:=by
     have:=(Ae.1 hy).1
     rw [hcr.1] at this;omega
    have g3:=g2 j hj
    rw [Al (by omega),Cc hspot,Cc rfl] at g3
    simp only at g3
    rw [g3]
    exact hcr.2.2 j y _ hy (Al (by omega))
  obtain ⟨xs,m,hm,rfl,hcl,hxl,hX⟩:=DataW.trod_struct hu h
  injection hm with hm
  subst hm
  have hXi:∀i,i<fs.size→∃y,∀(f:Field),fs[i]? = some f→(∀d,xs[i]? = some d→DRep P f.type d.1 y)∧CRep W y ((cs.drop f.offset).take (P.cellsOf f.type))∧y.cells.length=P.cellsOf f.type:=fun i hi=>by
   have h1:=hX i fs[i] (Ec hi)
   rw [Al (by omega)] at h1
   obtain ⟨y,h2,h3,h4⟩:=ih _ _ _ (hf _ (by simp)) h1
   refine ⟨y,fun f hf'=>?_⟩
   rw [Ec hi] at hf'
   injection hf' with hf'
   subst hf'
   exact ⟨fun d hd=>by rw [Al (by omega)] at hd;injection hd with hd;subst hd;exact h2,h3,by rw [h3.1,h4]⟩
  obtain ⟨ys,hyl,hys⟩:=Lh fs.size hXi
  have hlenI:∀(i:Nat),((ys.take i).map fun y=>y.cells.length).sum=((fs.toList.take i).map fun f=>P.cellsOf f.type).sum:=fun i=>by
   refine N4 _ _ (by simp [hyl]) (fun j y f h1 h2=>?_)
   rw [Ft] at h1 h2
   split at h1
   ·rename_i hj
    rw [if_pos hj] at h2
    exact (hys j y h1 f (by simpa using h2)).2.2
   cases h1
  have htot:(ys.flatMap AV.cells).length=cs.length:=by
   rw [List.length_flatMap,hcl,hsum]
   refine N4 _ _ (by simp [hyl]) (fun j y f h1 h2=>(hys j y h1 f (by simpa using h2)).2.2)
  refine ⟨.agg (ys.flatMap AV.cells),.struct hu (by simp [hxl]) hyl (fun i f d y hf' hd hy=>?_),⟨htot,fun c hc=>?_,fun j c v h1 h2=>?_⟩,hcl⟩
  ·rw [Ce,Dp] at hd
   obtain ⟨d',hd',rfl⟩:=hd
   exact (hys i y hy f hf').1 d' hd'
  ·obtain ⟨y,hy,hcy⟩:=List.mem_flatMap.1 hc
   obtain ⟨i,hi⟩:=Cf hy
   have hlt:i<fs.size:=by rw [←hyl];exact (Ae.1 hi).1
   exact ((hys i y hi fs[i] (Ec hlt)).2.1).2.1 c hcy
  obtain ⟨i,y,q,g1,g2,rfl⟩:=Yj ys j c h1
  have hlt:i<fs.size:=by rw [←hyl];exact (Ae.1 g1).1
  obtain ⟨_,k2,k3⟩:=hys i y g1 fs[i] (Ec hlt)
  have hq:q<P.cellsOf (fs[i]).type:=by have:=(Ae.1 g2).1;omega
  refine k2.2.2 q c v g2 ?_
  rw [Ft,if_pos hq,F8,hoff i fs[i] (by simp [hlt]),←hlenI i]
  exact h2

/-- A measure of data. -/
structure Bulk (B:DataW H→Nat):Prop where
 str:∀bs,bs.length≤B (.lit (.string bs))
 slice:∀elems spare,elems.length≤B (.slice elems spare)∧∀d∈elems,B d≤B (.slice elems spare)
 agg:∀parts,∀d∈parts,B d≤B (.agg parts)
theorem DRep.int' {t:TypeId} {k:IntKind} {d:DataW H} {y:AV} (hu:P.underlying t=some (.int k)) (h:DRep P t d y):∃n,d=.lit (.int k n)∧y=.v (.int k n)∧k.min≤n∧n≤k.max:=by
 cases h with
 | int hu' wf=>rw [hu] at hu';injection hu' with e;injection e with e;subst e;exact ⟨_,rfl,rfl,by simpa [Lit.wf] using wf⟩
 | _ hu'=>rw [hu] at hu';cases hu'
theorem DRep.str' {t:TypeId} {d:DataW H} {y:AV} (hu:P.underlying t=some .string) (h:DRep P t d y):∃s,d=.lit (.string s)∧y=.v (sv s):=by
 cases h with
 | str hu'=>exact ⟨_,rfl,rfl⟩
 | _ hu'=>rw [hu] at hu';cases hu'
theorem DRep.slice' {t e:TypeId} {d:DataW H} {y:AV} {B:DataW H→Nat} (hB:Bulk B) {α:Type} (A:α→AV) (R:α→Prop) {b:Nat} (hu:P.underlying t=some (.slice e)) (h:DRep P t d y) (hb:B d≤b)
  (hE:∀d y,B d≤b→DRep P e d y→∃x,y=A x∧R x):∃l:List α,y=.slice false (P.cellsOf e) (l.map A)∧l.length≤b∧∀x∈l,R x:=by
 cases h with
 | nil hu'=>rw [hu] at hu';injection hu' with e';injection e' with e';subst e';exact ⟨[],rfl,Bk _,fun x hx=>by cases hx⟩
 | slice hu' hn hh =>
  rw [hu] at hu';injection hu' with e';injection e' with e';subst e'
  rename_i elems spare ys
  obtain ⟨h1,h2⟩:=hB.slice elems spare
  have key:∀(ys:List AV) (es:List (DataW H)),ys.length=es.length→(∀d∈es,B d≤b)→(∀(i:Nat) (d:DataW H) (y:AV),es[i]? = some d→ys[i]? = some y→DRep P e d y)→∃l:List α,ys=l.map A∧∀x∈l,R x:=by
   intro ys
   induction ys with
   | nil=>exact fun es _ _ _=>⟨[],rfl,fun x hx=>by cases hx⟩
   | cons y ys ih =>
    intro es hl hb2 hr
    cases es with
    | nil=>simp at hl
    | cons d es =>
     obtain ⟨x,rfl,hx⟩:=hE d y (hb2 d (by simp)) (hr 0 d y rfl rfl)
     obtain ⟨l,rfl,hR⟩:=ih es (by simpa using hl) (fun d hd=>hb2 d (by simp [hd])) (fun i d y a c=>hr (i+1) d y a c)
     exact ⟨x::l,rfl,fun z hz=>by
      rcases By.1 hz with rfl|hz
      ·exact hx
      exact hR z hz⟩
  obtain ⟨l,rfl,hR⟩:=key ys elems hn (fun d hd=>Jz (h2 d hd) hb) hh
  exact ⟨l,rfl,by simp at hn;omega,hR⟩
 | _ hu'=>rw [hu] at hu';cases hu'
theorem DRep.struct' {t:TypeId} {fs:Array Field} {d:DataW H} {y:AV} {B:DataW H→Nat} (hB:Bulk B) (hu:P.underlying t=some (.struct fs)) (h:DRep P t d y):
  ∃ys:List AV,ys.length=fs.size∧y=.agg (ys.flatMap AV.cells)∧∀(i:Nat) (f:Field) (z:AV),fs[i]? = some f→ys[i]? = some z→∃d',B d'≤B d∧DRep P f.type d' z:=by
 cases h with
 | struct hu' hn hn' hh =>
  rw [hu] at hu';injection hu' with e';injection e' with e';subst e'
  rename_i parts ys
  refine ⟨ys,hn',rfl,fun i f z h1 h2=>?_⟩
  have hlt:i<parts.length:=by rw [hn];exact (M8.1 h1).1
  exact ⟨parts[i],hB.agg parts _ (Db hlt),hh i f parts[i] z h1 (Al hlt) h2⟩
 | _ hu'=>rw [hu] at hu';cases hu'

/-- An argument's reading. -/
theorem qv {T:TypeId→Prop} (PT:PlainT P T) {W:World} {t:TypeId} {v:Value} {d:DataW H} {ps:List MemPlace} {b0:Nat} (hT:T t) (hok:Value.okWide P W .any b0 t v) (h:DataW.Trod enc P W 0 (fun _=>true) true t v d ps):
  ∃y,DRep P t d y∧Rep (G0 W) W none y v:=by
 obtain ⟨n,hn⟩:=h
 obtain ⟨y,h1,h2,h3⟩:=mz PT n t _ _ hT hn
 refine ⟨y,h1,?_⟩
 rcases PT.look t hT with ⟨hc1,hone⟩|⟨fs,hu,_⟩
 ·have hva:∀cs,v≠.agg cs:=fun cs e=>by
   subst e
   rcases hone with ⟨k,hu⟩|hu|hu|⟨e,hu,he,hz⟩<;>simp [Value.okWide,hu,Cell.okWide,Cell.ok] at hok
  have hvc:v.cells=#[v]:=by cases v<;>first|rfl|exact absurd rfl (hva _)
  have hyc:y.cells=[y]:=by
   cases h1 with
   | struct hu=>rcases hone with ⟨k,hu'⟩|hu'|hu'|⟨e,hu',he,hz⟩<;>rw [hu] at hu'<;>cases hu'
   | _=>rfl
  have:=h2.2.2 0 y v (by rw [hyc];rfl) (by rw [hvc];rfl)
  exact this
 obtain ⟨cs,rfl,hsz,_⟩:∃cs,v=.agg cs∧cs.size=P.cellsOf t∧Row.okWide P W .any b0 t cs:=by
  simp only [Value.okWide,hu] at hok
  exact hok
 cases h1 with
 | struct hu' hn1 hn2 hh =>
  refine .agg _ _ _ (by have:=h2.1;simp only [AV.cells,Value.cells,Array.length_toList] at this;exact this.symm) h2.2.1 (fun i c u a b=>h2.2.2 i c u a (by simpa [Value.cells] using b))
 | int hu'=>rw [hu] at hu';cases hu'
 | bool hu'=>rw [hu] at hu';cases hu'
 | str hu'=>rw [hu] at hu';cases hu'
 | nil hu'=>rw [hu] at hu';cases hu'
 | slice hu'=>rw [hu] at hu';cases hu'

def DReps (P:Program):List TypeId→List (DataW H)→List AV→Prop
 | [],[],[]=>True
 | t::ts,d::ds,y::ys=>DRep P t d y∧DReps P ts ds ys
 | _,_,_=>False

theorem DReps.cons' {t:TypeId} {ts:List TypeId} {ds:List (DataW H)} {ys:List AV} (h:DReps P (t::ts) ds ys):∃d ds' y ys',ds=d::ds'∧ys=y::ys'∧DRep P t d y∧DReps P ts ds' ys':=by
 match ds,ys,h with
 | d::ds',y::ys',⟨h1,h2⟩=>exact ⟨d,ds',y,ys',rfl,rfl,h1,h2⟩
 | [],_,h=>simp [DReps] at h
 | _::_,[],h=>simp [DReps] at h
theorem DReps.nil' {ds:List (DataW H)} {ys:List AV} (h:DReps P [] ds ys):ds=[]∧ys=[]:=by
 match ds,ys,h with
 | [],[],_=>exact ⟨rfl,rfl⟩
 | [],_::_,h=>simp [DReps] at h
 | _::_,_,h=>simp [DReps] at h
theorem Uy {T:TypeId→Prop} (PT:PlainT P T) {W:World} {b0:Nat}:∀(ts:List TypeId) (vs:List Value) (ds:List (DataW H)) (ps:List MemPlace),(∀t∈ts,T t) →
  (∀(j:Nat) t v,ts[j]? = some t→vs[j]? = some v→Value.okWide P W .any b0 t v)→DataW.TrodAll enc P W 0 (fun _=>true) true ts vs ds ps →
  ∃ys,DReps P ts ds ys∧ys.length=vs.length∧∀(i:Nat) (y:AV) (u:Value),ys[i]? = some y→vs[i]? = some u→Rep (G0 W) W none y u
 | [],[],[],_,_,_,_=>⟨[],trivial,rfl,fun i y u h=>by simp at h⟩
 | t::ts,v::vs,d::ds,ps,hT,hok,⟨p,q,h1,h2,_⟩=>by
  obtain ⟨y,k1,k2⟩:=qv PT (hT t (by simp)) (hok 0 t v rfl rfl) h1
  obtain ⟨ys,k3,k4,k5⟩:=Uy PT ts vs ds q (fun t ht=>hT t (by simp [ht])) (fun j t v a b=>hok (j+1) t v a b) h2
  refine ⟨y::ys,⟨k1,k3⟩,by simp [k4],fun i z u a b=>?_⟩
  match i with
  | 0=>simp at a b;subst a;subst b;exact k2
  | i+1=>exact k5 i z u a b
 | [],_::_,_,_,_,_,h=>by simp [DataW.TrodAll] at h
 | [],[],_::_,_,_,_,h=>by simp [DataW.TrodAll] at h
 | _::_,[],_,_,_,_,h=>by simp [DataW.TrodAll] at h
 | _::_,_::_,[],_,_,_,h=>by simp [DataW.TrodAll] at h

theorem Qa {W:World} {sp:Nat→Bool} {hd:Bool}:∀{ts:List TypeId} {vs:List Value} {ds:List (DataW H)} {ps:List MemPlace},DataW.TrodAll enc P W 0 sp hd ts vs ds ps→ds.length=ts.length
 | [],[],[],_,_=>rfl
 | _::_,_::_,_::_,_,⟨_,_,_,h,_⟩=>by rw [Ay,Ay,Qa h]
 | [],_::_,_,_,h=>by simp [DataW.TrodAll] at h
 | [],[],_::_,_,h=>by simp [DataW.TrodAll] at h
 | _::_,[],_,_,h=>by simp [DataW.TrodAll] at h
 | _::_,_::_,[],_,h=>by simp [DataW.TrodAll] at h
theorem Li {W W':World} {sp:Nat→Bool}:∀{ts:List TypeId} {vs:List Value} {ds:List (DataW H)} {ps:List MemPlace},DataW.TrodAll enc P W 0 sp true ts vs ds ps→(∀p∈ps,W.sameAt W' p)→DataW.TrodAll enc P W' 0 sp true ts vs ds ps
 | [],[],[],_,h,_=>h
 | _::_,_::_,_::_,_,⟨p,q,⟨n,hn⟩,h2,e⟩,hs=>⟨p,q,⟨n,DataW.trod_carry n _ _ _ hn (fun x hx=>hs x (by rw [e];exact dc _ hx))⟩,Li h2 (fun x hx=>hs x (by rw [e];exact Nk _ hx)),e⟩
 | [],_::_,_,_,h,_=>by simp [DataW.TrodAll] at h
 | [],[],_::_,_,h,_=>by simp [DataW.TrodAll] at h
 | _::_,[],_,_,h,_=>by simp [DataW.TrodAll] at h
 | _::_,_::_,[],_,h,_=>by simp [DataW.TrodAll] at h

/-- **A law that answers true, for whatever can be read.** -/
theorem j7 {f:FuncId} {fn:Func} {s:ChangeSpec} {T:TypeId→Prop} {tb:TypeId} {W:World} {base:Nat} {args:Array Value} {ds gs:List (DataW H)} {before:List MemPlace} (K:Kids P (·<P.types.size)) (hz:∀t e,t<P.types.size→P.underlying t=some (.slice e)→0<P.cellsOf e)
  (PT:PlainT P T) (hT:∀t∈fn.params.toList,T t∧t<P.types.size) (hb:P.underlying tb=some .bool) (hres:fn.resultTypes=#[tb]) (hvars:s.vars=[])
  (hspec:∀ds:List (DataW H),ds.length=fn.params.size→s.fn H ds={ results:=[.lit (.bool true)],args:=ds })
  (hval:∀(j:Nat) t v,fn.params[j]? = some t→args[j]? = some v→Value.okWide P W .any base t v) (hW:DataW.Whole enc P fn.params.toList s.vars false W args.toList ds gs before)
  (hglob:Io W)
  (main:∀ys:List AV,DReps P fn.params.toList ds ys→AFun P f ys [] (.v (.bool true))) (hbd:GI.bd≤0:=by exact An 0):
  Calls P f args W (fun e W'=>∃v,e=.returned v∧s.post enc P fn false true false false W args v W'):=by
 have hW0:=hW
 obtain ⟨p,q,hA,hV,hpq,hfz,hnd⟩:=hW
 rw [hvars] at hV
 obtain ⟨rfl,rfl⟩:=trodVars_none hV
 rw [Hu] at hpq
 subst hpq
 obtain ⟨ys,h1,h2,h3⟩:=Uy PT _ _ _ _ (fun t ht=>(hT t ht).1) (fun j t v a b=>hval j t v (by simpa using a) (by simpa using b)) hA
 have hlen:=Qa hA
 have hc:=main ys h1 0 (G0 W) W args (by simpa using h2.symm) (fun i y u a b=>(h3 i y u a (by simpa using b)).lift) (qt W) (qu hglob)
 refine (callsIn_wide.1 (hc hbd)).mono ?_
 rintro e W' ⟨v,G',r,H',rfl,hr,hH,hTg,hk,hl,rfl,rfl⟩
 have hv:=Kx hr
 subst hv
 refine ⟨_,rfl,ds,[],before,[],before,[],hW0,?_,?_,?_,?_,fun h=>by cases h⟩
 ·rw [hres,Hu,hspec ds (by simpa using hlen)]
  exact trodAll_cons_mk (p:=[]) (shut_bool hb true) trodAll_mk0
 ·rw [Hu,hspec ds (by simpa using hlen)]
  refine Li (DataW.TrodAll.respare K hz (fun t ht=>(hT t ht).2) hA (fun p hp=>by simpa using hW0.lt p hp)) (fun p hp=>?_)
  have hlt:=hW0.lt p hp
  have hb:=(hk.old _ (Pf hlt)).1
  cases p with
  | cell b o=>exact Ds hb
  | map b=>exact hb
 ·rw [hvars,Hu,hspec ds (by simpa using hlen)]
  rfl
 refine ⟨hk.os,hk.output,fun i hi=>?_⟩
 have hb:=(hk.old i (Pf hi)).1
 rw [hb]
 cases ho:W.heap[i]? with
 | none=>simp
 | some o=>cases o<;>simp
end
end Go.SX
namespace Go.Proofs.YtofbdcbjpdpllaaGreatDoor
open Go Go.SX Go.SX.Nb Go.ChangeShapes Go.RowKit
set_option maxRecDepth 100000

theorem own:ownKnob Tryz.prog.godebug=none:=by kernel_rfl
theorem kids:Kids Tryz.prog (·<Tryz.prog.types.size):=kids_rows (by kernel_rfl) (by kernel_rfl)
theorem full:∀t e,t<Tryz.prog.types.size→Tryz.prog.underlying t=some (.slice e)→0<Tryz.prog.cellsOf e:=slices_full_of Tryz.prog (by kernel_rfl)
theorem n5 {H:Type}:∀d:DataW H,1≤Rows.uptoBulk d
 | .lit (.string b)=>by rw [Rows.uptoBulk];omega
 | .lit (.bool _)=>by simp [Rows.uptoBulk]
 | .lit (.int _ _)=>by simp [Rows.uptoBulk]
 | .lit (.float _ _)=>by simp [Rows.uptoBulk]
 | .lit .nil=>by simp [Rows.uptoBulk]
 | .nil=>by simp [Rows.uptoBulk]
 | .ptr d=>by rw [Rows.uptoBulk];omega
 | .slice a b=>by rw [Rows.uptoBulk];omega
 | .agg a=>by rw [Rows.uptoBulk];omega
 | .iface _ d=>by rw [Rows.uptoBulk];omega
 | .map a=>by rw [Rows.uptoBulk];omega
 | .held _=>by simp [Rows.uptoBulk]
theorem Sr {H:Type}:∀l:List (DataW H),l.length≤Rows.uptoBulkAll l∧∀d∈l,Rows.uptoBulk d≤Rows.uptoBulkAll l
 | []=>⟨Nat.zero_le _,fun d h=>by cases h⟩
 | d::r=>by
  obtain ⟨h1,h2⟩:=Sr r
  have:=n5 d
  rw [Rows.uptoBulkAll,List.length_cons]
  refine ⟨by omega,fun x hx=>?_⟩
  rcases List.mem_cons.1 hx with rfl|hx
  ·omega
  have:=h2 x hx;omega
theorem qw {H:Type}:Bulk (Rows.uptoBulk (H:=H)) where
 str:=fun bs=>by rw [Rows.uptoBulk];omega
 slice:=fun elems spare=>by
  obtain ⟨h1,h2⟩:=Sr elems
  rw [Rows.uptoBulk]
  exact ⟨by omega,fun d hd=>by have:=h2 d hd;omega⟩
 agg:=fun parts d hd=>by
  have:=(Sr parts).2 d hd
  rw [Rows.uptoBulk]
  omega

/-- What the rows of this seat list. -/
def n6:List (String×DataW Unit):=Rows.invertComesUptoRow.laid
theorem j8:∀u,Tryz.prog.typeName? 3 u=some "*errors.errorString" → u=347:=by
 intro u hu
 exact typeName_ptr_named (nm := "errors.errorString") (by kernel_rfl) (by kernel_rfl) (by decide) u hu
theorem qx {W:World} (h:laidMet Tryz.prog n6 W):∃a:Addr,W.var? Tryz.prog "strconv.ErrRange" = some #[.iface 347 (.pointer (some a))]:=by
 have h':=h.tail.tail.tail.tail
 obtain ⟨a,s,h1,_⟩:=laid_sentinel (g:=1) (ti:=175) (tp:=347) (te:=349) (ts:=9) h' (by kernel_rfl) (by kernel_rfl) Tryz.underlying175 j8 Tryz.underlying347 Tryz.underlying349 rfl rfl Tryz.underlying9 (by kernel_rfl) (by kernel_rfl)
 exact ⟨a,h1⟩
theorem qy {W:World} (h:laidMet Tryz.prog n6 W):Lib.TabIs Tryz.prog W "internal/strconv.uint64pow10" .u64 Lib.pow10Tab:=
 Lib.tabIs_of_head (g:=4) (t:=315) (e:=233) (n:=20) (by kernel_rfl) (by kernel_rfl) (by kernel_rfl) (by kernel_rfl) (by kernel_rfl) (by kernel_rfl) h.tail.tail
theorem Uz {P:Program} {W:World} {n:String} {g:Nat} {cs:Array Value} (hg:P.globalNamed n=some g) (h:W.var? P n=some cs):∃t f,W.heap[g]? = some (.cells cs t f):=by
 unfold World.var? at h
 rw [hg] at h
 simp only [Option.bind_some] at h
 split at h
 ·rename_i cs' t f e
  injection h with h
  subst h
  exact ⟨t,f,e⟩
 cases h
theorem glob {W:World} [E:ErrAt] (h:W.ShapedOpen Tryz.prog) (hl:laidMet Tryz.prog n6 W) (he:W.var? Tryz.prog "strconv.ErrRange" = some #[.iface 347 (.pointer (some E.b))]):Io W:=by
 intro x hx
 have hx':x∈Ul:=hx
 unfold Ul at hx'
 simp only [List.mem_cons,List.mem_nil_iff,or_false] at hx'
 rcases hx' with rfl|rfl|rfl
 ·obtain ⟨m,hm⟩:=cell_of_shapedOpen_int (g:=0) (t:=3) (zero:=#[.int .i64 0]) (k:=.i64) h (of_decide_eq_true (by kernel_rfl)) (by kernel_rfl) rfl (by kernel_rfl) (by kernel_rfl) Tryz.underlying3
  obtain ⟨cs,hh,hs,_⟩:=h.1 0 #[.int .i64 0] 3 (of_decide_eq_true (by kernel_rfl)) (by kernel_rfl)
  have hs':cs.size=1:=hs
  have h1:0<cs.size:=by omega
  have hc:cs[0]=.int .i64 m:=by
   simp [World.cell?,hh,h1] at hm
   exact hm
  have:cs=#[.int .i64 m]:=by
   apply Array.ext
   ·simpa using hs'
   intro i h1 h2
   have:i=0:=by omega
   subst this
   simpa using hc
  rw [this] at hh
  exact ⟨_,hh,m,3,_,rfl⟩
 ·obtain ⟨t,f,e⟩:=Uz (g:=1) (by kernel_rfl) he
  exact ⟨_,e,t,f,rfl⟩
 obtain ⟨t,f,e⟩:=Uz (g:=4) (by kernel_rfl) (qy hl)
 exact ⟨_,e,t,f,rfl⟩
end Go.Proofs.YtofbdcbjpdpllaaGreatDoor
namespace Go.SX.Nb
open Go Go.SX Go.Proofs
variable [ErrAt]
set_option maxRecDepth 4000
mutual
def depthE:Expr→Nat
 | .mk _ _ _ k=>Ea k+1
def Ea:List Expr→Nat
  | []=>0
  | e::r=>max (depthE e) (Ea r)
 end
mutual
def B9 (p:Expr→Bool):Expr→Bool
 | .mk o t v k=>p (.mk o t v k)&&Jm p k
def Jm (p:Expr→Bool):List Expr→Bool
  | []=>true
  | e::r=>B9 p e&&Jm p r
 end
mutual
def N5:Expr→List Expr
 | .mk o t v k=>.mk o t v k::Pg k
def Pg:List Expr→List Expr
  | []=>[]
  | e::r=>N5 e++Pg r
 end
theorem Jn (e:Expr):depthE e=Ea e.kids+1:=by cases e;rfl
theorem Cj (p:Expr→Bool) (e:Expr):B9 p e=(p e&&Jm p e.kids):=by cases e;rfl
theorem O0:∀a b,C2 (a++b)=C2 a+C2 b
 | [],b=>by rw [Dz,C2,Bu]
 | e::r,b=>by rw [E0,C2,C2,O0 r b,Iy]
theorem Ba (p:Expr→Bool):∀l:List Expr,Jm p l=true↔∀y∈l,B9 p y=true
 | []=>by simp [Jm]
 | e::r=>by rw [Jm,Ak,Ba p r];simp
mutual
theorem Eu:∀(d:Int) (e:Expr),(B1 d e).length=sizeE e
 | d,.mk o t v k=>by rw [B1,sizeE,Ay,Ss (d+1) k,Nat.add_comm]
theorem Ss:∀(d:Int) (l:List Expr),(Bc d l).length=C2 l
  | d,[]=>rfl
  | d,e::r=>by rw [Bc,C2,As,Eu d e,Ss d r]
 end
mutual
theorem N6:∀(d:Int) (e:Expr),(B1 d e).map (·.2)=N5 e
 | d,.mk o t v k=>by rw [B1,N5,Dk,Su (d+1) k]
theorem Su:∀(d:Int) (l:List Expr),(Bc d l).map (·.2)=Pg l
  | d,[]=>rfl
  | d,e::r=>by rw [Bc,Pg,G7,N6 d e,Su d r]
 end
mutual
theorem V0 (p:Expr→Bool):∀e:Expr,(N5 e).all p=B9 p e
 | .mk o t v k=>by rw [N5,B9,List.all_cons,Sv p k]
theorem Sv (p:Expr→Bool):∀l:List Expr,(Pg l).all p=Jm p l
  | []=>rfl
  | e::r=>by rw [Pg,Jm,List.all_append,V0 p e,Sv p r]
 end
theorem j9 (p:Expr→Bool) (d:Int) (e:Expr):((B1 d e).all fun it=>p it.2)=B9 p e:=by
 rw [←V0 p e,←N6 d e,List.all_map]
 rfl
def Ej (m:Int) (L:List (Int×Expr)):Int:=L.foldl (fun m it=>max m it.1) m
mutual
theorem Sw:∀(d m:Int) (e:Expr),Ej m (B1 d e)=max m (d-1+depthE e)
 | d,m,.mk o t v k=>by
  rw [B1,depthE]
  show Ej (max m d) (Bc (d+1) k)=_
  rw [Sx (d+1) (max m d) k (by omega)]
  omega
theorem Sx:∀(d m:Int) (l:List Expr),d-1≤m→Ej m (Bc d l)=max m (d-1+Ea l)
  | d,m,[],h=>by
    rw [Bc,Ea]
    show m=_
    omega
  | d,m,e::r,h=>by
    rw [Bc,Ea]
    unfold Ej
    rw [Vq]
    show Ej (Ej m (B1 d e)) (Bc d r)=_
    rw [Sw d m e,Sx d _ r (by omega)]
    omega
 end
theorem Qb (e:Expr):Ej 0 (B1 1 e)=depthE e:=by rw [Sw];omega
theorem Yk:∀(L:List (Int×Expr)) (m b:Int),m≤b→(Ej m L≤b↔∀it∈L,it.1≤b)
 | [],m,b,h=>by simp [Ej,h]
 | it::r,m,b,h=>by
  show Ej (max m it.1) r≤b↔_
  rcases Decidable.em (it.1≤b) with h1|h1
  ·rw [Yk r (max m it.1) b (by omega)]
   simp [h1]
  constructor
  ·intro h2
   have:∀(r:List (Int×Expr)) (m:Int),m≤Ej m r:=by
    intro r
    induction r with
    | nil=>intro m;exact Int.le_refl _
    | cons a r ih=>intro m;have:=ih (max m a.1);show m≤Ej (max m a.1) r;omega
   have:=this r (max m it.1)
   omega
  intro h2
  exact absurd (h2 it (by simp)) h1
theorem qz (e:Expr) {b:Nat}:(∀it∈B1 1 e,it.1≤(b:Int))↔depthE e≤b:=by
 rw [←Yk (B1 1 e) 0 b (by omega),Qb]
 omega
def Eg (e:Expr):Bool:=(decide (depthE e≤30)&&decide (sizeE e≤300))&&B9 C1 e
theorem E6 (e:Expr):Au e=Eg e:=by
 have hpos:1≤sizeE e:=by rw [Fi];omega
 rw [Rf]
 unfold Au Eg
 rw [B2]
 simp only [Ak,decide_eq_true_eq,Jy,Eu]
 rw [←qz e,←j9 C1 1 e,B2]
 constructor
 ·intro h
  have key:∀(k:Nat) (hk:k<(B1 1 e).length),C1 (B1 1 e)[k].2=true∧(B1 1 e)[k].1≤30∧(k:Int)+1≤300:=fun k hk=>by
   have:=h k (by rw [Eu] at hk;exact hk)
   rw [Ws (Al hk)] at this
   simp only [Ju,F7,Ja,decide_eq_false_iff_not] at this
   exact ⟨this.1.1,by have:=this.1.2;omega,by have:=this.2;omega⟩
  refine ⟨⟨fun it hit=>?_,?_⟩,fun it hit=>?_⟩
  ·obtain ⟨k,hk,rfl⟩:=Rl hit
   exact (key k hk).2.1
  ·have:=(key (sizeE e-1) (by rw [Eu];omega)).2.2
   omega
  obtain ⟨k,hk,rfl⟩:=Rl hit
  exact (key k hk).1
 rintro ⟨⟨h1,h2⟩,h3⟩ k hk
 have hk':k<(B1 1 e).length:=by rw [Eu];exact hk
 rw [Ws (Al hk')]
 have a1:=h1 _ (Db hk')
 have a3:=h3 _ (Db hk')
 have a3':C1 (B1 1 e)[k].2=true:=a3
 rw [a3']
 simp only [Ju,F7,Ib,decide_eq_false_iff_not]
 exact ⟨⟨trivial,by have:(B1 1 e)[k].1≤(30:Int):=a1;omega⟩,by omega⟩
/-- Its number is one of 64 bits. -/
def Cg (e:Expr):Bool:=decide (-9223372036854775808≤e.val.n)&&decide (e.val.n≤9223372036854775807)
/-! Names. -/
def Hg (l:List Str) (e:Expr):List Str:=if (e.op==2) && !l.contains e.text then l++[e.text] else l
def Ka (e:Expr):List Str:=(N5 e).foldl Hg []
theorem Yl (e:Expr):Ka e=(B1 1 e).foldl (fun l it=>Hg l it.2) []:=by
 unfold Ka
 rw [←N6 1 e,List.foldl_map]
def named (s:Str) (e:Expr):Bool:=(N5 e).any fun y=>(y.op==2)&&(y.text==s)
theorem r6 (l:List Str) (e:Expr):(Hg l e).length≤l.length+1:=by
 unfold Hg;split<;>simp
theorem Ym:∀(L:List Expr) (l:List Str),(L.foldl Hg l).length≤l.length+L.length
 | [],l=>by simp
 | e::r,l=>by
  have h1:=Ym r (Hg l e)
  have h2:=r6 l e
  rw [List.foldl_cons,Ay]
  omega
mutual
def vl (s:Str) (y:Expr):Expr→Expr
 | .mk o t v k=>if (o==2)&&(t==s) then y else .mk o t v (r7 s y k)
def r7 (s:Str) (y:Expr):List Expr→List Expr
  | []=>[]
  | e::r=>vl s y e::r7 s y r
 end
/-! A node by itself, and marks. -/
theorem Wx {of:Str} {ws:List Str} (h:of=Lg ws) (hp:∀w∈ws,(32:UInt8)∉w) (s:Str):Lx s of=(!(s==[])&&ws.contains s):=by
 unfold Lx
 rw [Yi]
 cases hb:s.contains 32 with
 | false =>
  have h2:(32:UInt8)∉s:=by simpa using hb
  rw [h,Iq s h2 ws hp,Bool.not_false,Vl]
  congr 1
  rw [List.contains_eq_any_beq]
  congr 1
  funext w
  rw [Rf,beq_iff_eq,beq_iff_eq]
  exact eq_comm
 | true =>
  have h2:(32:UInt8)∈s:=by simpa using hb
  have h3:ws.contains s=false:=by
   rw [Ol]
   intro h4
   exact hp s (by simpa using h4) h2
  rw [h3]
  simp
def levels:List (List Str):=[[[111,114]],[[97,110,100]],[],[[61],[33,61],[60],[60,61],[62],[62,61]],[[43],[45],[38]],[[42],[47],[37]]]
def Bj (s:Str):Int:=match levels.findIdx? (fun l=>l.contains s) with|some i=>i|none => -1
def Ph:List Str:=[[111,114],[],[97,110,100],[],[61],[33,61],[60],[60,61],[62],[62,61],[],[43],[45],[38],[],[42],[47],[37]]
theorem ce:Ly=Lg Ph:=by kernel_rfl
theorem Yn:∀w∈Ph,(32:UInt8)∉w:=by decide
theorem cf (s:Str):Lx s Ly=decide (0≤Bj s):=by
 rw [Wx ce Yn s]
 have h1:decide (0≤Bj s)=levels.any (fun l=>l.contains s):=by
  unfold Bj
  cases h:levels.findIdx? (fun l=>l.contains s) with
  | some i =>
   have:levels.any (fun l=>l.contains s)=true:=by
    have:=Ri.1 h
    obtain ⟨hi,hp,_⟩:=this
    exact Jv.2 ⟨_,Db hi,hp⟩
   rw [this]
   simp
  | none =>
   have:=Rh.1 h
   have e:levels.any (fun l=>l.contains s)=false:=by
    rw [Om]
    intro l hl
    rw [this l hl]
    simp
   rw [e]
   rfl
 rw [h1]
 by_cases h0:s=[]
 ·subst h0;rfl
 have:(s==[])=false:=by simpa using h0
 rw [this,Bool.not_false,Mj]
 simp [levels,Ph,h0,Bool.or_assoc]
def O1 (e:Expr):Bool:=
 if e.op==1 then ((C9 e.val&&decide (0≤e.val.n))&&(e.text==[]))&&((e.kids.length:Int)==0)
 else if !(Kl e.val) then false
 else if e.op==2 then J3 e.text&&((e.kids.length:Int)==0)
 else if e.op==3 || e.op==4 then (e.text==[])&&((e.kids.length:Int)==1)
 else if e.op==5 then decide (0≤Bj e.text)&&((e.kids.length:Int)==2)
 else if e.op==6 then Bx e.text==(e.kids.length:Int)
 else false
theorem Gs (e:Expr):C1 e=O1 e:=by
 unfold C1 O1
 rw [cf,Et]
 cases Kl e.val<;>simp
/-! What is wide. -/
def Pi (e:Expr):Bool:=((decide ((100:Int)<e.text.length) || decide ((400:Int)<e.val.s.length)) || decide ((100:Int)<e.kids.length))
/-- Among trees, when n have been seen: is one too much? -/
def Md (l:List Expr) (n:Nat):Bool:=decide (500<n+l.length) || l.any Pi
def Fx:Nat→List Expr→Nat→Bool
 | 0,l,n => !l.isEmpty
 | f+1,l,n=>if l.isEmpty then false else if Md l n then true else if decide ((500:Int)<(l.flatMap Expr.kids).length) then true else Fx f (l.flatMap Expr.kids) (n+l.length)
theorem Sy:∀l:List Expr,C2 l=l.length+C2 (l.flatMap Expr.kids)
 | []=>rfl
 | e::r=>by
  rw [C2,Fi,Rj,O0,Sy r,Ay]
  omega
theorem Sz {l:List Expr} {n:Nat} (h:Md l n=false):n+l.length≤500∧∀e∈l,Pi e=false:=by
 unfold Md at h
 simp only [F7,decide_eq_false_iff_not,Om,Vn] at h
 exact ⟨by omega,h.2⟩
theorem Wy {e:Expr} (h:Pi e=false):e.text.length≤100∧e.val.s.length≤400∧e.kids.length≤100:=by
 unfold Pi at h
 simp only [F7,decide_eq_false_iff_not] at h
 omega
theorem V1 {f:Nat} {l:List Expr} {n:Nat} (h:Fx (f+1) l n=false) (hl:l.isEmpty=false):Md l n=false∧(l.flatMap Expr.kids).length≤500∧Fx f (l.flatMap Expr.kids) (n+l.length)=false:=by
 rw [Fx,if_neg (by rw [hl];simp)] at h
 split at h
 ·cases h
 rename_i h1
 split at h
 ·cases h
 rename_i h2
 simp only [decide_eq_true_eq] at h2
 exact ⟨by simpa using h1,by omega,h⟩
theorem dz:∀(f:Nat) (l:List Expr) (n:Nat),Fx f l n=false→∀e∈l,okE f e∧B9 (fun y => !Pi y) e=true
 | 0,l,n,h,e,he=>by
  have:l=[]:=by simpa [Fx] using h
  subst this
  cases he
 | f+1,l,n,h,e,he=>by
  have hl:l.isEmpty=false:=by cases l<;>simp_all
  obtain ⟨h1,h2,h3⟩:=V1 h hl
  have h4:=Wy ((Sz h1).2 e he)
  have ih:=dz f _ _ h3
  have hk:∀y∈e.kids,okE f y∧B9 (fun y => !Pi y) y=true:=fun y hy=>ih y (List.mem_flatMap.2 ⟨e,he,hy⟩)
  refine ⟨⟨by omega,by omega,fun y hy=>(hk y hy).1⟩,?_⟩
  rw [Cj,(Sz h1).2 e he,(Ba _ _).2 fun y hy=>(hk y hy).2]
  rfl
theorem V2:∀(f:Nat) (l:List Expr) (n:Nat),n≤500→Fx f l n=false→n+C2 l≤500
 | 0,l,n,hn,h=>by
  have:l=[]:=by simpa [Fx] using h
  subst this
  simpa [C2] using hn
 | f+1,l,n,hn,h=>by
  by_cases hl:l.isEmpty=true
  ·have:l=[]:=by simpa using hl
   subst this
   simpa [C2] using hn
  have hl':l.isEmpty=false:=by simpa using hl
  obtain ⟨h1,h2,h3⟩:=V1 h hl'
  have:=V2 f _ _ (Sz h1).1 h3
  rw [Sy l]
  omega
def n7 (e:Expr):Bool:=Fx 61 [e] 0
/-- A tree that is gone through. -/
structure Slim (e:Expr):Prop where
 ok:okE 61 e
 size:sizeE e≤500
 slim:B9 (fun y => !Pi y) e=true
theorem r8 {e:Expr} (h:n7 e=false):Slim e:=by
 obtain ⟨h1,h2⟩:=dz _ _ _ h e (by simp)
 have:=V2 _ _ _ (by decide) h
 exact ⟨h1,by simpa [C2] using this,h2⟩
end Go.SX.Nb
namespace Go.Proofs.YtofbdcbjpdpllaaGreatDoor
open Go Go.SX Go.SX.Nb Go.ChangeShapes Go.RowKit
set_option maxRecDepth 100000
theorem cg {ys:List AV} (h:∀(i:Nat) (y:AV),ys[i]? = some y→∃e:Nb.Expr,y=Aa e∧B9 Cg e=true):∃l:List Nb.Expr,ys=l.map Aa∧Jm Cg l=true:=by
 induction ys with
 | nil=>exact ⟨[],rfl,rfl⟩
 | cons y ys ih =>
  obtain ⟨e,rfl,he⟩:=h 0 y rfl
  obtain ⟨l,rfl,hl⟩:=ih (fun i z hz=>h (i+1) z hz)
  exact ⟨e::l,rfl,by rw [Jm,he,hl];rfl⟩
theorem ea {H:Type} [ErrAt] (d:DataW H) (y:AV) (h:DRep Tryz.prog 23 d y):∃v:Val,y=Bq v ∧ -9223372036854775808≤v.n∧v.n≤9223372036854775807:=by
 obtain ⟨ys,hn,rfl,hh⟩:=h.struct' qw Tryz.underlying23
 match ys,hn with
 | [y0,y1,y2],_ =>
  obtain ⟨d0,b0,h0⟩:=hh 0 _ y0 rfl rfl
  obtain ⟨d1,b1,h1⟩:=hh 1 _ y1 rfl rfl
  obtain ⟨d2,b2,h2⟩:=hh 2 _ y2 rfl rfl
  obtain ⟨k,rfl,rfl,_⟩:=h0.int' Tryz.underlying3
  obtain ⟨n,rfl,rfl,hn1,hn2⟩:=h1.int' Tryz.underlying2
  obtain ⟨s,rfl,rfl⟩:=h2.str' Tryz.underlying9
  exact ⟨⟨k,n,s⟩,rfl,hn1,hn2⟩
theorem n8 {H:Type} [ErrAt] {t:TypeId} {d:DataW H} {y:AV} (h:DRep Tryz.prog t d y):(t=26→∃e:Nb.Expr,y=Aa e∧B9 Cg e=true)∧(t=24→∃l:List Nb.Expr,y=.slice false 6 (l.map Aa)∧Jm Cg l=true):=by
 induction h with
 | int hu _=>exact ⟨fun e=>(by subst e;rw [Tryz.underlying26] at hu;cases hu),fun e=>by subst e;rw [Tryz.underlying24] at hu;cases hu⟩
 | bool hu=>exact ⟨fun e=>(by subst e;rw [Tryz.underlying26] at hu;cases hu),fun e=>by subst e;rw [Tryz.underlying24] at hu;cases hu⟩
 | str hu=>exact ⟨fun e=>(by subst e;rw [Tryz.underlying26] at hu;cases hu),fun e=>by subst e;rw [Tryz.underlying24] at hu;cases hu⟩
 | nil hu =>
  refine ⟨fun e=>(by subst e;rw [Tryz.underlying26] at hu;cases hu),fun e=>?_⟩
  subst e
  rw [Tryz.underlying24] at hu
  injection hu with hu
  injection hu with hu
  subst hu
  exact ⟨[],by rw [show Tryz.prog.cellsOf 26=6 by kernel_rfl];rfl,rfl⟩
 | slice hu hn hh ih =>
  refine ⟨fun e=>(by subst e;rw [Tryz.underlying26] at hu;cases hu),fun e=>?_⟩
  subst e
  rw [Tryz.underlying24] at hu
  injection hu with hu
  injection hu with hu
  subst hu
  rename_i elems spare ys
  obtain ⟨l,rfl,hl⟩:=cg (ys:=ys) (fun i y hy=>by
   have hlt:i<elems.length:=by rw [←hn];exact (List.getElem?_eq_some_iff.1 hy).1
   exact (ih i elems[i] y (List.getElem?_eq_getElem hlt) hy).1 rfl)
  exact ⟨l,by rw [show Tryz.prog.cellsOf 26=6 by kernel_rfl],hl⟩
 | struct hu hn hn' hh ih =>
  refine ⟨fun e=>?_,fun e=>by subst e;rw [Tryz.underlying24] at hu;cases hu⟩
  subst e
  rw [Tryz.underlying26] at hu
  injection hu with hu
  injection hu with hu
  subst hu
  rename_i parts ys
  match parts,hn,ys,hn' with
  | [p0,p1,p2,p3],_,[y0,y1,y2,y3],_ =>
   obtain ⟨o,rfl,rfl,_⟩:=(hh 0 _ p0 y0 rfl rfl rfl).int' Tryz.underlying3
   obtain ⟨s,rfl,rfl⟩:=(hh 1 _ p1 y1 rfl rfl rfl).str' Tryz.underlying9
   obtain ⟨v,rfl,hv1,hv2⟩:=ea p2 y2 (hh 2 _ p2 y2 rfl rfl rfl)
   obtain ⟨l,rfl,hl⟩:=(ih 3 _ p3 y3 rfl rfl rfl).2 rfl
   refine ⟨.mk o s v l,?_,?_⟩
   ·rw [Ad];rfl
   rw [B9,hl,Bool.and_true]
   show (decide (-9223372036854775808≤v.n)&&decide (v.n≤9223372036854775807))=true
   simp [hv1,hv2]
theorem n9 {H:Type} [ErrAt] (d:DataW H) (y:AV) (h:DRep Tryz.prog 26 d y):∃e:Nb.Expr,y=Aa e∧B9 Cg e=true:=(n8 h).1 rfl
end Go.Proofs.YtofbdcbjpdpllaaGreatDoor
namespace Go.SX.Nb
open Go Go.SX Go.Proofs
variable [ErrAt]
set_option maxRecDepth 4000
/-- The lexer from a place between two words on. -/
def AAt (f q:Nat) (s:Str):List (Tok×Int):=H7 f (q+gapM s) (s.drop (gapM s))
theorem Yo {f q:Nat} {s:Str} (h:s≠[]):∃(n:Nat),H7 (f+1) q s=(⟨(C3 s).1,(C3 s).2.1,q⟩,(C3 s).2.2.2)::(if (C3 s).2.2.2=0 then AAt f (q+n) (s.drop n) else [])∧((C3 s).2.2.2=0→(C3 s).2.2.1=(n:Int)∧1≤n∧n≤s.length):=by
 refine ⟨(C3 s).2.2.1.toNat,?_,fun he=>?_⟩
 ·rw [Lf h]
  simp only [beq_iff_eq]
  rfl
 obtain ⟨n,h1,h2,h3⟩:=dx (s:=s) (by cases s with|nil=>exact absurd rfl h|cons c r=>simp) he
 rw [h1]
 exact ⟨rfl,by simpa using h2,by simpa using h3⟩
/-! ### Gaps -/
/-! ### Words -/
theorem r9 {s:Str} (h:(Dn s).2.1=0):s.length≤4000∧(∀it∈C0 s,it.2=0)∧Dn s=((C0 s).map (·.1)++[⟨0,[],s.length⟩],0,0):=by
 unfold Dn at h ⊢
 split at h
 ·exact absurd h (show ¬(3:Int)=0 by decide)
 rename_i hl
 rw [if_neg hl]
 cases hf:(C0 s).find? (fun it=>it.2 != 0) with
 | some it =>
  rw [hf] at h
  have:=Rg hf
  simp at this
  exact absurd h this
 | none =>
  rw [Jw] at hf
  refine ⟨by omega,fun it hit=>by simpa using hf it hit,rfl⟩
def Yp (c:UInt8):Str:=if c=39 then [39,39] else [c]
def M6 (t:Str):Str:=t.flatMap Yp
theorem Yq:∀t:Str,(M6 t).length≤2*t.length
 | []=>An _
 | c::r=>by
  have:=Yq r
  unfold M6 at this ⊢
  rw [Rj,As,Ay]
  have h:(Yp c).length≤2:=by unfold Yp;split<;>simp
  omega
theorem Pj (c:UInt8) (r:Str):M6 (c::r)=Yp c++M6 r:=by unfold M6;rw [Rj]
theorem eb:∀s:Str,(Lib.index s [39] = -1∧M6 s=s)∨∃i:Nat,Lib.index s [39]=(i:Int)∧i<s.length∧M6 s=s.take i++[39,39]++M6 (s.drop (i+1))
 | []=>.inl ⟨rfl,rfl⟩
 | b::l=>by
  by_cases hb:b=39
  ·subst hb
   refine .inr ⟨0,by simp [Lib.index,List.isPrefixOf],by simp,?_⟩
   rw [Pj]
   simp [Yp]
  have hp:([39]:Str).isPrefixOf (b::l)=false:=by
   simp [List.isPrefixOf,Ne.symm hb]
  have hd:M6 (b::l)=b::M6 l:=by
   rw [Pj,Yp,if_neg hb]
   rfl
  rcases eb l with ⟨h1,h2⟩|⟨i,h1,h2,h3⟩
  ·refine .inl ⟨?_,by rw [hd,h2]⟩
   rw [Lib.index,hp,h1];rfl
  refine .inr ⟨i+1,?_,by simp;omega,?_⟩
  ·rw [Lib.index,hp,h1,if_neg (by simp),if_neg (by simp)]
   rfl
  rw [hd,h3]
  simp
theorem O2:∀(n:Nat) (s:Str),s.length≤n→Lib.replaceK [39] [39,39] (Lib.count s [39]) s=M6 s
 | n,s,hn=>by
  rcases eb s with ⟨h1,h2⟩|⟨i,h1,h2,h3⟩
  ·rw [Lib.count_miss h1,h2];rfl
  cases n with
  | zero=>omega
  | succ n =>
   rw [Lib.count_hit (by decide) h1,Nat.add_comm,Lib.replaceK_hit _ _ _ _ i h1]
   have e:i+([39]:Str).length=i+1:=rfl
   rw [e,O2 n (s.drop (i+1)) (by rw [Fd];omega),h3]
theorem Qc (s:Str):Lib.replaceAll s [39] [39,39]=M6 s:=by
 unfold Lib.replaceAll Lib.replace
 rw [if_neg (by decide)]
 have e:Lib.replaceNum s [39] (-1)=Lib.count s [39]:=by unfold Lib.replaceNum;rw [if_pos (.inl (by decide))]
 rw [e]
 exact O2 _ s (An _)
def ec (t:Tok):Str:=if t.kind=4 then [39]++M6 t.text++[39] else t.text
theorem cj {q:Str} (h0:q.headD 0=39) (h1:1≤q.length) (h:(Gr q).2=0):[39]++M6 (Gr q).1.s++[39]=q:=by
 cases q with
 | nil=>simp at h1
 | cons c r =>
  have hc:c=39:=h0
  subst hc
  unfold Gr at h ⊢
  have n1:((39::r:Str)==[110,117,108,108])=false:=by rw [beq_eq_false_iff_ne];intro e;injection e with e;exact absurd e (by decide)
  have n2:((39::r:Str)==[116,114,117,101])=false:=by rw [beq_eq_false_iff_ne];intro e;injection e with e;exact absurd e (by decide)
  have n3:((39::r:Str)==[102,97,108,115,101])=false:=by rw [beq_eq_false_iff_ne];intro e;injection e with e;exact absurd e (by decide)
  rw [n1,n2,n3] at h ⊢
  simp only [Bs,if_false,Bool.or_self] at h ⊢
  by_cases hq:Ur (39::r)=true
  ·rw [if_pos hq] at h ⊢
   unfold Y7 at h ⊢
   split at h
   ·exact absurd h (show ¬(7:Int)=0 by decide)
   rename_i hp
   rw [if_neg hp]
   have hp':Fh (Sc (39::r))=39::r:=by simpa using hp
   have hk:(Sc (39::r)).kind=2:=rfl
   show [39]++M6 (Sc (39::r)).s++[39]=39::r
   generalize Sc (39::r)=v at hp' hk
   have hne:Fh v≠[]:=by rw [hp'];simp
   rw [←hp']
   unfold Fh at hne ⊢
   split at hne
   ·exact absurd rfl hne
   rename_i hpl
   rw [if_neg hpl,hk,if_neg (by decide),if_pos (by decide),Qc]
  rw [if_neg hq] at h
  have hd:Ga (39::r)=true:=by
   unfold Ga
   have e:Kk (39::r)=39::r:=by
    rcases Q4 (39::r) with ⟨_,h4⟩|⟨r',h3,_⟩
    ·exact h4
    injection h3 with h3;exact absurd h3 (by decide)
   rw [e]
   have:(Lib.trimS (39::r) digs==[])=false:=by
    rw [beq_eq_false_iff_ne]
    intro e
    rw [Un] at e
    exact absurd (e 39 (by simp)) (by decide)
   rw [this]
   simp
  have hn:Bo (39::r)=(0,6):=by unfold Bo;rw [if_pos hd]
  rw [hn] at h
  simp at h
theorem Ud (s:Str) (m:Nat):s.take (s.take m).length=s.take m:=by
 rw [Ic]
 rcases Nat.le_total m s.length with h|h
 ·rw [dj h]
 rw [Nat.min_eq_right h,G5 (An _),G5 h]
theorem Lj (s of:Str):s.take (D3 s of).length=D3 s of:=by
 unfold D3
 exact Ud s _
/-- What a word's print spells is what was read. -/
theorem ck {s:Str} {n p:Nat} (h0:1≤s.length) (he:(C3 s).2.2.2=0) (hn:(C3 s).2.2.1=(n:Int)):ec ⟨(C3 s).1,(C3 s).2.1,p⟩=s.take n:=by
 cases s with
 | nil=>simp at h0
 | cons c r =>
  unfold C3 at he hn ⊢
  by_cases c1:decide (0<Nw ((c::r).take 1) letters)=true
  ·rw [if_pos c1] at he hn
   simp only [if_pos c1]
   unfold N1 at he hn ⊢
   by_cases r1:Fm (D3 (c::r) tails)=true
   ·rw [if_pos r1] at hn
    simp only [if_pos r1]
    have hn':(((D3 (c::r) tails).length:Nat):Int)=n:=hn
    have e:n=(D3 (c::r) tails).length:=by omega
    rw [e,Lj]
    rfl
   rw [if_neg r1] at he hn
   simp only [if_neg r1]
   by_cases r2:(!Dx (D3 (c::r) tails))=true
   ·rw [if_pos r2] at he;exact absurd he (show ¬(3:Int)=0 by decide)
   rw [if_neg r2] at hn
   simp only [if_neg r2]
   have hn':(((D3 (c::r) tails).length:Nat):Int)=n:=hn
   have e:n=(D3 (c::r) tails).length:=by omega
   rw [e,Lj]
   rfl
  rw [if_neg c1] at he hn
  simp only [if_neg c1]
  by_cases c2:decide (0<Nw ((c::r).take 1) digs)=true
  ·rw [if_pos c2] at he hn
   simp only [if_pos c2]
   have hn':(((D3 (c::r) digs).length:Nat):Int)=n:=hn
   have e:n=(D3 (c::r) digs).length:=by omega
   rw [e,Lj]
   rfl
  rw [if_neg c2] at he hn
  simp only [if_neg c2]
  by_cases c3:(((((c::r)).getD 0 0).toNat:Int)==39)=true
  ·rw [if_pos c3] at he hn
   simp only [if_pos c3]
   have hc:c=39:=by
    have c3':((c.toNat:Int)==39)=true:=c3
    exact No.1 (by have:(39:UInt8).toNat=39:=rfl;simp at c3';omega)
   unfold J4 at he hn ⊢
   cases hq:Cv ((c::r).drop 1) with
   | none=>rw [hq] at he;exact absurd he (show ¬(7:Int)=0 by decide)
   | some m =>
    rw [hq] at he hn
    simp only at he hn ⊢
    split at he
    ·exact absurd he (show ¬(3:Int)=0 by decide)
    rename_i hr
    rw [if_neg hr] at hn
    simp only [if_neg hr]
    have hm':(((m+1:Nat)):Int)=n:=hn
    have hm:n=m+1:=by omega
    subst hm
    have hr':(Gr ((c::r).take (m+1))).2=0:=by simpa using hr
    have:=cj (q:=(c::r).take (m+1)) (by rw [hc];rfl) (by simp) hr'
    unfold ec
    rw [if_pos rfl]
    exact this
  rw [if_neg c3] at he hn
  simp only [if_neg c3]
  unfold Sh at he hn ⊢
  split at hn
  ·rename_i h2
   simp only [if_pos h2]
   have hn':(2:Int)=n:=hn
   have:n=2:=by omega
   subst this
   rfl
  rename_i h2
  rw [if_neg h2] at he
  simp only [if_neg h2]
  split at hn
  ·rename_i h3
   simp only [if_pos h3]
   have hn':(1:Int)=n:=hn
   have:n=1:=by omega
   subst this
   rfl
  rename_i h3
  rw [if_neg h3] at he
  exact absurd he (show ¬(7:Int)=0 by decide)
/-! What is printed of columns, word by word. -/
structure ColOk (x:Col):Prop where
 name:Dx x.name=true
 lo:1≤x.kind
 hi:x.kind≤3
def ktT (t:Tok):Int×Str:=(t.kind,t.text)
theorem wrap_u64 {n:Int} (h1:0≤n) (h2:n<18446744073709551616):IntKind.u64.wrap n=n:=by
 have e1:(2 ^ IntKind.u64.bits:Int)=18446744073709551616:=rfl
 have e3:IntKind.u64.signed=false:=rfl
 unfold IntKind.wrap
 simp only [e1,e3,Vm]
 simp
 omega
theorem ja (n:Int):0≤IntKind.u64.wrap n∧IntKind.u64.wrap n<18446744073709551616:=by
 have e1:(2 ^ IntKind.u64.bits:Int)=18446744073709551616:=rfl
 have e3:IntKind.u64.signed=false:=rfl
 unfold IntKind.wrap
 simp only [e1,e3,Vm]
 simp
 omega
theorem yy (m:Int) (N:Nat) (h1:1≤N) (hN:N≤100000):∃K:Nat,K<N∧IntKind.i64.wrap ((IntKind.u64.wrap m).tmod (IntKind.u64.wrap (N:Int)))=(K:Int):=by
 have hr:=ja m
 rw [wrap_u64 (n:=(N:Int)) (by omega) (by omega),Int.tmod_eq_emod_of_nonneg hr.1]
 have g1:=Int.emod_nonneg (IntKind.u64.wrap m) (b:=(N:Int)) (by omega)
 have g2:=Int.emod_lt_of_pos (IntKind.u64.wrap m) (b:=(N:Int)) (by omega)
 refine ⟨((IntKind.u64.wrap m) % (N:Int)).toNat,by omega,?_⟩
 rw [wrap_i64 (by omega) (by omega)]
 omega
theorem ee:∀t:Str,t.length≤(M6 t).length
 | []=>An _
 | c::r=>by
  have:=ee r
  rw [Pj,As,Ay]
  have h:1≤(Yp c).length:=by unfold Yp;split<;>simp
  omega
theorem rc (t:Tok):t.text.length≤(ec t).length:=by
 unfold ec
 split
 ·have:=ee t.text
  simp only [As,Ay,Bn]
  omega
 exact An _
theorem jb {n k:Nat} {o:Bool} {l:List Str} {z:Str}:Low n (.slice o k (l.map Ah++[Ah z])):=by
 refine .slice _ _ _ (fun y hy=>?_)
 rcases Dy.1 hy with hy|hy
 ·obtain ⟨a,_,rfl⟩:=Dd.1 hy
  intro z hz
  rw [Bh.1 (show z∈[Ah a] from hz)]
  exact .v _
 rw [Bh.1 hy]
 intro z' hz
 rw [Bh.1 (show z'∈[Ah z] from hz)]
 exact .v _
/-- Words with an end. -/
structure TokEnd (l:List Tok):Prop where
 split:∃L z,l=L++[z]∧z.kind=0∧∀t∈L,t.kind≠0
 texts:∀t∈l,t.text.length≤1048576
theorem TokEnd.pos {l:List Tok} (h:TokEnd l):1≤l.length:=by
 obtain ⟨L,z,rfl,_,_⟩:=h.split
 simp
theorem TokEnd.text {l:List Tok} (h:TokEnd l) (i:Nat):(At l i).text.length≤1048576:=by
 unfold At
 rcases Bf i l.length with hi|hi
 ·rw [Ch,Al hi]
  exact h.texts _ (Db hi)
 rw [Ch,Fs hi]
 exact Bk _
theorem rd (s:Str) (he:(C3 s).2.2.2=0):(C3 s).1≠0:=by
 revert he
 unfold C3 N1 Wq J4 Sh
 repeat' split
 all_goals simp
theorem Yr:∀(f q:Nat) (s:Str),(∀it∈H7 f q s,it.2=0)→∀it∈H7 f q s,it.1.kind≠0∧it.1.text.length≤s.length
 | 0,_,_,_,it,hm=>by cases hm
 | f+1,q,s,h,it,hm=>by
  by_cases hs:s=[]
  ·subst hs;cases hm
  obtain ⟨n,h1,h2⟩:=Yo (f:=f) (q:=q) hs
  rw [h1] at hm h
  have h0:(C3 s).2.2.2=0:=h (⟨(C3 s).1,(C3 s).2.1,q⟩,(C3 s).2.2.2) (Jx ..)
  obtain ⟨hn,hn1,hn2⟩:=h2 h0
  rw [if_pos h0] at hm h
  rcases By.1 hm with rfl|hm
  ·refine ⟨rd s h0,?_⟩
   have hs1:1≤s.length:=by cases s with|nil=>exact absurd rfl hs|cons c r=>simp
   have:=ck (p:=q) hs1 h0 hn
   have h3:=rc ⟨(C3 s).1,(C3 s).2.1,q⟩
   rw [this] at h3
   simp only [Ic] at h3
   show (C3 s).2.1.length≤s.length
   omega
  have:=Yr f _ _ (fun it hit=>h it (Lq _ hit)) it hm
  simp only [Fd] at this
  exact ⟨this.1,by omega⟩
theorem ef {s:Str} (h:(Dn s).2.1=0):TokEnd (Dn s).1:=by
 by_cases h4:4000<s.length
 ·unfold Dn at h
  rw [if_pos h4] at h
  exact mc
 have e:Dn s=((C0 s).map (·.1)++[⟨0,[],s.length⟩],0,0)∧∀it∈C0 s,it.2=0:=by
  unfold Dn at h ⊢
  rw [if_neg h4] at h ⊢
  cases hf:(C0 s).find? (fun it=>it.2 != 0) with
  | none =>
   rw [Jw] at hf
   exact ⟨rfl,fun it hit=>by simpa using hf it hit⟩
  | some it =>
   rw [hf] at h
   have:=Rg hf
   simp only [bne_iff_ne] at this
   exact absurd h this
 obtain ⟨e,hz⟩:=e
 have hnz:=Yr _ _ _ hz
 rw [e]
 refine ⟨⟨_,_,rfl,rfl,fun t ht=>?_⟩,fun t ht=>?_⟩
 ·obtain ⟨it,hit,rfl⟩:=Dd.1 ht
  exact (hnz it hit).1
 rcases Dy.1 ht with ht|ht
 ·obtain ⟨it,hit,rfl⟩:=Dd.1 ht
  have:=(hnz it hit).2
  simp only [Fd] at this
  omega
 have e:t=⟨0,[],s.length⟩:=by simpa using ht
 subst e
 exact Bk _
/-! What is printed of a schema is read. -/
/-- What goes together: names of their own. -/
theorem na {c:List Col} (h:S9 c=true):(∀y∈c,ColOk y)∧(c.map (·.name)).Nodup:=by
 rw [Sa] at h
 have hat:∀(j:Nat) (y:Col),c[j]? = some y→J3 y.name=true∧1≤y.kind∧y.kind≤3∧Ez y.name c=(j:Int):=by
  intro j y hj
  have:=h j y hj
  unfold Y4 at this
  simp only [Ju,F7,Ja,decide_eq_false_iff_not,bne_eq_false_iff_eq] at this
  obtain ⟨⟨⟨h1,h2⟩,h3⟩,h4⟩:=this
  exact ⟨h1,by omega,by omega,h4⟩
 refine ⟨fun y hy=>?_,?_⟩
 ·obtain ⟨j,hj⟩:=Cf hy
  obtain ⟨h1,h2,h3,_⟩:=hat j y hj
  exact ⟨by rw [Et];exact h1,h2,h3⟩
 show List.Pairwise _ _
 rw [de]
 intro i j hi hj hij e
 simp only [Bp] at hi hj
 simp only [Ml] at e
 have e1:=(hat i c[i] (Al hi)).2.2.2
 have e2:=(hat j c[j] (Al hj)).2.2.2
 rw [e] at e1
 omega
theorem eg {c:List Col} (h:Ld c=false):OkCols c:=by
 unfold Ld at h
 simp only [F7,decide_eq_false_iff_not,Om,decide_eq_true_eq] at h
 refine ⟨by omega,fun y hy=>?_⟩
 have:=h.2 y hy
 omega
def cl {α:Type} [BEq α] (v:α) (l:List α):Int:=match l.findIdx? (·==v) with|some i=>i|none => -1
theorem vm {α:Type} [BEq α] [LawfulBEq α] {v:α} {l:List α} {x:Nat} (h:x<l.length) (h1:l[x]=v) (h2:∀(j:Nat) (y:α),j<x→l[j]? = some y→¬(y=v)):cl v l=x:=by
 have:l.findIdx? (·==v)=some x:=by
  rw [Ri]
  exact ⟨h,by simpa using h1,fun j hj=>by simpa using h2 j l[j] hj (Al _)⟩
 simp [cl,this]
theorem nb {α:Type} [BEq α] [LawfulBEq α] {v:α} {l:List α} (h:∀(j:Nat) (y:α),l[j]? = some y→¬(y=v)):cl v l = -1:=by
 have:l.findIdx? (·==v)=none:=by
  rw [Rh]
  intro y hy
  obtain ⟨j,hj⟩:=Cf hy
  simpa using h j y hj
 simp [cl,this]
theorem re {α:Type} [BEq α] [LawfulBEq α] (v:α) (l:List α):decide (0≤cl v l)=l.contains v:=by
 unfold cl
 cases h:l.findIdx? (·==v) with
 | none =>
  rw [Rh] at h
  have:l.contains v=false:=by
   rw [Ol]
   intro hc
   have:=h v (by simpa using hc)
   simp at this
  rw [this];rfl
 | some i =>
  rw [Ri] at h
  obtain ⟨hi,e,_⟩:=h
  have:l.contains v=true:=by
   have:l[i]=v:=by simpa using e
   rw [←this]
   simp
  rw [this]
  simp only [decide_eq_true_eq]
  omega
theorem c70 (l:List Str) (v:Str) (hl:l.length≤1048576) (Hp:List AObj):AFun Tryz.prog 70 [Um l,Ah v] Hp (A6 (cl v l)):=by
 refine Aq [.tmp 4] [0,1] Tryz.func70 Tryz.ntmps70 (fun d=>?_)
 refine Z70 ?_;refine Z39 ?_;refine A2 [0,1,7,8] ?_
 refine Ff (α:=Nat) (fun x=>⟨19,Ao 0 (Um l) (Ao 1 (Ah v) (Ao 7 (A6 l.length) (Ao 8 (A6 (x:Nat)) (fun _=>.any)))),Hp,[],[],none⟩) (fun x=>x≤l.length∧∀(j:Nat) (y:Str),j<x→l[j]? = some y→¬(y=v)) (fun x=>l.length-x) (0) (by simp) (E9 (by simp)) rfl (fun x hx=>?_)
 refine Z3 ?_;refine A2 [0,1,7,8,9] ?_
 refine Gp (fun ht9=>?_) (fun ht9=>?_)
 ·have hlt:x<l.length:=by simpa using ht9
  refine Z27 ?_;refine Z1 ?_;refine A2 [0,1,5,7,8] ?_;refine Z14 ?_
  refine A7 (h:=Ax (x) (Ah l[x]) (fun _=>Cu hlt)) (hr:=?_)
  refine Z0 ?_;refine A2 [0,1,5,7,8,16] ?_
  refine A4 (fun ht16=>?_) (fun ht16=>?_)
  ·refine Z1 ?_;refine Z29 ?_;refine We ?_;exact A5 (Ap A3) ⟨by rw [vm hlt (by simpa using (Eq.symm (by simpa using ht16):l[x]=v)) hx.2],rfl⟩
  refine U2 ?_;refine A2 [0,1,7,8] ?_;exact Ct (x+1) ⟨hlt,Gj hlt hx.2 (fun e=>by rw [e] at ht16;simp at ht16)⟩ (by omega) (Im rfl)
 refine Z58 ?_;refine Z94 ?_;exact A5 (Ap A3) ⟨by rw [nb (Nv (by simp at ht9;omega) hx.2)],rfl⟩

theorem c96 (l:List Str) (v:Str) (hl:l.length≤1048576) (Hp:List AObj):AFun Tryz.prog 96 [Um l,Ah v] Hp (B8 (l.contains v)):=by
 refine Aq [.tmp 4] [0,1] Tryz.func96 Tryz.ntmps96 (fun d=>?_)
 refine Z70 ?_;refine Z1 ?_;refine Ac Tryz.call70 (c70 l v hl _) ?_;refine Z0 ?_;refine Z29 ?_;exact A5 (Ap A3) ⟨by rw [re],rfl⟩

/-! What went and came, taken back: the same columns. -/
theorem nc {α β:Type} {f:α→β} {c:List α} (h:(c.map f).Nodup) {i j:Nat} {y z:α} (hi:c[i]? = some y) (hj:c[j]? = some z) (e:f y=f z):i=j:=by
 obtain ⟨hi',ei⟩:=Ae.1 hi
 obtain ⟨hj',ej⟩:=Ae.1 hj
 have h':List.Pairwise (·≠·) (c.map f):=h
 rw [de] at h'
 rcases Nat.lt_trichotomy i j with hlt|rfl|hlt
 ·have h2:=h' i j (by simpa using hi') (by simpa using hj') hlt
  rw [Ml,Ml,ei,ej] at h2
  exact absurd e h2
 ·rfl
 have h2:=h' j i (by simpa using hj') (by simpa using hi') hlt
 rw [Ml,Ml,ei,ej] at h2
 exact absurd e.symm h2
theorem cm {c:List Col} (h:(c.map (·.name)).Nodup) {j:Nat} {y:Col} (hj:c[j]? = some y):Ez y.name c=(j:Int):=by
 obtain ⟨hj',ej⟩:=Ae.1 hj
 exact S8 hj' (by rw [ej]) (fun k z hk hz e=>by have:=nc h hz hj e;omega)
theorem find_mem {nm:Str} {c:List Col}:¬(Ez nm c<0)↔∃(j:Nat) (y:Col),c[j]? = some y∧y.name=nm∧Ez nm c=(j:Int):=by
 unfold Ez
 cases h:c.findIdx? (fun y=>y.name==nm) with
 | none =>
  constructor
  ·intro h';exact absurd (by decide) h'
  rintro ⟨j,y,_,_,e⟩
  exact absurd (show (-1:Int)=(j:Int) from e) (by omega)
 | some i =>
  rw [Ri] at h
  obtain ⟨hi,e,_⟩:=h
  constructor
  ·intro _;exact ⟨i,c[i],Al hi,by simpa using e,rfl⟩
  intro _ h'
  have:(i:Int)<0:=h'
  omega
set_option maxRecDepth 8000
/-- What a node asks of its kids, and what it is. -/
structure Sign where
 kids:List Int
 own:Int
def Cn (s:Str):Sign:=if (s==[111,114]) || (s==[97,110,100]) then ⟨[3,3],3⟩ else if (((((s==[61]) || (s==[33,61])) || (s==[60])) || (s==[60,61])) || (s==[62])) || (s==[62,61]) then ⟨[-1, -1],3⟩ else if s==[38] then ⟨[2,2],2⟩ else ⟨[1,1],1⟩
def Dg (s:Str):Sign:=if (s==[108,101,110]) || (s==[110,117,109]) then ⟨[2],1⟩ else if s==[115,116,114] then ⟨[1],2⟩ else if (s==[108,101,102,116]) || (s==[114,105,103,104,116]) then ⟨[2,1],2⟩ else if s==[105,115,110,117,108,108] then ⟨[-2],3⟩ else if s==[110,118,108] then ⟨[-1, -1], -1⟩ else ⟨[3, -1, -1], -1⟩
def Cb (o:Int) (t:Str):Sign:=if o==3 then ⟨[1],1⟩ else if o==4 then ⟨[3],3⟩ else if o==5 then Cn t else Dg t
def Cr (a b:Int):Int×Bool:=if a==0 then (b,true) else if (b==0) || (a==b) then (a,true) else (0,false)
def Fy:List Int→List Int→Int→Option Int
 | _,[],c=>some c
 | [],_::_,_=>none
 | w::ws,k::ks,c=>if w == -2 then Fy ws ks c else if w == -1 then (if (Cr c k).2 then Fy ws ks (Cr c k).1 else none) else if (Cr w k).2 then Fy ws ks c else none
def N7 (s:Sign) (ks:List Int):Int×Int:=match Fy s.kids ks 0 with|none=>(0,10)|some c=>if s.own == -1 then (c,0) else (s.own,0)
def O3 (c:List Col) (t:Str):Int×Int:=if Ez t c<0 then (0,9) else ((c.getD (Ez t c).toNat ⟨[],0⟩).kind,0)
def Km (c:List Col) (o:Int) (t:Str) (v:Val) (ks:List (Int×Int)):Int×Int:=
 if o==1 then (v.kind,0) else if o==2 then O3 c t else match ks.find? (fun q=>q.2 != 0) with|some q=>(0,q.2)|none=>N7 (Cb o t) (ks.map (·.1))
mutual
def B7 (c:List Col):Expr→Int×Int
 | .mk o t v k=>Km c o t v (eh c k)
def eh (c:List Col):List Expr→List (Int×Int)
  | []=>[]
  | e::r=>B7 c e::eh c r
 end
theorem Pk (c:List Col):∀l,eh c l=l.map (B7 c)
 | []=>rfl
 | e::r=>by rw [eh,Pk c r];rfl
theorem Jo (c:List Col) (e:Expr):B7 c e=Km c e.op e.text e.val (e.kids.map (B7 c)):=by cases e;rw [B7,Pk];rfl
/-- infer.Kind. -/
def O4 (e:Expr) (c:List Col):Int×Int:=if (!(Au e)) || !(Q8 c) then (0,1) else B7 c e
/-! The signs have as many as the nodes have kids. -/
theorem cn (s:Str):(Cn s).kids.length=2:=by
 unfold Cn;repeat' split
 all_goals rfl
theorem co {t:Str} {n:Nat} (h:Bx t=(n:Int)):(Dg t).kids.length=n:=by
 rw [show Bx t=Bx t from rfl] at h
 by_cases hm:t∈arityList.map (·.1)
 ·have:((arityList.map (·.1)).all fun s=>decide (((Dg s).kids.length:Int)=Bx s))=true:=by kernel_rfl
  have:=of_decide_eq_true (B2.1 this t hm)
  omega
 have h1:Bx t = -1:=by
  unfold Bx
  rw [Jw.2 fun p hp=>by
   simp only [beq_iff_eq]
   rintro rfl
   exact hm (Dd.2 ⟨p,hp,rfl⟩)]
 omega
theorem nd {e:Expr} (h:C1 e=true) (h1:(e.op==1)=false) (h2:(e.op==2)=false):(Cb e.op e.text).kids.length=e.kids.length:=by
 unfold C1 at h
 rw [h1,h2] at h
 simp only [Bs,if_false] at h
 unfold Cb
 by_cases h3:(e.op==3)=true
 ·rw [h3] at h
  simp only [Bool.true_or,if_true,Ak,beq_iff_eq] at h
  rw [if_pos h3]
  show 1=_
  omega
 have h3':(e.op==3)=false:=by simpa using h3
 rw [if_neg h3]
 rw [h3'] at h
 by_cases h4:(e.op==4)=true
 ·rw [h4] at h
  simp only [J9,if_true,Ak,beq_iff_eq] at h
  rw [if_pos h4]
  show 1=_
  omega
 have h4':(e.op==4)=false:=by simpa using h4
 rw [if_neg h4]
 rw [h4'] at h
 simp only [Bool.or_false,Bs,if_false] at h
 by_cases h5:(e.op==5)=true
 ·rw [h5] at h
  simp only [if_true,Ak,beq_iff_eq] at h
  rw [if_pos h5,cn]
  omega
 have h5':(e.op==5)=false:=by simpa using h5
 rw [if_neg h5]
 rw [h5'] at h
 simp only [Bs,if_false] at h
 by_cases h6:(e.op==6)=true
 ·rw [h6] at h
  simp only [if_true,Ak,beq_iff_eq] at h
  exact co h.2
 have h6':(e.op==6)=false:=by simpa using h6
 rw [h6'] at h
 cases h
/-! More columns. -/
theorem nf {c:List Col} {o:Int} {t:Str} {v:Val} {ks:List (Int×Int)} (h:(Km c o t v ks).2=0) (h1:(o==1)=false) (h2:(o==2)=false):∀q∈ks,q.2=0:=by
 unfold Km at h
 rw [h1,h2] at h
 simp only [Bs,if_false] at h
 cases hf:ks.find? (fun q=>q.2 != 0) with
 | some q =>
  rw [hf] at h
  have:=Rg hf
  simp only [bne_iff_ne] at this
  exact absurd h this
 | none =>
  intro q hq
  have:=Jw.1 hf q hq
  simpa using this
/-! A tree in a column's place. -/
set_option maxRecDepth 4000
/-- Where a parser of expressions stands: its word, its nest, its fault. -/
structure PS where
 i:Nat
 nest:Nat
 code:Int
 at_:Int
def noV:Val:=⟨0,0,[]⟩
def A8:Expr:=.mk 0 [] noV []
def Dt (e a:Int) (S:PS):PS:=if S.code==0 then ⟨S.i,S.nest,e,a⟩ else S
def isM (l:List Tok) (of:Str) (S:PS):Bool:=(((At l S.i).kind==5) || ((At l S.i).kind==2))&&Lx (At l S.i).text of
def Am (S:PS):PS:=⟨S.i+1,S.nest,S.code,S.at_⟩
def Cw (S:PS):PS:=⟨S.i,S.nest+1,S.code,S.at_⟩
def V3 (S:PS):PS:=⟨S.i,S.nest-1,S.code,S.at_⟩
def F0 (l:List Tok) (s:Str) (S:PS):PS:=if S.code != 0 then S else if ((At l S.i).kind != 5) || !((At l S.i).text==s) then Dt 8 (At l S.i).at_ S else Am S
/-- What stands one nest deeper. -/
structure Fam where
 ei:PS→Expr×PS
 no:PS→Expr×PS
 ne:PS→Expr×PS
def Ca (a:Int) (f:PS→Expr×PS) (S:PS):Expr×PS:=if (S.nest:Int)==30 then (A8,Dt 18 a S) else ((f (Cw S)).1,V3 (f (Cw S)).2)
def Gx (t:Str) (x y:Expr):Expr:=.mk 5 t noV [x,y]
def V4 (l:List Tok) (of:Str) (f:PS→Expr×PS):Nat→Expr×PS→Expr×PS
 | 0,r=>r
 | n+1,r=>if (r.2.code==0)&&isM l of r.2 then V4 l of f n (Gx (At l r.2.i).text r.1 (f (Am r.2)).1,(f (Am r.2)).2) else r
def Fb (l:List Tok) (of:Str) (f:PS→Expr×PS) (S:PS):Expr×PS:=V4 l of f l.length (f S)
def T0:Str:=[32,44,32]
def argsF (l:List Tok) (f:PS→Expr×PS):Nat→List Expr×PS→List Expr×PS
 | 0,r=>r
 | n+1,r=>if (r.2.code==0)&&isM l T0 r.2 then argsF l f n (r.1++[(f (Am r.2)).1],(f (Am r.2)).2) else r
def Gz (l:List Tok) (f:PS→Expr×PS) (S:PS):List Expr×PS:=argsF l f l.length ([(f S).1],(f S).2)
def Qd (l:List Tok) (a:Int) (f:PS→Expr×PS) (S:PS):List Expr×PS:=if (S.nest:Int)==30 then ([],Dt 18 a S) else ((Gz l f (Cw S)).1,V3 (Gz l f (Cw S)).2)
def Ev:Str:=[41]
def D4 (l:List Tok) (D:Fam) (S:PS):List Expr×PS:=Qd l (At l S.i).at_ D.ei (Am S)
def H0 (l:List Tok) (D:Fam) (t:Tok) (S:PS):Expr×PS:=
 if Bx t.text<0 then (A8,Dt 9 t.at_ S)
 else if ((F0 l Ev (D4 l D S).2).code==0) && !(((D4 l D S).1.length:Int)==Bx t.text) then (A8,Dt 8 t.at_ (F0 l Ev (D4 l D S).2))
 else (.mk 6 t.text noV (D4 l D S).1,F0 l Ev (D4 l D S).2)
def orT:Str:=[32,111,114,32]
def jc:Str:=[32,97,110,100,32]
def vn:Str:=[32,110,111,116,32]
def rf:Str:=[32,61,32,33,61,32,60,32,60,61,32,62,32,62,61,32]
def jd:Str:=[32,43,32,45,32,38,32]
def V5:Str:=[32,42,32,47,32,37,32]
def vo:Str:=[32,45,32]
def opT:Str:=[32,40,32]
def vp:Str:=[32,116,114,117,101,32,102,97,108,115,101,32,110,117,108,108,32]
def Cs (v:Val):Expr:=.mk 1 [] v []
def Fq (l:List Tok) (D:Fam) (S:PS):Expr×PS:=
 if S.code != 0 then (A8,S)
 else if ((At l S.i).kind==3) || isM l vp S then (Cs (Gr (At l S.i).text).1,Am S)
 else if (At l S.i).kind==4 then (Cs ⟨2,0,(At l S.i).text.take 200⟩,Am S)
 else if (At l S.i).kind==1 then (if isM l opT (Am S) then H0 l D (At l S.i) (Am S) else (B6 (At l S.i).text,Am S))
 else if isM l opT S then ((Ca (At l S.i).at_ D.ei (Am S)).1,F0 l Ev (Ca (At l S.i).at_ D.ei (Am S)).2)
 else (A8,Dt 8 (At l S.i).at_ S)
def F1 (op:Int) (x:Expr):Expr:=.mk op [] noV [x]
def Qr (l:List Tok) (D:Fam) (S:PS):Expr×PS:=if !isM l vo S then Fq l D S else (F1 3 (Ca (At l S.i).at_ D.ne (Am S)).1,(Ca (At l S.i).at_ D.ne (Am S)).2)
def Ys (l:List Tok) (D:Fam):PS→Expr×PS:=Fb l V5 (Qr l D)
def E2 (l:List Tok) (D:Fam):PS→Expr×PS:=Fb l jd (Ys l D)
def F3 (l:List Tok) (D:Fam) (S:PS):Expr×PS:=
 if ((E2 l D S).2.code != 0) || !isM l rf (E2 l D S).2 then E2 l D S
 else (Gx (At l (E2 l D S).2.i).text (E2 l D S).1 (E2 l D (Am (E2 l D S).2)).1,(E2 l D (Am (E2 l D S).2)).2)
def Qs (l:List Tok) (D:Fam) (S:PS):Expr×PS:=if !isM l vn S then F3 l D S else (F1 4 (Ca (At l S.i).at_ D.no (Am S)).1,(Ca (At l S.i).at_ D.no (Am S)).2)
def Yt (l:List Tok) (D:Fam):PS→Expr×PS:=Fb l jc (Qs l D)
def R6 (l:List Tok) (D:Fam):PS→Expr×PS:=Fb l orT (Yt l D)
def Ew (l:List Tok):Nat→Fam
 | 0=>⟨fun S=>(A8,S),fun S=>(A8,S),fun S=>(A8,S)⟩
 | d+1=>⟨R6 l (Ew l d),Qs l (Ew l d),Qr l (Ew l d)⟩

/-! What is so of them. -/
theorem Fj:∀{n m:Nat},n≤m→∀{e:Expr},okE n e→okE m e
 | 0,_,_,_,h=>h.elim
 | n+1,0,h,_,_=>by omega
 | n+1,m+1,h,_,ho=>⟨ho.1,ho.2.1,fun y hy=>Fj (by omega) (ho.2.2 y hy)⟩
theorem T3:sizeE A8=1:=rfl
theorem je (t:Str) (a b:Expr):sizeE (Gx t a b)=1+(sizeE a+(sizeE b+0)):=by rw [Gx,sizeE,C2,C2,C2]
theorem jf (o:Int) (a:Expr):sizeE (F1 o a)=1+(sizeE a+0):=by rw [F1,sizeE,C2,C2]
theorem V6:∀a b:List Expr,C2 (a++b)=C2 a+C2 b
 | [],b=>by rw [Dz,C2,Bu]
 | e::r,b=>by rw [E0,C2,C2,V6 r b,Iy]
theorem Lk {n:Nat} (h:1≤n):okE n A8:=Fj h ⟨by decide,by decide,fun y hy=>by cases hy⟩
theorem ek {n:Nat} (h:1≤n) (v:Val):okE n (Cs v):=Fj h ⟨by simp [Cs,Expr.text],by simp [Cs,Expr.kids],fun y hy=>by cases hy⟩
structure Fact (l:List Tok) (S:PS) (r:Expr×PS):Prop where
 le:S.i≤r.2.i
 lt:r.2.i<l.length
 nest:r.2.nest=S.nest
 ok:okE (2*(r.2.i-S.i)+1) r.1
 sz:sizeE r.1≤2*(r.2.i-S.i)+1
def E3 (l:List Tok) (n:Nat) (f:PS→Expr×PS):Prop:=∀S,S.i<l.length→S.nest=n→Fact l S (f S)
theorem TokEnd.step {l:List Tok} (h:TokEnd l) {i:Nat} (hi:i<l.length) (hk:(At l i).kind≠0):i+1<l.length:=by
 obtain ⟨L,z,rfl,hz,_⟩:=h.split
 rcases Bf i L.length with h1|h1
 ·simp only [As,Ay,Bn];omega
 have:i=L.length:=by simp only [As,Ay,Bn] at hi;omega
 subst this
 exact absurd (by unfold At;simpa using hz) hk
theorem ng {l:List Tok} {of:Str} {S:PS} (h:isM l of S=true):(At l S.i).kind≠0:=by
 unfold isM at h
 simp only [Ak,Dj,beq_iff_eq] at h
 omega
theorem TokEnd.stepIs {l:List Tok} (h:TokEnd l) {of:Str} {S:PS} (hi:S.i<l.length) (hk:isM l of S=true):(Am S).i<l.length:=h.step hi (ng hk)
theorem failM_i {e a:Int} {S:PS}:(Dt e a S).i=S.i∧(Dt e a S).nest=S.nest:=by unfold Dt;split<;>exact ⟨rfl,rfl⟩
theorem el {l:List Tok} (hl:TokEnd l) {s:Str} {S:PS} (hi:S.i<l.length):S.i≤(F0 l s S).i∧(F0 l s S).i<l.length∧(F0 l s S).nest=S.nest:=by
 unfold F0
 split
 ·exact ⟨An _,hi,rfl⟩
 split
 ·rw [failM_i.1,failM_i.2];exact ⟨An _,hi,rfl⟩
 rename_i h
 simp only [Dj,bne_iff_ne,ne_eq,not_or,Classical.not_not] at h
 have:=hl.step hi (by rw [h.1];decide)
 exact ⟨I1 _,this,rfl⟩
theorem O5 {l:List Tok} {S S0:PS} (h0:S0.i≤S.i) (h1:S.i<l.length) (h2:S.nest=S0.nest) (e a:Int):Fact l S0 (A8,Dt e a S):=by
 refine ⟨?_,?_,?_,Lk (by omega),by rw [T3];omega⟩
 ·show _≤(Dt e a S).i;rw [failM_i.1];exact h0
 ·show (Dt e a S).i<_;rw [failM_i.1];exact h1
 show (Dt e a S).nest=_;rw [failM_i.2];exact h2
/-- A state of a loop of marks. -/
structure LeftAt (l:List Tok) (of:Str) (f:PS→Expr×PS) (S:PS) (r:Expr×PS):Prop where
 fact:Fact l S r
 eq:∃n,l.length≤r.2.i+n∧Fb l of f S=V4 l of f n r
theorem LeftAt.start {l:List Tok} {of:Str} {f:PS→Expr×PS} {S:PS} (h:Fact l S (f S)):LeftAt l of f S (f S):=⟨h,l.length,by omega,rfl⟩
theorem en {l:List Tok} {S:PS} {r q:Expr×PS} (h:Fact l S r) (hq:Fact l (Am r.2) q) (hl:TokEnd l):Fact l S (Gx (At l r.2.i).text r.1 q.1,q.2):=by
 have h1:=h.le
 have h2:r.2.i+1≤q.2.i:=hq.le
 refine ⟨by show S.i≤q.2.i;omega,hq.lt,by show q.2.nest=S.nest;rw [hq.nest];exact h.nest,?_,?_⟩
 rotate_left
 ·have s1:=h.sz
  have s2:sizeE q.1≤2*(q.2.i-(r.2.i+1))+1:=hq.sz
  show sizeE (Gx _ r.1 q.1)≤2*(q.2.i-S.i)+1
  rw [je]
  omega
 show okE (2*(q.2.i-S.i)+1) _
 refine ⟨hl.text _,by simp [Gx,Expr.kids],fun y hy=>?_⟩
 have hy':y=r.1∨y=q.1:=by simpa [Gx,Expr.kids] using hy
 rcases hy' with rfl|rfl
 ·exact Fj (by omega) h.ok
 exact Fj (by show 2*(q.2.i-(r.2.i+1))+1≤_;omega) hq.ok
theorem LeftAt.on {l:List Tok} {of:Str} {f:PS→Expr×PS} {S:PS} {r:Expr×PS} (hl:TokEnd l) (h:LeftAt l of f S r) (hc:((r.2.code==0)&&isM l of r.2)=true) (hf:E3 l S.nest f):(Am r.2).i<l.length∧Fact l (Am r.2) (f (Am r.2))∧LeftAt l of f S (Gx (At l r.2.i).text r.1 (f (Am r.2)).1,(f (Am r.2)).2):=by
 have hi:=hl.stepIs h.fact.lt (l4.1 hc).2
 have hq:=hf (Am r.2) hi h.fact.nest
 obtain ⟨n,hn,e⟩:=h.eq
 have h1:=h.fact.lt
 have h2:r.2.i+1≤(f (Am r.2)).2.i:=hq.le
 obtain ⟨m,rfl⟩:∃m,n=m+1:=⟨n-1,by omega⟩
 refine ⟨hi,hq,en h.fact hq hl,m,by show l.length≤(f (Am r.2)).2.i+m;omega,?_⟩
 rw [e,V4,if_pos hc]
theorem LeftAt.out {l:List Tok} {of:Str} {f:PS→Expr×PS} {S:PS} {r:Expr×PS} (h:LeftAt l of f S r) (hc:¬((r.2.code==0)&&isM l of r.2)=true):Fb l of f S=r:=by
 obtain ⟨n,hn,e⟩:=h.eq
 have h1:=h.fact.lt
 obtain ⟨m,rfl⟩:∃m,n=m+1:=⟨n-1,by omega⟩
 rw [e,V4,if_neg hc]
theorem Yu {l:List Tok} {of:Str} {f:PS→Expr×PS} {S:PS} (hl:TokEnd l) (hf:E3 l S.nest f):∀(k:Nat) (r:Expr×PS),l.length-r.2.i≤k→LeftAt l of f S r→Fact l S (Fb l of f S)
 | 0,r,hk,h=>by have:=h.fact.lt;omega
 | k+1,r,hk,h=>by
  by_cases hc:((r.2.code==0)&&isM l of r.2)=true
  ·obtain ⟨h1,h2,h3⟩:=h.on hl hc hf
   have h4:r.2.i+1≤(f (Am r.2)).2.i:=h2.le
   exact Yu hl hf k _ (by show l.length-(f (Am r.2)).2.i≤k;have:=h.fact.lt;omega) h3
  rw [h.out hc];exact h.fact
theorem Gb {l:List Tok} {of:Str} {f:PS→Expr×PS} {n:Nat} (hl:TokEnd l) (hf:E3 l n f):E3 l n (Fb l of f):=fun S hi hn=>Yu hl (hn ▸ hf) l.length (f S) (by omega) (.start (hf S hi hn))
theorem I7 {l:List Tok} {f:PS→Expr×PS} {S:PS} (a:Int) (hi:S.i<l.length) (hf:S.nest≠30→E3 l (S.nest+1) f):Fact l S (Ca a f S):=by
 unfold Ca
 split
 ·exact O5 (An _) hi rfl _ _
 rename_i h
 have h30:S.nest≠30:=fun e=>h (by rw [e];rfl)
 have:=hf h30 (Cw S) hi rfl
 refine ⟨this.le,this.lt,?_,this.ok,this.sz⟩
 show (f (Cw S)).2.nest-1=S.nest
 rw [this.nest]
 rfl
/-- What is so of some kids. -/
structure KFact (l:List Tok) (S:PS) (r:List Expr×PS):Prop where
 le:S.i≤r.2.i
 lt:r.2.i<l.length
 nest:r.2.nest=S.nest
 len:r.1.length≤r.2.i-S.i+1
 ok:∀y∈r.1,okE (2*(r.2.i-S.i)+1) y
 sz:C2 r.1≤2*(r.2.i-S.i)+1
structure ArgsAt (l:List Tok) (f:PS→Expr×PS) (S:PS) (r:List Expr×PS):Prop where
 fact:KFact l S r
 eq:∃n,l.length≤r.2.i+n∧Gz l f S=argsF l f n r
theorem ArgsAt.start {l:List Tok} {f:PS→Expr×PS} {S:PS} (h:Fact l S (f S)):ArgsAt l f S ([(f S).1],(f S).2):=⟨⟨h.le,h.lt,h.nest,by simp,fun y hy=>by rw [Bh.1 hy];exact h.ok,by have:=h.sz;show sizeE (f S).1+0≤_;exact this⟩,l.length,by omega,rfl⟩
theorem ArgsAt.on {l:List Tok} {f:PS→Expr×PS} {S:PS} {r:List Expr×PS} (hl:TokEnd l) (h:ArgsAt l f S r) (hc:((r.2.code==0)&&isM l T0 r.2)=true) (hf:E3 l S.nest f):(Am r.2).i<l.length∧Fact l (Am r.2) (f (Am r.2))∧ArgsAt l f S (r.1++[(f (Am r.2)).1],(f (Am r.2)).2):=by
 have hi:=hl.stepIs h.fact.lt (l4.1 hc).2
 have hq:=hf (Am r.2) hi h.fact.nest
 obtain ⟨n,hn,e⟩:=h.eq
 have h1:=h.fact.lt
 have h0:=h.fact.le
 have h2:r.2.i+1≤(f (Am r.2)).2.i:=hq.le
 obtain ⟨m,rfl⟩:∃m,n=m+1:=⟨n-1,by omega⟩
 refine ⟨hi,hq,⟨by show S.i≤(f (Am r.2)).2.i;omega,hq.lt,by show (f (Am r.2)).2.nest=_;rw [hq.nest];exact h.fact.nest,?_,fun y hy=>?_,?_⟩,m,by show l.length≤(f (Am r.2)).2.i+m;omega,?_⟩
 ·have:=h.fact.len
  show (r.1++_).length≤(f (Am r.2)).2.i-S.i+1
  simp only [As,Ay,Bn]
  omega
 ·show okE (2*((f (Am r.2)).2.i-S.i)+1) y
  rcases Dy.1 hy with hy|hy
  ·exact Fj (by omega) (h.fact.ok y hy)
  rw [Bh.1 hy]
  exact Fj (by show 2*((f (Am r.2)).2.i-(r.2.i+1))+1≤_;omega) hq.ok
 ·have s1:=h.fact.sz
  have s2:sizeE (f (Am r.2)).1≤2*((f (Am r.2)).2.i-(r.2.i+1))+1:=hq.sz
  show C2 (r.1++[(f (Am r.2)).1])≤2*((f (Am r.2)).2.i-S.i)+1
  rw [V6,C2,C2]
  omega
 rw [e,argsF,if_pos hc]
theorem ArgsAt.out {l:List Tok} {f:PS→Expr×PS} {S:PS} {r:List Expr×PS} (h:ArgsAt l f S r) (hc:¬((r.2.code==0)&&isM l T0 r.2)=true):Gz l f S=r:=by
 obtain ⟨n,hn,e⟩:=h.eq
 have h1:=h.fact.lt
 obtain ⟨m,rfl⟩:∃m,n=m+1:=⟨n-1,by omega⟩
 rw [e,argsF,if_neg hc]
theorem Yv {l:List Tok} {f:PS→Expr×PS} {S:PS} (hl:TokEnd l) (hf:E3 l S.nest f):∀(k:Nat) (r:List Expr×PS),l.length-r.2.i≤k→ArgsAt l f S r→KFact l S (Gz l f S)
 | 0,r,hk,h=>by have:=h.fact.lt;omega
 | k+1,r,hk,h=>by
  by_cases hc:((r.2.code==0)&&isM l T0 r.2)=true
  ·obtain ⟨h1,h2,h3⟩:=h.on hl hc hf
   have h4:r.2.i+1≤(f (Am r.2)).2.i:=h2.le
   exact Yv hl hf k _ (by show l.length-(f (Am r.2)).2.i≤k;have:=h.fact.lt;omega) h3
  rw [h.out hc];exact h.fact
theorem T5 {l:List Tok} {f:PS→Expr×PS} {S:PS} (hl:TokEnd l) (hi:S.i<l.length) (hf:E3 l S.nest f):KFact l S (Gz l f S):=Yv hl hf l.length _ (by show l.length-(f S).2.i≤_;omega) (.start (hf S hi rfl))
theorem T6 {l:List Tok} {f:PS→Expr×PS} {S:PS} (hl:TokEnd l) (a:Int) (hi:S.i<l.length) (hf:S.nest≠30→E3 l (S.nest+1) f):KFact l S (Qd l a f S):=by
 unfold Qd
 split
 ·refine ⟨?_,?_,?_,by simp,fun y hy=>(by cases hy),by simp [C2]⟩
  ·show _≤(Dt _ _ S).i;rw [failM_i.1];exact An _
  ·show (Dt _ _ S).i<_;rw [failM_i.1];exact hi
  show (Dt _ _ S).nest=_;rw [failM_i.2]
 rename_i h
 have h30:S.nest≠30:=fun e=>h (by rw [e];rfl)
 have:=T5 (S:=Cw S) hl hi (hf h30)
 refine ⟨this.le,this.lt,?_,this.len,this.ok,this.sz⟩
 show (Gz l f (Cw S)).2.nest-1=S.nest
 rw [this.nest]
 rfl
theorem cp {l:List Tok} {D:Fam} {S:PS} (hl:TokEnd l) (hll:l.length≤1048576) {t:Tok} (ht:t.text.length≤1048576) (hi:(Am S).i<l.length) (hf:S.nest≠30→E3 l (S.nest+1) D.ei):Fact l S (H0 l D t S):=by
 have hk:KFact l (Am S) (D4 l D S):=T6 hl _ hi hf
 have h1:S.i+1≤(D4 l D S).2.i:=hk.le
 obtain ⟨w1,w2,w3⟩:=el (s:=Ev) hl hk.lt
 unfold H0
 split
 ·exact O5 (An _) (by show S.i<_;have:S.i+1<l.length:=hi;omega) rfl _ _
 split
 ·exact O5 (show S.i≤(F0 l Ev (D4 l D S).2).i by omega) w2 (w3.trans hk.nest) 8 t.at_
 refine ⟨by show S.i≤(F0 l Ev (D4 l D S).2).i;omega,w2,w3.trans hk.nest,?_,?_⟩
 rotate_left
 ·have s1:C2 (D4 l D S).1≤2*((D4 l D S).2.i-(S.i+1))+1:=hk.sz
  show sizeE (.mk 6 t.text noV (D4 l D S).1)≤2*((F0 l Ev (D4 l D S).2).i-S.i)+1
  rw [sizeE]
  omega
 show okE (2*((F0 l Ev (D4 l D S).2).i-S.i)+1) _
 refine ⟨ht,?_,fun y hy=>?_⟩
 ·have h5:(D4 l D S).1.length≤(D4 l D S).2.i-(Am S).i+1:=hk.len
  have h6:=hk.lt
  show (D4 l D S).1.length≤1048576
  omega
 exact Fj (by show 2*((D4 l D S).2.i-(S.i+1))+1≤_;omega) (hk.ok y hy)
theorem cq {l:List Tok} {D:Fam} {n:Nat} (hl:TokEnd l) (hll:l.length≤1048576) (hf:n≠30→E3 l (n+1) D.ei):E3 l n (Fq l D):=by
 intro S hi hn
 subst hn
 unfold Fq
 have leaf:∀e:Expr,okE 1 e→sizeE e=1→(At l S.i).kind≠0→Fact l S (e,Am S):=fun e he hs hk=>⟨I1 _,hl.step hi hk,rfl,Fj (by omega) he,by show sizeE e≤_;omega⟩
 split
 ·exact ⟨An _,hi,rfl,Lk (by omega),by show sizeE A8≤_;rw [T3];omega⟩
 split
 ·rename_i h
  refine leaf _ (ek (An _) _) rfl ?_
  rcases Bool.or_eq_true_iff.1 h with h|h
  ·rw [beq_iff_eq] at h;rw [h];decide
  exact ng h
 split
 ·rename_i h
  rw [beq_iff_eq] at h
  exact leaf _ (ek (An _) _) rfl (by rw [h];decide)
 split
 ·rename_i h
  rw [beq_iff_eq] at h
  have hk:(At l S.i).kind≠0:=by rw [h];decide
  split
  ·rename_i h2
   have hi1:(Am S).i<l.length:=hl.step hi hk
   have:=cp (S:=Am S) (D:=D) hl hll (hl.text S.i) (hl.stepIs hi1 h2) hf
   have h3:S.i+1≤(H0 l D (At l S.i) (Am S)).2.i:=this.le
   have h4:sizeE (H0 l D (At l S.i) (Am S)).1≤2*((H0 l D (At l S.i) (Am S)).2.i-(S.i+1))+1:=this.sz
   exact ⟨by omega,this.lt,this.nest,Fj (by show 2*((H0 l D (At l S.i) (Am S)).2.i-(S.i+1))+1≤_;omega) this.ok,by omega⟩
  exact leaf _ (Yf _ (hl.text _)) rfl hk
 split
 ·rename_i h
  have hi1:(Am S).i<l.length:=hl.stepIs hi h
  have:=I7 (S:=Am S) (l:=l) (f:=D.ei) (At l S.i).at_ hi1 hf
  obtain ⟨w1,w2,w3⟩:=el (s:=Ev) hl this.lt
  have h3:S.i+1≤(Ca (At l S.i).at_ D.ei (Am S)).2.i:=this.le
  have h4:sizeE (Ca (At l S.i).at_ D.ei (Am S)).1≤2*((Ca (At l S.i).at_ D.ei (Am S)).2.i-(S.i+1))+1:=this.sz
  refine ⟨by show S.i≤(F0 l Ev _).i;omega,w2,w3.trans this.nest,Fj ?_ this.ok,by show sizeE (Ca (At l S.i).at_ D.ei (Am S)).1≤2*((F0 l Ev (Ca (At l S.i).at_ D.ei (Am S)).2).i-S.i)+1;omega⟩
  show 2*((Ca (At l S.i).at_ D.ei (Am S)).2.i-(S.i+1))+1≤2*((F0 l Ev (Ca (At l S.i).at_ D.ei (Am S)).2).i-S.i)+1
  omega
 exact O5 (An _) hi rfl _ _
theorem eo {l:List Tok} {S:PS} {r:Expr×PS} (h:Fact l (Am S) r) (op:Int):Fact l S (F1 op r.1,r.2):=by
 have h1:S.i+1≤r.2.i:=h.le
 refine ⟨by show S.i≤r.2.i;omega,h.lt,h.nest,?_,?_⟩
 rotate_left
 ·have s1:sizeE r.1≤2*(r.2.i-(S.i+1))+1:=h.sz
  show sizeE (F1 op r.1)≤2*(r.2.i-S.i)+1
  rw [jf]
  omega
 show okE (2*(r.2.i-S.i)+1) _
 refine ⟨by simp [F1,Expr.text],by simp [F1,Expr.kids],fun y hy=>?_⟩
 have hy':y=r.1:=by simpa [F1,Expr.kids] using hy
 subst hy'
 exact Fj (by show 2*(r.2.i-(S.i+1))+1≤_;omega) h.ok
theorem Pl {l:List Tok} {D:Fam} {n:Nat} (hl:TokEnd l) (hll:l.length≤1048576) (hf:n≠30→E3 l (n+1) D.ei) (hg:n≠30→E3 l (n+1) D.ne):E3 l n (Qr l D):=by
 intro S hi hn
 unfold Qr
 split
 ·exact cq hl hll hf S hi hn
 rename_i h
 subst hn
 exact eo (I7 (S:=Am S) _ (hl.stepIs hi (by simpa using h)) hg) 3
theorem V7 {l:List Tok} {D:Fam} {n:Nat} (hl:TokEnd l) (hll:l.length≤1048576) (hf:n≠30→E3 l (n+1) D.ei) (hg:n≠30→E3 l (n+1) D.ne):E3 l n (E2 l D):=Gb hl (Gb hl (Pl hl hll hf hg))
theorem Me {l:List Tok} {D:Fam} {n:Nat} (hl:TokEnd l) (hll:l.length≤1048576) (hf:n≠30→E3 l (n+1) D.ei) (hg:n≠30→E3 l (n+1) D.ne):E3 l n (F3 l D):=by
 intro S hi hn
 have h1:=V7 hl hll hf hg S hi hn
 unfold F3
 split
 ·exact h1
 rename_i h
 simp only [Dj,not_or,Vn,Ja] at h
 exact en h1 (V7 hl hll hf hg _ (hl.stepIs h1.lt h.2) (h1.nest.trans hn)) hl
theorem V8 {l:List Tok} {D:Fam} {n:Nat} (hl:TokEnd l) (hll:l.length≤1048576) (hf:n≠30→E3 l (n+1) D.ei) (hg:n≠30→E3 l (n+1) D.ne) (hh:n≠30→E3 l (n+1) D.no):E3 l n (Qs l D):=by
 intro S hi hn
 unfold Qs
 split
 ·exact Me hl hll hf hg S hi hn
 rename_i h
 subst hn
 exact eo (I7 (S:=Am S) _ (hl.stepIs hi (by simpa using h)) hh) 4
theorem Pm {l:List Tok} (hl:TokEnd l) (hll:l.length≤1048576):∀(d n:Nat),n+d=31→n≠31→E3 l n (Ew l d).ei∧E3 l n (Ew l d).no∧E3 l n (Ew l d).ne
 | 0,n,h,h2=>by omega
 | d+1,n,h,_=>by
  have ih:n≠30→_:=fun h30=>Pm hl hll d (n+1) (by omega) (by omega)
  have hn:=V8 (D:=Ew l d) (n:=n) hl hll (fun h=>(ih h).1) (fun h=>(ih h).2.2) (fun h=>(ih h).2.1)
  exact ⟨Gb hl (Gb hl hn),hn,Pl hl hll (fun h=>(ih h).1) (fun h=>(ih h).2.2)⟩
abbrev pr (l:List Tok) (S:PS):AObj:=.cells 171 [.slice false 3 (l.map Iu),A6 (S.i:Int),A6 (S.nest:Int),A6 S.code,A6 S.at_]
theorem Cm {n:Nat} {l:List Tok} {S:PS}:ObjLow n (pr l S):=by
 show ∀y∈[AV.slice false 3 (l.map Iu),A6 (S.i:Int),A6 (S.nest:Int),A6 S.code,A6 S.at_],Low n y
 intro y hy
 simp only [By,Hb,or_false] at hy
 rcases hy with rfl|rfl|rfl|rfl|rfl
 ·simp [or_imp,forall_and]
 all_goals simp
theorem Ll (o:Int) (t:Str) (v:Val):Le (.agg [A6 o,Ah t,A6 v.kind,A6 v.n,Ah v.s,.nil]) (Aa (.mk o t v [])):=by
 rw [Ad]
 refine .agg _ _ rfl (by simp [AV.one,Value.oneCell',sv]) fun i y y' h1 h2=>?_
 match i with
 | 0=>simp at h1 h2;subst h1;subst h2;exact .inl rfl
 | 1=>simp at h1 h2;subst h1;subst h2;exact .inl rfl
 | 2=>simp at h1 h2;subst h1;subst h2;exact .inl rfl
 | 3=>simp at h1 h2;subst h1;subst h2;exact .inl rfl
 | 4=>simp at h1 h2;subst h1;subst h2;exact .inl rfl
 | 5=>simp at h1 h2;subst h1;subst h2;exact .inr ⟨rfl,6,rfl⟩
 | i+6=>simp at h1
theorem F4:Le (.agg [A6 0,Ah [],A6 0,A6 0,Ah [],.nil]) (Aa A8):=Ll 0 [] noV
theorem AAu (l:List Tok) (S:PS) (o:Nat) (Hp:List AObj) (ho:Hp[o]? = some (pr l S)) (hi:S.i<l.length):AFun Tryz.prog 254 [.ptr o 0] Hp (Iu (At l S.i)):=by
 refine Aq [.cell 2 113] [0] Tryz.func254 Tryz.ntmps254 (fun d=>?_)
 refine Z52 ?_;refine Er [0,1,3,7,0,16,48,112,255,511,1023] 8 Aw (by kernel_rfl) ?_;refine Z33 ?_
 refine B4 (h:=Ep ho) (hr:=?_)
 refine Z33 ?_
 refine B4 (h:=Ep ho) (hr:=?_)
 refine Dw ?_
 refine A7 (h:=Ax (S.i) (Iu (At l S.i)) (fun _=>Pe hi)) (hr:=?_)
 refine A7 ?_;exact un

theorem Yw (l:List Tok) (S:PS) (of:Str) (o:Nat) (Hp:List AObj) (ho:Hp[o]? = some (pr l S)) (hi:S.i<l.length) (hl:TokEnd l) (hof:of.length≤1048576):AFun Tryz.prog 203 [.ptr o 0,Ah of] Hp (B8 (isM l of S)):=by
 refine Aq [.tmp 4] [0,1] Tryz.func203 Tryz.ntmps203 (fun d=>?_)
 refine Z70 ?_;refine Z3 ?_;refine Z99 ?_;refine A2 [1,5] ?_;refine Wh ?_;refine Z12 ?_;refine C4 ?_;refine Co Tryz.call125 (fun hB=>yr (At l S.i).text of (hl.text _) hof _) ?_;refine Z0 ?_;exact qb

theorem nh (l:List Tok) (S:PS) (o:Nat) (Hp:List AObj) (ho:Hp[o]? = some (pr l S)) (hi:S.i<l.length) (hll:l.length≤1048576):ACall Tryz.prog 204 [.ptr o 0] Hp (fun r H'=>r=Iu (At l S.i)∧H'=Hp.set o (pr l (Am S))):=by
 refine Aq [.cell 2 113] [0] Tryz.func204 Tryz.ntmps204 (fun d=>?_)
 refine Z52 ?_;refine Z3 ?_;refine Z99 ?_;refine A2 [0,2,3] ?_;refine Z14 ?_
 refine A7 (h:=Ep ho) (hr:=?_)
 refine Z24 ?_
 refine H3 jS ho ?_ ?_
 ·simp
 refine A2 [2,3] ?_;refine Z3 ?_;exact un

theorem jg (l:List Tok) (S:PS) (e a:Int) (o:Nat) (Hp:List AObj) (ho:Hp[o]? = some (pr l S)):ACall Tryz.prog 116 [.ptr o 0,A6 e,A6 a] Hp (fun r H'=>r=Aa A8∧H'=Hp.set o (pr l (Dt e a S))):=by
 refine Aq [.cell 6 26] [0,1,2] Tryz.func116 Tryz.ntmps116 (fun d=>?_)
 refine qe ?_;refine Z60 ?_
 refine A7 (h:=Ep ho) (hr:=?_)
 refine A7 ?_;refine A2 [0,1,2,6,12] ?_
 refine A4 (fun ht12=>?_) (fun ht12=>?_)
 ·have e:Dt e a S=⟨S.i,S.nest,e,a⟩:=if_pos ht12
  refine Z55 ?_;refine ik ?_;refine Z0 ?_
  refine H3 jS ho ?_ ?_
  ·simp
  refine A2 [6] ?_;refine Fv ?_;refine Z25 ?_;refine Ef 19 _ F4 ?_;refine ic ?_;exact A5 (Ap (Ai jA jS)) ⟨rfl,by rw [e]⟩ (hlow:=Ag _ A8)
 have e:Dt e a S=S:=if_neg (by rw [ht12];simp)
 refine Z9 ?_;refine Z25 ?_;refine Ef 19 _ F4 ?_;refine ic ?_;exact A5 (Ap (Ai jA jS)) ⟨rfl,by rw [e];exact (Ho ho).symm⟩ (hlow:=Ag _ A8)

theorem yz (v:Val) (Hp:List AObj):AFun Tryz.prog 348 [Bq v] Hp (Aa (Cs v)):=by
 refine Aq [.cell 2 26] [0] Tryz.func348 Tryz.ntmps348 (fun d=>?_)
 refine mb ?_;refine A2 [1,2] ?_;refine ug ?_;refine Ef 4 _ (Ll 1 [] v) ?_;exact wz

theorem z6 (l:List Tok) (S:PS) (s:Str) (o:Nat) (Hp:List AObj) (ho:Hp[o]? = some (pr l S)) (hi:S.i<l.length) (hll:l.length≤1048576):ACall Tryz.prog 350 [.ptr o 0,Ah s] Hp (fun r H'=>r=.v (.tuple #[])∧H'=Hp.set o (pr l (F0 l s S))):=by
 refine Aq [] [0,1] Tryz.func350 Tryz.ntmps350 (fun d=>?_)
 refine Z60 ?_
 refine A7 (h:=Ep ho) (hr:=?_)
 refine A7 ?_;refine A2 [0,1,10] ?_
 refine A4 (fun ht10=>?_) (fun ht10=>?_)
 ·have e:F0 l s S=S:=if_pos ht10
  refine Z69 ?_;exact A5 .nores (hp:=⟨rfl,by rw [e];exact (Ho ho).symm⟩)
 have e0:¬(S.code != 0)=true:=by rw [ht10];simp
 refine Wg ?_;refine Z99 ?_;refine A2 [0,1,4] ?_;refine Z17 ?_;refine Z45 ?_;refine A7 ?_;refine A2 [0,4,21] ?_
 refine A4 (fun ht21=>?_) (fun ht21=>?_)
 ·have e:F0 l s S=Dt 8 (At l S.i).at_ S:=by unfold F0;rw [if_neg e0,if_pos ht21]
  refine xe ?_;refine A2 [] ?_;refine Z69 ?_;exact A5 .nores (hp:=⟨rfl,by rw [e]⟩)
 have e:F0 l s S=Am S:=by unfold F0;rw [if_neg e0,if_neg (by rw [ht21];simp)]
 refine Z9 ?_;refine Z55 ?_
 refine A7 (h:=Ep ho) (hr:=?_)
 refine Z24 ?_
 refine H3 jS ho ?_ ?_
 ·simp
 refine A2 [] ?_;exact L9 .nores (hp:=⟨rfl,by rw [e];rfl⟩)

/-- The contract of one of the parser's functions. -/
def PC (g:FuncId) (l:List Tok) (f:PS→Expr×PS) (n:Nat):Prop:=∀(o:Nat) (Hp:List AObj) (S:PS),Hp[o]? = some (pr l S)→S.i<l.length→S.nest=n→ACall Tryz.prog g [.ptr o 0] Hp (fun r H'=>r=Aa (f S).1∧H'=Hp.set o (pr l (f S).2))
abbrev Je:AObj:=.cells 26 [A6 0,Ah [],A6 0,A6 0,Ah [],.nil]
theorem O6 {n:Nat}:ObjLow n Je:=by
 show ∀y∈[A6 0,Ah [],A6 0,A6 0,Ah [],AV.nil],Low n y
 simp
theorem rg {n:Nat} (e:Expr):ObjLow n (.cells 26 (Bg e)):=by
 have h:=Ag n e
 rw [Ad] at h
 show ∀y∈Bg e,Low n y
 intro y hy
 cases h with
 | agg _ h=>exact h y hy
theorem rh (l:List Tok) (S:PS) (a:Int) (g:FuncId) (first caps:List AV) (x:Expr) (S2:PS) (o:Nat) (Hp Hx:List AObj) (ho:Hp[o]? = some (pr l S)) (hnl:S.nest≤1048576) (hgc:∀args w,(callFunc g args).run Tryz.prog w=.ok (.enter g args) w) (hxl:Hx.length=Hp.length) (hxo:Hx[o]? = some (pr l S2)) (hn2:S2.nest=S.nest+1) (hlow:(∀y∈Hp.set o (pr l (Cw S)),ObjLow Hp.length y)→∀y∈Hx,ObjLow Hp.length y) (hcf:S.nest≠30→∀own,ACall Tryz.prog g (first++caps) (Hp.set o (pr l (Cw S))++own) (fun y H'=>y=Aa x∧H'=Hx++own)):ACall Tryz.prog 256 [.ptr o 0,A6 a,.fn (.func g) first caps] Hp (fun r H'=>(S.nest=30→r=Aa A8∧H'=Hp.set o (pr l (Dt 18 a S)))∧(S.nest≠30→r=Aa x∧H'=Hx.set o (pr l (V3 S2)))):=by
 refine Aq [.cell 6 26] [0,1,2] Tryz.func256 Tryz.ntmps256 (fun d=>?_)
 refine qe ?_;refine Z39 ?_
 refine A7 (h:=Ep ho) (hr:=?_)
 refine A7 ?_;refine A2 [0,1,2,6,12] ?_
 refine A4 (fun ht12=>?_) (fun ht12=>?_)
 ·have hn30:S.nest=30:=by have:=ht12;simp at this;omega
  refine Z1 ?_;refine Bw Tryz.call116 ho (by simp) Cm (jg l S 18 a o _ (Av ho)) ?_;refine Z83 ?_;refine Z69 ?_;exact A5 (Ap (Ai jA jS)) ⟨fun _=>⟨by rw [Ad],rfl⟩,fun h=>absurd hn30 h⟩ (hlow:=by have:=Ag Hp.length A8;rw [Ad] at this;simpa using this)
 have hn30:S.nest≠30:=by have:=ht12;simp at this;omega
 refine U4 ?_
 refine A7 (h:=Ep ho) (hr:=?_)
 refine Z24 ?_
 refine H3 jS ho ?_ ?_
 ·simp
 refine A2 [0,2,6] ?_;refine Z3 ?_
 refine R.callVX (up':=Hx) (own':=[Je]) hgc (hcf hn30 [Je]) (by simpa using hxl) (by rw [Do];exact hlow) ?_
 rw [←hxl]
 refine Z21 ?_;refine A2 [0,6,7] ?_;refine Z14 ?_
 refine A7 (h:=Ep hxo) (hr:=?_)
 refine Z24 ?_
 refine H3 jS hxo ?_ ?_
 ·simp
 refine A2 [6,7] ?_;refine Z3 ?_;refine ic ?_;exact A5 (Ap (Ai jA jS)) ⟨fun h=>absurd h hn30,fun _=>⟨by rw [Ad],by rw [show ((S2.nest:Int)-1)=((V3 S2).nest:Int) by show _=((S2.nest-1:Nat):Int);omega];rfl⟩⟩ (hlow:=by have:=Ag Hx.length x;rw [Ad] at this;simpa using this)

theorem jh (t:Str) (a b:Expr):Bg (Gx t a b)=[A6 5,.v (sv t),A6 0,A6 0,Ah [],.slice false 6 [Aa a,Aa b]]:=rfl
theorem ri {n:Nat} (t:Str) (a b:Expr):ObjLow n (.cells 26 [A6 5,.v (sv t),A6 0,A6 0,Ah [],.slice false 6 [Aa a,Aa b]]):=rg (Gx t a b)
theorem rj {n:Nat} {U:List AObj} {i:Nat} {x:AObj} (h:∀y∈U,ObjLow n y) (hx:ObjLow n x):∀y∈U.set i x,ObjLow n y:=by
 intro y hy
 rcases Nl hy with h1|h1
 ·exact h y h1
 rw [h1];exact hx
/-- within, with a method's value. -/
theorem ni {g:FuncId} (hgc:∀args w,(callFunc g args).run Tryz.prog w=.ok (.enter g args) w) (l:List Tok) (S:PS) (a:Int) (f:PS→Expr×PS) (o:Nat) (Hp:List AObj) (ho:Hp[o]? = some (pr l S)) (hi:S.i<l.length) (hnl:S.nest≤30) (hf:S.nest≠30→E3 l (S.nest+1) f) (hcf:S.nest≠30→PC g l f (S.nest+1)):
  ACall Tryz.prog 256 [.ptr o 0,A6 a,.fn (.func g) [.ptr o 0] []] Hp (fun r H'=>r=Aa (Ca a f S).1∧H'=Hp.set o (pr l (Ca a f S).2)):=by
 have hlt:=(Ae.1 ho).1
 by_cases h30:S.nest=30
 ·refine (rh l S a g [.ptr o 0] [] A8 (Cw S) o Hp (Hp.set o (pr l (Cw S))) ho (by omega) hgc (by simp) (by simp [hlt]) rfl (fun h=>h) (fun h=>absurd h30 h)).mono fun r H' h=>?_
  have e:Ca a f S=(A8,Dt 18 a S):=if_pos (by rw [h30];rfl)
  rw [e]
  exact h.1 h30
 have hq:=hf h30 (Cw S) hi rfl
 refine (rh l S a g [.ptr o 0] [] (f (Cw S)).1 (f (Cw S)).2 o Hp (Hp.set o (pr l (f (Cw S)).2)) ho (by omega) hgc (by simp) (by simp [hlt]) hq.nest (fun h y hy=>?_) (fun _ own=>?_)).mono fun r H' h=>?_
 ·rcases Nl hy with h1|h1
  ·obtain ⟨i,hi',rfl⟩:=Rl h1
   by_cases hio:i=o
   ·subst hio
    have:Hp[i]=pr l S:=by rw [Al hi'] at ho;injection ho
    rw [this];exact Cm
   refine h _ ?_
   rw [dd]
   exact ⟨i,by rw [El (Ne.symm hio),Al hi']⟩
  rw [h1];exact Cm
 ·have hg:(Hp.set o (pr l (Cw S))++own)[o]? = some (pr l (Cw S)):=Av (by simp [hlt])
  refine (hcf h30 o (Hp.set o (pr l (Cw S))++own) (Cw S) hg hi rfl).mono fun r H' h=>⟨h.1,h.2.trans ?_⟩
  rw [Ls _ _ (by simpa using hlt),De]
 have e:Ca a f S=((f (Cw S)).1,V3 (f (Cw S)).2):=if_neg (by
  show ¬(((S.nest:Int)==30)=true)
  simp
  omega)
 rw [e]
 obtain ⟨h1,h2⟩:=h.2 h30
 exact ⟨h1,by rw [h2,De]⟩
theorem rk {g:FuncId} (hgc:∀args w,(callFunc g args).run Tryz.prog w=.ok (.enter g args) w) (l:List Tok) (S:PS) (of:Str) (hof:of.length≤1048576) (f:PS→Expr×PS) (o:Nat) (Hp:List AObj) (ho:Hp[o]? = some (pr l S)) (hi:S.i<l.length) (hl:TokEnd l) (hll:l.length≤1048576) (hf:E3 l S.nest f) (hcf:PC g l f S.nest):ACall Tryz.prog 156 [.ptr o 0,Ah of,.fn (.func g) [.ptr o 0] []] Hp (fun r H'=>r=Aa (Fb l of f S).1∧H'=Hp.set o (pr l (Fb l of f S).2)):=by
 have holt:=(Ae.1 ho).1
 refine Aq [.cell 6 26] [0,1,2] Tryz.func156 Tryz.ntmps156 (fun d=>?_)
 refine qe ?_;refine Z3 ?_;refine R.callVUp hgc ho (by simp) Cm (hcf o _ S (Av ho) hi rfl) ?_;refine Z21 ?_;refine A2 [0,1,2,6,7] ?_;refine In ?_
 refine Ff (α:=Expr×PS) (fun r=>⟨32,Ao 0 (.ptr o 0) (Ao 1 (Ah of) (Ao 2 (.fn (.func g) [.ptr o 0] []) (Ao 6 (.ptr (oid Hp.length 0) 0) (Ao 7 (.ptr (oid Hp.length 1) 0) (fun _=>.any))))),Hp.set o (pr l r.2),[.cells 26 [A6 0,Ah [],A6 0,A6 0,Ah [],.nil],.cells 26 (Bg r.1)],[],none⟩) (fun r=>LeftAt l of f S r) (fun r=>l.length-r.2.i) (f S) (.start (hf S hi rfl)) (E9 (by simp)) rfl (fun r hx=>?_)
 refine Z60 ?_
 refine A7 (h:=Ep (Ar ho)) (hr:=?_)
 refine Z0 ?_;refine Z12 ?_;refine Co Tryz.call203 (fun hB=>Yw l r.2 of o _ (Av (Ar ho)) hx.fact.lt hl hof) ?_;refine A7 ?_;refine A2 [0,1,2,6,7,21] ?_
 refine A4 (fun ht21=>?_) (fun ht21=>?_)
 ·have hon:=hx.on hl ht21 hf
  have hle:=hon.2.1.le
  have hlt0:=hx.fact.lt
  have hU1:(Hp.set o (pr l r.2)).set o (pr l (Am r.2))=Hp.set o (pr l (Am r.2)):=De ..
  refine Z9 ?_;refine I5 ?_;refine Z3 ?_;refine Bw Tryz.call204 (Ar ho) (by simp) Cm (nh l r.2 o _ (Av (Ar ho)) hx.fact.lt hll) ?_;refine Z21 ?_;refine A2 [0,1,2,6,7,8] ?_;refine W.drawY0 [0,1,0,0,8,28,63,127] [4] [.q 4 [] [],.s [28] (some 0) [] [],.q 1 [0] []] (fun B=>Hp.set o (if B 0=true then pr l (f (Am r.2)).2 else pr l (Am r.2))) (fun _=>[.cells 26 [A6 0,Ah [],A6 0,A6 0,Ah [],.nil],.cells 26 (Bg r.1),.cells 113 [A6 (At l r.2.i).kind,Ah (At l r.2.i).text,A6 (At l r.2.i).at_]]) Aw (by kernel_rfl) (by simp [De]) rfl (fun B=>by simp) ?_
  apply Y.q
  ·intro B hT hF
   refine b8 ?_;exact bb
  case hTF=>decide
  refine Y.callVUp (r:=Aa (f (Am r.2)).1) (o:=o) (x0:=pr l (Am r.2)) (x:=pr l (f (Am r.2)).2) hgc (fun B hT hF hB=>⟨by simp only [hB];exact Ar ho,by simp [upd],rfl,Cm,?_⟩) ?_
  ·simp only [hB]
   exact hcf o _ (Am r.2) (Av (Ar ho)) hon.1 hx.fact.nest
  apply Y.q
  ·intro B hT hF
   exact Z87
  case hTF=>decide
  refine H5 (tn:=[4]) (U:=Hp.set o (pr l (f (Am r.2)).2)) ?_;refine Y2 ?_;refine Jj ?_;refine A2 [0,1,2,6,7] ?_;refine Jc ?_
  refine Ct (Gx (At l r.2.i).text r.1 (f (Am r.2)).1,(f (Am r.2)).2) hon.2.2 (by show l.length-(f (Am r.2)).2.i<l.length-r.2.i;have:r.2.i+1≤(f (Am r.2)).2.i:=hle;omega) ?_
  simp only [jh]
  have hlow2:=fun n=>ri (n:=n) (At l r.2.i).text r.1 (f (Am r.2)).1
  simp only [Ad] at hlow2 ⊢
  exact Es (fun _=>.refl _) (by repeat (first|exact C6|refine C5 (by simp [oid]<;>omega) ?_)) (by intro y hy;rcases By.1 hy with rfl|hy;exact O6;rw [Bh.1 hy];exact hlow2 _) (by simp)
 have hout:=hx.out (by rw [ht21];simp)
 refine Z95 ?_;refine Z58 ?_;refine Z3 ?_;refine ic ?_;exact A5 (Ap (Ai jA jS)) ⟨by rw [hout,Ad],by rw [hout]⟩ (hlow:=by have:=Ag (Hp.set o (pr l r.2)).length r.1;rw [Ad] at this;simpa using this)

theorem AAv (l:List Tok) (S:PS) (f:PS→Expr×PS) (o:Nat) (Hp:List AObj) (ho:Hp[o]? = some (pr l S)) (hi:S.i<l.length) (hl:TokEnd l) (hll:l.length≤1048576) (hf:E3 l S.nest f) (hcf:PC 157 l f S.nest):ACall Tryz.prog 114 [.ptr o 0] Hp (fun r H'=>r=Aa (Fb l orT f S).1∧H'=Hp.set o (pr l (Fb l orT f S).2)):=by
 refine Aq [.cell 2 26] [0] Tryz.func114 Tryz.ntmps114 (fun d=>?_)
 refine Z52 ?_;refine Z1 ?_;refine H2 ?_;refine Bw Tryz.call156 ho (by simp) Cm (rk Tryz.call157 l S orT (by decide) f o _ (Av ho) hi hl hll hf hcf) ?_;refine Z10 ?_;exact A5 (Ap (Ai jA jS)) ⟨by rw [Ad],rfl⟩ (hlow:=by have:=Ag Hp.length (Fb l orT f S).1;rw [Ad] at this;simpa using this)

theorem AAw (l:List Tok) (S:PS) (f:PS→Expr×PS) (o:Nat) (Hp:List AObj) (ho:Hp[o]? = some (pr l S)) (hi:S.i<l.length) (hl:TokEnd l) (hll:l.length≤1048576) (hf:E3 l S.nest f) (hcf:PC 205 l f S.nest):ACall Tryz.prog 157 [.ptr o 0] Hp (fun r H'=>r=Aa (Fb l jc f S).1∧H'=Hp.set o (pr l (Fb l jc f S).2)):=by
 refine Aq [.cell 2 26] [0] Tryz.func157 Tryz.ntmps157 (fun d=>?_)
 refine Z52 ?_;refine Z1 ?_;refine H2 ?_;refine Bw Tryz.call156 ho (by simp) Cm (rk Tryz.call205 l S jc (by decide) f o _ (Av ho) hi hl hll hf hcf) ?_;refine Z10 ?_;exact A5 (Ap (Ai jA jS)) ⟨by rw [Ad],rfl⟩ (hlow:=by have:=Ag Hp.length (Fb l jc f S).1;rw [Ad] at this;simpa using this)

theorem AAx (l:List Tok) (S:PS) (f:PS→Expr×PS) (o:Nat) (Hp:List AObj) (ho:Hp[o]? = some (pr l S)) (hi:S.i<l.length) (hl:TokEnd l) (hll:l.length≤1048576) (hf:E3 l S.nest f) (hcf:PC 317 l f S.nest):ACall Tryz.prog 291 [.ptr o 0] Hp (fun r H'=>r=Aa (Fb l jd f S).1∧H'=Hp.set o (pr l (Fb l jd f S).2)):=by
 refine Aq [.cell 2 26] [0] Tryz.func291 Tryz.ntmps291 (fun d=>?_)
 refine Z52 ?_;refine Z1 ?_;refine H2 ?_;refine Bw Tryz.call156 ho (by simp) Cm (rk Tryz.call317 l S jd (by decide) f o _ (Av ho) hi hl hll hf hcf) ?_;refine Z10 ?_;exact A5 (Ap (Ai jA jS)) ⟨by rw [Ad],rfl⟩ (hlow:=by have:=Ag Hp.length (Fb l jd f S).1;rw [Ad] at this;simpa using this)

theorem AAy (l:List Tok) (S:PS) (f:PS→Expr×PS) (o:Nat) (Hp:List AObj) (ho:Hp[o]? = some (pr l S)) (hi:S.i<l.length) (hl:TokEnd l) (hll:l.length≤1048576) (hf:E3 l S.nest f) (hcf:PC 334 l f S.nest):ACall Tryz.prog 317 [.ptr o 0] Hp (fun r H'=>r=Aa (Fb l V5 f S).1∧H'=Hp.set o (pr l (Fb l V5 f S).2)):=by
 refine Aq [.cell 2 26] [0] Tryz.func317 Tryz.ntmps317 (fun d=>?_)
 refine Z52 ?_;refine Z1 ?_;refine H2 ?_;refine Bw Tryz.call156 ho (by simp) Cm (rk Tryz.call334 l S V5 (by decide) f o _ (Av ho) hi hl hll hf hcf) ?_;refine Z10 ?_;exact A5 (Ap (Ai jA jS)) ⟨by rw [Ad],rfl⟩ (hlow:=by have:=Ag Hp.length (Fb l V5 f S).1;rw [Ad] at this;simpa using this)

/-- What is so of the functions one nest deeper. -/
structure DeepC (l:List Tok) (Dv:Fam) (n:Nat):Prop where
 ei:n≠30→E3 l (n+1) Dv.ei∧PC 114 l Dv.ei (n+1)
 no:n≠30→E3 l (n+1) Dv.no∧PC 205 l Dv.no (n+1)
 ne:n≠30→E3 l (n+1) Dv.ne∧PC 334 l Dv.ne (n+1)
theorem R7 (op:Int) (x:Expr):Aa (F1 op x)=.agg [A6 op,Ah [],A6 0,A6 0,Ah [],.slice false 6 [Aa x]]:=by rw [Ad];rfl
theorem ep (t:Str) (a b:Expr):Aa (Gx t a b)=.agg [A6 5,.v (sv t),A6 0,A6 0,Ah [],.slice false 6 [Aa a,Aa b]]:=by rw [Ad];rfl
theorem low_agg {n:Nat} (e:Expr):Low n (.agg [.v (.int .i64 e.op),.v (sv e.text),.v (.int .i64 e.val.kind),.v (.int .i64 e.val.n),.v (sv e.val.s),.slice false 6 (e.kids.map Aa)]):=by
 have:=Ag n e
 rwa [Ad] at this
theorem AAz (l:List Tok) (S:PS) (Dv:Fam) (o:Nat) (Hp:List AObj) (ho:Hp[o]? = some (pr l S)) (hi:S.i<l.length) (hl:TokEnd l) (hll:l.length≤1048576) (hnl:S.nest≤30) (hd:DeepC l Dv S.nest) (hc:PC 346 l (Fq l Dv) S.nest):ACall Tryz.prog 334 [.ptr o 0] Hp (fun r H'=>r=Aa (Qr l Dv S).1∧H'=Hp.set o (pr l (Qr l Dv S).2)):=by
 refine Aq [.cell 2 26] [0] Tryz.func334 Tryz.ntmps334 (fun d=>?_)
 refine Z52 ?_;refine Z37 ?_;refine Ac Tryz.call203 (Yw l S vo o _ (Av ho) hi hl (by decide)) ?_;refine A7 ?_;refine A2 [0,2,6] ?_
 refine A4 (fun ht6=>?_) (fun ht6=>?_)
 ·have e:Qr l Dv S=Fq l Dv S:=if_pos ht6
  refine Z3 ?_;refine Bw Tryz.call346 ho (by simp) Cm (hc o _ S (Av ho) hi rfl) ?_;refine Z10 ?_;exact Z59
 have his:isM l vo S=true:=by simpa using ht6
 have hi1:(Am S).i<l.length:=hl.stepIs hi his
 have e:Qr l Dv S=(F1 3 (Ca (At l S.i).at_ Dv.ne (Am S)).1,(Ca (At l S.i).at_ Dv.ne (Am S)).2):=if_neg (by rw [ht6];simp)
 refine Z9 ?_;refine Z49 ?_;refine qh ?_;refine Z17 ?_;refine H2 ?_;refine Bw Tryz.call256 (Ar ho) (by simp) Cm (ni Tryz.call334 l (Am S) (At l S.i).at_ Dv.ne o _ (Av (Ar ho)) hi1 hnl (fun h=>(hd.ne h).1) (fun h=>(hd.ne h).2)) ?_;refine S5 ?_;refine uf ?_;exact A5 (Ap (Ai jA jS)) ⟨by rw [e,R7];simp only [Ad],by rw [e,De]⟩ (hlow:=by have:=Ag Hp.length (F1 3 (Ca (At l S.i).at_ Dv.ne (Am S)).1);rw [R7] at this;simp only [Ad] at this;simpa only [Do] using this)

theorem AB0 (l:List Tok) (S:PS) (Dv:Fam) (o:Nat) (Hp:List AObj) (ho:Hp[o]? = some (pr l S)) (hi:S.i<l.length) (hl:TokEnd l) (hll:l.length≤1048576) (hnl:S.nest≤30) (hd:DeepC l Dv S.nest) (hc:PC 255 l (F3 l Dv) S.nest):ACall Tryz.prog 205 [.ptr o 0] Hp (fun r H'=>r=Aa (Qs l Dv S).1∧H'=Hp.set o (pr l (Qs l Dv S).2)):=by
 refine Aq [.cell 2 26] [0] Tryz.func205 Tryz.ntmps205 (fun d=>?_)
 refine Z52 ?_;refine Z37 ?_;refine Ac Tryz.call203 (Yw l S vn o _ (Av ho) hi hl (by decide)) ?_;refine A7 ?_;refine A2 [0,2,6] ?_
 refine A4 (fun ht6=>?_) (fun ht6=>?_)
 ·have e:Qs l Dv S=F3 l Dv S:=if_pos ht6
  refine Z3 ?_;refine Bw Tryz.call255 ho (by simp) Cm (hc o _ S (Av ho) hi rfl) ?_;refine Z10 ?_;exact Z59
 have his:isM l vn S=true:=by simpa using ht6
 have hi1:(Am S).i<l.length:=hl.stepIs hi his
 have e:Qs l Dv S=(F1 4 (Ca (At l S.i).at_ Dv.no (Am S)).1,(Ca (At l S.i).at_ Dv.no (Am S)).2):=if_neg (by rw [ht6];simp)
 refine Z9 ?_;refine Z49 ?_;refine qh ?_;refine Z17 ?_;refine H2 ?_;refine Bw Tryz.call256 (Ar ho) (by simp) Cm (ni Tryz.call205 l (Am S) (At l S.i).at_ Dv.no o _ (Av (Ar ho)) hi1 hnl (fun h=>(hd.no h).1) (fun h=>(hd.no h).2)) ?_;refine S5 ?_;refine uf ?_;exact A5 (Ap (Ai jA jS)) ⟨by rw [e,R7];simp only [Ad],by rw [e,De]⟩ (hlow:=by have:=Ag Hp.length (F1 4 (Ca (At l S.i).at_ Dv.no (Am S)).1);rw [R7] at this;simp only [Ad] at this;simpa only [Do] using this)

theorem AB1 (l:List Tok) (S:PS) (Dv:Fam) (o:Nat) (Hp:List AObj) (ho:Hp[o]? = some (pr l S)) (hi:S.i<l.length) (hl:TokEnd l) (hll:l.length≤1048576) (hnl:S.nest≤30) (hd:DeepC l Dv S.nest) (hg:E3 l S.nest (E2 l Dv)) (hc:PC 291 l (E2 l Dv) S.nest):ACall Tryz.prog 255 [.ptr o 0] Hp (fun r H'=>r=Aa (F3 l Dv S).1∧H'=Hp.set o (pr l (F3 l Dv S).2)):=by
 have hq:=hg S hi rfl
 refine Aq [.cell 2 26] [0] Tryz.func255 Tryz.ntmps255 (fun d=>?_)
 refine Z52 ?_;refine Z3 ?_;refine Bw Tryz.call291 ho (by simp) Cm (hc o _ S (Av ho) hi rfl) ?_;refine qh ?_;refine Z60 ?_
 refine A7 (h:=Ep (Ar ho)) (hr:=?_)
 refine Y0 ?_;refine Co Tryz.call203 (fun hB=>Yw l (E2 l Dv S).2 rf o _ (Av (Ar ho)) hq.lt hl (by decide)) ?_;refine Z63 ?_;refine A2 [0,2,3,17] ?_
 refine A4 (fun ht17=>?_) (fun ht17=>?_)
 ·have e:F3 l Dv S=E2 l Dv S:=if_pos ht17
  refine Z3 ?_;refine Z10 ?_;exact Z59
 have his:isM l rf (E2 l Dv S).2=true:=by
  have:=ht17
  simp only [F7,Ja] at this
  exact this.2
 have hi1:(Am (E2 l Dv S).2).i<l.length:=hl.stepIs hq.lt his
 have e:F3 l Dv S=(Gx (At l (E2 l Dv S).2.i).text (E2 l Dv S).1 (E2 l Dv (Am (E2 l Dv S).2)).1,(E2 l Dv (Am (E2 l Dv S).2)).2):=if_neg (by rw [ht17];simp)
 refine Z75 ?_;refine Bw Tryz.call204 (Ar ho) (by simp) Cm (nh l (E2 l Dv S).2 o _ (Av (Ar ho)) hq.lt hll) ?_;refine Z21 ?_;refine A2 [0,2,3,4] ?_;refine H4 [0,1,0,0,8,28,63,127] [4] [.q 4 [] [],.s [25] (some 0) [] [],.q 1 [0] []] (fun B=>Hp.set o (if B 0=true then pr l (E2 l Dv (Am (E2 l Dv S).2)).2 else pr l (Am (E2 l Dv S).2))) (fun _=>[.cells 26 [A6 0,Ah [],A6 0,A6 0,Ah [],.nil],.cells 26 (Bg (E2 l Dv S).1),.cells 113 [A6 (At l (E2 l Dv S).2.i).kind,Ah (At l (E2 l Dv S).2.i).text,A6 (At l (E2 l Dv S).2.i).at_]]) Aw (by kernel_rfl) (by simp [De]) rfl (fun B=>by simp) ?_
 apply Y.q
 ·intro B hT hF
  refine b8 ?_;exact bb
 case hTF=>decide
 refine Y.callUp (r:=Aa (E2 l Dv (Am (E2 l Dv S).2)).1) (o:=o) (x0:=pr l (Am (E2 l Dv S).2)) (x:=pr l (E2 l Dv (Am (E2 l Dv S).2)).2) Tryz.call291 (fun B hT hF hB=>⟨by simp only [hB];exact Ar ho,by simp [upd],rfl,Cm,?_⟩) ?_
 ·simp only [hB]
  exact hc o _ (Am (E2 l Dv S).2) (Av (Ar ho)) hi1 hq.nest
 apply Y.q
 ·intro B hT hF
  exact Z87
 case hTF=>decide
 refine H5 (tn:=[4]) (U:=Hp.set o (pr l (E2 l Dv (Am (E2 l Dv S).2)).2)) ?_;refine uf ?_;exact A5 (Ap (Ai jA jS)) ⟨by rw [e,ep];simp only [Ad],by rw [e]⟩ (hlow:=by have:=Ag Hp.length (Gx (At l (E2 l Dv S).2.i).text (E2 l Dv S).1 (E2 l Dv (Am (E2 l Dv S).2)).1);rw [ep] at this;simp only [Ad] at this;simpa only [Do] using this)

/-- The contract of the parser of calls. -/
def V9 (l:List Tok) (Dv:Fam) (n:Nat):Prop:=∀(o:Nat) (Hp:List AObj) (S:PS) (t:Tok),Hp[o]? = some (pr l S)→(Am S).i<l.length→S.nest=n→t.text.length≤1048576→isM l opT S=true→ACall Tryz.prog 349 [.ptr o 0,Iu t] Hp (fun r H'=>r=Aa (H0 l Dv t S).1∧H'=Hp.set o (pr l (H0 l Dv t S).2))
theorem Yx:Aa A8=.agg [A6 0,Ah [],A6 0,A6 0,Ah [],.slice false 6 []]:=by rw [Ad];rfl
theorem AB2 (l:List Tok) (S:PS) (Dv:Fam) (o:Nat) (Hp:List AObj) (ho:Hp[o]? = some (pr l S)) (hi:S.i<l.length) (hl:TokEnd l) (hll:l.length≤1048576) (hnl:S.nest≤30) (hd:DeepC l Dv S.nest) (hcl:V9 l Dv S.nest):ACall Tryz.prog 346 [.ptr o 0] Hp (fun r H'=>r=Aa (Fq l Dv S).1∧H'=Hp.set o (pr l (Fq l Dv S).2)):=by
 refine Aq [.cell 2 26] [0] Tryz.func346 Tryz.ntmps346 (fun d=>?_)
 refine Z52 ?_;refine Z3 ?_;refine Z99 ?_;refine A2 [0,2,3] ?_;refine Z60 ?_
 refine A7 (h:=Ep ho) (hr:=?_)
 refine A7 ?_;refine A2 [0,2,3,14] ?_
 refine A4 (fun ht14=>?_) (fun ht14=>?_)
 ·have e:Fq l Dv S=(A8,S):=if_pos ht14
  refine Z25 ?_;refine Ef 15 _ F4 ?_;refine ia ?_;exact A5 (Ap (Ai jA jS)) ⟨by rw [e,Ad],by rw [e];exact (Ho ho).symm⟩ (hlow:=by have:=Ag Hp.length (A8);simpa only [Ad,Do] using this)
 have e0:¬(S.code != 0)=true:=by rw [ht14];simp
 refine Z9 ?_;refine Z27 ?_;refine Z17 ?_;refine C4 ?_;refine Co Tryz.call203 (fun hB=>Yw l S vp o _ (Av ho) hi hl (by decide)) ?_;refine Z0 ?_;refine A2 [0,2,3,16] ?_
 refine A4 (fun ht16=>?_) (fun ht16=>?_)
 ·have e:Fq l Dv S=(Cs (Gr (At l S.i).text).1,Am S):=by unfold Fq;rw [if_neg e0,if_pos ht16]
  refine Z49 ?_;refine A7 ?_;refine Ac Tryz.call252 (vg (At l S.i).text (hl.text _) _) ?_;refine Z82 ?_;refine A2 [2,4] ?_;refine Z3 ?_;refine Ac Tryz.call348 (yz (Gr (At l S.i).text).1 _) ?_;refine Z10 ?_;refine Z5 ?_;exact A5 (Ap (Ai jA jS)) ⟨by rw [e,Ad],by rw [e]⟩ (hlow:=by have:=Ag Hp.length (Cs (Gr (At l S.i).text).1);simpa only [Ad,Do] using this)
 have e1:¬(((At l S.i).kind==3) || isM l vp S)=true:=by rw [ht16];simp
 refine Z17 ?_;refine A2 [0,2,3,33] ?_
 refine A4 (fun ht33=>?_) (fun ht33=>?_)
 ·have e:Fq l Dv S=(Cs ⟨2,0,(At l S.i).text.take 200⟩,Am S):=by unfold Fq;rw [if_neg e0,if_neg e1,if_pos ht33]
  refine Z49 ?_;refine A7 ?_;refine Ac Tryz.call223 (ix (At l S.i).text _) ?_;refine Ac Tryz.call348 (yz ⟨2,0,(At l S.i).text.take 200⟩ _) ?_;refine Z10 ?_;refine Z5 ?_;exact A5 (Ap (Ai jA jS)) ⟨by rw [e,Ad],by rw [e]⟩ (hlow:=by have:=Ag Hp.length (Cs ⟨2,0,(At l S.i).text.take 200⟩);simpa only [Ad,Do] using this)
 have e2:¬((At l S.i).kind==4)=true:=by rw [ht33];simp
 refine Z17 ?_;refine A2 [0,2,3,42] ?_
 refine A4 (fun ht42=>?_) (fun ht42=>?_)
 ·have hi1:(Am S).i<l.length:=hl.step hi (by rw [beq_iff_eq] at ht42;rw [ht42];decide)
  refine Z49 ?_;refine A2 [0,2,3] ?_;refine Z37 ?_;refine Ac Tryz.call203 (Yw l (Am S) opT o _ (Av (Ar ho)) hi1 hl (by decide)) ?_;refine A2 [0,2,3,49] ?_
  refine A4 (fun ht49=>?_) (fun ht49=>?_)
  ·have e:Fq l Dv S=H0 l Dv (At l S.i) (Am S):=by unfold Fq;rw [if_neg e0,if_neg e1,if_neg e2,if_pos ht42,if_pos ht49]
   have hi2:(Am (Am S)).i<l.length:=hl.stepIs hi1 ht49
   refine Z1 ?_;refine Bw Tryz.call349 (Ar ho) (by simp) Cm (hcl o _ (Am S) (At l S.i) (Av (Ar ho)) hi2 rfl (hl.text _) ht49) ?_;refine ia ?_;refine Z5 ?_;exact A5 (Ap (Ai jA jS)) ⟨by rw [e,Ad],by rw [e,De]⟩ (hlow:=by have:=Ag Hp.length ((H0 l Dv (At l S.i) (Am S)).1);simpa only [Ad,Do] using this)
  have e:Fq l Dv S=(B6 (At l S.i).text,Am S):=by unfold Fq;rw [if_neg e0,if_neg e1,if_neg e2,if_pos ht42,if_neg (by rw [ht49];simp)]
  refine Z9 ?_;refine Z73 ?_;refine Ef 55 _ (Ye _) ?_;refine Z10 ?_;refine Z5 ?_;exact A5 (Ap (Ai jA jS)) ⟨by rw [e,Ad],by rw [e]⟩ (hlow:=by have:=Ag Hp.length (B6 (At l S.i).text);simpa only [Ad,Do] using this)
 have e3:¬((At l S.i).kind==1)=true:=by rw [ht42];simp
 refine Z3 ?_;refine Ac Tryz.call203 (Yw l S opT o _ (Av ho) hi hl (by decide)) ?_;refine A7 ?_;refine A2 [0,2,3,56] ?_
 refine A4 (fun ht56=>?_) (fun ht56=>?_)
 ·have e:Fq l Dv S=((Ca (At l S.i).at_ Dv.ei (Am S)).1,F0 l Ev (Ca (At l S.i).at_ Dv.ei (Am S)).2):=by unfold Fq;rw [if_neg e0,if_neg e1,if_neg e2,if_neg e3,if_pos ht56]
  have hi1:(Am S).i<l.length:=hl.stepIs hi ht56
  have hwf:=I7 (S:=Am S) (l:=l) (f:=Dv.ei) (At l S.i).at_ hi1 (fun h=>(hd.ei h).1)
  refine Z49 ?_;refine A2 [0,2,3] ?_;refine Z17 ?_;refine H2 ?_;refine Bw Tryz.call256 (Ar ho) (by simp) Cm (ni Tryz.call114 l (Am S) (At l S.i).at_ Dv.ei o _ (Av (Ar ho)) hi1 hnl (fun h=>(hd.ei h).1) (fun h=>(hd.ei h).2)) ?_;refine Z21 ?_;refine A2 [0,2,6] ?_;refine Z3 ?_;refine Bw Tryz.call350 (Ar (Ar ho)) (by simp) Cm (z6 l (Ca (At l S.i).at_ Dv.ei (Am S)).2 Ev o _ (Av (Ar (Ar ho))) hwf.lt hll) ?_;refine A2 [2,6] ?_;refine Z3 ?_;refine Z10 ?_;refine Z5 ?_;exact A5 (Ap (Ai jA jS)) ⟨by rw [e,Ad],by rw [e,De,De]⟩ (hlow:=by have:=Ag Hp.length ((Ca (At l S.i).at_ Dv.ei (Am S)).1);simpa only [Ad,Do] using this)
 have e:Fq l Dv S=(A8,Dt 8 (At l S.i).at_ S):=by unfold Fq;rw [if_neg e0,if_neg e1,if_neg e2,if_neg e3,if_neg (by rw [ht56];simp)]
 refine Z22 ?_;refine xe ?_;refine Z10 ?_;exact A5 (Ap (Ai jA jS)) ⟨by rw [e,Ad],by rw [e]⟩ (hlow:=by have:=Ag Hp.length (A8);simpa only [Ad,Do] using this)

theorem rl {l:List Tok} (hl:TokEnd l) (hll:l.length≤1048576) {d n:Nat} (h:n+(d+1)=31) (hp:n≠30→PC 114 l (Ew l d).ei (n+1)∧PC 205 l (Ew l d).no (n+1)∧PC 334 l (Ew l d).ne (n+1)):DeepC l (Ew l d) n:=by
 have g:n≠30→_:=fun h30=>Pm hl hll d (n+1) (by omega) (by omega)
 exact ⟨fun h=>⟨(g h).1,(hp h).1⟩,fun h=>⟨(g h).2.1,(hp h).2.1⟩,fun h=>⟨(g h).2.2,(hp h).2.2⟩⟩
/-- All functions of the parser. -/
theorem Yy {l:List Tok} (hl:TokEnd l) (hll:l.length≤1048576) (hcl:∀n Dv,n≤30→DeepC l Dv n→V9 l Dv n):∀(d n:Nat),n+d=31→n≤30→PC 114 l (Ew l d).ei n∧PC 205 l (Ew l d).no n∧PC 334 l (Ew l d).ne n
 | 0,n,h,hn=>by omega
 | d+1,n,h,hn=>by
  have hd:DeepC l (Ew l d) n:=rl hl hll h (fun h30=>Yy hl hll hcl d (n+1) (by omega) (by omega))
  have g1:E3 l n (Qr l (Ew l d)):=Pl hl hll (fun h=>(hd.ei h).1) (fun h=>(hd.ne h).1)
  have g2:E3 l n (Ys l (Ew l d)):=Gb hl g1
  have g3:E3 l n (E2 l (Ew l d)):=Gb hl g2
  have g4:E3 l n (F3 l (Ew l d)):=Me hl hll (fun h=>(hd.ei h).1) (fun h=>(hd.ne h).1)
  have g5:E3 l n (Qs l (Ew l d)):=V8 hl hll (fun h=>(hd.ei h).1) (fun h=>(hd.ne h).1) (fun h=>(hd.no h).1)
  have g6:E3 l n (Yt l (Ew l d)):=Gb hl g5
  have p0:PC 346 l (Fq l (Ew l d)) n:=fun o Hp S ho hi hS=>by
   subst hS
   exact AB2 l S (Ew l d) o Hp ho hi hl hll hn hd (hcl _ _ hn hd)
  have p1:PC 334 l (Qr l (Ew l d)) n:=fun o Hp S ho hi hS=>by
   subst hS
   exact AAz l S (Ew l d) o Hp ho hi hl hll hn hd p0
  have p2:PC 317 l (Ys l (Ew l d)) n:=fun o Hp S ho hi hS=>by
   subst hS
   exact AAy l S (Qr l (Ew l d)) o Hp ho hi hl hll g1 p1
  have p3:PC 291 l (E2 l (Ew l d)) n:=fun o Hp S ho hi hS=>by
   subst hS
   exact AAx l S (Ys l (Ew l d)) o Hp ho hi hl hll g2 p2
  have p4:PC 255 l (F3 l (Ew l d)) n:=fun o Hp S ho hi hS=>by
   subst hS
   exact AB1 l S (Ew l d) o Hp ho hi hl hll hn hd g3 p3
  have p5:PC 205 l (Qs l (Ew l d)) n:=fun o Hp S ho hi hS=>by
   subst hS
   exact AB0 l S (Ew l d) o Hp ho hi hl hll hn hd p4
  have p6:PC 157 l (Yt l (Ew l d)) n:=fun o Hp S ho hi hS=>by
   subst hS
   exact AAw l S (Qs l (Ew l d)) o Hp ho hi hl hll g5 p5
  have p7:PC 114 l (R6 l (Ew l d)) n:=fun o Hp S ho hi hS=>by
   subst hS
   exact AAv l S (Yt l (Ew l d)) o Hp ho hi hl hll g6 p6
  exact ⟨p7,p5,p1⟩
theorem Va:∀(n:Nat) (e:Expr),okE n e→depthE e≤n
 | 0,_,h=>h.elim
 | n+1,e,h=>by
  rw [Jn]
  have:∀l:List Expr,(∀y∈l,okE n y)→Ea l≤n:=by
   intro l
   induction l with
   | nil=>intro _;exact Bk _
   | cons y r ih =>
    intro hl
    rw [Ea]
    have h1:=Va n y (hl y (by simp))
    have h2:=ih (fun z hz=>hl z (by simp [hz]))
    omega
  have:=this e.kids h.2.2
  omega
theorem Wz {n:Nat} {U F:Nat→List AObj} {H':List AObj} (h:Ip (fun _=>true) U F n H'):H'=U n:=by
 rcases h with ⟨_,h⟩|⟨j,_,_,h,_⟩
 ·exact h
 cases h
theorem Pn {α:Type} {l:List α} {k:Nat} {y:α} (h:l[k]? = some y):l.take (k+1)=l.take k++[y]:=by rw [List.take_add_one,h];rfl
theorem nj {L:List (Int×Expr)} {k:Nat} {it:Int×Expr} (h:L[k]? = some it):Ej 0 (L.take (k+1))=if Ej 0 (L.take k)<it.1 then it.1 else Ej 0 (L.take k):=by
 have e:Ej 0 (L.take (k+1))=max (Ej 0 (L.take k)) it.1:=by
  unfold Ej
  rw [Pn h,Vq]
  rfl
 rw [e]
 split<;>omega
def Ex (L:List (Int×Expr)) (k:Nat):List Str:=(L.take k).foldl (fun l it=>Hg l it.2) []
theorem Vb {L:List (Int×Expr)} {k:Nat} {it:Int×Expr} (h:L[k]? = some it):Ex L (k+1)=Hg (Ex L k) it.2:=by
 unfold Ex
 rw [Pn h,Vq]
 rfl
theorem N8 (L:List (Int×Expr)) (k:Nat):(Ex L k).length≤k:=by
 unfold Ex
 have h:=Ym ((L.take k).map (·.2)) []
 rw [List.foldl_map] at h
 simp only [Bp,Ic,Bn] at h
 omega
theorem Po {n k:Nat} {o:Bool} {l:List Str}:Low n (.slice o k (l.map Ah)):=by simp [or_imp,forall_and]
theorem AB3 (n:Nat) (e:Expr) (hok:okE n e) (hn:n≤1048576) (hs:sizeE e≤1048576) (Hp:List AObj):AFun Tryz.prog 115 [Aa e] Hp (A6 (depthE e:Nat)):=by
 refine Aq [.tmp 2] [0,4] Tryz.func115 Tryz.ntmps115 (fun d=>?_)
 refine Z1 ?_;refine A2 [1,4] ?_;refine i8 ?_;refine A2 [1,3,4] ?_;refine Z96 ?_
 refine Mx (fun hlow=>?_)
 refine qc ?_;refine A2 [3,4,6] ?_;refine I5 ?_
 refine My (m:=1) Tryz.call123 (fun FR as' bd' hFR has hbd=>?_)
 have hFRl:∀s,Low (Hp.length+3) (FR s):=by
  intro s
  rw [hFR]
  refine Ou ?_
  revert s
  repeat (first|exact C6|refine C5 (by simp [oid,Ag]<;>try omega) ?_)
 have hOl:∀{k:Nat},∀x∈[AObj.cells 3 [A6 (Ej 0 ((B1 1 e).take k))],AObj.defs,AObj.loop LoopState.ready none FR 13 #[7,8] as' bd' (oid Hp.length 1)],ObjLow (Hp.length+3) x:=by
  intro k x hx
  simp only [By,Ha,or_false] at hx
  rcases hx with rfl|rfl|rfl
  ·intro y hy
   rw [Bh.1 hy]
   first|exact Po|simp
  ·trivial
  exact il
 refine ⟨fun _ H'=>Ip (fun _=>true) (fun k=>Hp++[AObj.cells 3 [A6 (Ej 0 ((B1 1 e).take k))],AObj.defs,AObj.loop LoopState.ready none FR 13 #[7,8] as' bd' (oid Hp.length 1)]) (fun k=>Hp++[AObj.cells 3 [A6 (Ej 0 ((B1 1 e).take k))],AObj.defs,AObj.loop LoopState.ready none FR 13 #[7,8] as' bd' (oid Hp.length 1)]) (B1 1 e).length H',qr (l:=oid Hp.length 2) (go:=fun _=>true) (U:=fun k=>Hp++[AObj.cells 3 [A6 (Ej 0 ((B1 1 e).take k))],AObj.defs,AObj.loop LoopState.ready none FR 13 #[7,8] as' bd' (oid Hp.length 1)]) (F:=fun k=>Hp++[AObj.cells 3 [A6 (Ej 0 ((B1 1 e).take k))],AObj.defs,AObj.loop LoopState.ready none FR 13 #[7,8] as' bd' (oid Hp.length 1)]) (n0:=Hp.length+3) ⟨fun k=>by simp,fun k=>by simp,fun k x hx=>?_,fun k x hx=>?_,by simp [oid],fun X k it hit hgo=>?_⟩ n hok hn,?_⟩
 ·exact ba
 ·exact ba
 ·have hklt:k<sizeE e:=by rw [←Eu 1 e];exact (Ae.1 hit).1
  generalize hV:(Hp++[AObj.cells 3 [A6 (Ej 0 ((B1 1 e).take k))],AObj.defs,AObj.loop LoopState.ready none FR 13 #[7,8] as' bd' (oid Hp.length 1)]++X)=V
  have hL:V[oid Hp.length 2]? = some (AObj.loop LoopState.ready none FR 13 #[7,8] as' bd' (oid Hp.length 1)):=by rw [←hV,Bt,Bl];rfl
  have hA0:V[oid Hp.length 0]? = some (AObj.cells 3 [A6 (Ej 0 ((B1 1 e).take k))]):=by rw [←hV,Bt,Bl];rfl
  refine Ms (pd:=none) (fr:=FR) (sz:=13) (ps:=#[7,8]) (df:=oid Hp.length 1) (asg:=as') (bd:=bd') hL rfl (by decide) (fun d=>?_)
  subst hFR has hbd
  refine G9 [3,7,8] ?_;refine Z97 ?_;refine A2 [3,4] ?_
  refine ⟨rfl,none,hL,?_⟩
  generalize hbz:(AObj.loop LoopState.busy _ _ _ _ _ _ _)=bz
  have hA:(V.set (oid Hp.length 2) bz)[oid Hp.length 0]? = some (AObj.cells 3 [A6 (Ej 0 ((B1 1 e).take k))]):=by rw [El (Dr (by decide))];exact hA0
  refine I5 ?_;refine If ?_
  refine A7 (h:=Ep hA) (hr:=?_)
  refine A7 ?_;refine R.maxI ?_
  refine H3 jS hA ?_ ?_
  ·simp
  refine ax ?_
  subst hbz
  refine K.rdN (Xv hL (Dr (by decide))) ?_
  refine ⟨rfl,?_⟩
  rw [if_pos rfl]
  subst hV
  simp only [Bt,Fl,E0,Dz,List.set_cons_succ,List.set_cons_zero]
  rw [nj hit]
 intro r H' hq
 obtain rfl:=Wz hq
 refine ⟨Hp,_,_,_,rfl,rfl,fun h=>h,?_,rfl,by simp,?_⟩
 ·intro o ho
  have:o=oid Hp.length 1:=by simpa using ho
  subst this
  rw [Bl]
  rfl
 refine Z16 ?_;refine Z1 ?_;refine Z4 ?_;exact A5 (Ap A3) ⟨by rw [Nn,Qb],rfl⟩

theorem AB4 (n:Nat) (e:Expr) (hok:okE n e) (hn:n≤1048576) (hs:sizeE e≤1048576) (Hp:List AObj):AFun Tryz.prog 117 [Aa e] Hp (A6 (sizeE e:Nat)):=by
 refine Aq [.tmp 2] [0] Tryz.func117 Tryz.ntmps117 (fun d=>?_)
 refine Z93 ?_;refine i8 ?_;refine A2 [1,3] ?_;refine Z96 ?_
 refine Mx (fun hlow=>?_)
 refine qc ?_;refine A2 [3,5] ?_;refine I5 ?_
 refine My (m:=1) Tryz.call123 (fun FR as' bd' hFR has hbd=>?_)
 have hFRl:∀s,Low (Hp.length+3) (FR s):=by
  intro s
  rw [hFR]
  refine Ou ?_
  revert s
  repeat (first|exact C6|refine C5 (by simp [oid,Ag]<;>try omega) ?_)
 have hOl:∀{k:Nat},∀x∈[AObj.cells 3 [A6 ((k:Nat))],AObj.defs,AObj.loop LoopState.ready none FR 11 #[6,7] as' bd' (oid Hp.length 1)],ObjLow (Hp.length+3) x:=by
  intro k x hx
  simp only [By,Ha,or_false] at hx
  rcases hx with rfl|rfl|rfl
  ·intro y hy
   rw [Bh.1 hy]
   first|exact Po|simp
  ·trivial
  exact il
 refine ⟨fun _ H'=>Ip (fun _=>true) (fun k=>Hp++[AObj.cells 3 [A6 ((k:Nat))],AObj.defs,AObj.loop LoopState.ready none FR 11 #[6,7] as' bd' (oid Hp.length 1)]) (fun k=>Hp++[AObj.cells 3 [A6 ((k:Nat))],AObj.defs,AObj.loop LoopState.ready none FR 11 #[6,7] as' bd' (oid Hp.length 1)]) (B1 1 e).length H',qr (l:=oid Hp.length 2) (go:=fun _=>true) (U:=fun k=>Hp++[AObj.cells 3 [A6 ((k:Nat))],AObj.defs,AObj.loop LoopState.ready none FR 11 #[6,7] as' bd' (oid Hp.length 1)]) (F:=fun k=>Hp++[AObj.cells 3 [A6 ((k:Nat))],AObj.defs,AObj.loop LoopState.ready none FR 11 #[6,7] as' bd' (oid Hp.length 1)]) (n0:=Hp.length+3) ⟨fun k=>by simp,fun k=>by simp,fun k x hx=>?_,fun k x hx=>?_,by simp [oid],fun X k it hit hgo=>?_⟩ n hok hn,?_⟩
 ·exact ba
 ·exact ba
 ·have hklt:k<sizeE e:=by rw [←Eu 1 e];exact (Ae.1 hit).1
  generalize hV:(Hp++[AObj.cells 3 [A6 ((k:Nat))],AObj.defs,AObj.loop LoopState.ready none FR 11 #[6,7] as' bd' (oid Hp.length 1)]++X)=V
  have hL:V[oid Hp.length 2]? = some (AObj.loop LoopState.ready none FR 11 #[6,7] as' bd' (oid Hp.length 1)):=by rw [←hV,Bt,Bl];rfl
  have hA0:V[oid Hp.length 0]? = some (AObj.cells 3 [A6 ((k:Nat))]):=by rw [←hV,Bt,Bl];rfl
  refine Ms (pd:=none) (fr:=FR) (sz:=11) (ps:=#[6,7]) (df:=oid Hp.length 1) (asg:=as') (bd:=bd') hL rfl (by decide) (fun d=>?_)
  subst hFR has hbd
  refine G9 [3,6,7] ?_;refine K0 ?_
  refine ⟨rfl,none,hL,?_⟩
  generalize hbz:(AObj.loop LoopState.busy _ _ _ _ _ _ _)=bz
  have hA:(V.set (oid Hp.length 2) bz)[oid Hp.length 0]? = some (AObj.cells 3 [A6 ((k:Nat))]):=by rw [El (Dr (by decide))];exact hA0
  refine I5 ?_;refine If ?_
  refine A7 (h:=Ep hA) (hr:=?_)
  refine A7 ?_
  refine H3 jS hA ?_ ?_
  ·simp
  refine ax ?_
  subst hbz
  refine K.rdN (Xv hL (Dr (by decide))) ?_
  refine ⟨rfl,?_⟩
  rw [if_pos rfl]
  subst hV
  simp only [Bt,Fl,E0,Dz,List.set_cons_succ,List.set_cons_zero]
  rfl
 intro r H' hq
 obtain rfl:=Wz hq
 refine ⟨Hp,_,_,_,rfl,rfl,fun h=>h,?_,rfl,by simp,?_⟩
 ·intro o ho
  have:o=oid Hp.length 1:=by simpa using ho
  subst this
  rw [Bl]
  rfl
 refine Z16 ?_;refine Z1 ?_;refine Z4 ?_;exact A5 (Ap A3) ⟨by rw [Eu],rfl⟩

set_option maxRecDepth 8000
abbrev TK:=Int×Str
/-- What stands from word i on. -/
def seg (l:List Tok) (i:Nat):List TK:=(l.drop i).map ktT
theorem Hq (s:Str):s∈levels.flatten∨(Bj s = -1∧∀l∈levels,l.contains s=false):=by
 by_cases h:s∈levels.flatten
 ·exact .inl h
 have h2:∀l∈levels,l.contains s=false:=fun l hl=>by
  rw [Ol]
  intro h3
  exact h (List.mem_flatten.2 ⟨l,hl,by simpa using h3⟩)
 refine .inr ⟨?_,h2⟩
 unfold Bj
 rw [Rh.2 fun l hl=>h2 l hl]
/-- The texts of levels of marks. -/
def ofL (k:Nat):Str:=if k=0 then orT else if k=1 then jc else if k=3 then rf else if k=4 then jd else V5
theorem nk (s:Str) : -1≤Bj s∧Bj s≤5∧Bj s≠2:=by
 rcases Hq s with h|⟨h,_⟩
 ·have h3:(levels.flatten.all fun s=>decide (-1≤Bj s∧Bj s≤5∧Bj s≠2))=true:=by kernel_rfl
  exact of_decide_eq_true (B2.1 h3 s h)
 omega
/-- A row of words behind which no mark of a level, or of a tighter one, stands. -/
def nl (k:Nat) (rest:List TK):Prop:=∀h r,rest=h::r→((h.1==5) || (h.1==2))=true→Bj h.2<(k:Int)∧h.2≠[40]
def ji:Str:=[110,111,116]
def levE (e:Expr):Nat:=if e.op==4 then 2 else if e.op==3 then 6 else if e.op==5 then (Bj e.text).toNat else 7
def rm (least:Nat) (x:Expr) (T:List TK):List TK:=if least≤levE x then T else (5,[40])::(T++[(5,[41])])
def rn (least:Nat) (x:Expr) (n:Nat):Nat:=if least≤levE x then n else n+1
def Gt (own:Nat):Nat:=if own=3 then 4 else own
def vq (v:Val):TK:=if v.kind==1 then (3,Fh v) else if v.kind==2 then (4,v.s) else (2,Fh v)
def z7 (t:Str):TK:=(if K7 (t.headD 0) then 2 else 5,t)
def z8:List (List TK)→List TK
 | []=>[]
 | T::r=>(5,[44])::(T++z8 r)
def za (o:Int) (t:Str) (v:Val) (k:List Expr) (ts:List (List TK)):List TK:=
 if o==1 then [vq v] else if o==2 then [(1,t)]
 else if o==3 then (5,[45])::rm 6 (k.getD 0 A8) (ts.getD 0 [])
 else if o==4 then (2,ji)::rm 2 (k.getD 0 A8) (ts.getD 0 [])
 else if o==5 then rm (Gt (Bj t).toNat) (k.getD 0 A8) (ts.getD 0 [])++z7 t::rm ((Bj t).toNat+1) (k.getD 1 A8) (ts.getD 1 [])
 else (1,t)::(5,[40])::((z8 ts).drop 1++[(5,[41])])
mutual
def T7:Expr→List TK
 | .mk o t v k=>za o t v k (tw k)
def tw:List Expr→List (List TK)
  | []=>[]
  | e::r=>T7 e::tw r
 end
def zb:List Nat→Nat
 | []=>0
 | n::r=>max n (zb r)
def zc (o:Int) (t:Str) (k:List Expr) (ns:List Nat):Nat:=
 if o==1 then 0 else if o==2 then 0
 else if o==3 then 1+rn 6 (k.getD 0 A8) (ns.getD 0 0)
 else if o==4 then 1+rn 2 (k.getD 0 A8) (ns.getD 0 0)
 else if o==5 then max (rn (Gt (Bj t).toNat) (k.getD 0 A8) (ns.getD 0 0)) (rn ((Bj t).toNat+1) (k.getD 1 A8) (ns.getD 1 0))
 else 1+zb ns
mutual
def er:Expr→Nat
 | .mk o t v k=>zc o t k (tx k)
def tx:List Expr→List Nat
  | []=>[]
  | e::r=>er e::tx r
 end
theorem X0 {v:Val} (h:Kl v=true):v=noV:=by
 unfold Kl at h
 simp only [Ak,beq_iff_eq] at h
 cases v
 simp_all [noV]
/-- What a right node is. -/
inductive NodeC:Expr→Prop
 | val (v:Val) (h:C9 v=true) (h0:0≤v.n):NodeC (Cs v)
 | name (t:Str) (h:J3 t=true):NodeC (B6 t)
 | neg (a:Expr):NodeC (F1 3 a)
 | no (a:Expr):NodeC (F1 4 a)
 | bin (t:Str) (a b:Expr) (h:0≤Bj t):NodeC (Gx t a b)
 | call (t:Str) (k:List Expr) (h:Bx t=(k.length:Int)):NodeC (.mk 6 t noV k)
theorem Fk (o:Int) (t:Str) (v:Val) (k:List Expr):O1 (.mk o t v k) =
 if o==1 then ((C9 v&&decide (0≤v.n))&&(t==[]))&&((k.length:Int)==0)
 else if !(Kl v) then false
 else if o==2 then J3 t&&((k.length:Int)==0)
 else if o==3 || o==4 then (t==[])&&((k.length:Int)==1)
 else if o==5 then decide (0≤Bj t)&&((k.length:Int)==2)
 else if o==6 then Bx t==(k.length:Int)
 else false:=rfl
theorem Gc {e:Expr} (h:C1 e=true):NodeC e:=by
 rw [Gs] at h
 cases e with
 | mk o t v k =>
 rw [Fk] at h
 by_cases h1:(o==1)=true
 ·rw [if_pos h1] at h
  simp only [Ak,beq_iff_eq,decide_eq_true_eq] at h h1
  obtain ⟨⟨⟨a1,a2⟩,a3⟩,a4⟩:=h
  subst h1
  subst a3
  have:k=[]:=by cases k with|nil=>rfl|cons x r=>simp at a4;omega
  subst this
  exact .val v a1 a2
 rw [if_neg h1] at h
 by_cases hb:(!(Kl v))=true
 ·rw [if_pos hb] at h;cases h
 rw [if_neg hb] at h
 have hv:v=noV:=X0 (by simpa using hb)
 subst hv
 by_cases h2:(o==2)=true
 ·rw [if_pos h2] at h
  simp only [Ak,beq_iff_eq] at h h2
  subst h2
  have:k=[]:=by cases k with|nil=>rfl|cons x r=>have:=h.2;simp at this;omega
  subst this
  exact .name t h.1
 rw [if_neg h2] at h
 by_cases h3:(o==3 || o==4)=true
 ·rw [if_pos h3] at h
  simp only [Ak,Dj,beq_iff_eq] at h h3
  obtain ⟨rfl,h4⟩:=h
  match k,h4 with
  | [a],_ =>
   rcases h3 with rfl|rfl
   ·exact .neg a
   exact .no a
  | [],h4=>simp at h4
  | _::_::_,h4=>simp at h4;omega
 rw [if_neg h3] at h
 by_cases h5:(o==5)=true
 ·rw [if_pos h5] at h
  simp only [Ak,beq_iff_eq,decide_eq_true_eq] at h h5
  subst h5
  match k,h.2 with
  | [a,b],_=>exact .bin t a b h.1
  | [],h4=>simp at h4
  | [_],h4=>simp at h4
  | _::_::_::_,h4=>simp at h4;omega
 rw [if_neg h5] at h
 by_cases h6:(o==6)=true
 ·rw [if_pos h6] at h
  simp only [beq_iff_eq] at h h6
  subst h6
  exact .call t k h
 rw [if_neg h6] at h;cases h
/-- The functions of the levels. -/
def pf (l:List Tok) (D:Fam):Nat→PS→Expr×PS
 | 0=>R6 l D
 | 1=>Yt l D
 | 2=>Qs l D
 | 3=>F3 l D
 | 4=>E2 l D
 | 5=>Ys l D
 | 6=>Qr l D
 | _=>Fq l D
abbrev fam (l:List Tok) (n:Nat):Fam:=Ew l (30-n)
def adv (S:PS) (n:Nat):PS:=⟨S.i+n,S.nest,S.code,S.at_⟩
def T1 (l:List Tok) (x:Expr):Prop:=∀(k:Nat) (S:PS) (rest:List TK),k≤levE x→S.code=0→S.nest+er x≤30→seg l S.i=T7 x++rest→nl k rest→pf l (fam l S.nest) k S=(x,adv S (T7 x).length)
def T2 (l:List Tok) (x:Expr):Prop:=∀(k:Nat) (S:PS) (rest:List TK),(k=0∨k=1∨k=4∨k=5)→k≤levE x→S.code=0→S.nest+er x≤30→seg l S.i=T7 x++rest→nl (k+1) rest →
 ∃n,l.length≤S.i+(T7 x).length+n∧Fb l (ofL k) (pf l (fam l S.nest) (k+1)) S=V4 l (ofL k) (pf l (fam l S.nest) (k+1)) n (x,adv S (T7 x).length)
theorem jj {e:Expr} {n:Nat} (h:sizeE e≤n+1) {y:Expr} (hy:y∈e.kids):sizeE y≤n:=by
 rw [Fi] at h
 obtain ⟨i,hi,rfl⟩:=Rl hy
 have:=Lz e.kids hi
 omega
theorem et:∀d,d<10→digs.contains (UInt8.ofNat (48+d))=true:=by decide
theorem rp:∀d,d<10→(UInt8.ofNat (48+d)).toNat=48+d:=by decide
theorem vr:∀d,d<10→1≤d→UInt8.ofNat (48+d)≠48:=by decide
theorem T8 {u:Nat} (h:¬u<10):Lib.decDigits u=Lib.decDigits (u / 10)++[UInt8.ofNat (48+u % 10)]:=by rw [Lib.decDigits,dif_neg h]
theorem X1:∀(u:Nat),∀c∈Lib.decDigits u,digs.contains c=true:=by
 intro u
 induction u using Nat.strongRecOn with
 | _ u ih =>
  intro c hc
  by_cases h:u<10
  ·rw [Lib.decDigits_one h,Bh] at hc
   subst hc
   exact et u h
  rw [T8 h] at hc
  rcases Dy.1 hc with hc|hc
  ·exact ih (u / 10) (by omega) c hc
  rw [Bh.1 hc]
  exact et _ (R1 _ (by decide))
theorem T9:∀(u:Nat),∃c r,Lib.decDigits u=c::r∧(1≤u→c≠48):=by
 intro u
 induction u using Nat.strongRecOn with
 | _ u ih =>
  by_cases h:u<10
  ·exact ⟨_,_,Lib.decDigits_one h,fun h1=>vr u h h1⟩
  obtain ⟨c,r,e,h1⟩:=ih (u / 10) (by omega)
  exact ⟨c,r++[UInt8.ofNat (48+u % 10)],by rw [T8 h,e];rfl,fun _=>h1 (by omega)⟩
theorem Mf (M:Nat):∀(a:Str) (acc v:Nat) (b:Str),Lib.parseUintM M acc a=.ok v→Lib.parseUintM M acc (a++b)=Lib.parseUintM M v b
 | [],acc,v,b,h=>by
  rw [Lib.parseUintM] at h
  injection h with h
  subst h
  rfl
 | c::r,acc,v,b,h=>by
  rw [E0,Lib.parseUintM]
  rw [Lib.parseUintM] at h
  split at h
  ·rename_i h1
   rw [if_pos h1]
   split at h
   ·cases h
   rename_i h2
   rw [if_neg h2]
   split at h
   ·cases h
   rename_i h3
   rw [if_neg h3]
   exact Mf M r _ v b h
  cases h
theorem Ta {M:Nat} (hM:M≤18446744073709551615):∀(u:Nat),u≤M→Lib.parseUintM M 0 (Lib.decDigits u)=.ok u:=by
 intro u
 induction u using Nat.strongRecOn with
 | _ u ih =>
  intro hu
  have one:∀acc d,d<10→acc≤1844674407370955161→acc*10+d≤M→Lib.parseUintM M acc [UInt8.ofNat (48+d)]=.ok (acc*10+d):=fun acc d hd ha hm=>by
   have e:=rp d hd
   rw [Lib.parseUintM,e,if_pos (by omega),if_neg (by omega),if_neg (by omega),Lib.parseUintM]
   congr 1
   omega
  by_cases h:u<10
  ·rw [Lib.decDigits_one h,one 0 u h (by omega) (by omega)]
   congr 1
   omega
  rw [T8 h,Mf M _ 0 (u / 10) _ (ih (u / 10) (by omega) (by omega)),one (u / 10) (u % 10) (R1 _ (by decide)) (by omega) (by omega)]
  congr 1
  omega
theorem nn:∀c:UInt8,digs.contains c=true→c≠45∧c≠43∧c≠39∧c≠110∧c≠116∧c≠102:=by
 have h:((List.range 256).all fun n => !digs.contains (UInt8.ofNat n) || decide (UInt8.ofNat n≠45∧UInt8.ofNat n≠43∧UInt8.ofNat n≠39∧UInt8.ofNat n≠110∧UInt8.ofNat n≠116∧UInt8.ofNat n≠102))=true:=by kernel_rfl
 intro c hc
 have:=B2.1 h c.toNat (Jy.2 c.toNat_lt)
 rw [show UInt8.ofNat c.toNat=c by simp,hc] at this
 simpa using this
theorem rq (u:Nat) (h1:u≤9223372036854775807):Bo (Lib.decDigits u)=((u:Int),0):=by
 obtain ⟨c,r,e,h0⟩:=T9 u
 have hc:digs.contains c=true:=X1 u c (by rw [e];simp)
 obtain ⟨n45,n43,_⟩:=nn c hc
 have hds:Kk (Lib.decDigits u)=Lib.decDigits u:=by
  unfold Kk Lib.trimPrefix
  rw [if_neg]
  rw [e]
  unfold Lib.hasPrefix
  simp [Ne.symm n45]
 have hb:Ga (Lib.decDigits u)=false:=by
  unfold Ga
  rw [hds]
  have a1:(Lib.decDigits u==[])=false:=by rw [e];rfl
  have a2:Lib.trimS (Lib.decDigits u) digs=[]:=by
   unfold Lib.trimS Lib.trimRightS
   have:(Lib.decDigits u).reverse.dropWhile (fun x=>digs.contains x)=[]:=by
    rw [Wl]
    intro b hb
    exact X1 u b (by simpa using hb)
   rw [this]
   rfl
  have a3:(((Lib.decDigits u).headD 0==48)&&decide (1<(Lib.decDigits u).length))=false:=by
   by_cases hu:u<10
   ·rw [Lib.decDigits_one hu];simp
   rw [e]
   have:(c==48)=false:=by simpa using h0 (by omega)
   simp [this]
  rw [a1,a2,a3]
  rfl
 have hp:Lib.parseIntB 64 (Lib.decDigits u)=.ok (u:Int):=by
  have hu:Lib.parseUintB 64 (Lib.decDigits u)=.ok u:=by
   unfold Lib.parseUintB
   rw [if_neg (by rw [e];simp)]
   exact Ta (by decide) u (by
    have:(2:Nat) ^ 64-1=18446744073709551615:=by decide
    omega)
  have n45':c.toNat≠45:=fun h=>n45 (No.1 (by rw [h];rfl))
  have n43':c.toNat≠43:=fun h=>n43 (No.1 (by rw [h];rfl))
  have e63:(2:Nat) ^ (64-1)=9223372036854775808:=by decide
  rw [e] at hu ⊢
  simp only [Lib.parseIntB,n43',n45',or_self,if_false,hu,e63]
  simp
  omega
 unfold Bo
 rw [hb,hp]
 rfl
/-! The parser from a word on, and of a source. -/
def atS (l:List Tok) (i:Nat) (r:Expr×PS):PS:=if r.2.code != 0 then r.2 else if decide ((30:Int)<depthE r.1) then Dt 18 (At l i).at_ r.2 else if decide ((300:Int)<sizeE r.1) then Dt 3 (At l i).at_ r.2 else r.2
def atR (l:List Tok) (i:Nat):Expr×PS:=R6 l (Ew l 30) ⟨i,0,0,0⟩
/-- The tree, the word behind it, the fault. -/
def atM (l:List Tok) (i:Nat):Expr×Int×Int×Int:=if (atS l i (atR l i)).code != 0 then (A8,0,(atS l i (atR l i)).code,(atS l i (atR l i)).at_) else ((atR l i).1,((atS l i (atR l i)).i:Int),0,0)
def X2 (l:List Tok) (c a:Int):Expr×Int×Int:=
 if c != 0 then (A8,c,a) else if (atM l 0).2.2.1 != 0 then (A8,(atM l 0).2.2.1,(atM l 0).2.2.2)
 else if (At l (atM l 0).2.1.toNat).kind != 0 then (A8,8,((At l (atM l 0).2.1.toNat).at_:Int)) else ((atM l 0).1,0,0)
def Gu (s:Str):Expr×Int×Int:=X2 (Dn s).1 (Dn s).2.1 ((Dn s).2.2:Int)
set_option maxRecDepth 4000
theorem Yz {l:List Tok} (hl:TokEnd l) (hll:l.length≤1048576) {i:Nat} (hi:i<l.length):Fact l ⟨i,0,0,0⟩ (atR l i):=(Pm hl hll 31 0 rfl (by decide)).1 ⟨i,0,0,0⟩ hi rfl
theorem vt {l:List Tok} {i:Nat} (hi:i<l.length) (hl:TokEnd l) (hll:l.length≤1048576) (hcl:∀n Dv,n≤30→DeepC l Dv n→V9 l Dv n) (o:Nat) (Hp:List AObj) (ho:Hp[o]? = some (pr l ⟨i,0,0,0⟩)):ACall Tryz.prog 114 [.ptr o 0] Hp (fun r H'=>r=Aa (atR l i).1∧H'=Hp.set o (pr l (atR l i).2)):=(Yy hl hll hcl 31 0 rfl (by decide)).1 o Hp ⟨i,0,0,0⟩ ho hi rfl
theorem Z2 {l:List Tok} (hl:TokEnd l):(At l (l.length-1)).kind=0:=by
 obtain ⟨L,z,rfl,hz,_⟩:=hl.split
 unfold At
 simp [hz]
theorem c72 (l:List Tok) (i:Nat) (hi:i<l.length) (hl:TokEnd l) (hll:l.length≤500000) (hcl:∀n Dv,n≤30→DeepC l Dv n→V9 l Dv n) (Hp:List AObj):AFun Tryz.prog 72 [mt l,A6 (i:Int)] Hp (.tup [Aa (atM l i).1,A6 (atM l i).2.1,.agg [A6 (atM l i).2.2.1,A6 (atM l i).2.2.2]]):=by
 have hmap:(l.map Iu).length=l.length:=Bp ..
 have hll1:l.length≤1048576:=by omega
 have hq:=Yz hl hll1 hi
 have hlast:=Z2 hl
 have hpos:=hl.pos
 have hqlt:=hq.lt
 have hqs:=hq.sz
 have hok0:okE 1048576 (atR l i).1:=Fj (by have:=hq.lt;omega) hq.ok
 have hsz0:sizeE (atR l i).1≤1048576:=by have:=hq.sz;have:=hq.lt;omega
 refine Aq [.cell 4 26,.tmp 5,.cell 6 69] [0,1] Tryz.func72 Tryz.ntmps72 (fun d=>?_)
 refine Xz ?_;refine Ij jZ ?_;refine A2 [0,1,4,6] ?_;refine Z39 ?_;refine Xw ?_;refine Z45 ?_
 refine C4 (h:=Ax ((l.length-1)) (Iu (At l (l.length-1))) (fun _=>Pe (by omega))) (hr:=?_)
 refine Z12 ?_;refine Z63 ?_;refine A2 [0,1,4,6,26] ?_
 refine A4 (fun ht26=>?_) (fun ht26=>?_)
 ·simp only [Dj,decide_eq_true_eq,bne_iff_ne,ne_eq] at ht26
  rcases ht26 with (h|h)|h
  ·omega
  ·simp at h;omega
  exact absurd hlast h
 refine S4 ?_;refine Mt (places:=#[(0,1),(1,1),(2,1),(3,2)]) jU (fun w=>by simp) jZ ?_;refine R.box ?_;refine A7 ?_;refine A2 [0,1,4,6,7] ?_;refine Z3 ?_
 refine Ry (n:=2) (x:=pr l (atR l i).2) Tryz.call114 (vt hi hl hll1 hcl (oid Hp.length 2) _ (by rw [Bl];rfl)) ?_
 refine Z21 ?_;refine A2 [0,1,4,6,7,8] ?_
 refine W.join ⟨81,Ao 4 (.ptr (oid Hp.length 0) 0) (Ao 6 (.ptr (oid Hp.length 1) 0) (Ao 7 (.ptr (oid Hp.length 2) 0) (Ao 8 (.ptr (oid Hp.length 3) 0) (fun _=>.any)))),Hp,[.cells 26 [A6 0,Ah [],A6 0,A6 0,Ah [],.nil],.cells 69 [A6 0,A6 0],pr l (atS l i (atR l i)),.cells 26 (Bg (atR l i).1)],[],none⟩ ?_ ?_
 ·refine I5 ?_;refine Z17 ?_;refine Z24 ?_;refine A2 [0,1,4,6,7,8,35] ?_
  refine A4 (fun ht35=>?_) (fun ht35=>?_)
  ·have e:atS l i (atR l i)=(atR l i).2:=if_pos ht35
   refine G9 [4,6,7,8] ?_;refine K0 ?_;exact qd
  have e0:¬((atR l i).2.code != 0)=true:=by rw [ht35];simp
  refine Z3 ?_;refine Ac Tryz.call115 (AB3 1048576 _ hok0 (An _) hsz0 _) ?_;refine Z0 ?_;refine A2 [0,1,4,6,7,8,42] ?_
  refine A4 (fun ht42=>?_) (fun ht42=>?_)
  ·have e:atS l i (atR l i)=Dt 18 (At l i).at_ (atR l i).2:=by unfold atS;rw [if_neg e0,if_pos ht42]
   refine Z55 ?_
   refine A7 (h:=Ax (i) (Iu (At l i)) (fun _=>Pe hi)) (hr:=?_)
   refine Z0 ?_
   refine Ry (n:=2) (x:=pr l (Dt 18 (At l i).at_ (atR l i).2)) Tryz.call116 (jg l (atR l i).2 18 (At l i).at_ (oid Hp.length 2) _ (by rw [Bl];rfl)) ?_
   refine A2 [4,6,7,8] ?_;exact qd
  have e1:¬decide ((30:Int)<depthE (atR l i).1)=true:=by rw [ht42];simp
  refine Z3 ?_;refine Ac Tryz.call117 (AB4 1048576 _ hok0 (An _) hsz0 _) ?_;refine Z0 ?_;refine A2 [0,1,4,6,7,8,53] ?_
  refine A4 (fun ht53=>?_) (fun ht53=>?_)
  ·have e:atS l i (atR l i)=Dt 3 (At l i).at_ (atR l i).2:=by unfold atS;rw [if_neg e0,if_neg e1,if_pos ht53]
   refine Z55 ?_
   refine A7 (h:=Ax (i) (Iu (At l i)) (fun _=>Pe hi)) (hr:=?_)
   refine Z0 ?_
   refine Ry (n:=2) (x:=pr l (Dt 3 (At l i).at_ (atR l i).2)) Tryz.call116 (jg l (atR l i).2 3 (At l i).at_ (oid Hp.length 2) _ (by rw [Bl];rfl)) ?_
   refine A2 [4,6,7,8] ?_;exact qd
  have e:atS l i (atR l i)=(atR l i).2:=by unfold atS;rw [if_neg e0,if_neg e1,if_neg (by rw [ht53];simp)]
  refine G9 [4,6,7,8] ?_;refine K0 ?_;exact qd
 refine Z60 ?_;refine Z0 ?_;refine A2 [4,6,7,8,69] ?_
 refine A4 (fun ht69=>?_) (fun ht69=>?_)
 ·have e:atM l i=(A8,0,(atS l i (atR l i)).code,(atS l i (atR l i)).at_):=if_pos ht69
  refine H4 [0,0,2,6,14,1,33,127] [5] [.q 5 [] [],.s [] (some 0) [] [],.q 1 [0] []] (fun _=>Hp) (fun _=>[.cells 26 [A6 0,Ah [],A6 0,A6 0,Ah [],.nil],.cells 69 [A6 0,A6 0],pr l (atS l i (atR l i)),.cells 26 (Bg (atR l i).1)]) Aw (by kernel_rfl) rfl rfl (fun _=>rfl) ?_
  apply Y.q
  ·intro B hT hF
   refine Z98 ?_;refine Z13 ?_;exact bb
  case hTF=>decide
  refine ut ?_
  apply Y.q
  ·intro B hT hF
   exact Z61
  case hTF=>decide
  refine H5 (tn:=[5])  ?_;refine La 0 5 6 ?_;refine Jj ?_;refine A2 [4,5,6] ?_;refine Z69 ?_;exact A5 (V.three (Ai jA jS) A3 (Ai jA jS)) ⟨by rw [e,Yx]<;>rfl,rfl⟩
 have e:atM l i=((atR l i).1,((atS l i (atR l i)).i:Int),0,0):=if_neg (by rw [ht69];simp)
 refine Z9 ?_;refine H4 [0,0,2,6,14,0,1,95,255] [6] [.q 6 [] [],.s [] (some 0) [] [],.q 1 [0] []] (fun _=>Hp) (fun B=>[.cells 26 (if B 0=true then Bg (atR l i).1 else [A6 0,Ah [],A6 0,A6 0,Ah [],.nil]),.cells 69 [A6 0,A6 0],pr l (atS l i (atR l i)),.cells 26 (Bg (atR l i).1)]) Aw (by kernel_rfl) rfl rfl (fun _=>rfl) ?_
 apply Y.q
 ·intro B hT hF
  refine Wf ?_;exact Z89
 case hTF=>decide
 refine Y.storeOwn (u:=Hp.length) (n:=0) (t':=26) (cs:=[A6 0,Ah [],A6 0,A6 0,Ah [],.nil]) (cs':=Bg (atR l i).1) Tryz.sizeOf26 (fun B hB=>⟨rfl,by simp only [hB];rfl,by simp [upd],rfl⟩) ?_
 apply Y.q
 ·intro B hT hF
  exact Z61
 case hTF=>decide
 refine H5 (tn:=[6]) (O:=[.cells 26 (Bg (atR l i).1),.cells 69 [A6 0,A6 0],pr l (atS l i (atR l i)),.cells 26 (Bg (atR l i).1)]) ?_;refine Jj ?_;refine A2 [4,5,6] ?_;refine Hi ?_;exact A5 (V.three (Ai jA jS) A3 (Ai jA jS)) ⟨by rw [e,Ad]<;>rfl,rfl⟩ (hlow:=by have:=low_agg (n:=Hp.length) (atR l i).1;simp at this ⊢;exact this)

theorem eu {s:Str} (h:(Dn s).2.1=0):(Dn s).1.length≤4002:=by
 obtain ⟨h1,_,h3⟩:=r9 h
 have h2:=Sn s
 rw [h3]
 simp only [As,Bp,Ay,Bn]
 omega
theorem rr {l:List Tok} (hl:TokEnd l) (hll:l.length≤1048576) {i:Nat} (hi:i<l.length) (h:(atM l i).2.2.1=0):∃k:Nat,(atM l i).2.1=(k:Int)∧k<l.length:=by
 have hq:=Yz hl hll hi
 unfold atM at h ⊢
 split at h
 ·rename_i h1
  have:(atS l i (atR l i)).code=0:=h
  rw [this] at h1
  cases h1
 rename_i h1
 rw [if_neg h1]
 refine ⟨(atS l i (atR l i)).i,rfl,?_⟩
 have e:(atS l i (atR l i)).i=(atR l i).2.i:=by
  unfold atS
  repeat' split
  all_goals first|rfl|exact failM_i.1
 rw [e]
 exact hq.lt
theorem Du {n k:Nat} {o:Bool} {l:List Expr}:Low n (.slice o k (l.map Aa)):=low_slice.2 fun y hy=>by
 obtain ⟨a,_,rfl⟩:=Dd.1 hy
 exact Ag _ a
theorem jk {l:List Expr} {n f:Nat} (h0:l.isEmpty=false) (h:Md l n=true):Fx f l n=true:=by
 cases f with
 | zero=>rw [Fx,h0];rfl
 | succ f=>rw [Fx,if_neg (by rw [h0];simp),if_pos h]
theorem rt {l:List Expr} {n y:Nat} (hy:y<l.length) (h:500<n+y+1∨Pi l[y]=true):Md l n=true:=by
 unfold Md
 rcases h with h|h
 ·rw [decide_eq_true (by omega)];rfl
 rw [Jv.2 ⟨_,Db hy,h⟩,Bool.or_true]
theorem Tb {l:List Expr}:∀(y:Nat),y≤l.length→(∀(j:Nat) (e:Expr),j<y→l[j]? = some e→Pi e=false)→((l.take y).flatMap Expr.kids).length≤100*y
 | 0,_,_=>by simp
 | y+1,hy,h=>by
  rw [Ix hy,List.flatMap_append,As]
  have h1:=Tb y (by omega) (fun j e hj he=>h j e (by omega) he)
  have h2:=Wy (h y l[y] (by omega) (Al _))
  simp only [Rj,List.flatMap_nil,Hu]
  omega
structure WideAt (l0:List Expr) (x:List Expr×Nat×Nat):Prop where
 eq:Fx 61 l0 0=Fx x.2.2 x.1 x.2.1
 f:x.2.2≤61
 n:x.2.1≤500
theorem c35 (l0:List Expr) (Hp:List AObj):AFun Tryz.prog 35 [.slice false 6 (l0.map Aa),A6 0] Hp (B8 (Fx 61 l0 0)):=by
 refine Aq [.tmp 4] [0,1] Tryz.func35 Tryz.ntmps35 (fun d=>?_)
 refine Z70 ?_;refine Z3 ?_;refine A2 [0,1,5] ?_;refine In ?_
 refine Ff (α:=List Expr×Nat×Nat) (fun x=>⟨67,Ao 0 (.slice false 6 (x.1.map Aa)) (Ao 1 (A6 (61-(x.2.2:Int))) (Ao 5 (A6 (x.2.1:Nat)) (fun _=>.any))),Hp,[],[],none⟩) (fun x=>WideAt l0 x) (fun x=>x.2.2) ((l0,0,61)) ⟨rfl,An _,Bk _⟩ (E9 (by simp)) rfl (fun x hx=>?_)
 refine Z39 ?_;refine A2 [0,1,5,10] ?_
 refine A4 (fun ht10=>?_) (fun ht10=>?_)
 ·have hpos:0<x.1.length:=by simpa using ht10
  have hne:x.1.isEmpty=false:=by cases hxx:x.1 with
   | nil=>rw [hxx] at hpos;simp at hpos
   | cons a r=>rfl
  have hxf:=hx.f
  refine Z9 ?_;refine I5 ?_;refine Ey ?_;refine S5 ?_;refine W8 ?_;refine A2 [0,1,5,6] ?_;refine Z37 ?_;refine A2 [0,1,5,6,7] ?_
  refine Ff (α:=Nat) (fun y=>⟨67,Ao 0 (.slice false 6 (x.1.map Aa)) (Ao 1 (A6 (61-(x.2.2:Int))) (Ao 5 (A6 ((x.2.1+y:Nat):Int)) (Ao 6 (.slice true 6 (((x.1.take y).flatMap Expr.kids).map Aa)) (Ao 7 (A6 (y:Nat)) (fun _=>.any))))),Hp,[],[],none⟩) (fun y=>y≤x.1.length∧x.2.1+y≤500∧∀(j:Nat) (e:Expr),j<y→x.1[j]? = some e→Pi e=false) (fun y=>x.1.length-y) (0) ⟨Bk _,hx.n,fun j e h=>by omega⟩ (E9 (by simp)) rfl (fun y hy=>?_)
  refine Z60 ?_;refine A2 [0,1,5,6,7,15] ?_
  refine A4 (fun ht15=>?_) (fun ht15=>?_)
  ·have hlt:y<x.1.length:=by simpa using ht15
   have hyn:=hy.2.1
   refine Z9 ?_;refine U3 ?_;refine A2 [0,1,5,6,7] ?_;refine Z39 ?_;refine Z12 ?_
   refine C4 (h:=Ax (y) (Aa x.1[y]) (fun _=>Cu hlt)) (hr:=?_)
   refine Xw ?_;refine Z12 ?_
   refine C4 (h:=Ax (y) (Aa x.1[y]) (fun _=>Cu hlt)) (hr:=?_)
   refine Z45 ?_;refine Z35 ?_;refine Z12 ?_
   refine C4 (h:=Ax (y) (Aa x.1[y]) (fun _=>Cu hlt)) (hr:=?_)
   refine Z45 ?_;refine A7 ?_;refine A2 [0,1,5,6,7,49] ?_
   refine A4 (fun ht49=>?_) (fun ht49=>?_)
   ·have hm:Md x.1 x.2.1=true:=rt hlt (by
     simp only [Dj,decide_eq_true_eq,Bp] at ht49
     unfold Pi
     simp only [Dj,decide_eq_true_eq]
     omega)
    have hw:=jk (f:=x.2.2) hne hm
    refine Z94 ?_;refine Cp ?_;refine We ?_;refine Xy ?_;exact xf
   have hfat:Pi x.1[y]=false∧x.2.1+y+1≤500:=by
    simp only [F7,decide_eq_false_iff_not,Bp] at ht49
    unfold Pi
    simp only [F7,decide_eq_false_iff_not]
    omega
   have hkl:=(Wy hfat.1).2.2
   have hfm:(x.1.take (y+1)).flatMap Expr.kids=(x.1.take y).flatMap Expr.kids++x.1[y].kids:=by rw [Ix hlt,List.flatMap_append];simp
   refine Z9 ?_;refine If ?_;refine R.moveT ?_;refine Z0 ?_
   refine A7 (h:=Ax (y) (Aa x.1[y]) (fun _=>Cu hlt)) (hr:=?_)
   refine Z0 ?_
   refine P3 jU Tryz.type26 ?_ ?_ ?_
   ·have h1:=Tb y hy.1 hy.2.2;have h2:=hkl;have h3:=hy.2.1;simp only [Bp,Tryz.t26];omega
   ·have h1:=Tb y hy.1 hy.2.2;have h2:=hkl;have h3:=hy.2.1;simp only [Bp,Tryz.t26];omega
   refine W8 ?_;refine A2 [0,1,5,6,7] ?_;refine Z16 ?_;refine Z55 ?_;refine A2 [0,1,5,6,7] ?_
   refine Ct (y+1) ⟨hlt,by omega,Gj hlt hy.2.2 hfat.1⟩ (by omega) (Im ?_)
   rw [hfm,G7]
   rfl
  have hye:x.1.take y=x.1:=G5 (by simp at ht15;omega)
  have hyl:y=x.1.length:=by have:=hy.1;simp at ht15;omega
  have hmany:Md x.1 x.2.1=false:=by
   unfold Md
   rw [decide_eq_false (by have:=hy.2.1;omega),J9,Om]
   intro e he
   obtain ⟨j,hj⟩:=Cf he
   rw [hy.2.2 j e (by have:=(Ae.1 hj).1;omega) hj]
   simp
  refine Z95 ?_;refine Z58 ?_;refine Z60 ?_;refine b7 ?_;refine A2 [1,5,6,63] ?_
  refine A4 (fun ht63=>?_) (fun ht63=>?_)
  ·have hw:Fx x.2.2 x.1 x.2.1=true:=by
    have h9:=ht63
    rw [hye] at h9
    simp only [Dj,decide_eq_true_eq,Bp] at h9
    cases hf:x.2.2 with
    | zero=>rw [Fx,hne];rfl
    | succ f =>
     rw [Fx,if_neg (by rw [hne];simp),if_neg (by rw [hmany];simp),if_pos (by rw [decide_eq_true_eq];omega)]
   refine Z94 ?_;refine Cp ?_;refine Xy ?_;exact xf
  have h9:=ht63
  rw [hye] at h9
  simp only [F7,decide_eq_false_iff_not,Bp] at h9
  obtain ⟨f,hf⟩:∃f,x.2.2=f+1:=⟨x.2.2-1,by omega⟩
  have hw:Fx x.2.2 x.1 x.2.1=Fx f (x.1.flatMap Expr.kids) (x.2.1+x.1.length):=by
   rw [hf,Fx,if_neg (by rw [hne];simp),if_neg (by rw [hmany];simp),if_neg (by rw [decide_eq_true_eq];omega)]
  refine S4 ?_;refine A2 [0,1,5] ?_;refine Z55 ?_;refine A2 [0,1,5] ?_;refine Jc ?_
  refine Ct (x.1.flatMap Expr.kids,x.2.1+x.1.length,f) ⟨hx.eq.trans hw,by show f≤61;omega,by show x.2.1+x.1.length≤500;have:=hy.2.1;omega⟩ (by show f<x.2.2;omega) (Im ?_)
  rw [hye,hyl]
  congr 4
  simp only [AV.v.injEq,Value.int.injEq,true_and]
  omega
 have hnil:x.1=[]:=by have:=ht10;simp at this;exact this
 refine Z95 ?_;refine Z58 ?_;refine Z94 ?_;exact A5 (Ap A3) ⟨by rw [hx.eq,hnil];cases x.2.2<;>rfl,rfl⟩

theorem c9 (e:Expr) (Hp:List AObj):AFun Tryz.prog 9 [Aa e] Hp (B8 (n7 e)):=by
 refine Aq [.tmp 2] [0] Tryz.func9 Tryz.ntmps9 (fun d=>?_)
 refine Z93 ?_;refine Z3 ?_;refine S5 ?_;refine Ac Tryz.call35 (c35 [e] _) ?_;refine A7 ?_;exact Z86

set_option maxRecDepth 8000
/-! What a tree tz to: eval's model. -/
abbrev Rs:=Val×Int
def Br (e:Int):Rs:=(noV,e)
def Pp (s:Str):Val:=⟨2,0,s.take 200⟩
def E4 (x:Int×Int):Rs:=if x.2 != 0 then Br x.2 else (⟨1,x.1,[]⟩,0)
def N9 (a b:Int):Int×Int:=if decide (Pw .i64 (Kj .i64 a (IntKind.i64.wrap (a+b))) (Kj .i64 b (IntKind.i64.wrap (a+b)))<0) then (0,4) else (IntKind.i64.wrap (a+b),0)
def Gv (a b:Int):Int×Int:=if decide (Pw .i64 (Kj .i64 a b) (Kj .i64 a (IntKind.i64.wrap (a-b)))<0) then (0,4) else (IntKind.i64.wrap (a-b),0)
def Qe (a:Int):Int:=if decide (a<0) then IntKind.u64.wrap (0-IntKind.u64.wrap a) else IntKind.u64.wrap a
def Bi:List Val→List Int→Bool
 | _,[]=>true
 | [],_::_=>false
 | v::vs,k::ks=>(v.kind==k)&&Bi vs ks
def Jp (a b:Val):Rs:=if !Bi [a,b] [2,2] then Br 10 else if decide ((200:Int)<(a.s.length:Int)+(b.s.length:Int)) then Br 3 else (Pp (a.s++b.s),0)
def Az (r:Rs):Rs:=if (r.2==0)&&(r.1.kind != 0)&&(r.1.kind != 3) then Br 10 else r
def Fw (strong:Val) (a b:Rs):Rs:=if ((Az a).2 != 0) || ((Az a).1==strong) then Az a else if (((Az b).2 != 0) || ((Az b).1==strong)) || ((Az a).1.kind != 0) then Az b else ((Az a).1,0)
def ifW:Str:=[105,102]
def Fo:Str:=[110,118,108]
def Bm:Str:=[105,115,110,117,108,108]
def Dc (t:Str) (a b c:Rs):Rs:=
 if t==ifW then (if (Az a).2 != 0 then Br (Az a).2 else if (Az a).1==C7 true then b else c)
 else if a.2 != 0 then Br a.2 else if t==Bm then (C7 (a.1.kind==0),0) else if a.1.kind != 0 then (a.1,0) else b
def D9 (strict:List Val→Rs) (l:List Rs):Rs:=match l.find? (fun q=>q.2 != 0) with|some q=>Br q.2|none=>if l.any (fun q=>q.1.kind==0) then (noV,0) else strict (l.map (·.1))
def Hr (c:List Col) (l:List Val) (t:Str):Rs:=if Ez t c<0 then Br 9 else (l.getD (Ez t c).toNat noV,0)
def orW:Str:=[111,114]
def Pq:Str:=[97,110,100]
/-- A node, of what its kids come to; what a strict node tz to is a parameter. -/
def Eh (strict:Int→Str→List Val→Rs) (c:List Col) (l:List Val) (o:Int) (t:Str) (v:Val) (ks:List Rs):Rs:=
 if o==1 then (v,0) else if o==2 then Hr c l t
 else if (o==5)&&(t==orW) then Fw (C7 true) (ks.getD 0 (noV,0)) (ks.getD 1 (noV,0))
 else if (o==5)&&(t==Pq) then Fw (C7 false) (ks.getD 0 (noV,0)) (ks.getD 1 (noV,0))
 else if (o==6)&&(((t==ifW) || (t==Fo)) || (t==Bm)) then Dc t (ks.getD 0 (noV,0)) (ks.getD 1 (noV,0)) (ks.getD 2 (noV,0))
 else D9 (strict o t) ks
mutual
def D5 (strict:Int→Str→List Val→Rs) (c:List Col) (l:List Val):Expr→Rs
 | .mk o t v k=>Eh strict c l o t v (Mg strict c l k)
def Mg (strict:Int→Str→List Val→Rs) (c:List Col) (l:List Val):List Expr→List Rs
  | []=>[]
  | e::r=>D5 strict c l e::Mg strict c l r
 end
theorem Ia (f:Int→Str→List Val→Rs) (c:List Col) (l:List Val):∀k,Mg f c l k=k.map (D5 f c l)
 | []=>rfl
 | e::r=>by rw [Mg,Ia f c l r];rfl
theorem E7 (f:Int→Str→List Val→Rs) (c:List Col) (l:List Val) (e:Expr):D5 f c l e=Eh f c l e.op e.text e.val (e.kids.map (D5 f c l)):=by cases e;rw [D5,Ia];rfl
def Kb (c:List Col) (l:List Val):Bool:=(Q8 c&&(l.length==c.length))&&(l.zip c).all fun p=>C9 p.1&&((p.1.kind==0) || (p.1.kind==p.2.kind))
/-- eval.Eval. -/
def Z7 (f:Int→Str→List Val→Rs) (x:Expr) (c:List Col) (l:List Val):Rs:=if (!(Au x)) || !(Kb c l) then Br 1 else D5 f c l x
/-! A tree in a column's place tz to what its value would there. -/
mutual
theorem eval_put {f:Int→Str→List Val→Rs} {c:List Col} {l m:List Val} {s:Str} {y:Expr} (hs:Hr c m s=D5 f c l y) (ho:∀t,t≠s→Hr c m t=Hr c l t):∀x:Expr,D5 f c l (vl s y x)=D5 f c m x
 | .mk o t v k=>by
  rw [vl]
  split
  ·rename_i h
   rw [Ak,beq_iff_eq,beq_iff_eq] at h
   obtain ⟨rfl,rfl⟩:=h
   rw [←hs,D5]
   rfl
  rename_i h
  rw [D5,D5,Vc hs ho k]
  unfold Eh
  by_cases h2:(o==2)=true
  ·have:t≠s:=fun e=>h (by rw [h2,e];simp)
   rw [ho t this]
  rw [if_neg h2,if_neg h2]
theorem Vc {f:Int→Str→List Val→Rs} {c:List Col} {l m:List Val} {s:Str} {y:Expr} (hs:Hr c m s=D5 f c l y) (ho:∀t,t≠s→Hr c m t=Hr c l t):∀k:List Expr,Mg f c l (r7 s y k)=Mg f c m k
  | []=>rfl
  | e::r=>by rw [r7,Mg,Mg,eval_put hs ho e,Vc hs ho r]
 end
/-! Who is not named plays no part. -/
/-! What a strict node tz to. -/
def M7 (a b:Int):Int×Int:=
 let p:=Qe a*Qe b
 let below:=decide (a<0) != decide (b<0)
 if decide (0<p / 18446744073709551616) || decide ((if below then 9223372036854775808 else 9223372036854775807)<p % 18446744073709551616) then (0,4)
 else if below then (IntKind.i64.wrap (IntKind.u64.wrap (0-p % 18446744073709551616)),0) else (IntKind.i64.wrap (p % 18446744073709551616),0)
def Gy (a b:Int):Int×Int:=if b==0 then (0,5) else if (a == -9223372036854775808)&&(b == -1) then (0,4) else (IntKind.i64.wrap (a.tdiv b),0)
def Na (a b:Int):Int×Int:=if b==0 then (0,5) else if b == -1 then (0,0) else (IntKind.i64.wrap (a.tmod b),0)
def B5 (t:Str) (a b:Int):Int×Int:=if t==[43] then N9 a b else if t==[45] then Gv a b else if t==[42] then M7 a b else if t==[47] then Gy a b else Na a b
def A9 (t:Str) (c:Int):Bool×Bool:=if t==[61] then (c==0,true) else if t==[33,61] then (c != 0,true) else if t==[60] then (decide (c<0),true) else if t==[60,61] then (decide (c≤0),true) else if t==[62] then (decide (0<c),true) else if t==[62,61] then (decide (0≤c),true) else (false,false)
def Ko (a b:Int):Int:=if decide (a<b) then -1 else if decide (b<a) then 1 else 0
def orI:List Int→Int
 | []=>0
 | a::r=>if a != 0 then a else orI r
def Z8 (a b:Val):Int:=if (!(C9 a)) || !(C9 b) then 0 else orI [Ko a.kind b.kind,Ko a.n b.n,Lib.compareBytes a.s b.s]
def Gd (t:Str) (a b:Val):Rs:=if (A9 t (Z8 a b)).2 then (if a.kind != b.kind then Br 10 else (C7 (A9 t (Z8 a b)).1,0)) else if t==[38] then Jp a b else if !Bi [a,b] [1,1] then Br 10 else E4 (B5 t a.n b.n)
def F5 (t:Str) (v:Val):Rs:=if (t==[115,116,114])&&(v.kind==1) then (Pp (Lib.itoa v.n),0) else if (t==[108,101,110])&&(v.kind==2) then (⟨1,v.s.length,[]⟩,0) else if (t==[110,117,109])&&(v.kind==2) then E4 (Bo v.s) else Br 10
def Ge (t:Str) (s:Str) (n:Int):Val:=if t==[108,101,102,116] then Pp (s.take (max 0 (min n s.length)).toNat) else Pp (s.drop (s.length-(max 0 (min n s.length)).toNat))
def Aj (o:Int) (t:Str) (l:List Val):Rs:=
 if o==5 then Gd t (l.getD 0 noV) (l.getD 1 noV) else if (o==3)&&Bi l [1] then E4 (Gv 0 (l.getD 0 noV).n) else if (o==4)&&Bi l [3] then (C7 ((l.getD 0 noV).n==0),0)
 else if o != 6 then Br 10 else if (l.length:Int)==1 then F5 t (l.getD 0 noV) else if !Bi l [2,1] then Br 10 else (Ge t (l.getD 0 noV).s (l.getD 1 noV).n,0)
abbrev Af (c:List Col) (l:List Val) (e:Expr):Rs:=D5 Aj c l e
abbrev Dh (x:Expr) (c:List Col) (l:List Val):Rs:=Z7 Aj x c l
/-! Values are plain, and their numbers have 64 bits. -/
structure Fine (v:Val):Prop where
 plain:C9 v=true
 lo : -9223372036854775808≤v.n
 hi:v.n≤9223372036854775807
theorem Kc:Fine noV:=⟨rfl,by decide,by decide⟩
theorem Pr (b:Bool):Fine (C7 b):=by cases b<;>exact ⟨rfl,by decide,by decide⟩
theorem O7 {n:Int} (h0 : -9223372036854775808≤n) (h1:n≤9223372036854775807):Fine ⟨1,n,[]⟩:=⟨rfl,h0,h1⟩
theorem Tc (s:Str):Fine (Pp s):=⟨by
 unfold C9 Pp
 simp only [show ((2:Int)==0)=false from rfl,show ((2:Int)==1)=false from rfl,show ((2:Int)==2)=true from rfl,Bs,if_false,if_true,show ((0:Int)==0)=true from rfl,Mj,decide_eq_true_eq,Ic]
 omega,by show -9223372036854775808≤(0:Int);decide,by show (0:Int)≤9223372036854775807;decide⟩
theorem Fine.len {v:Val} (h:Fine v):v.s.length≤200:=by
 have h:=h.plain
 unfold C9 at h
 split at h
 ·simp only [Ak,beq_iff_eq] at h;rw [h.2];exact Bk _
 split at h
 ·rw [beq_iff_eq] at h;rw [h];exact Bk _
 split at h
 ·simp only [Ak,decide_eq_true_eq] at h;omega
 simp only [Ak,beq_iff_eq] at h;rw [h.1.1.2];exact Bk _
theorem Nc {x:Int×Int} (h0:x.2=0 → -9223372036854775808≤x.1) (h1:x.2=0→x.1≤9223372036854775807):Fine (E4 x).1:=by
 unfold E4
 split
 ·exact Kc
 rename_i h
 have h:x.2=0:=by simpa using h
 exact O7 (h0 h) (h1 h)
theorem Td (e:Int):Fine (Br e).1:=Kc
theorem Hh (n:Int) : -9223372036854775808≤IntKind.i64.wrap n∧IntKind.i64.wrap n≤9223372036854775807:=by rw [IntKind.wrap_i64];omega
theorem np (a b:Int):Fine (E4 (Gv a b)).1:=by
 refine Nc (fun _=>?_) (fun _=>?_)<;>unfold Gv<;>split
 ·show -9223372036854775808≤(0:Int);decide
 ·exact (Hh _).1
 ·show (0:Int)≤9223372036854775807;decide
 exact (Hh _).2
theorem Za (t:Str) (a b:Int) : -9223372036854775808≤(B5 t a b).1∧(B5 t a b).1≤9223372036854775807:=by
 have z : -9223372036854775808≤(0:Int)∧(0:Int)≤9223372036854775807:=by decide
 unfold B5
 split
 ·unfold N9;split;exact z;exact Hh _
 split
 ·unfold Gv;split;exact z;exact Hh _
 split
 ·unfold M7
  simp only
  repeat' split
  all_goals first|exact z|exact Hh _
 split
 ·unfold Gy;split;exact z;split;exact z;exact Hh _
 unfold Na;split;exact z;split;exact z;exact Hh _
theorem nq {t:Str} {a b:Val}:Fine (Gd t a b).1:=by
 unfold Gd
 split
 ·split
  ·exact U5
  exact Pr _
 split
 ·unfold Jp
  split
  ·exact U5
  split
  ·exact U5
  exact Tc _
 split
 ·exact U5
 exact Nc (fun _=>(Za _ _ _).1) (fun _=>(Za _ _ _).2)
theorem nr (s:Str) : -9223372036854775808≤(Bo s).1∧(Bo s).1≤9223372036854775807:=by
 unfold Bo
 split
 ·decide
 split
 ·rename_i v h
  have:=Lib.parseIntB_bounds h
  simp only [show ((2 ^ (64-1):Nat):Int)=9223372036854775808 by decide] at this
  show -9223372036854775808≤v∧v≤9223372036854775807
  omega
 ·decide
 decide
theorem nt {t:Str} {v:Val} (h:Fine v):Fine (F5 t v).1:=by
 unfold F5
 split
 ·exact Tc _
 split
 ·have:=h.len
  exact O7 (by omega) (by omega)
 split
 ·exact Nc (fun _=>(nr _).1) (fun _=>(nr _).2)
 exact U5
theorem Zb {o:Int} {t:Str} {l:List Val} (h:∀v∈l,Fine v):Fine (Aj o t l).1:=by
 have h0:Fine (l.getD 0 noV):=by cases l with|nil=>exact Kc|cons a r=>exact h a Jx
 unfold Aj
 split
 ·exact nq
 split
 ·exact np _ _
 split
 ·exact Pr _
 split
 ·exact U5
 split
 ·exact nt h0
 split
 ·exact U5
 unfold Ge
 split<;>exact Tc _
theorem Nd {r:Rs} (h:Fine r.1):Fine (Az r).1:=by
 unfold Az
 split
 ·exact U5
 exact h
theorem Te {s:Val} {a b:Rs} (ha:Fine a.1) (hb:Fine b.1):Fine (Fw s a b).1:=by
 unfold Fw
 split
 ·exact Nd ha
 split
 ·exact Nd hb
 exact Nd ha
theorem jl {t:Str} {a b c:Rs} (ha:Fine a.1) (hb:Fine b.1) (hc:Fine c.1):Fine (Dc t a b c).1:=by
 unfold Dc
 repeat' split
 all_goals first|exact Td _|exact hb|exact hc|exact ha|exact Pr _
theorem nu {f:List Val→Rs} {l:List Rs} (hf:∀k:List Val,(∀v∈k,Fine v)→Fine (f k).1) (h:∀r∈l,Fine r.1):Fine (D9 f l).1:=by
 unfold D9
 split
 ·exact U5
 split
 ·exact Kc
 refine hf _ fun v hv=>?_
 obtain ⟨r,hr,rfl⟩:=Dd.1 hv
 exact h r hr
theorem jm {c:List Col} {l:List Val} (h:∀v∈l,Fine v) (t:Str):Fine (Hr c l t).1:=by
 unfold Hr
 split
 ·exact U5
 show Fine (l.getD _ noV)
 rw [Ch]
 cases hg:l[(Ez t c).toNat]? with
 | none=>exact Kc
 | some v=>exact h v (B3 hg)
def J5 (e:Expr):Bool := !(e.op==1) || C9 e.val
theorem H9 {k:List Rs} (h:∀r∈k,Fine r.1) (i:Nat):Fine (k.getD i (noV,0)).1:=by
 rw [Ch]
 cases hg:k[i]? with
 | none=>exact Kc
 | some r=>exact h r (B3 hg)
mutual
theorem Gk {c:List Col} {l:List Val} (h:∀v∈l,Fine v):∀e:Expr,B9 J5 e=true→B9 Cg e=true→Fine (Af c l e).1
 | .mk o t v k,h1,h2=>by
  rw [B9,Ak] at h1 h2
  have hk:=Tf (c:=c) h k h1.2 h2.2
  rw [Af,D5]
  unfold Eh
  split
  ·rename_i ho
   have p:=h1.1
   unfold J5 at p
   rw [show (Expr.mk o t v k).op=o from rfl,ho] at p
   have q:=h2.1
   unfold Cg at q
   simp only [Ak,decide_eq_true_eq] at q
   exact ⟨by show C9 (Expr.mk o t v k).val=true;simpa using p,q.1,q.2⟩
  split
  ·exact jm h t
  split
  ·exact Te (H9 hk 0) (H9 hk 1)
  split
  ·exact Te (H9 hk 0) (H9 hk 1)
  split
  ·exact jl (H9 hk 0) (H9 hk 1) (H9 hk 2)
  exact nu (fun _ hl=>Zb hl) hk
theorem Tf {c:List Col} {l:List Val} (h:∀v∈l,Fine v):∀k:List Expr,Jm J5 k=true→Jm Cg k=true→∀r∈Mg Aj c l k,Fine r.1
  | [],_,_=>fun r hr=>by cases hr
  | e::k,h1,h2=>by
    rw [Jm,Ak] at h1 h2
    intro r hr
    rw [Mg] at hr
    rcases By.1 hr with rfl|hr
    · exact Gk h e h1.1 h2.1
    exact Tf h k h1.2 h2.2 r hr
 end
set_option maxRecDepth 4000
abbrev O8 (r:Rs):AV:=.tup [Bq r.1,A6 r.2]
abbrev ew (l:List Int):AV:=.slice false 1 (l.map A6)
abbrev Tg (c:List Col) (l:List Val):AV:=.agg [Gq c,Jk l]
theorem c43 (e:Int) (Hp:List AObj):AFun Tryz.prog 43 [A6 e] Hp (O8 (Br e)):=by
 refine Aq [.cell 2 23,.tmp 3] [0] Tryz.func43 Tryz.ntmps43 (fun d=>?_)
 refine Xz ?_;refine A2 [0,2] ?_;refine uo ?_;refine A7 ?_;refine Z51 ?_;exact A5 (Ab (Ai jA jS) A3)

theorem c175 (n e:Int) (Hp:List AObj):AFun Tryz.prog 175 [A6 n,A6 e] Hp (O8 (E4 (n,e))):=by
 refine Aq [.cell 4 23,.tmp 5] [0,1] Tryz.func175 Tryz.ntmps175 (fun d=>?_)
 refine Xz ?_;refine A2 [0,1,4] ?_;refine Z32 ?_;refine A2 [0,1,4,7] ?_
 refine A4 (fun ht7=>?_) (fun ht7=>?_)
 ·have hw:E4 (n,e)=Br e:=if_pos ht7
  refine Z3 ?_;refine Z40 ?_;refine Z36 ?_;refine Cp ?_;exact yb
 have hw:E4 (n,e)=(⟨1,n,[]⟩,0):=if_neg (by rw [ht7];simp)
 refine Z75 ?_;refine Ac Tryz.call221 (vf _ _) ?_;refine Z36 ?_;exact yb

theorem Zc {vs:List Val} {ks:List Int} (hl:ks.length≤vs.length) {x:Nat} (hk:x<ks.length) (hx:Bi vs ks=Bi (vs.drop x) (ks.drop x)):Bi vs ks=((vs[x].kind==ks[x])&&Bi (vs.drop (x+1)) (ks.drop (x+1))):=by
 rw [hx,Kr hk,Kr (show x<vs.length by omega),Bi]
theorem nv (vs:List Val) (ks:List Int) (hks:ks.length≤vs.length) (hk2:ks.length≤1048576) (Hp:List AObj):AFun Tryz.prog 174 [Jk vs,ew ks] Hp (B8 (Bi vs ks)):=by
 refine Aq [.tmp 4] [0,1] Tryz.func174 Tryz.ntmps174 (fun d=>?_)
 refine Z70 ?_;refine Z39 ?_;refine A2 [0,7,8,9] ?_
 refine Ff (α:=Nat) (fun x=>⟨22,Ao 0 (Jk vs) (Ao 7 (ew ks) (Ao 8 (A6 (ks.length:Nat)) (Ao 9 (A6 (x:Nat)) (fun _=>.any)))),Hp,[],[],none⟩) (fun x=>x≤ks.length∧Bi vs ks=Bi (vs.drop x) (ks.drop x)) (fun x=>ks.length-x) (0) ⟨Bk _,rfl⟩ (E9 (by simp)) rfl (fun x hx=>?_)
 refine Z3 ?_;refine A2 [0,7,8,9,10] ?_
 refine Gp (fun ht10=>?_) (fun ht10=>?_)
 ·have hlt:x<ks.length:=by simpa using ht10
  have hls:x<vs.length:=by omega
  have hst:=Zc hks hlt hx.2
  refine Wi ?_
  refine A7 (h:=Ax (x) (A6 ks[x]) (fun _=>Cu hlt)) (hr:=?_)
  refine Z24 ?_;refine A2 [0,5,6,7,8,9] ?_;refine Z1 ?_
  refine A7 (h:=Ax (x) (Bq vs[x]) (fun _=>Cu hls)) (hr:=?_)
  refine Z64 ?_;refine A2 [0,7,8,9,20] ?_
  refine A4 (fun ht20=>?_) (fun ht20=>?_)
  ·have hm:Bi vs ks=false:=by rw [hst];simp only [bne_iff_ne,ne_eq] at ht20;simp [ht20]
   refine Z94 ?_;exact m6
  have hn:Bi vs ks=Bi (vs.drop (x+1)) (ks.drop (x+1)):=by rw [hst];simp only [bne_eq_false_iff_eq] at ht20;simp [ht20]
  refine U2 ?_;refine A2 [0,7,8,9] ?_;exact xc
 have hxe:ks.length≤x:=by simpa using ht10
 have hm:Bi vs ks=true:=by rw [hx.2,ac hxe];cases vs.drop x<;>rfl
 refine Z58 ?_;refine Z3 ?_;exact Z78

theorem AB5 (t:Str) (c:Int) (Hp:List AObj):AFun Tryz.prog 217 [Ah t,A6 c] Hp (.tup [B8 (A9 t c).1,B8 (A9 t c).2]):=by
 refine Aq [.tmp 4,.tmp 5] [0,1] Tryz.func217 Tryz.ntmps217 (fun d=>?_)
 refine ay ?_;refine Z37 ?_;refine A2 [1,6] ?_;refine Z88 ?_;refine A2 [1,6,7] ?_
 refine A4 (fun ht7=>?_) (fun ht7=>?_)
 ·refine ig ?_
  first|(by_cases e0:A9 t c=(c==0,true);exact A5 (Ab A3 A3) ⟨by rw [e0];try rfl,rfl⟩;exfalso;refine e0 ?_;clear e0;simp_all [A9];done)|(by_cases e0:A9 t c=(c != 0,true);exact A5 (Ab A3 A3) ⟨by rw [e0];try rfl,rfl⟩;exfalso;refine e0 ?_;clear e0;simp_all [A9];done)|(by_cases e0:A9 t c=(decide (c<0),true);exact A5 (Ab A3 A3) ⟨by rw [e0];try rfl,rfl⟩;exfalso;refine e0 ?_;clear e0;simp_all [A9];done)|(by_cases e0:A9 t c=(decide (c≤0),true);exact A5 (Ab A3 A3) ⟨by rw [e0];try rfl,rfl⟩;exfalso;refine e0 ?_;clear e0;simp_all [A9];done)|(by_cases e0:A9 t c=(decide (0<c),true);exact A5 (Ab A3 A3) ⟨by rw [e0];try rfl,rfl⟩;exfalso;refine e0 ?_;clear e0;simp_all [A9];done)|(by_cases e0:A9 t c=(decide (0≤c),true);exact A5 (Ab A3 A3) ⟨by rw [e0];try rfl,rfl⟩;exfalso;refine e0 ?_;clear e0;simp_all [A9];done)|(by_cases e0:A9 t c=(false,false);exact A5 (Ab A3 A3) ⟨by rw [e0];try rfl,rfl⟩;exfalso;refine e0 ?_;clear e0;simp_all [A9];done)
 refine Z1 ?_;refine A2 [1,6,11] ?_
 refine A4 (fun ht11=>?_) (fun ht11=>?_)
 ·refine ig ?_
  first|(by_cases e0:A9 t c=(c==0,true);exact A5 (Ab A3 A3) ⟨by rw [e0];try rfl,rfl⟩;exfalso;refine e0 ?_;clear e0;simp_all [A9];done)|(by_cases e0:A9 t c=(c != 0,true);exact A5 (Ab A3 A3) ⟨by rw [e0];try rfl,rfl⟩;exfalso;refine e0 ?_;clear e0;simp_all [A9];done)|(by_cases e0:A9 t c=(decide (c<0),true);exact A5 (Ab A3 A3) ⟨by rw [e0];try rfl,rfl⟩;exfalso;refine e0 ?_;clear e0;simp_all [A9];done)|(by_cases e0:A9 t c=(decide (c≤0),true);exact A5 (Ab A3 A3) ⟨by rw [e0];try rfl,rfl⟩;exfalso;refine e0 ?_;clear e0;simp_all [A9];done)|(by_cases e0:A9 t c=(decide (0<c),true);exact A5 (Ab A3 A3) ⟨by rw [e0];try rfl,rfl⟩;exfalso;refine e0 ?_;clear e0;simp_all [A9];done)|(by_cases e0:A9 t c=(decide (0≤c),true);exact A5 (Ab A3 A3) ⟨by rw [e0];try rfl,rfl⟩;exfalso;refine e0 ?_;clear e0;simp_all [A9];done)|(by_cases e0:A9 t c=(false,false);exact A5 (Ab A3 A3) ⟨by rw [e0];try rfl,rfl⟩;exfalso;refine e0 ?_;clear e0;simp_all [A9];done)
 refine Z1 ?_;refine A2 [1,6,15] ?_
 refine A4 (fun ht15=>?_) (fun ht15=>?_)
 ·refine ig ?_
  first|(by_cases e0:A9 t c=(c==0,true);exact A5 (Ab A3 A3) ⟨by rw [e0];try rfl,rfl⟩;exfalso;refine e0 ?_;clear e0;simp_all [A9];done)|(by_cases e0:A9 t c=(c != 0,true);exact A5 (Ab A3 A3) ⟨by rw [e0];try rfl,rfl⟩;exfalso;refine e0 ?_;clear e0;simp_all [A9];done)|(by_cases e0:A9 t c=(decide (c<0),true);exact A5 (Ab A3 A3) ⟨by rw [e0];try rfl,rfl⟩;exfalso;refine e0 ?_;clear e0;simp_all [A9];done)|(by_cases e0:A9 t c=(decide (c≤0),true);exact A5 (Ab A3 A3) ⟨by rw [e0];try rfl,rfl⟩;exfalso;refine e0 ?_;clear e0;simp_all [A9];done)|(by_cases e0:A9 t c=(decide (0<c),true);exact A5 (Ab A3 A3) ⟨by rw [e0];try rfl,rfl⟩;exfalso;refine e0 ?_;clear e0;simp_all [A9];done)|(by_cases e0:A9 t c=(decide (0≤c),true);exact A5 (Ab A3 A3) ⟨by rw [e0];try rfl,rfl⟩;exfalso;refine e0 ?_;clear e0;simp_all [A9];done)|(by_cases e0:A9 t c=(false,false);exact A5 (Ab A3 A3) ⟨by rw [e0];try rfl,rfl⟩;exfalso;refine e0 ?_;clear e0;simp_all [A9];done)
 refine Z1 ?_;refine A2 [1,6,19] ?_
 refine A4 (fun ht19=>?_) (fun ht19=>?_)
 ·refine ig ?_
  first|(by_cases e0:A9 t c=(c==0,true);exact A5 (Ab A3 A3) ⟨by rw [e0];try rfl,rfl⟩;exfalso;refine e0 ?_;clear e0;simp_all [A9];done)|(by_cases e0:A9 t c=(c != 0,true);exact A5 (Ab A3 A3) ⟨by rw [e0];try rfl,rfl⟩;exfalso;refine e0 ?_;clear e0;simp_all [A9];done)|(by_cases e0:A9 t c=(decide (c<0),true);exact A5 (Ab A3 A3) ⟨by rw [e0];try rfl,rfl⟩;exfalso;refine e0 ?_;clear e0;simp_all [A9];done)|(by_cases e0:A9 t c=(decide (c≤0),true);exact A5 (Ab A3 A3) ⟨by rw [e0];try rfl,rfl⟩;exfalso;refine e0 ?_;clear e0;simp_all [A9];done)|(by_cases e0:A9 t c=(decide (0<c),true);exact A5 (Ab A3 A3) ⟨by rw [e0];try rfl,rfl⟩;exfalso;refine e0 ?_;clear e0;simp_all [A9];done)|(by_cases e0:A9 t c=(decide (0≤c),true);exact A5 (Ab A3 A3) ⟨by rw [e0];try rfl,rfl⟩;exfalso;refine e0 ?_;clear e0;simp_all [A9];done)|(by_cases e0:A9 t c=(false,false);exact A5 (Ab A3 A3) ⟨by rw [e0];try rfl,rfl⟩;exfalso;refine e0 ?_;clear e0;simp_all [A9];done)
 refine Z1 ?_;refine A2 [1,6,23] ?_
 refine A4 (fun ht23=>?_) (fun ht23=>?_)
 ·refine ig ?_
  first|(by_cases e0:A9 t c=(c==0,true);exact A5 (Ab A3 A3) ⟨by rw [e0];try rfl,rfl⟩;exfalso;refine e0 ?_;clear e0;simp_all [A9];done)|(by_cases e0:A9 t c=(c != 0,true);exact A5 (Ab A3 A3) ⟨by rw [e0];try rfl,rfl⟩;exfalso;refine e0 ?_;clear e0;simp_all [A9];done)|(by_cases e0:A9 t c=(decide (c<0),true);exact A5 (Ab A3 A3) ⟨by rw [e0];try rfl,rfl⟩;exfalso;refine e0 ?_;clear e0;simp_all [A9];done)|(by_cases e0:A9 t c=(decide (c≤0),true);exact A5 (Ab A3 A3) ⟨by rw [e0];try rfl,rfl⟩;exfalso;refine e0 ?_;clear e0;simp_all [A9];done)|(by_cases e0:A9 t c=(decide (0<c),true);exact A5 (Ab A3 A3) ⟨by rw [e0];try rfl,rfl⟩;exfalso;refine e0 ?_;clear e0;simp_all [A9];done)|(by_cases e0:A9 t c=(decide (0≤c),true);exact A5 (Ab A3 A3) ⟨by rw [e0];try rfl,rfl⟩;exfalso;refine e0 ?_;clear e0;simp_all [A9];done)|(by_cases e0:A9 t c=(false,false);exact A5 (Ab A3 A3) ⟨by rw [e0];try rfl,rfl⟩;exfalso;refine e0 ?_;clear e0;simp_all [A9];done)
 refine Z1 ?_;refine A2 [1,27] ?_
 refine A4 (fun ht27=>?_) (fun ht27=>?_)
 ·refine ig ?_
  first|(by_cases e0:A9 t c=(c==0,true);exact A5 (Ab A3 A3) ⟨by rw [e0];try rfl,rfl⟩;exfalso;refine e0 ?_;clear e0;simp_all [A9];done)|(by_cases e0:A9 t c=(c != 0,true);exact A5 (Ab A3 A3) ⟨by rw [e0];try rfl,rfl⟩;exfalso;refine e0 ?_;clear e0;simp_all [A9];done)|(by_cases e0:A9 t c=(decide (c<0),true);exact A5 (Ab A3 A3) ⟨by rw [e0];try rfl,rfl⟩;exfalso;refine e0 ?_;clear e0;simp_all [A9];done)|(by_cases e0:A9 t c=(decide (c≤0),true);exact A5 (Ab A3 A3) ⟨by rw [e0];try rfl,rfl⟩;exfalso;refine e0 ?_;clear e0;simp_all [A9];done)|(by_cases e0:A9 t c=(decide (0<c),true);exact A5 (Ab A3 A3) ⟨by rw [e0];try rfl,rfl⟩;exfalso;refine e0 ?_;clear e0;simp_all [A9];done)|(by_cases e0:A9 t c=(decide (0≤c),true);exact A5 (Ab A3 A3) ⟨by rw [e0];try rfl,rfl⟩;exfalso;refine e0 ?_;clear e0;simp_all [A9];done)|(by_cases e0:A9 t c=(false,false);exact A5 (Ab A3 A3) ⟨by rw [e0];try rfl,rfl⟩;exfalso;refine e0 ?_;clear e0;simp_all [A9];done)
 refine Y1 ?_;refine Z11 ?_
 first|(by_cases e0:A9 t c=(c==0,true);exact A5 (Ab A3 A3) ⟨by rw [e0];try rfl,rfl⟩;exfalso;refine e0 ?_;clear e0;simp_all [A9];done)|(by_cases e0:A9 t c=(c != 0,true);exact A5 (Ab A3 A3) ⟨by rw [e0];try rfl,rfl⟩;exfalso;refine e0 ?_;clear e0;simp_all [A9];done)|(by_cases e0:A9 t c=(decide (c<0),true);exact A5 (Ab A3 A3) ⟨by rw [e0];try rfl,rfl⟩;exfalso;refine e0 ?_;clear e0;simp_all [A9];done)|(by_cases e0:A9 t c=(decide (c≤0),true);exact A5 (Ab A3 A3) ⟨by rw [e0];try rfl,rfl⟩;exfalso;refine e0 ?_;clear e0;simp_all [A9];done)|(by_cases e0:A9 t c=(decide (0<c),true);exact A5 (Ab A3 A3) ⟨by rw [e0];try rfl,rfl⟩;exfalso;refine e0 ?_;clear e0;simp_all [A9];done)|(by_cases e0:A9 t c=(decide (0≤c),true);exact A5 (Ab A3 A3) ⟨by rw [e0];try rfl,rfl⟩;exfalso;refine e0 ?_;clear e0;simp_all [A9];done)|(by_cases e0:A9 t c=(false,false);exact A5 (Ab A3 A3) ⟨by rw [e0];try rfl,rfl⟩;exfalso;refine e0 ?_;clear e0;simp_all [A9];done)

theorem zd (a b:Int) (Hp:List AObj):AFun Tryz.prog 222 [A6 a,A6 b] Hp (.tup [A6 (Gv a b).1,A6 (Gv a b).2]):=by
 refine Aq [.tmp 4,.tmp 5] [0,1] Tryz.func222 Tryz.ntmps222 (fun d=>?_)
 refine ay ?_;refine Z1 ?_
 refine A7 (h:=Q.sub) (hr:=?_)
 refine A7 ?_;refine A2 [0,1,6] ?_;refine Z32 ?_;refine R.xor ?_;refine Z0 ?_;refine R.xor ?_;refine R.and ?_;refine A7 ?_;refine A2 [6,17] ?_
 refine A4 (fun ht17=>?_) (fun ht17=>?_)
 ·have hm:Gv a b=(0,4):=if_pos ht17
  refine Z1 ?_;exact xh
 have hm:Gv a b=(IntKind.i64.wrap (a-b),0):=if_neg (by rw [ht17];simp)
 refine U4 ?_;exact uk

theorem AB6 (a b:Int) (Hp:List AObj):AFun Tryz.prog 273 [A6 a,A6 b] Hp (.tup [A6 (N9 a b).1,A6 (N9 a b).2]):=by
 refine Aq [.tmp 4,.tmp 5] [0,1] Tryz.func273 Tryz.ntmps273 (fun d=>?_)
 refine ay ?_;refine Z1 ?_
 refine A7 (h:=Q.add) (hr:=?_)
 refine A7 ?_;refine A2 [0,1,6] ?_;refine Z32 ?_;refine R.xor ?_;refine Z0 ?_;refine R.xor ?_;refine R.and ?_;refine A7 ?_;refine A2 [6,17] ?_
 refine A4 (fun ht17=>?_) (fun ht17=>?_)
 ·have hm:N9 a b=(0,4):=if_pos ht17
  refine Z1 ?_;exact xh
 have hm:N9 a b=(IntKind.i64.wrap (a+b),0):=if_neg (by rw [ht17];simp)
 refine U4 ?_;exact uk

theorem AB7 (a:Int) (Hp:List AObj):AFun Tryz.prog 176 [A6 a] Hp (.tup [A6 (Gv 0 a).1,A6 (Gv 0 a).2]):=by
 refine Aq [.tmp 2,.tmp 3] [0] Tryz.func176 Tryz.ntmps176 (fun d=>?_)
 refine Z1 ?_;refine A2 [0] ?_;refine Z3 ?_;refine Ac Tryz.call222 (zd _ _ _) ?_;refine Z64 ?_;refine Z20 ?_;exact A5 (Ab A3 A3)

theorem ze (a:Int) (Hp:List AObj):AFun Tryz.prog 305 [A6 a] Hp (mf (Qe a)):=by
 refine Aq [.tmp 2] [0] Tryz.func305 Tryz.ntmps305 (fun d=>?_)
 refine Z76 ?_;refine Z32 ?_;refine A2 [0,4] ?_
 refine A4 (fun ht4=>?_) (fun ht4=>?_)
 ·have hm:Qe a=IntKind.u64.wrap (0-IntKind.u64.wrap a):=if_pos ht4
  refine Z17 ?_;refine Z4 ?_;exact Z30
 have hm:Qe a=IntKind.u64.wrap a:=if_neg (by rw [ht4];simp)
 refine U4 ?_;exact xr

theorem vu (n:Int):0≤IntKind.u64.wrap n∧IntKind.u64.wrap n<18446744073709551616:=by rw [IntKind.wrap_u64];omega
theorem nw (a:Int):0≤Qe a∧Qe a<18446744073709551616:=by
 unfold Qe
 split<;>exact vu _
theorem AB8 (x y:Int) (hx:0≤x∧x<18446744073709551616) (hy:0≤y∧y<18446744073709551616) (Hp:List AObj):AFun Tryz.prog 304 [mf x,mf y] Hp (.tup [mf (x*y / 18446744073709551616),mf (x*y % 18446744073709551616)]):=by
 obtain ⟨m,rfl⟩:=Zw hx.1
 obtain ⟨n,rfl⟩:=Zw hy.1
 refine J2 (xs:=[.int .u64 m,.int .u64 n]) (v:=.tuple #[.int .u64 ((m*n / 18446744073709551616:Nat):Int),.int .u64 ((m*n % 18446744073709551616:Nat):Int)]) (fun G w=>K3 rfl (fun i y u hy hu=>?_)) (fun w hg=>?_)
 ·match i with
  | 0=>simp at hy hu;subst hy;subst hu;exact .v _ _
  | 1=>simp at hy hu;subst hy;subst hu;exact .v _ _
  | i+2=>simp at hy
 refine (Any.bits_Mul64 Tryz.lays264 m n (by omega) (by omega) w).mono ?_
 rintro e w' ⟨rfl,rfl⟩
 exact ⟨rfl,Go.RowKit.Below.refl _ _⟩
theorem AB9 (s t:Str) (Hp:List AObj):AFun Tryz.prog 272 [Ah s,Ah t] Hp (A6 (Lib.compareBytes s t)):=by
 refine J2 (xs:=[sv s,sv t]) (v:=.int .i64 (Lib.compareBytes s t)) (fun G w=>.v _ _) (fun w hg=>?_)
 refine (Any.strings_Compare Tryz.lays106 ⟨s.toArray⟩ ⟨t.toArray⟩ w).mono ?_
 rintro e w' ⟨rfl,rfl⟩
 exact ⟨rfl,Go.RowKit.Below.refl _ _⟩
theorem ABa (a b:Int) (Hp:List AObj):AFun Tryz.prog 274 [A6 a,A6 b] Hp (.tup [A6 (M7 a b).1,A6 (M7 a b).2]):=by
 refine Aq [.tmp 4,.tmp 5] [0,1] Tryz.func274 Tryz.ntmps274 (fun d=>?_)
 refine ay ?_;refine Z3 ?_;refine Ac Tryz.call305 (ze _ _) ?_;refine A7 ?_;refine Ac Tryz.call305 (ze _ _) ?_;refine Ac Tryz.call304 (AB8 _ _ (nw a) (nw b) _) ?_;refine Qq ?_;refine A2 [0,1,6,7] ?_;refine Z17 ?_;refine Z0 ?_;refine A2 [6,7,8] ?_;refine Z3 ?_;refine A2 [6,7,8,9] ?_;refine Z37 ?_;refine A2 [6,7,8,9,23] ?_
 refine A4 (fun ht23=>?_) (fun ht23=>?_)
 ·refine Z97 ?_
  refine A7 (h:=Q.add) (hr:=?_)
  refine A7 ?_;refine A2 [6,7,8,9] ?_;refine Fv ?_;refine U3 ?_;refine Z56 ?_;refine A2 [7,8,26] ?_
  refine A4 (fun ht26=>?_) (fun ht26=>?_)
  ·refine Z1 ?_;refine Z77 ?_
   exact A5 (Ab A3 A3) ⟨by
    have w1:IntKind.u64.wrap 9223372036854775808=9223372036854775808:=rfl
    simp_all [M7]
    try first|(rw [if_pos ht26];simp;done)|(rw [if_neg (by omega)];simp;done),rfl⟩
  refine Z1 ?_;refine A2 [7,34] ?_
  refine A4 (fun ht34=>?_) (fun ht34=>?_)
  ·refine Z17 ?_;refine A7 ?_;refine Z77 ?_
   exact A5 (Ab A3 A3) ⟨by
    have w1:IntKind.u64.wrap 9223372036854775808=9223372036854775808:=rfl
    simp_all [M7]
    try first|(rw [if_pos ht26];simp;done)|(rw [if_neg (by omega)];simp;done),rfl⟩
  refine Z22 ?_;refine Z17 ?_;refine Z11 ?_
  exact A5 (Ab A3 A3) ⟨by
   have w1:IntKind.u64.wrap 9223372036854775808=9223372036854775808:=rfl
   simp_all [M7]
   try first|(rw [if_pos ht26];simp;done)|(rw [if_neg (by omega)];simp;done),rfl⟩
 refine Z9 ?_;refine U3 ?_;refine Z56 ?_;refine A2 [7,8,26] ?_
 refine A4 (fun ht26=>?_) (fun ht26=>?_)
 ·refine Z1 ?_;refine Z77 ?_
  exact A5 (Ab A3 A3) ⟨by
   have w1:IntKind.u64.wrap 9223372036854775808=9223372036854775808:=rfl
   simp_all [M7]
   try first|(rw [if_pos ht26];simp;done)|(rw [if_neg (by omega)];simp;done),rfl⟩
 refine Z1 ?_;refine A2 [7,34] ?_
 refine A4 (fun ht34=>?_) (fun ht34=>?_)
 ·refine Z17 ?_;refine A7 ?_;refine Z77 ?_
  exact A5 (Ab A3 A3) ⟨by
   have w1:IntKind.u64.wrap 9223372036854775808=9223372036854775808:=rfl
   simp_all [M7]
   try first|(rw [if_pos ht26];simp;done)|(rw [if_neg (by omega)];simp;done),rfl⟩
 refine Z22 ?_;refine Z17 ?_;refine Z11 ?_
 exact A5 (Ab A3 A3) ⟨by
  have w1:IntKind.u64.wrap 9223372036854775808=9223372036854775808:=rfl
  simp_all [M7]
  try first|(rw [if_pos ht26];simp;done)|(rw [if_neg (by omega)];simp;done),rfl⟩

theorem ABb (a b:Int) (Hp:List AObj):AFun Tryz.prog 275 [A6 a,A6 b] Hp (.tup [A6 (Gy a b).1,A6 (Gy a b).2]):=by
 refine Aq [.tmp 4,.tmp 5] [0,1] Tryz.func275 Tryz.ntmps275 (fun d=>?_)
 refine ay ?_;refine U3 ?_;refine A2 [0,1,6] ?_
 refine A4 (fun ht6=>?_) (fun ht6=>?_)
 ·refine Z1 ?_;refine Z77 ?_
  first|(by_cases e0:Gy a b=(0,5);exact A5 (Ab A3 A3) ⟨by rw [e0];try rfl,rfl⟩;exfalso;refine e0 ?_;clear e0;simp_all [Gy];done)|(by_cases e0:Gy a b=(0,4);exact A5 (Ab A3 A3) ⟨by rw [e0];try rfl,rfl⟩;exfalso;refine e0 ?_;clear e0;simp_all [Gy];done)|(by_cases e0:Gy a b=(IntKind.i64.wrap (a.tdiv b),0);exact A5 (Ab A3 A3) ⟨by rw [e0];try rfl,rfl⟩;exfalso;refine e0 ?_;clear e0;simp_all [Gy];done)
 refine Z14 ?_;refine Z12 ?_;refine Z0 ?_;refine A2 [0,1,9] ?_
 refine A4 (fun ht9=>?_) (fun ht9=>?_)
 ·refine Z1 ?_;refine Z77 ?_
  first|(by_cases e0:Gy a b=(0,5);exact A5 (Ab A3 A3) ⟨by rw [e0];try rfl,rfl⟩;exfalso;refine e0 ?_;clear e0;simp_all [Gy];done)|(by_cases e0:Gy a b=(0,4);exact A5 (Ab A3 A3) ⟨by rw [e0];try rfl,rfl⟩;exfalso;refine e0 ?_;clear e0;simp_all [Gy];done)|(by_cases e0:Gy a b=(IntKind.i64.wrap (a.tdiv b),0);exact A5 (Ab A3 A3) ⟨by rw [e0];try rfl,rfl⟩;exfalso;refine e0 ?_;clear e0;simp_all [Gy];done)
 refine Y1 ?_
 refine A7 (h:=Q.quo (h0:=fun _=>by simpa using ht6)) (hr:=?_)
 refine Z0 ?_;refine Z11 ?_
 first|(by_cases e0:Gy a b=(0,5);exact A5 (Ab A3 A3) ⟨by rw [e0];try rfl,rfl⟩;exfalso;refine e0 ?_;clear e0;simp_all [Gy];done)|(by_cases e0:Gy a b=(0,4);exact A5 (Ab A3 A3) ⟨by rw [e0];try rfl,rfl⟩;exfalso;refine e0 ?_;clear e0;simp_all [Gy];done)|(by_cases e0:Gy a b=(IntKind.i64.wrap (a.tdiv b),0);exact A5 (Ab A3 A3) ⟨by rw [e0];try rfl,rfl⟩;exfalso;refine e0 ?_;clear e0;simp_all [Gy];done)

theorem jn {a b:Int} (ha : -9223372036854775808≤a∧a≤9223372036854775807):IntKind.i64.wrap (a.tmod b)=a.tmod b:=by
 have h1:(a.tmod b).natAbs≤a.natAbs:=by rw [Int.natAbs_tmod];exact Nat.mod_le _ _
 rw [IntKind.wrap_i64]
 rcases Int.le_total 0 a with h|h
 ·have:=Int.tmod_nonneg b h
  omega
 have h2:=Int.tmod_nonneg b (show 0 ≤ -a by omega)
 rw [Int.neg_tmod] at h2
 omega
theorem ABc (a b:Int) (ha : -9223372036854775808≤a∧a≤9223372036854775807) (Hp:List AObj):AFun Tryz.prog 276 [A6 a,A6 b] Hp (.tup [A6 (Na a b).1,A6 (Na a b).2]):=by
 refine Aq [.tmp 4,.tmp 5] [0,1] Tryz.func276 Tryz.ntmps276 (fun d=>?_)
 refine ay ?_;refine Z37 ?_;refine A2 [0,1,6] ?_;refine Z88 ?_;refine A2 [0,1,6,7] ?_
 refine A4 (fun ht7=>?_) (fun ht7=>?_)
 ·have hm:Na a b=(0,5):=if_pos ht7
  refine Z1 ?_;exact xi
 refine Z1 ?_;refine A2 [0,1,9] ?_
 refine A4 (fun ht9=>?_) (fun ht9=>?_)
 ·have hm:Na a b=(0,0):=by unfold Na;rw [if_neg (by rw [ht7];simp),if_pos ht9]
  refine Z1 ?_;exact xi
 have hm:Na a b=(a.tmod b,0):=by unfold Na;rw [if_neg (by rw [ht7];simp),if_neg (by rw [ht9];simp),jn ha]
 refine Y1 ?_
 refine A7 (h:=Q.rem (h0:=fun _=>by simpa using ht7)) (hr:=?_)
 refine Z0 ?_;exact uk

theorem zf (a:Int) (Hp:List AObj):AFun Tryz.prog 301 [A6 a] Hp (B8 false):=by
 refine Aq [.tmp 2] [0] Tryz.func301 Tryz.ntmps301 (fun d=>?_)
 refine Z76 ?_;refine Z17 ?_;exact xv

theorem zg (a:Int) (Hp:List AObj):AFun Tryz.prog 302 [A6 a] Hp (B8 false):=by
 refine Aq [.tmp 2] [0] Tryz.func302 Tryz.ntmps302 (fun d=>?_)
 refine Z76 ?_;refine Z17 ?_;exact xv

theorem ABd (a b:Int) (Hp:List AObj):AFun Tryz.prog 270 [A6 a,A6 b] Hp (A6 (Ko a b)):=by
 refine Aq [.tmp 4] [0,1] Tryz.func270 Tryz.ntmps270 (fun d=>?_)
 refine Z70 ?_;refine Z3 ?_;refine Ac Tryz.call301 (zf _ _) ?_;refine A7 ?_;refine A2 [0,1,5] ?_;refine Z3 ?_;refine Ac Tryz.call301 (zf _ _) ?_;refine A7 ?_;refine A2 [0,1,5,6] ?_;refine Z37 ?_;refine A2 [0,1,6,11] ?_
 refine A4 (fun ht11=>?_) (fun ht11=>?_)
 ·cases ht11
 refine Wg ?_;refine A2 [0,1,13] ?_
 refine A4 (fun ht13=>?_) (fun ht13=>?_)
 ·cases ht13
 refine Z9 ?_;refine Z39 ?_;refine A2 [0,1,16] ?_
 refine A4 (fun ht16=>?_) (fun ht16=>?_)
 ·have hm:Ko a b = -1:=if_pos ht16
  exact i6
 refine Z9 ?_;refine Z39 ?_;refine A2 [19] ?_
 refine A4 (fun ht19=>?_) (fun ht19=>?_)
 ·have hm:Ko a b=1:=by unfold Ko;rw [if_neg (by rw [ht16];simp),if_pos ht19]
  exact i6
 have hm:Ko a b=0:=by unfold Ko;rw [if_neg (by rw [ht16];simp),if_neg (by rw [ht19];simp)]
 refine Z75 ?_;exact Z78

theorem ABe (a b:Int) (Hp:List AObj):AFun Tryz.prog 271 [A6 a,A6 b] Hp (A6 (Ko a b)):=by
 refine Aq [.tmp 4] [0,1] Tryz.func271 Tryz.ntmps271 (fun d=>?_)
 refine Z70 ?_;refine Z3 ?_;refine Ac Tryz.call302 (zg _ _) ?_;refine A7 ?_;refine A2 [0,1,5] ?_;refine Z3 ?_;refine Ac Tryz.call302 (zg _ _) ?_;refine A7 ?_;refine A2 [0,1,5,6] ?_;refine Z37 ?_;refine A2 [0,1,6,11] ?_
 refine A4 (fun ht11=>?_) (fun ht11=>?_)
 ·cases ht11
 refine Wg ?_;refine A2 [0,1,13] ?_
 refine A4 (fun ht13=>?_) (fun ht13=>?_)
 ·cases ht13
 refine Z9 ?_;refine Z39 ?_;refine A2 [0,1,16] ?_
 refine A4 (fun ht16=>?_) (fun ht16=>?_)
 ·have hm:Ko a b = -1:=if_pos ht16
  exact i6
 refine Z9 ?_;refine Z39 ?_;refine A2 [19] ?_
 refine A4 (fun ht19=>?_) (fun ht19=>?_)
 ·have hm:Ko a b=1:=by unfold Ko;rw [if_neg (by rw [ht16];simp),if_pos ht19]
  exact i6
 have hm:Ko a b=0:=by unfold Ko;rw [if_neg (by rw [ht16];simp),if_neg (by rw [ht19];simp)]
 refine Z75 ?_;exact Z78

theorem nx {l:List Int} {x:Nat} (h:x<l.length) (hx:orI l=orI (l.drop x)):orI l=if l[x] != 0 then l[x] else orI (l.drop (x+1)):=by rw [hx,Kr h,orI]
theorem ABf (l:List Int) (hl:l.length≤1048576) (Hp:List AObj):AFun Tryz.prog 269 [ew l] Hp (A6 (orI l)):=by
 refine Aq [.tmp 2] [0] Tryz.func269 Tryz.ntmps269 (fun d=>?_)
 refine Z76 ?_;refine Z3 ?_;refine P5 ?_;refine Z39 ?_;refine A2 [3,6,7,8] ?_
 refine Ff (α:=Nat) (fun x=>⟨18,Ao 3 (A6 0) (Ao 6 (ew l) (Ao 7 (A6 (l.length:Nat)) (Ao 8 (A6 (x:Nat)) (fun _=>.any)))),Hp,[],[],none⟩) (fun x=>x≤l.length∧orI l=orI (l.drop x)) (fun x=>l.length-x) (0) ⟨Bk _,rfl⟩ (E9 (by simp)) rfl (fun x hx=>?_)
 refine Z3 ?_;refine A2 [3,6,7,8,9] ?_
 refine Gp (fun ht9=>?_) (fun ht9=>?_)
 ·have hlt:x<l.length:=by simpa using ht9
  have hst:=nx hlt hx.2
  refine b6 ?_
  refine A7 (h:=Ax (x) (A6 l[x]) (fun _=>Cu hlt)) (hr:=?_)
  refine Z0 ?_;refine A2 [3,5,6,7,8] ?_;refine Z14 ?_;refine A2 [3,5,6,7,8,14] ?_
  refine A4 (fun ht14=>?_) (fun ht14=>?_)
  ·have hm:orI l=l[x]:=by rw [hst,if_pos ht14]
   refine Z1 ?_;refine Z4 ?_;exact m6
  have hn:orI l=orI (l.drop (x+1)):=by rw [hst,if_neg (by rw [ht14];simp)]
  refine U2 ?_;refine A2 [3,6,7,8] ?_;exact xc
 have hxe:l.length≤x:=by simpa using ht9
 have hm:orI l=0:=by rw [hx.2,ac hxe];rfl
 refine Z58 ?_;refine Z1 ?_;exact xr

theorem ABg (a b:Val) (Hp:List AObj):AFun Tryz.prog 218 [Bq a,Bq b] Hp (A6 (Z8 a b)):=by
 refine Aq [.tmp 4] [0,1] Tryz.func218 Tryz.ntmps218 (fun d=>?_)
 refine Z14 ?_;refine A2 [2,3] ?_;refine Z37 ?_;refine Ac Tryz.call37 (c37 a _) ?_;refine Y0 ?_;refine Co Tryz.call37 (fun hB=>c37 b _) ?_;refine Z63 ?_;refine A2 [2,3,12] ?_
 refine A4 (fun ht12=>?_) (fun ht12=>?_)
 ·have hm:Z8 a b=0:=if_pos ht12
  exact i6
 have hm:Z8 a b=orI [Ko a.kind b.kind,Ko a.n b.n,Lib.compareBytes a.s b.s]:=if_neg (by rw [ht12];simp)
 refine Z9 ?_;refine Er [0,1,0,4,15,0,32,0,128,511,0,1024,0,4096,16383,32767,65535,131071] 14 Aw (by kernel_rfl) ?_;refine b8 ?_;refine Cy Tryz.call270 (ABd _ _ _) ?_;refine b8 ?_;refine Cy Tryz.call271 (ABe _ _ _) ?_;refine Z13 ?_;refine Z91 ?_;refine Ac Tryz.call272 (AB9 _ _ _) ?_;refine S5 ?_;refine Ac Tryz.call269 (ABf [Ko a.kind b.kind,Ko a.n b.n,Lib.compareBytes a.s b.s] (by simp) _) ?_;refine A7 ?_;exact Z78

theorem ABh (t:Str) (a b:Int) (ha : -9223372036854775808≤a∧a≤9223372036854775807) (Hp:List AObj):AFun Tryz.prog 220 [Ah t,A6 a,A6 b] Hp (O8 (E4 (B5 t a b))):=by
 refine Aq [.cell 6 23,.tmp 7] [0,1,2] Tryz.func220 Tryz.ntmps220 (fun d=>?_)
 refine Xz ?_;refine A2 [0,1,2,6] ?_;refine Z37 ?_;refine A2 [1,2,6,8] ?_;refine Z88 ?_;refine A2 [1,2,6,8,9] ?_
 refine A4 (fun ht9=>?_) (fun ht9=>?_)
 ·refine Z1 ?_;refine Ac Tryz.call273 (AB6 _ _ _) ?_;refine b9 ?_;refine S3 ?_
  first|(by_cases e0:B5 t a b=N9 a b;exact A5 (Ab (Ai Tryz.isAgg23 Tryz.sizeOf23) A3) ⟨by rw [e0];try rfl,rfl⟩;exfalso;refine e0 ?_;clear e0;simp_all [B5];done)|(by_cases e0:B5 t a b=Gv a b;exact A5 (Ab (Ai Tryz.isAgg23 Tryz.sizeOf23) A3) ⟨by rw [e0];try rfl,rfl⟩;exfalso;refine e0 ?_;clear e0;simp_all [B5];done)|(by_cases e0:B5 t a b=M7 a b;exact A5 (Ab (Ai Tryz.isAgg23 Tryz.sizeOf23) A3) ⟨by rw [e0];try rfl,rfl⟩;exfalso;refine e0 ?_;clear e0;simp_all [B5];done)|(by_cases e0:B5 t a b=Gy a b;exact A5 (Ab (Ai Tryz.isAgg23 Tryz.sizeOf23) A3) ⟨by rw [e0];try rfl,rfl⟩;exfalso;refine e0 ?_;clear e0;simp_all [B5];done)|(by_cases e0:B5 t a b=Na a b;exact A5 (Ab (Ai Tryz.isAgg23 Tryz.sizeOf23) A3) ⟨by rw [e0];try rfl,rfl⟩;exfalso;refine e0 ?_;clear e0;simp_all [B5];done)
 refine Z1 ?_;refine A2 [1,2,6,8,19] ?_
 refine A4 (fun ht19=>?_) (fun ht19=>?_)
 ·refine Z1 ?_;refine Ac Tryz.call222 (zd _ _ _) ?_;refine b9 ?_;refine S3 ?_
  first|(by_cases e0:B5 t a b=N9 a b;exact A5 (Ab (Ai Tryz.isAgg23 Tryz.sizeOf23) A3) ⟨by rw [e0];try rfl,rfl⟩;exfalso;refine e0 ?_;clear e0;simp_all [B5];done)|(by_cases e0:B5 t a b=Gv a b;exact A5 (Ab (Ai Tryz.isAgg23 Tryz.sizeOf23) A3) ⟨by rw [e0];try rfl,rfl⟩;exfalso;refine e0 ?_;clear e0;simp_all [B5];done)|(by_cases e0:B5 t a b=M7 a b;exact A5 (Ab (Ai Tryz.isAgg23 Tryz.sizeOf23) A3) ⟨by rw [e0];try rfl,rfl⟩;exfalso;refine e0 ?_;clear e0;simp_all [B5];done)|(by_cases e0:B5 t a b=Gy a b;exact A5 (Ab (Ai Tryz.isAgg23 Tryz.sizeOf23) A3) ⟨by rw [e0];try rfl,rfl⟩;exfalso;refine e0 ?_;clear e0;simp_all [B5];done)|(by_cases e0:B5 t a b=Na a b;exact A5 (Ab (Ai Tryz.isAgg23 Tryz.sizeOf23) A3) ⟨by rw [e0];try rfl,rfl⟩;exfalso;refine e0 ?_;clear e0;simp_all [B5];done)
 refine Z1 ?_;refine A2 [1,2,6,8,29] ?_
 refine A4 (fun ht29=>?_) (fun ht29=>?_)
 ·refine Z1 ?_;refine Ac Tryz.call274 (ABa _ _ _) ?_;refine b9 ?_;refine S3 ?_
  first|(by_cases e0:B5 t a b=N9 a b;exact A5 (Ab (Ai Tryz.isAgg23 Tryz.sizeOf23) A3) ⟨by rw [e0];try rfl,rfl⟩;exfalso;refine e0 ?_;clear e0;simp_all [B5];done)|(by_cases e0:B5 t a b=Gv a b;exact A5 (Ab (Ai Tryz.isAgg23 Tryz.sizeOf23) A3) ⟨by rw [e0];try rfl,rfl⟩;exfalso;refine e0 ?_;clear e0;simp_all [B5];done)|(by_cases e0:B5 t a b=M7 a b;exact A5 (Ab (Ai Tryz.isAgg23 Tryz.sizeOf23) A3) ⟨by rw [e0];try rfl,rfl⟩;exfalso;refine e0 ?_;clear e0;simp_all [B5];done)|(by_cases e0:B5 t a b=Gy a b;exact A5 (Ab (Ai Tryz.isAgg23 Tryz.sizeOf23) A3) ⟨by rw [e0];try rfl,rfl⟩;exfalso;refine e0 ?_;clear e0;simp_all [B5];done)|(by_cases e0:B5 t a b=Na a b;exact A5 (Ab (Ai Tryz.isAgg23 Tryz.sizeOf23) A3) ⟨by rw [e0];try rfl,rfl⟩;exfalso;refine e0 ?_;clear e0;simp_all [B5];done)
 refine Z1 ?_;refine A2 [1,2,6,39] ?_
 refine A4 (fun ht39=>?_) (fun ht39=>?_)
 ·refine Z1 ?_;refine Ac Tryz.call275 (ABb _ _ _) ?_;refine b9 ?_;refine S3 ?_
  first|(by_cases e0:B5 t a b=N9 a b;exact A5 (Ab (Ai Tryz.isAgg23 Tryz.sizeOf23) A3) ⟨by rw [e0];try rfl,rfl⟩;exfalso;refine e0 ?_;clear e0;simp_all [B5];done)|(by_cases e0:B5 t a b=Gv a b;exact A5 (Ab (Ai Tryz.isAgg23 Tryz.sizeOf23) A3) ⟨by rw [e0];try rfl,rfl⟩;exfalso;refine e0 ?_;clear e0;simp_all [B5];done)|(by_cases e0:B5 t a b=M7 a b;exact A5 (Ab (Ai Tryz.isAgg23 Tryz.sizeOf23) A3) ⟨by rw [e0];try rfl,rfl⟩;exfalso;refine e0 ?_;clear e0;simp_all [B5];done)|(by_cases e0:B5 t a b=Gy a b;exact A5 (Ab (Ai Tryz.isAgg23 Tryz.sizeOf23) A3) ⟨by rw [e0];try rfl,rfl⟩;exfalso;refine e0 ?_;clear e0;simp_all [B5];done)|(by_cases e0:B5 t a b=Na a b;exact A5 (Ab (Ai Tryz.isAgg23 Tryz.sizeOf23) A3) ⟨by rw [e0];try rfl,rfl⟩;exfalso;refine e0 ?_;clear e0;simp_all [B5];done)
 refine Y1 ?_;refine Ac Tryz.call276 (ABc _ _ ha _) ?_;refine b9 ?_;refine Z62 ?_
 first|(by_cases e0:B5 t a b=N9 a b;exact A5 (Ab (Ai Tryz.isAgg23 Tryz.sizeOf23) A3) ⟨by rw [e0];try rfl,rfl⟩;exfalso;refine e0 ?_;clear e0;simp_all [B5];done)|(by_cases e0:B5 t a b=Gv a b;exact A5 (Ab (Ai Tryz.isAgg23 Tryz.sizeOf23) A3) ⟨by rw [e0];try rfl,rfl⟩;exfalso;refine e0 ?_;clear e0;simp_all [B5];done)|(by_cases e0:B5 t a b=M7 a b;exact A5 (Ab (Ai Tryz.isAgg23 Tryz.sizeOf23) A3) ⟨by rw [e0];try rfl,rfl⟩;exfalso;refine e0 ?_;clear e0;simp_all [B5];done)|(by_cases e0:B5 t a b=Gy a b;exact A5 (Ab (Ai Tryz.isAgg23 Tryz.sizeOf23) A3) ⟨by rw [e0];try rfl,rfl⟩;exfalso;refine e0 ?_;clear e0;simp_all [B5];done)|(by_cases e0:B5 t a b=Na a b;exact A5 (Ab (Ai Tryz.isAgg23 Tryz.sizeOf23) A3) ⟨by rw [e0];try rfl,rfl⟩;exfalso;refine e0 ?_;clear e0;simp_all [B5];done)

theorem ABi (a b:Val) (fa:Fine a) (fb:Fine b) (Hp:List AObj):AFun Tryz.prog 219 [.slice false 3 [Bq a,Bq b]] Hp (O8 (Jp a b)):=by
 refine Aq [.cell 2 23,.tmp 3] [0] Tryz.func219 Tryz.ntmps219 (fun d=>?_)
 refine Xz ?_;refine A2 [0,2] ?_;refine Wi ?_;refine bc ?_;refine Ac Tryz.call174 (nv [a,b] [2,2] (by simp) (by simp) _) ?_;refine Z0 ?_;refine A2 [0,2,4] ?_
 refine A4 (fun ht4=>?_) (fun ht4=>?_)
 ·have hm:Jp a b=Br 10:=if_pos ht4
  refine U1 ?_;refine Z51 ?_;exact Z15
 have hla:=fa.len
 have hlb:=fb.len
 refine Er [0,1,3,7,15,0,32,96,224,480,1023,2047,4095] 10 Aw (by kernel_rfl) ?_;refine B4 ?_
 refine B4 (h:=Ax (0) (Bq a) (fun _=>show ([Bq a,Bq b]:List AV)[0]? = some (Bq a) from rfl)) (hr:=?_)
 refine b8 ?_
 refine B4 (h:=Ax (1) (Bq b) (fun _=>show ([Bq a,Bq b]:List AV)[1]? = some (Bq b) from rfl)) (hr:=?_)
 refine Z33 ?_;refine Dw ?_
 refine A7 (h:=Q.add64 (h1:=fun _=>by omega) (h2:=fun _=>by omega)) (hr:=?_)
 refine Z0 ?_;refine A2 [0,2,12] ?_
 refine A4 (fun ht12=>?_) (fun ht12=>?_)
 ·have hm:Jp a b=Br 3:=by unfold Jp;rw [if_neg (by rw [ht4];simp),if_pos ht12]
  refine U1 ?_;refine Z51 ?_;exact Z15
 have hm:Jp a b=(Pp (a.s++b.s),0):=by unfold Jp;rw [if_neg (by rw [ht4];simp),if_neg (by rw [ht12];simp)]
 refine Z22 ?_;refine Er [0,1,3,7,0,16,48,112,255,511,1023,2047] 8 Aw (by kernel_rfl) ?_;refine B4 ?_
 refine B4 (h:=Ax (0) (Bq a) (fun _=>show ([Bq a,Bq b]:List AV)[0]? = some (Bq a) from rfl)) (hr:=?_)
 refine Z33 ?_
 refine B4 (h:=Ax (1) (Bq b) (fun _=>show ([Bq a,Bq b]:List AV)[1]? = some (Bq b) from rfl)) (hr:=?_)
 refine Z91 ?_
 refine A7 (h:=Q.sadd (hl:=fun _=>by omega)) (hr:=?_)
 refine Ac Tryz.call223 (ix _ _) ?_;exact x7

theorem c173 (t:Str) (a b:Val) (fa:Fine a) (fb:Fine b) (Hp:List AObj):AFun Tryz.prog 173 [Ah t,.slice false 3 [Bq a,Bq b]] Hp (O8 (Gd t a b)):=by
 refine Aq [.cell 4 23,.tmp 5] [0,1] Tryz.func173 Tryz.ntmps173 (fun d=>?_)
 refine Xz ?_;refine A2 [0,1,4] ?_;refine In ?_;refine Er [0,0,2,6,0,16,48,126,255,511,1023,1023,2047,8191] 13 Aw (by kernel_rfl) ?_;refine Z13 ?_
 refine B4 (h:=Ax (0) (Bq a) (fun _=>show ([Bq a,Bq b]:List AV)[0]? = some (Bq a) from rfl)) (hr:=?_)
 refine Z13 ?_
 refine B4 (h:=Ax (1) (Bq b) (fun _=>show ([Bq a,Bq b]:List AV)[1]? = some (Bq b) from rfl)) (hr:=?_)
 refine B4 ?_;refine Cy Tryz.call218 (ABg _ _ _) ?_;refine Cy Tryz.call217 (AB5 _ _ _) ?_;refine Z13 ?_;refine Z91 ?_;refine A7 ?_;refine A2 [0,1,4,6,7] ?_;refine Z3 ?_;refine A2 [0,1,4,6,20] ?_
 refine A4 (fun ht20=>?_) (fun ht20=>?_)
 ·refine In ?_;refine Er [0,1,3,7,0,16,48,112,255] 8 Aw (by kernel_rfl) ?_;refine B4 ?_
  refine B4 (h:=Ax (0) (Bq a) (fun _=>show ([Bq a,Bq b]:List AV)[0]? = some (Bq a) from rfl)) (hr:=?_)
  refine Z33 ?_
  refine B4 (h:=Ax (1) (Bq b) (fun _=>show ([Bq a,Bq b]:List AV)[1]? = some (Bq b) from rfl)) (hr:=?_)
  refine Z91 ?_;refine A7 ?_;refine A2 [4,6,29] ?_
  refine A4 (fun ht29=>?_) (fun ht29=>?_)
  ·have hm:Gd t a b=Br 10:=by unfold Gd;rw [if_pos ht20,if_pos ht29]
   refine U1 ?_;refine Z36 ?_;refine Cp ?_;exact Z23
  have hm:Gd t a b=(C7 (A9 t (Z8 a b)).1,0):=by unfold Gd;rw [if_pos ht20,if_neg (by rw [ht29];simp)]
  refine Z75 ?_;refine Ac Tryz.call88 (c88 _ _) ?_;exact i7
 refine Z9 ?_;refine Z32 ?_;refine A2 [0,1,4,36] ?_
 refine A4 (fun ht36=>?_) (fun ht36=>?_)
 ·have hm:Gd t a b=Jp a b:=by unfold Gd;rw [if_neg (by rw [ht20];simp),if_pos ht36]
  refine Z3 ?_;refine Ac Tryz.call219 (ABi a b fa fb _) ?_;refine Z0 ?_;exact i7
 refine Wg ?_;refine bc ?_;refine Ac Tryz.call174 (nv [a,b] [1,1] (by simp) (by simp) _) ?_;refine A7 ?_;refine A2 [0,1,4,44] ?_
 refine A4 (fun ht44=>?_) (fun ht44=>?_)
 ·have hm:Gd t a b=Br 10:=by unfold Gd;rw [if_neg (by rw [ht20];simp),if_neg (by rw [ht36];simp),if_pos ht44]
  refine U1 ?_;exact i7
 have hm:Gd t a b=E4 (B5 t a.n b.n):=by unfold Gd;rw [if_neg (by rw [ht20];simp),if_neg (by rw [ht36];simp),if_neg (by rw [ht44];simp)]
 refine Z9 ?_;refine Er [0,0,2,6,14,0,32,96,224,511,1023,1023,4095,8191] 12 Aw (by kernel_rfl) ?_;refine Z13 ?_
 refine B4 (h:=Ax (0) (Bq a) (fun _=>show ([Bq a,Bq b]:List AV)[0]? = some (Bq a) from rfl)) (hr:=?_)
 refine Z33 ?_
 refine B4 (h:=Ax (1) (Bq b) (fun _=>show ([Bq a,Bq b]:List AV)[1]? = some (Bq b) from rfl)) (hr:=?_)
 refine Z13 ?_;refine Cy Tryz.call220 (ABh _ _ _ ⟨fa.lo,fa.hi⟩ _) ?_;refine Z91 ?_;exact Z42

theorem vw (s:Str) (n:Int):∃k:Nat,(if (0:Int)<(if (s.length:Int)<n then (s.length:Int) else n) then (if (s.length:Int)<n then (s.length:Int) else n) else 0)=(k:Int)∧k≤s.length∧k=(max 0 (min n s.length)).toNat:=by
 refine ⟨(max 0 (min n s.length)).toNat,?_,?_,rfl⟩<;>repeat' split
 all_goals omega
theorem ABj (t s:Str) (n:Int) (hs:s.length≤1048576) (Hp:List AObj):AFun Tryz.prog 178 [Ah t,Ah s,A6 n] Hp (Bq (Ge t s n)):=by
 refine Aq [.cell 6 23] [0,1,2] Tryz.func178 Tryz.ntmps178 (fun d=>?_)
 refine qe ?_;refine Z14 ?_;refine R.minI ?_;refine R.maxI ?_
 obtain ⟨k,hk,hks,hke⟩:=vw s n
 simp only [hk]
 refine A7 ?_;refine A2 [0,1,6,7] ?_;refine Z32 ?_;refine A2 [1,6,7,14] ?_
 refine A4 (fun ht14=>?_) (fun ht14=>?_)
 ·have hm:Ge t s n=Pp (s.take k):=by unfold Ge;rw [if_pos ht14,←hke]
  refine Z1 ?_
  refine A7 (h:=Ii k (fun _=>Bk _) (fun _=>hks)) (hr:=?_)
  refine Ac Tryz.call223 (ix _ _) ?_;refine Z83 ?_;refine Z69 ?_;exact yd
 have hm:Ge t s n=Pp (s.drop (s.length-k)):=by unfold Ge;rw [if_neg (by rw [ht14];simp),←hke]
 refine Z9 ?_;refine Z17 ?_
 refine A7 (h:=Q.sub64 (h1:=fun _=>by omega) (h2:=fun _=>by omega)) (hr:=?_)
 refine A7 (h:=Q.scutL (s.length-k) (fun _=>show s.length-k≤s.length by omega) (fun _=>An _)) (hr:=?_)
 refine Ac Tryz.call223 (ix _ _) ?_;refine ic ?_;exact yd

theorem ABk (t:Str) (v:Val) (h:Fine v) (Hp:List AObj):AFun Tryz.prog 177 [Ah t,Bq v] Hp (O8 (F5 t v)):=by
 have hlen:=h.len
 refine Aq [.cell 4 23,.tmp 5] [0,1] Tryz.func177 Tryz.ntmps177 (fun d=>?_)
 refine m4 ?_;refine A2 [0,3,4] ?_;refine U3 ?_;refine Z56 ?_;refine A2 [0,3,4,6] ?_
 refine A4 (fun ht6=>?_) (fun ht6=>?_)
 ·have hm:F5 t v=(Pp (Lib.itoa v.n),0):=if_pos ht6
  refine Z1 ?_;refine Ac Tryz.call160 (yu _ h.lo h.hi _) ?_;refine Ac Tryz.call223 (ix _ _) ?_;exact Z66
 refine Z14 ?_;refine Z56 ?_;refine A2 [0,3,4,18] ?_
 refine A4 (fun ht18=>?_) (fun ht18=>?_)
 ·have hm:F5 t v=(⟨1,v.s.length,[]⟩,0):=by unfold F5;rw [if_neg (by rw [ht6];simp),if_pos ht18]
  refine Z14 ?_;refine Ac Tryz.call221 (vf _ _) ?_;exact Z66
 refine Z14 ?_;refine Z56 ?_;refine A2 [3,4,30] ?_
 refine A4 (fun ht30=>?_) (fun ht30=>?_)
 ·have hm:F5 t v=E4 (Bo v.s):=by unfold F5;rw [if_neg (by rw [ht6];simp),if_neg (by rw [ht18];simp),if_pos ht30]
  refine Z1 ?_;refine Ac Tryz.call224 (yt v.s (by omega) _) ?_;refine b9 ?_;exact Z66
 have hm:F5 t v=Br 10:=by unfold F5;rw [if_neg (by rw [ht6];simp),if_neg (by rw [ht18];simp),if_neg (by rw [ht30];simp)]
 refine Z22 ?_;refine U1 ?_;exact Z42

theorem ru {vs:List Val} (h:0<vs.length):vs.getD 0 noV=vs[0]:=by rw [Ch,Al h];rfl
/-- As many values as a node asks for. -/
structure ArgsOk (o:Int) (vs:List Val):Prop where
 two:o=5→∃a b,vs=[a,b]
 one:o=3∨o=4→vs.length=1
 call:o=6→vs.length=1∨∃a b,vs=[a,b]
 fine:∀v∈vs,Fine v
theorem ABl (e:Expr) (vs:List Val) (h:ArgsOk e.op vs) (Hp:List AObj):AFun Tryz.prog 137 [Aa e,Jk vs] Hp (O8 (Aj e.op e.text vs)):=by
 refine Aq [.cell 4 23,.tmp 5] [0,1] Tryz.func137 Tryz.ntmps137 (fun d=>?_)
 refine m4 ?_;refine A2 [1,2,4] ?_;refine Z27 ?_;refine Z17 ?_;refine A2 [1,2,4,6] ?_
 refine A4 (fun ht6=>?_) (fun ht6=>?_)
 ·obtain ⟨a,b,rfl⟩:=h.two (by simpa using ht6)
  have hm:Aj e.op e.text [a,b]=Gd e.text a b:=if_pos ht6
  refine Z14 ?_;refine Ac Tryz.call173 (c173 e.text a b (h.fine a (by simp)) (h.fine b (by simp)) _) ?_;refine Z0 ?_;exact Z66
 refine Z17 ?_;refine C4 ?_;refine G.buildSl jU jS jZ ?_
 refine Co Tryz.call174 (C:=((e.op==3)==true)) (fun hB=>nv vs [1] (by have:=h.one (.inl (by simpa using hB));simp [this]) (by simp) _) ?_
 refine Z0 ?_;refine A2 [1,2,4,16] ?_
 refine A4 (fun ht16=>?_) (fun ht16=>?_)
 ·have hm0:((e.op==3)&&Bi vs [1])=true:=ht16
  have hop:e.op=3:=by simp only [Ak,beq_iff_eq] at hm0;exact hm0.1
  have hln:=h.one (.inl hop)
  have hg0:(vs.map Bq)[0]? = some (Bq (vs.getD 0 noV)):=by rw [ru (by omega)];exact Cu (by omega)
  have hm:Aj e.op e.text vs=E4 (Gv 0 (vs.getD 0 noV).n):=by unfold Aj;rw [if_neg (by rw [ht6];simp),if_pos ht16]
  refine Z3 ?_
  refine A7 (h:=Ax (0) (Bq (vs.getD 0 noV)) (fun _=>hg0)) (hr:=?_)
  refine Z0 ?_;refine Ac Tryz.call176 (AB7 _ _) ?_;refine b9 ?_;exact Z66
 refine Z17 ?_;refine C4 ?_;refine G.buildSl jU jS jZ ?_
 refine Co Tryz.call174 (C:=((e.op==4)==true)) (fun hB=>nv vs [3] (by have:=h.one (.inr (by simpa using hB));simp [this]) (by simp) _) ?_
 refine Z0 ?_;refine A2 [1,2,4,35] ?_
 refine A4 (fun ht35=>?_) (fun ht35=>?_)
 ·have hm0:((e.op==4)&&Bi vs [3])=true:=ht35
  have hop:e.op=4:=by simp only [Ak,beq_iff_eq] at hm0;exact hm0.1
  have hln:=h.one (.inr hop)
  have hg0:(vs.map Bq)[0]? = some (Bq (vs.getD 0 noV)):=by rw [ru (by omega)];exact Cu (by omega)
  have hm:Aj e.op e.text vs=(C7 ((vs.getD 0 noV).n==0),0):=by unfold Aj;rw [if_neg (by rw [ht6];simp),if_neg (by rw [ht16];simp),if_pos ht35]
  refine Z3 ?_
  refine A7 (h:=Ax (0) (Bq (vs.getD 0 noV)) (fun _=>hg0)) (hr:=?_)
  refine Z24 ?_;refine Ac Tryz.call88 (c88 _ _) ?_;exact Z66
 refine Z17 ?_;refine A2 [1,2,4,50] ?_
 refine A4 (fun ht50=>?_) (fun ht50=>?_)
 ·have hm:Aj e.op e.text vs=Br 10:=by unfold Aj;rw [if_neg (by rw [ht6];simp),if_neg (by rw [ht16];simp),if_neg (by rw [ht35];simp),if_pos ht50]
  refine U1 ?_;exact Z66
 have hop:e.op=6:=by simpa using ht50
 have hcl:=h.call hop
 refine Z17 ?_;refine A2 [1,2,4,57] ?_
 refine A4 (fun ht57=>?_) (fun ht57=>?_)
 ·rw [Bp] at ht57
  have hln:vs.length=1:=by have:=ht57;simp only [beq_iff_eq] at this;omega
  have hg0:(vs.map Bq)[0]? = some (Bq (vs.getD 0 noV)):=by rw [ru (by omega)];exact Cu (by omega)
  have hf0:Fine (vs.getD 0 noV):=by rw [ru (by omega)];exact h.fine _ (Db _)
  have hm:Aj e.op e.text vs=F5 e.text (vs.getD 0 noV):=by unfold Aj;rw [if_neg (by rw [ht6];simp),if_neg (by rw [ht16];simp),if_neg (by rw [ht35];simp),if_neg (by rw [ht50];simp),if_pos ht57]
  refine Er [0,1,0,4,12,31,63,63,255,511] 8 Aw (by kernel_rfl) ?_;refine Z33 ?_
  refine B4 (h:=Ax (0) (Bq (vs.getD 0 noV)) (fun _=>hg0)) (hr:=?_)
  refine B4 ?_;refine Cy Tryz.call177 (ABk _ _ hf0 _) ?_;refine Z91 ?_;exact Z66
 rw [Bp] at ht57
 obtain ⟨a,b,rfl⟩:∃a b,vs=[a,b]:=by
  rcases hcl with h1|h1
  ·exfalso
   have:=ht57
   rw [h1] at this
   simp at this
  exact h1
 refine Z3 ?_;refine bc ?_;refine Ac Tryz.call174 (nv [a,b] [2,1] (by simp) (by simp) _) ?_;refine Z0 ?_;refine A2 [1,2,4,69] ?_
 refine A4 (fun ht69=>?_) (fun ht69=>?_)
 ·have hm:Aj e.op e.text [a,b]=Br 10:=by unfold Aj;rw [if_neg (by rw [ht6];simp),if_neg (by rw [ht16];simp),if_neg (by rw [ht35];simp),if_neg (by rw [ht50];simp),if_neg (by rw [ht57];simp),if_pos ht69]
  refine U1 ?_;exact Z66
 have hm:Aj e.op e.text [a,b]=(Ge e.text a.s b.n,0):=by unfold Aj;rw [if_neg (by rw [ht6];simp),if_neg (by rw [ht16];simp),if_neg (by rw [ht35];simp),if_neg (by rw [ht50];simp),if_neg (by rw [ht57];simp),if_neg (by rw [ht69];simp)];rfl
 refine Z22 ?_;refine Er [0,1,0,4,12,28,0,64,192,448,1023,2047,4095] 10 Aw (by kernel_rfl) ?_;refine Z33 ?_
 refine B4 (h:=Ax (0) (Bq a) (fun _=>show ([Bq a,Bq b]:List AV)[0]? = some (Bq a) from rfl)) (hr:=?_)
 refine Z33 ?_
 refine B4 (h:=Ax (1) (Bq b) (fun _=>show ([Bq a,Bq b]:List AV)[1]? = some (Bq b) from rfl)) (hr:=?_)
 refine Z91 ?_
 refine Ac Tryz.call178 (ABj e.text a.s b.n (by have:=(h.fine a (by simp)).len;omega) _) ?_
 exact Z42

theorem M1 (a b:Val):((a.kind==b.kind&&a.n==b.n)&&a.s==b.s)=(a==b):=by
 obtain ⟨k,n,s⟩:=a
 obtain ⟨k',n',s'⟩:=b
 by_cases h:(⟨k,n,s⟩:Val)=⟨k',n',s'⟩
 ·injection h with h1 h2 h3
  subst h1;subst h2;subst h3
  simp
 have:((⟨k,n,s⟩:Val)==⟨k',n',s'⟩)=false:=by simpa using h
 rw [this]
 simp only [l3,beq_eq_false_iff_ne]
 by_cases h1:k=k'
 ·by_cases h2:n=n'
  ·right
   rintro rfl
   exact h (by rw [h1,h2])
  exact .inl (.inr h2)
 exact .inl (.inl h1)
/-- What eval answers for a tree, over any heap. -/
abbrev I8 (c:List Col) (l:List Val) (e:Expr) (r:Rs):Prop:=∀Hp,AFun Tryz.prog 44 [Tg c l,Aa e] Hp (O8 r)
theorem zh (c:List Col) (l:List Val) (x:Expr) (r:Rs) (h:I8 c l x r) (Hp:List AObj):AFun Tryz.prog 136 [Tg c l,Aa x] Hp (O8 (Az r)):=by
 refine Aq [.cell 4 23,.tmp 5] [0,1] Tryz.func136 Tryz.ntmps136 (fun d=>?_)
 refine Z1 ?_;refine m5 ?_;refine Z1 ?_;refine Ac Tryz.call44 (h _) ?_;refine Z82 ?_;refine A2 [4,6,7] ?_;refine Z39 ?_;refine Z56 ?_;refine Z12 ?_;refine Z63 ?_;refine A2 [4,6,7,25] ?_
 refine A4 (fun ht25=>?_) (fun ht25=>?_)
 ·have hm:Az r=Br 10:=if_pos ht25
  refine U1 ?_;exact i7
 have hm:Az r=r:=if_neg (by rw [ht25];simp)
 refine S4 ?_;exact Z42

theorem c87 (c:List Col) (l:List Val) (x k0 k1:Expr) (s:Val) (ra rb:Rs) (h0:(x.kids.map Aa)[0]? = some (Aa k0)) (h1:(x.kids.map Aa)[1]? = some (Aa k1)) (ha:I8 c l k0 ra) (hb:I8 c l k1 rb) (Hp:List AObj):AFun Tryz.prog 87 [Tg c l,Aa x,Bq s] Hp (O8 (Fw s ra rb)):=by
 refine Aq [.cell 6 23,.tmp 7] [0,1,2] Tryz.func87 Tryz.ntmps87 (fun d=>?_)
 refine Z14 ?_;refine Z43 ?_;refine A2 [3,4,5,6] ?_;refine H4 [0,0,2,6,14,31,63,127,127,0,767,2047] [9,10] [.q 9 [] [],.s [8] (some 0) [] [1],.s [] (some 1) [0] []] (fun _=>Hp) (fun B=>if B 0=true then [.cells 23 [A6 0,A6 0,Ah []],(if B 1=true then .cells 23 [A6 (Az ra).1.kind,A6 (Az ra).1.n,Ah (Az ra).1.s] else .cells 23 [A6 0,A6 0,Ah []]:AObj)] else [.cells 23 [A6 0,A6 0,Ah []]]) Aw (by kernel_rfl) rfl rfl (fun _=>rfl) ?_
 apply Y.q
 ·intro B hT hF
  refine Z33 ?_
  refine B4 (h:=Ax (0) (Aa k0) (fun _=>h0)) (hr:=?_)
  refine B4 ?_;exact xm
 case hTF=>decide
 refine Z46 ?_;refine ww ?_;refine A2 [3,4,5,6,8,9] ?_;refine Z39 ?_;refine Z12 ?_
 refine C4 (h:=L5 Wk (fun w=>I6 (Az ra).1.kind (Az ra).1.n s.kind s.n (Az ra).1.s s.s w)) (hr:=?_)
 refine A7 ?_;refine A2 [3,4,5,6,8,9,26] ?_
 refine A4 (fun ht26=>?_) (fun ht26=>?_)
 ·rw [M1] at ht26
  have hm:Fw s ra rb=Az ra:=if_pos ht26
  refine Z1 ?_;refine Z62 ?_;exact Z23
 rw [M1] at ht26
 refine Z9 ?_;refine H4 [0,0,2,6,14,31,63,127,127,0,767,2047] [9,10] [.q 9 [] [],.s [10] (some 0) [] [1],.s [] (some 1) [0] []] (fun _=>Hp) (fun B=>if B 0=true then [.cells 23 [A6 0,A6 0,Ah []],.cells 23 [A6 (Az ra).1.kind,A6 (Az ra).1.n,Ah (Az ra).1.s],(if B 1=true then .cells 23 [A6 (Az rb).1.kind,A6 (Az rb).1.n,Ah (Az rb).1.s] else .cells 23 [A6 0,A6 0,Ah []]:AObj)] else [.cells 23 [A6 0,A6 0,Ah []],.cells 23 [A6 (Az ra).1.kind,A6 (Az ra).1.n,Ah (Az ra).1.s]]) Aw (by kernel_rfl) rfl rfl (fun _=>rfl) ?_
 apply Y.q
 ·intro B hT hF
  refine Z33 ?_
  refine B4 (h:=Ax (1) (Aa k1) (fun _=>h1)) (hr:=?_)
  refine B4 ?_;refine Cy Tryz.call136 (zh c l k1 rb hb _) ?_;exact q9
 case hTF=>decide
 refine Y.alloc (zs:=[A6 0,A6 0,Ah []]) (n:=2) (u:=Hp.length) Tryz.zeroValue23 (fun B hT hF hB=>⟨rfl,by simp [hB],by simp [upd,hB,hF 1 (by simp)],rfl⟩) ?_;refine Wb (u:=Hp.length) (n:=2) (t':=23) (cs:=[A6 0,A6 0,Ah []]) (cs':=[A6 (Az rb).1.kind,A6 (Az rb).1.n,Ah (Az rb).1.s]) Tryz.sizeOf23 (fun B hT hF hB=>⟨rfl,by simp [hT 0 (by simp),hB],by simp [upd,hT 0 (by simp),hB],rfl⟩) ?_;refine H5 (tn:=[9,10]) (O:=[.cells 23 [A6 0,A6 0,Ah []],.cells 23 [A6 (Az ra).1.kind,A6 (Az ra).1.n,Ah (Az ra).1.s],.cells 23 [A6 (Az rb).1.kind,A6 (Az rb).1.n,Ah (Az rb).1.s]]) ?_;refine A7 ?_;refine A2 [5,6,8,9,10] ?_;refine Z39 ?_;refine Z12 ?_
 refine C4 (h:=L5 Wk (fun w=>I6 (Az rb).1.kind (Az rb).1.n s.kind s.n (Az rb).1.s s.s w)) (hr:=?_)
 refine Z0 ?_;refine Z12 ?_;refine Z63 ?_;refine A2 [6,8,9,10,49] ?_
 refine A4 (fun ht49=>?_) (fun ht49=>?_)
 ·rw [M1] at ht49
  have hm:Fw s ra rb=Az rb:=by unfold Fw;rw [if_neg (by rw [ht26];simp),if_pos ht49]
  refine Z1 ?_;refine Z62 ?_;exact Z23
 rw [M1] at ht49
 have hm:Fw s ra rb=((Az ra).1,0):=by unfold Fw;rw [if_neg (by rw [ht26];simp),if_neg (by rw [ht49];simp)]
 refine Z75 ?_;exact x8

theorem c89 (c:List Col) (l:List Val) (x k0 k1 k2:Expr) (ra rb d2:Rs) (h0:(x.kids.map Aa)[0]? = some (Aa k0)) (h1:(x.text==Bm)=false→(x.kids.map Aa)[1]? = some (Aa k1)) (h2:(x.text==ifW)=true→(x.kids.map Aa)[2]? = some (Aa k2)) (ha:I8 c l k0 ra) (hb:(x.text==Bm)=false→I8 c l k1 rb) (hd:(x.text==ifW)=true→I8 c l k2 d2) (Hp:List AObj):AFun Tryz.prog 89 [Tg c l,Aa x] Hp (O8 (Dc x.text ra rb d2)):=by
 refine Aq [.cell 4 23,.tmp 5] [0,1] Tryz.func89 Tryz.ntmps89 (fun d=>?_)
 refine Z1 ?_;refine m5 ?_;refine Z39 ?_;refine A2 [2,3,4,12] ?_
 refine A4 (fun ht12=>?_) (fun ht12=>?_)
 ·have hni:(x.text==Bm)=false:=by
   have e:x.text=ifW:=by simpa [ifW] using ht12
   rw [e];rfl
  have hc:Dc x.text ra rb d2=(if (Az ra).2 != 0 then Br (Az ra).2 else if (Az ra).1==C7 true then rb else d2):=if_pos ht12
  refine H4 [0,0,2,6,14,31,63,127,127,0,767,2047] [9,10] [.q 9 [] [],.s [6] (some 0) [] [1],.s [] (some 1) [0] []] (fun _=>Hp) (fun B=>if B 0=true then [.cells 23 [A6 0,A6 0,Ah []],(if B 1=true then .cells 23 [A6 (Az ra).1.kind,A6 (Az ra).1.n,Ah (Az ra).1.s] else .cells 23 [A6 0,A6 0,Ah []]:AObj)] else [.cells 23 [A6 0,A6 0,Ah []]]) Aw (by kernel_rfl) rfl rfl (fun _=>rfl) ?_
  apply Y.q
  ·intro B hT hF
   refine Z33 ?_
   refine B4 (h:=Ax (0) (Aa k0) (fun _=>h0)) (hr:=?_)
   refine B4 ?_;exact xm
  case hTF=>decide
  refine Z46 ?_;refine ww ?_;refine A2 [2,3,4,6,7] ?_;refine U3 ?_;refine A2 [2,3,4,6,7,22] ?_
  refine A4 (fun ht22=>?_) (fun ht22=>?_)
  ·have hm:Dc x.text ra rb d2=Br (Az ra).2:=by rw [hc,if_pos ht22]
   refine Z3 ?_;refine Z40 ?_;refine Z36 ?_;refine Z5 ?_;exact Z23
  refine Er [0,0,3,7] 2 Aw (by kernel_rfl) ?_;refine B4 ?_;refine Cy Tryz.call88 (c88 true _) ?_;refine Dw ?_
  refine A7 (h:=L5 Wk (fun w=>I6 (Az ra).1.kind (Az ra).1.n 3 1 (Az ra).1.s [] w)) (hr:=?_)
  refine A7 ?_;refine A2 [2,3,4,29] ?_
  refine A4 (fun ht29=>?_) (fun ht29=>?_)
  ·rw [M1 (Az ra).1 ⟨3,1,[]⟩] at ht29
   have ht29b:((Az ra).1==C7 true)=true:=ht29
   have hm:Dc x.text ra rb d2=rb:=by rw [hc,if_neg (by rw [ht22];simp),if_pos ht29b]
   refine uh ?_
   refine B4 (h:=Ax (1) (Aa k1) (fun _=>h1 hni)) (hr:=?_)
   refine B4 ?_;refine Cy Tryz.call44 (hb hni _) ?_;refine Z91 ?_;refine Z36 ?_;refine Z5 ?_;exact Z23
  rw [M1 (Az ra).1 ⟨3,1,[]⟩] at ht29
  have hm:Dc x.text ra rb d2=d2:=by rw [hc,if_neg (by rw [ht22];simp),if_neg (by show ¬((Az ra).1==⟨3,1,[]⟩)=true;rw [ht29];simp)]
  refine Z22 ?_;refine uh ?_
  refine B4 (h:=Ax (2) (Aa k2) (fun _=>h2 ht12)) (hr:=?_)
  refine B4 ?_;refine Cy Tryz.call44 (hd ht12 _) ?_;refine Z91 ?_;exact i7
 have hc:Dc x.text ra rb d2=(if ra.2 != 0 then Br ra.2 else if x.text==Bm then (C7 (ra.1.kind==0),0) else if ra.1.kind != 0 then (ra.1,0) else rb):=if_neg (by show ¬(x.text==ifW)=true;rw [show (x.text==ifW)=false from ht12];simp)
 refine Z9 ?_;refine H4 [0,0,2,6,14,31,63,127,127,0,767,2047] [9,10] [.q 9 [] [],.s [8] (some 0) [] [1],.s [] (some 1) [0] []] (fun _=>Hp) (fun B=>if B 0=true then [.cells 23 [A6 0,A6 0,Ah []],(if B 1=true then .cells 23 [A6 ra.1.kind,A6 ra.1.n,Ah ra.1.s] else .cells 23 [A6 0,A6 0,Ah []]:AObj)] else [.cells 23 [A6 0,A6 0,Ah []]]) Aw (by kernel_rfl) rfl rfl (fun _=>rfl) ?_
 apply Y.q
 ·intro B hT hF
  refine Z33 ?_
  refine B4 (h:=Ax (0) (Aa k0) (fun _=>h0)) (hr:=?_)
  refine B4 ?_;refine Cy Tryz.call44 (ha _) ?_;exact q9
 case hTF=>decide
 refine ye ?_;refine Wb (u:=Hp.length) (n:=1) (t':=23) (cs:=[A6 0,A6 0,Ah []]) (cs':=[A6 ra.1.kind,A6 ra.1.n,Ah ra.1.s]) Tryz.sizeOf23 (fun B hT hF hB=>⟨rfl,by simp [hT 0 (by simp),hB],by simp [upd,hT 0 (by simp),hB],rfl⟩) ?_;refine H5 (tn:=[9,10]) (O:=[.cells 23 [A6 0,A6 0,Ah []],.cells 23 [A6 ra.1.kind,A6 ra.1.n,Ah ra.1.s]]) ?_;refine A7 ?_;refine A2 [2,3,4,8,9] ?_;refine U3 ?_;refine A2 [2,3,4,8,9,58] ?_
 refine A4 (fun ht58=>?_) (fun ht58=>?_)
 ·have hm:Dc x.text ra rb d2=Br ra.2:=by rw [hc,if_pos ht58]
  refine Z3 ?_;refine Z40 ?_;exact Z66
 refine Z17 ?_;refine A2 [2,3,4,8,65] ?_
 refine A4 (fun ht65=>?_) (fun ht65=>?_)
 ·have hm:Dc x.text ra rb d2=(C7 (ra.1.kind==0),0):=by rw [hc,if_neg (by rw [ht58];simp),if_pos (show (x.text==Bm)=true from ht65)]
  refine Z14 ?_;refine Ac Tryz.call88 (c88 _ _) ?_;exact Z66
 refine Z17 ?_;refine A2 [2,3,4,8,73] ?_
 refine A4 (fun ht73=>?_) (fun ht73=>?_)
 ·have hm:Dc x.text ra rb d2=(ra.1,0):=by rw [hc,if_neg (by rw [ht58];simp),if_neg (by show ¬(x.text==Bm)=true;rw [show (x.text==Bm)=false from ht65];simp),if_pos ht73]
  refine Z3 ?_;exact Z66
 have hm:Dc x.text ra rb d2=rb:=by rw [hc,if_neg (by rw [ht58];simp),if_neg (by show ¬(x.text==Bm)=true;rw [show (x.text==Bm)=false from ht65];simp),if_neg (by rw [ht73];simp)]
 refine Z22 ?_;refine uh ?_
 refine B4 (h:=Ax (1) (Aa k1) (fun _=>h1 ht65)) (hr:=?_)
 refine B4 ?_;refine Cy Tryz.call44 (hb ht65 _) ?_;refine Z91 ?_;exact Z42

abbrev Qf (s:Sign):AV:=.agg [.slice false 1 (s.kids.map A6),A6 s.own]
theorem Hs {n:Nat} (s:Sign):Low n (Qf s):=by simp [or_imp,forall_and]
theorem vx {m:Sign} {a o:Int} (h:m=⟨[a],o⟩):AV.agg [.slice false 1 [A6 a],A6 o]=Qf m:=by rw [h];rfl
theorem ny {m:Sign} {a b o:Int} (h:m=⟨[a,b],o⟩):AV.agg [.slice false 1 [A6 a,A6 b],A6 o]=Qf m:=by rw [h];rfl
theorem vy {m:Sign} {a b c o:Int} (h:m=⟨[a,b,c],o⟩):AV.agg [.slice false 1 [A6 a,A6 b,A6 c],A6 o]=Qf m:=by rw [h];rfl
theorem c127 (s:Str) (Hp:List AObj):AFun Tryz.prog 127 [Ah s] Hp (Qf (Cn s)):=by
 refine Aq [.cell 2 130] [0] Tryz.func127 Tryz.ntmps127 (fun d=>?_)
 refine Z52 ?_;refine Z37 ?_;refine A2 [2,3] ?_;refine I5 ?_;refine Z32 ?_;refine A2 [2,3,4] ?_
 refine A4 (fun ht4=>?_) (fun ht4=>?_)
 ·refine Z9 ?_
  refine A4 (fun ht4=>?_) (fun ht4=>?_)
  ·exact Z47
  refine Z32 ?_;refine A2 [2,3,9] ?_
  refine A4 (fun ht9=>?_) (fun ht9=>?_)
  ·refine Z9 ?_
   refine A4 (fun ht9=>?_) (fun ht9=>?_)
   ·exact Z47
   refine Z68 ?_
   refine A4 (fun ht18=>?_) (fun ht18=>?_)
   ·exact Z47
   exact Z85
  refine Z80 ?_
  refine A4 (fun ht9=>?_) (fun ht9=>?_)
  ·refine Z9 ?_
   refine A4 (fun ht9=>?_) (fun ht9=>?_)
   ·exact Z47
   refine Z68 ?_
   refine A4 (fun ht18=>?_) (fun ht18=>?_)
   ·exact Z47
   exact Z85
  refine Z80 ?_
  refine A4 (fun ht9=>?_) (fun ht9=>?_)
  ·refine Z9 ?_
   refine A4 (fun ht9=>?_) (fun ht9=>?_)
   ·exact Z47
   refine Z68 ?_
   refine A4 (fun ht18=>?_) (fun ht18=>?_)
   ·exact Z47
   exact Z85
  refine Z80 ?_
  refine A4 (fun ht9=>?_) (fun ht9=>?_)
  ·refine Z9 ?_
   refine A4 (fun ht9=>?_) (fun ht9=>?_)
   ·exact Z47
   refine Z68 ?_
   refine A4 (fun ht18=>?_) (fun ht18=>?_)
   ·exact Z47
   exact Z85
  refine Z80 ?_
  refine A4 (fun ht9=>?_) (fun ht9=>?_)
  ·refine Z9 ?_
   refine A4 (fun ht9=>?_) (fun ht9=>?_)
   ·exact Z47
   refine Z68 ?_
   refine A4 (fun ht18=>?_) (fun ht18=>?_)
   ·exact Z47
   exact Z85
  refine Z31 ?_;refine A2 [2,3,9] ?_;refine Fv ?_
  refine A4 (fun ht9=>?_) (fun ht9=>?_)
  ·exact Z47
  refine Z68 ?_
  refine A4 (fun ht18=>?_) (fun ht18=>?_)
  ·exact Z47
  exact Z85
 refine Z31 ?_;refine A2 [2,3,4] ?_;refine Fv ?_
 refine A4 (fun ht4=>?_) (fun ht4=>?_)
 ·exact Z47
 refine Z32 ?_;refine A2 [2,3,9] ?_
 refine A4 (fun ht9=>?_) (fun ht9=>?_)
 ·refine Z9 ?_
  refine A4 (fun ht9=>?_) (fun ht9=>?_)
  ·exact Z47
  refine Z68 ?_
  refine A4 (fun ht18=>?_) (fun ht18=>?_)
  ·exact Z47
  exact Z85
 refine Z80 ?_
 refine A4 (fun ht9=>?_) (fun ht9=>?_)
 ·refine Z9 ?_
  refine A4 (fun ht9=>?_) (fun ht9=>?_)
  ·exact Z47
  refine Z68 ?_
  refine A4 (fun ht18=>?_) (fun ht18=>?_)
  ·exact Z47
  exact Z85
 refine Z80 ?_
 refine A4 (fun ht9=>?_) (fun ht9=>?_)
 ·refine Z9 ?_
  refine A4 (fun ht9=>?_) (fun ht9=>?_)
  ·exact Z47
  refine Z68 ?_
  refine A4 (fun ht18=>?_) (fun ht18=>?_)
  ·exact Z47
  exact Z85
 refine Z80 ?_
 refine A4 (fun ht9=>?_) (fun ht9=>?_)
 ·refine Z9 ?_
  refine A4 (fun ht9=>?_) (fun ht9=>?_)
  ·exact Z47
  refine Z68 ?_
  refine A4 (fun ht18=>?_) (fun ht18=>?_)
  ·exact Z47
  exact Z85
 refine Z80 ?_
 refine A4 (fun ht9=>?_) (fun ht9=>?_)
 ·refine Z9 ?_
  refine A4 (fun ht9=>?_) (fun ht9=>?_)
  ·exact Z47
  refine Z68 ?_
  refine A4 (fun ht18=>?_) (fun ht18=>?_)
  ·exact Z47
  exact Z85
 refine Z31 ?_;refine A2 [2,3,9] ?_;refine Fv ?_
 refine A4 (fun ht9=>?_) (fun ht9=>?_)
 ·exact Z47
 refine Z68 ?_
 refine A4 (fun ht18=>?_) (fun ht18=>?_)
 ·exact Z47
 exact Z85

theorem ABm (s:Str) (Hp:List AObj):AFun Tryz.prog 128 [Ah s] Hp (Qf (Dg s)):=by
 refine Aq [.cell 2 130] [0] Tryz.func128 Tryz.ntmps128 (fun d=>?_)
 refine Z52 ?_;refine Z37 ?_;refine A2 [2,3] ?_;refine I5 ?_;refine Z32 ?_;refine A2 [2,3,4] ?_
 refine A4 (fun ht4=>?_) (fun ht4=>?_)
 ·refine Z9 ?_
  refine A4 (fun ht4=>?_) (fun ht4=>?_)
  ·exact Z71
  refine Z80 ?_
  refine A4 (fun ht9=>?_) (fun ht9=>?_)
  ·exact Z71
  refine Z32 ?_;refine A2 [2,3,13] ?_
  refine A4 (fun ht13=>?_) (fun ht13=>?_)
  ·refine Z9 ?_
   refine A4 (fun ht13=>?_) (fun ht13=>?_)
   ·exact Z71
   refine qf ?_
   refine A4 (fun ht18=>?_) (fun ht18=>?_)
   ·exact Z71
   refine Z1 ?_;refine A2 [2,22] ?_
   refine A4 (fun ht22=>?_) (fun ht22=>?_)
   ·exact Z71
   exact qg
  refine Z31 ?_;refine A2 [2,3,13] ?_;refine Fv ?_
  refine A4 (fun ht13=>?_) (fun ht13=>?_)
  ·exact Z71
  refine qf ?_
  refine A4 (fun ht18=>?_) (fun ht18=>?_)
  ·exact Z71
  refine Z1 ?_;refine A2 [2,22] ?_
  refine A4 (fun ht22=>?_) (fun ht22=>?_)
  ·exact Z71
  exact qg
 refine Z31 ?_;refine A2 [2,3,4] ?_;refine Fv ?_
 refine A4 (fun ht4=>?_) (fun ht4=>?_)
 ·exact Z71
 refine Z80 ?_
 refine A4 (fun ht9=>?_) (fun ht9=>?_)
 ·exact Z71
 refine Z32 ?_;refine A2 [2,3,13] ?_
 refine A4 (fun ht13=>?_) (fun ht13=>?_)
 ·refine Z9 ?_
  refine A4 (fun ht13=>?_) (fun ht13=>?_)
  ·exact Z71
  refine qf ?_
  refine A4 (fun ht18=>?_) (fun ht18=>?_)
  ·exact Z71
  refine Z1 ?_;refine A2 [2,22] ?_
  refine A4 (fun ht22=>?_) (fun ht22=>?_)
  ·exact Z71
  exact qg
 refine Z31 ?_;refine A2 [2,3,13] ?_;refine Fv ?_
 refine A4 (fun ht13=>?_) (fun ht13=>?_)
 ·exact Z71
 refine qf ?_
 refine A4 (fun ht18=>?_) (fun ht18=>?_)
 ·exact Z71
 refine Z1 ?_;refine A2 [2,22] ?_
 refine A4 (fun ht22=>?_) (fun ht22=>?_)
 ·exact Z71
 exact qg

theorem c79 (e:Expr) (Hp:List AObj):AFun Tryz.prog 79 [Aa e] Hp (Qf (Cb e.op e.text)):=by
 refine Aq [.cell 2 130] [0] Tryz.func79 Tryz.ntmps79 (fun d=>?_)
 refine mb ?_;refine A2 [1,2] ?_;refine Z32 ?_;refine A2 [1,2,4] ?_;refine Z88 ?_;refine A2 [1,2,4,5] ?_
 refine A4 (fun ht5=>?_) (fun ht5=>?_)
 ·refine Z28 ?_;refine Z5 ?_
  first|(by_cases e0:Cb e.op e.text=⟨[1],1⟩;exact A5 (Ap (Ai Tryz.isAgg130 Tryz.sizeOf130)) ⟨by rw [e0];rfl,rfl⟩;exfalso;apply e0;simp_all [Cb];done)|(by_cases e0:Cb e.op e.text=⟨[3],3⟩;exact A5 (Ap (Ai Tryz.isAgg130 Tryz.sizeOf130)) ⟨by rw [e0];rfl,rfl⟩;exfalso;apply e0;simp_all [Cb];done)|(by_cases e0:Cb e.op e.text=Cn e.text;exact A5 (Ap (Ai Tryz.isAgg130 Tryz.sizeOf130)) ⟨by rw [e0],rfl⟩ (hlow:=Hs _);exfalso;apply e0;simp_all [Cb];done)|(by_cases e0:Cb e.op e.text=Dg e.text;exact A5 (Ap (Ai Tryz.isAgg130 Tryz.sizeOf130)) ⟨by rw [e0],rfl⟩ (hlow:=Hs _);exfalso;apply e0;simp_all [Cb];done)
 refine Z1 ?_;refine A2 [1,2,4,9] ?_
 refine A4 (fun ht9=>?_) (fun ht9=>?_)
 ·refine Z28 ?_;refine Z5 ?_
  first|(by_cases e0:Cb e.op e.text=⟨[1],1⟩;exact A5 (Ap (Ai Tryz.isAgg130 Tryz.sizeOf130)) ⟨by rw [e0];rfl,rfl⟩;exfalso;apply e0;simp_all [Cb];done)|(by_cases e0:Cb e.op e.text=⟨[3],3⟩;exact A5 (Ap (Ai Tryz.isAgg130 Tryz.sizeOf130)) ⟨by rw [e0];rfl,rfl⟩;exfalso;apply e0;simp_all [Cb];done)|(by_cases e0:Cb e.op e.text=Cn e.text;exact A5 (Ap (Ai Tryz.isAgg130 Tryz.sizeOf130)) ⟨by rw [e0],rfl⟩ (hlow:=Hs _);exfalso;apply e0;simp_all [Cb];done)|(by_cases e0:Cb e.op e.text=Dg e.text;exact A5 (Ap (Ai Tryz.isAgg130 Tryz.sizeOf130)) ⟨by rw [e0],rfl⟩ (hlow:=Hs _);exfalso;apply e0;simp_all [Cb];done)
 refine Z1 ?_;refine A2 [1,2,13] ?_
 refine A4 (fun ht13=>?_) (fun ht13=>?_)
 ·refine Z1 ?_;refine Ac Tryz.call127 (c127 e.text _) ?_;refine Z10 ?_;refine Z5 ?_
  first|(by_cases e0:Cb e.op e.text=⟨[1],1⟩;exact A5 (Ap (Ai Tryz.isAgg130 Tryz.sizeOf130)) ⟨by rw [e0];rfl,rfl⟩;exfalso;apply e0;simp_all [Cb];done)|(by_cases e0:Cb e.op e.text=⟨[3],3⟩;exact A5 (Ap (Ai Tryz.isAgg130 Tryz.sizeOf130)) ⟨by rw [e0];rfl,rfl⟩;exfalso;apply e0;simp_all [Cb];done)|(by_cases e0:Cb e.op e.text=Cn e.text;exact A5 (Ap (Ai Tryz.isAgg130 Tryz.sizeOf130)) ⟨by rw [e0],rfl⟩ (hlow:=Hs _);exfalso;apply e0;simp_all [Cb];done)|(by_cases e0:Cb e.op e.text=Dg e.text;exact A5 (Ap (Ai Tryz.isAgg130 Tryz.sizeOf130)) ⟨by rw [e0],rfl⟩ (hlow:=Hs _);exfalso;apply e0;simp_all [Cb];done)
 refine Y1 ?_;refine Ac Tryz.call128 (ABm e.text _) ?_;refine Z10 ?_
 first|(by_cases e0:Cb e.op e.text=⟨[1],1⟩;exact A5 (Ap (Ai Tryz.isAgg130 Tryz.sizeOf130)) ⟨by rw [e0];rfl,rfl⟩;exfalso;apply e0;simp_all [Cb];done)|(by_cases e0:Cb e.op e.text=⟨[3],3⟩;exact A5 (Ap (Ai Tryz.isAgg130 Tryz.sizeOf130)) ⟨by rw [e0];rfl,rfl⟩;exfalso;apply e0;simp_all [Cb];done)|(by_cases e0:Cb e.op e.text=Cn e.text;exact A5 (Ap (Ai Tryz.isAgg130 Tryz.sizeOf130)) ⟨by rw [e0],rfl⟩ (hlow:=Hs _);exfalso;apply e0;simp_all [Cb];done)|(by_cases e0:Cb e.op e.text=Dg e.text;exact A5 (Ap (Ai Tryz.isAgg130 Tryz.sizeOf130)) ⟨by rw [e0],rfl⟩ (hlow:=Hs _);exfalso;apply e0;simp_all [Cb];done)

theorem zi (a b:Int) (Hp:List AObj):AFun Tryz.prog 129 [A6 a,A6 b] Hp (.tup [A6 (Cr a b).1,B8 (Cr a b).2]):=by
 refine Aq [.tmp 4,.tmp 5] [0,1] Tryz.func129 Tryz.ntmps129 (fun d=>?_)
 refine ay ?_;refine U3 ?_;refine A2 [0,1,6] ?_
 refine A4 (fun ht6=>?_) (fun ht6=>?_)
 ·refine Z14 ?_;refine Z77 ?_
  first|(by_cases e0:Cr a b=(b,true);exact A5 (Ab A3 A3) ⟨by rw [e0],rfl⟩;exfalso;apply e0;simp_all [Cr];done)|(by_cases e0:Cr a b=(a,true);exact A5 (Ab A3 A3) ⟨by rw [e0],rfl⟩;exfalso;apply e0;simp_all [Cr];done)|(by_cases e0:Cr a b=(0,false);exact A5 (Ab A3 A3) ⟨by rw [e0],rfl⟩;exfalso;apply e0;simp_all [Cr];done)
 refine Z14 ?_;refine Z56 ?_;refine A2 [0,10] ?_
 refine A4 (fun ht10=>?_) (fun ht10=>?_)
 ·refine Z14 ?_;refine Z77 ?_
  first|(by_cases e0:Cr a b=(b,true);exact A5 (Ab A3 A3) ⟨by rw [e0],rfl⟩;exfalso;apply e0;simp_all [Cr];done)|(by_cases e0:Cr a b=(a,true);exact A5 (Ab A3 A3) ⟨by rw [e0],rfl⟩;exfalso;apply e0;simp_all [Cr];done)|(by_cases e0:Cr a b=(0,false);exact A5 (Ab A3 A3) ⟨by rw [e0],rfl⟩;exfalso;apply e0;simp_all [Cr];done)
 refine Y1 ?_;refine Z11 ?_
 first|(by_cases e0:Cr a b=(b,true);exact A5 (Ab A3 A3) ⟨by rw [e0],rfl⟩;exfalso;apply e0;simp_all [Cr];done)|(by_cases e0:Cr a b=(a,true);exact A5 (Ab A3 A3) ⟨by rw [e0],rfl⟩;exfalso;apply e0;simp_all [Cr];done)|(by_cases e0:Cr a b=(0,false);exact A5 (Ab A3 A3) ⟨by rw [e0],rfl⟩;exfalso;apply e0;simp_all [Cr];done)

structure FitAt (s:Sign) (ks:List Int) (x:Nat×Int):Prop where
 le:x.1≤ks.length
 eq:Fy s.kids ks 0=Fy (s.kids.drop x.1) (ks.drop x.1) x.2
theorem FitAt.step {s:Sign} {ks:List Int} {x:Nat×Int} (h:FitAt s ks x) (hk:x.1<ks.length) (hs:x.1<s.kids.length):Fy s.kids ks 0=(if s.kids[x.1] == -2 then Fy (s.kids.drop (x.1+1)) (ks.drop (x.1+1)) x.2 else if s.kids[x.1] == -1 then (if (Cr x.2 ks[x.1]).2 then Fy (s.kids.drop (x.1+1)) (ks.drop (x.1+1)) (Cr x.2 ks[x.1]).1 else none) else if (Cr s.kids[x.1] ks[x.1]).2 then Fy (s.kids.drop (x.1+1)) (ks.drop (x.1+1)) x.2 else none):=by
 rw [h.eq,Kr hk,Kr hs,Fy]
theorem FitAt.skip {s:Sign} {ks:List Int} {x:Nat×Int} (h:FitAt s ks x) (hk:x.1<ks.length) (hs:x.1<s.kids.length) (h2:(s.kids[x.1] == -2)=true):FitAt s ks (x.1+1,x.2):=⟨hk,by rw [h.step hk hs,if_pos h2]⟩
theorem FitAt.same {s:Sign} {ks:List Int} {x:Nat×Int} (h:FitAt s ks x) (hk:x.1<ks.length) (hs:x.1<s.kids.length) (h2:(s.kids[x.1] == -2)=false) (h1:(s.kids[x.1] == -1)=true) (hm:(Cr x.2 ks[x.1]).2=true):FitAt s ks (x.1+1,(Cr x.2 ks[x.1]).1):=⟨hk,by rw [h.step hk hs,if_neg (by rw [h2];simp),if_pos h1,if_pos hm]⟩
theorem FitAt.want {s:Sign} {ks:List Int} {x:Nat×Int} (h:FitAt s ks x) (hk:x.1<ks.length) (hs:x.1<s.kids.length) (h2:(s.kids[x.1] == -2)=false) (h1:(s.kids[x.1] == -1)=false) (hm:(Cr s.kids[x.1] ks[x.1]).2=true):FitAt s ks (x.1+1,x.2):=⟨hk,by rw [h.step hk hs,if_neg (by rw [h2];simp),if_neg (by rw [h1];simp),if_pos hm]⟩
theorem FitAt.bad {s:Sign} {ks:List Int} {x:Nat×Int} (h:FitAt s ks x) (hk:x.1<ks.length) (hs:x.1<s.kids.length) (h2:(s.kids[x.1] == -2)=false) (hm:(if s.kids[x.1] == -1 then (Cr x.2 ks[x.1]).2 else (Cr s.kids[x.1] ks[x.1]).2)=false):N7 s ks=(0,10):=by
 unfold N7
 rw [h.step hk hs,if_neg (by rw [h2];simp)]
 split at hm
 ·rename_i h1
  rw [if_pos h1,if_neg (by rw [hm];simp)]
 rename_i h1
 rw [if_neg h1,if_neg (by rw [hm];simp)]
theorem FitAt.out {s:Sign} {ks:List Int} {x:Nat×Int} (h:FitAt s ks x) (hk:ks.length≤x.1):N7 s ks=if s.own == -1 then (x.2,0) else (s.own,0):=by
 unfold N7
 rw [h.eq,ac hk]
 cases s.kids.drop x.1<;>rfl
theorem c80 (s:Sign) (ks:List Int) (hks:ks.length≤s.kids.length) (hk2:ks.length≤1048576) (Hp:List AObj):AFun Tryz.prog 80 [Qf s,.slice false 1 (ks.map A6)] Hp (.tup [A6 (N7 s ks).1,A6 (N7 s ks).2]):=by
 refine Aq [.tmp 4,.tmp 5] [0,1] Tryz.func80 Tryz.ntmps80 (fun d=>?_)
 refine Z14 ?_;refine A2 [1,2] ?_;refine i8 ?_;refine A2 [1,2,6] ?_;refine Z39 ?_;refine im ?_
 refine Ff (α:=Nat×Int) (fun x=>⟨49,Ao 2 (.ro [.slice false 1 (s.kids.map A6),A6 s.own]) (Ao 6 (.ptr (oid Hp.length 0) 0) (Ao 13 (.slice false 1 (ks.map A6)) (Ao 14 (A6 (ks.length:Nat)) (Ao 15 (A6 (x.1:Nat)) (fun _=>.any))))),Hp,[.cells 3 [A6 x.2]],[],none⟩) (fun x=>FitAt s ks x) (fun x=>ks.length-x.1) ((0,0)) ⟨Bk _,rfl⟩ (E9 (by simp)) rfl (fun x hx=>?_)
 refine Z3 ?_;refine A2 [2,6,13,14,15,16] ?_
 refine Gp (fun ht16=>?_) (fun ht16=>?_)
 ·have hlt:x.1<ks.length:=by simpa using ht16
  have hls:x.1<s.kids.length:=by omega
  refine Wi ?_
  refine A7 (h:=Ax (x.1) (A6 ks[x.1]) (fun _=>Cu hlt)) (hr:=?_)
  refine Z24 ?_;refine A2 [2,6,7,8,13,14,15] ?_;refine Z14 ?_
  refine A7 (h:=Ax (x.1) (A6 s.kids[x.1]) (fun _=>Cu hls)) (hr:=?_)
  refine A7 ?_;refine Z21 ?_;refine A2 [2,6,8,9,13,14,15] ?_;refine Z32 ?_;refine A2 [2,6,8,9,13,14,15,26] ?_
  refine A4 (fun ht26=>?_) (fun ht26=>?_)
  ·refine G9 [2,6,13,14,15] ?_;refine Z95 ?_;refine K.blE ?_;refine Fv ?_;refine Z31 ?_;refine im ?_
   first|(refine Ct (x.1+1,x.2) (hx.skip hlt hls ht26) (by show ks.length-(x.1+1)<ks.length-x.1;omega) ?_;exact Es (own:=[.cells 3 [A6 x.2]]) (fun _=>.refl _) (by repeat (first|exact C6|refine C5 (by first|(simp [or_imp,forall_and];done)|(simp [oid]<;>omega)) ?_)) (by intro y hy;rw [Bh.1 hy];intro z hz;rw [Bh.1 hz];simp) (by simp))|(refine Ct (x.1+1,(Cr x.2 ks[x.1]).1) (hx.same hlt hls ht26 ht28 (by simpa using ht38)) (by show ks.length-(x.1+1)<ks.length-x.1;omega) ?_;exact Es (own:=[.cells 3 [A6 (Cr x.2 ks[x.1]).1]]) (fun _=>.refl _) (by repeat (first|exact C6|refine C5 (by first|(simp [or_imp,forall_and];done)|(simp [oid]<;>omega)) ?_)) (by intro y hy;rw [Bh.1 hy];intro z hz;rw [Bh.1 hz];simp) (by simp))|(refine Ct (x.1+1,x.2) (hx.want hlt hls ht26 ht28 (by simpa using ht38)) (by show ks.length-(x.1+1)<ks.length-x.1;omega) ?_;exact Es (own:=[.cells 3 [A6 x.2]]) (fun _=>.refl _) (by repeat (first|exact C6|refine C5 (by first|(simp [or_imp,forall_and];done)|(simp [oid]<;>omega)) ?_)) (by intro y hy;rw [Bh.1 hy];intro z hz;rw [Bh.1 hz];simp) (by simp))
  refine Z75 ?_;refine A2 [2,6,8,9,10,13,14,15] ?_;refine Z32 ?_;refine A2 [2,6,8,10,13,14,15,28] ?_
  refine A4 (fun ht28=>?_) (fun ht28=>?_)
  ·refine Z97 ?_;refine A2 [2,6,8,10,13,14,15] ?_;refine Fv ?_;refine Z17 ?_;refine Ac Tryz.call129 (zi _ _ _) ?_;refine Qq ?_;refine A2 [2,6,10,11,12,13,14,15] ?_;refine Z32 ?_;refine A2 [2,6,10,11,13,14,15,38] ?_
   refine A4 (fun ht38=>?_) (fun ht38=>?_)
   ·have hbad:=hx.bad hlt hls ht26 (by first|(rw [if_pos ht28];simpa using ht38)|(rw [if_neg (by rw [ht28];simp)];simpa using ht38))
    refine Z1 ?_;refine az ?_;exact xg
   refine Z9 ?_;refine Z55 ?_;refine Jj ?_;refine im ?_;refine ie ?_;refine im ?_
   first|(refine Ct (x.1+1,x.2) (hx.skip hlt hls ht26) (by show ks.length-(x.1+1)<ks.length-x.1;omega) ?_;exact Es (own:=[.cells 3 [A6 x.2]]) (fun _=>.refl _) (by repeat (first|exact C6|refine C5 (by first|(simp [or_imp,forall_and];done)|(simp [oid]<;>omega)) ?_)) (by intro y hy;rw [Bh.1 hy];intro z hz;rw [Bh.1 hz];simp) (by simp))|(refine Ct (x.1+1,(Cr x.2 ks[x.1]).1) (hx.same hlt hls ht26 ht28 (by simpa using ht38)) (by show ks.length-(x.1+1)<ks.length-x.1;omega) ?_;exact Es (own:=[.cells 3 [A6 (Cr x.2 ks[x.1]).1]]) (fun _=>.refl _) (by repeat (first|exact C6|refine C5 (by first|(simp [or_imp,forall_and];done)|(simp [oid]<;>omega)) ?_)) (by intro y hy;rw [Bh.1 hy];intro z hz;rw [Bh.1 hz];simp) (by simp))|(refine Ct (x.1+1,x.2) (hx.want hlt hls ht26 ht28 (by simpa using ht38)) (by show ks.length-(x.1+1)<ks.length-x.1;omega) ?_;exact Es (own:=[.cells 3 [A6 x.2]]) (fun _=>.refl _) (by repeat (first|exact C6|refine C5 (by first|(simp [or_imp,forall_and];done)|(simp [oid]<;>omega)) ?_)) (by intro y hy;rw [Bh.1 hy];intro z hz;rw [Bh.1 hz];simp) (by simp))
  refine Z9 ?_;refine Z17 ?_;refine Ac Tryz.call129 (zi _ _ _) ?_;refine Qq ?_;refine A2 [2,6,10,11,12,13,14,15] ?_;refine Z32 ?_;refine A2 [2,6,10,11,13,14,15,38] ?_
  refine A4 (fun ht38=>?_) (fun ht38=>?_)
  ·have hbad:=hx.bad hlt hls ht26 (by first|(rw [if_pos ht28];simpa using ht38)|(rw [if_neg (by rw [ht28];simp)];simpa using ht38))
   refine Z1 ?_;refine az ?_;exact xg
  refine Z9 ?_;refine Z55 ?_;refine Jj ?_;refine im ?_;refine ie ?_;refine im ?_
  first|(refine Ct (x.1+1,x.2) (hx.skip hlt hls ht26) (by show ks.length-(x.1+1)<ks.length-x.1;omega) ?_;exact Es (own:=[.cells 3 [A6 x.2]]) (fun _=>.refl _) (by repeat (first|exact C6|refine C5 (by first|(simp [or_imp,forall_and];done)|(simp [oid]<;>omega)) ?_)) (by intro y hy;rw [Bh.1 hy];intro z hz;rw [Bh.1 hz];simp) (by simp))|(refine Ct (x.1+1,(Cr x.2 ks[x.1]).1) (hx.same hlt hls ht26 ht28 (by simpa using ht38)) (by show ks.length-(x.1+1)<ks.length-x.1;omega) ?_;exact Es (own:=[.cells 3 [A6 (Cr x.2 ks[x.1]).1]]) (fun _=>.refl _) (by repeat (first|exact C6|refine C5 (by first|(simp [or_imp,forall_and];done)|(simp [oid]<;>omega)) ?_)) (by intro y hy;rw [Bh.1 hy];intro z hz;rw [Bh.1 hz];simp) (by simp))|(refine Ct (x.1+1,x.2) (hx.want hlt hls ht26 ht28 (by simpa using ht38)) (by show ks.length-(x.1+1)<ks.length-x.1;omega) ?_;exact Es (own:=[.cells 3 [A6 x.2]]) (fun _=>.refl _) (by repeat (first|exact C6|refine C5 (by first|(simp [or_imp,forall_and];done)|(simp [oid]<;>omega)) ?_)) (by intro y hy;rw [Bh.1 hy];intro z hz;rw [Bh.1 hz];simp) (by simp))
 have hxe:ks.length≤x.1:=by simpa using ht16
 have hout:=hx.out hxe
 refine Z58 ?_;refine Z39 ?_;refine A2 [2,6,45] ?_
 refine A4 (fun ht45=>?_) (fun ht45=>?_)
 ·refine Z14 ?_;refine az ?_;exact A5 (Ab A3 A3) ⟨by rw [hout,if_pos ht45],rfl⟩
 refine Z9 ?_;refine Z17 ?_;refine Z11 ?_;exact A5 (Ab A3 A3) ⟨by rw [hout,if_neg (by rw [ht45];simp)],rfl⟩

theorem nz {n k:Nat} {own:Bool} {l:List Int}:Low n (.slice own k (l.map A6)):=low_slice.2 fun y hy=>by
 obtain ⟨z,_,rfl⟩:=Dd.1 hy
 simp
theorem O9 {n:Nat} {e:Expr}:Low n (.ro (Bg e)):=by have:=Ag n e;rw [Ad] at this;simpa using this
theorem Zd {c:List Col} {t:Str} (h:¬(Ez t c<0)):∃(j:Nat),Ez t c=(j:Int)∧j<c.length:=by
 obtain ⟨j,y,h2,_,h3⟩:=find_mem.1 h
 exact ⟨j,h3,(Ae.1 h2).1⟩
theorem o0 {c:List Col} {e:Expr} (h:(e.op==1)=true):B7 c e=(e.val.kind,0):=by rw [Jo];unfold Km;rw [if_pos h]
theorem jo {c:List Col} {e:Expr} (h1:(e.op==1)=false) (h:(e.op==2)=true):B7 c e=O3 c e.text:=by rw [Jo];unfold Km;rw [h1,if_pos h];rfl
theorem o4 {c:List Col} {e:Expr} (h1:(e.op==1)=false) (h2:(e.op==2)=false) {x:Nat} (hx:x<e.kids.length) (h0:∀(j:Nat) (y:Expr),j<x→e.kids[j]? = some y→((B7 c y).2 != 0)=false) (hb:((B7 c e.kids[x]).2 != 0)=true):B7 c e=(0,(B7 c e.kids[x]).2):=by
 rw [Jo]
 unfold Km
 rw [h1,h2]
 have:(e.kids.map (B7 c)).find? (fun q=>q.2 != 0)=some ((e.kids.map (B7 c))[x]'(by simpa using hx)):=Wm (by simpa using hx) (by simpa using hb) (fun j y hj hy=>by
  rw [Ce,Dp] at hy
  obtain ⟨z,hz,rfl⟩:=hy
  exact h0 j z hj hz)
 rw [this]
 simp
theorem o5 {c:List Col} {e:Expr} (h1:(e.op==1)=false) (h2:(e.op==2)=false) (h0:∀(j:Nat) (y:Expr),j<e.kids.length→e.kids[j]? = some y→((B7 c y).2 != 0)=false):B7 c e=N7 (Cb e.op e.text) (e.kids.map fun y=>(B7 c y).1):=by
 rw [Jo]
 unfold Km
 rw [h1,h2]
 have:(e.kids.map (B7 c)).find? (fun q=>q.2 != 0)=none:=P8 (fun j y hy=>by
  rw [Ce,Dp] at hy
  obtain ⟨z,hz,rfl⟩:=hy
  exact h0 j z (Ae.1 hz).1 hz)
 rw [this]
 simp only [Id]
 rfl
theorem jp (f:Expr→Int) (l:List Expr) {x:Nat} (h:x<l.length):((l.take x).map f).map A6++[A6 (f l[x])]=((l.take (x+1)).map f).map A6:=by rw [Ix h,G7,G7];rfl
theorem c39 (c:List Col) (hc:OkCols c):∀(n:Nat) (e:Expr),okE n e→B9 C1 e=true→∀Hp:List AObj,AFun Tryz.prog 39 [Aa e,Gq c] Hp (.tup [A6 (B7 c e).1,A6 (B7 c e).2]):=by
 intro n
 induction n with
 | zero=>exact fun e h=>h.elim
 | succ n ih =>
 intro e hok hnd Hp
 have hnd0:=hnd
 rw [Cj,Ak] at hnd0
 refine Aq [.tmp 4,.tmp 5] [0,1] Tryz.func39 Tryz.ntmps39 (fun d=>?_)
 refine Z14 ?_;refine A2 [1,2] ?_;refine Z32 ?_;refine A2 [1,2,13] ?_;refine Z88 ?_;refine A2 [1,2,13,14] ?_
 refine A4 (fun ht14=>?_) (fun ht14=>?_)
 ·have hk:=o0 (c:=c) ht14
  refine Z17 ?_;refine A7 ?_;refine Z77 ?_;exact uu
 refine Z1 ?_;refine A2 [1,2,19] ?_
 refine A4 (fun ht19=>?_) (fun ht19=>?_)
 ·have hk:=jo (c:=c) ht14 ht19
  refine Z14 ?_;refine Ac Tryz.call58 (c58 c hc e.text _) ?_;refine A7 ?_;refine A2 [1,6] ?_;refine Z32 ?_;refine A2 [1,6,26] ?_
  refine A4 (fun ht26=>?_) (fun ht26=>?_)
  ·have hk2:O3 c e.text=(0,9):=if_pos (by simpa using ht26)
   refine Z1 ?_;refine az ?_;refine Z5 ?_;exact yf
  have hneg:¬(Ez e.text c<0):=by simpa using ht26
  obtain ⟨j,hj,hjl⟩:=Zd hneg
  have hk2:O3 c e.text=(c[j].kind,0):=by
   unfold O3
   rw [if_neg hneg,hj,Int.toNat_natCast,Ch,Al hjl]
   rfl
  rw [hj]
  refine S4 ?_
  refine A7 (h:=Ax (j) (U6 c[j]) (fun _=>Cu hjl)) (hr:=?_)
  refine Z64 ?_;refine Z77 ?_;exact yf
 refine Z22 ?_;refine Z3 ?_;refine A2 [1,2,7] ?_;refine Z96 ?_;refine R.nilSl 7 1 ?_;refine Z64 ?_;refine A2 [1,2,7,33,34,35] ?_
 refine Ff (α:=Nat) (fun x=>⟨59,Ao 1 (Gq c) (Ao 2 (.ro (Bg e)) (Ao 7 (.slice true 1 (((e.kids.take x).map fun y=>(B7 c y).1).map A6)) (Ao 33 (.slice false 6 (e.kids.map Aa)) (Ao 34 (A6 (e.kids.length:Nat)) (Ao 35 (A6 (x:Nat)) (fun _=>.any)))))),Hp,[],[],none⟩) (fun x=>x≤e.kids.length∧∀(j:Nat) (y:Expr),j<x→e.kids[j]? = some y→((B7 c y).2 != 0)=false) (fun x=>e.kids.length-x) (0) ⟨Bk _,fun j y h=>by omega⟩ (E9 (by simp)) rfl (fun x hx=>?_)
 refine Z3 ?_;refine A2 [1,2,7,33,34,35,36] ?_
 refine Gp (fun ht36=>?_) (fun ht36=>?_)
 ·have hlt:x<e.kids.length:=by simpa using ht36
  have hkl:=hok.2.1
  refine b6 ?_
  refine A7 (h:=Ax (x) (Aa e.kids[x]) (fun _=>Cu hlt)) (hr:=?_)
  refine A7 ?_;refine Z21 ?_;refine A2 [1,2,7,9,33,34,35] ?_;refine Z1 ?_;refine Ac Tryz.call39 (ih e.kids[x] (hok.2.2 _ (Db hlt)) ((Ba _ _).1 hnd0.2 _ (Db hlt)) _) ?_;refine Qq ?_;refine A2 [1,2,7,10,11,33,34,35] ?_;refine Z32 ?_;refine A2 [1,2,7,10,11,33,34,35,46] ?_
  refine A4 (fun ht46=>?_) (fun ht46=>?_)
  ·have hkb:=o4 (c:=c) ht14 ht19 hlt hx.2 ht46
   refine Z14 ?_;refine az ?_;refine We ?_;exact A5 (Ab A3 A3) ⟨by rw [hkb],rfl⟩
  refine Z9 ?_;refine If ?_;refine R.moveT ?_;refine A7 ?_;refine S5 ?_
  refine P3 jU Tryz.type3 ?_ ?_ ?_
  ·simp only [Bp,Ic,Ay,Bn,Tryz.t3];omega
  ·simp only [Bp,Ic,Ay,Bn,Tryz.t3];omega
  refine W8 ?_;refine A2 [1,2,7,33,34,35] ?_;refine ie ?_;refine A2 [1,2,7,33,34,35] ?_;refine Ct (x+1) ⟨hlt,Gj hlt hx.2 ht46⟩ (by omega) ?_
  simp only [show Tryz.t3.size=1 from rfl,jp]
  exact Es (own:=[]) (fun _=>.refl _) (by repeat (first|exact C6|refine C5 (by first|exact nz|exact O9|exact Du|(simp [or_imp,forall_and];done)) ?_)) (by simp) (by simp)
 have hxe:e.kids.take x=e.kids:=G5 (by simp at ht36;omega)
 have hxl:e.kids.length≤x:=by simp at ht36;omega
 have hka:=o5 (c:=c) ht14 ht19 (fun j y hj hy=>hx.2 j y (by omega) hy)
 rw [hxe]
 refine Z58 ?_;refine Z3 ?_;refine Ac Tryz.call79 (c79 e _) ?_;refine A7 ?_
 refine Ac Tryz.call80 (c80 (Cb e.op e.text) (e.kids.map fun y=>(B7 c y).1) (by rw [nd hnd0.1 ht14 ht19];simp) (by simpa using hok.2.1) _) ?_
 refine Z64 ?_;refine Z11 ?_;exact A5 (Ab A3 A3) ⟨by rw [hka],rfl⟩

theorem J6 {e:Expr} (h:Au e=true):B9 C1 e=true:=by
 rw [E6] at h
 unfold Eg at h
 rw [Ak] at h
 exact h.2
theorem c13 (n:Nat) (e:Expr) (hok:okE n e) (hn:n≤1048576) (c:List Col) (hc:OkCols c) (Hp:List AObj):AFun Tryz.prog 13 [Aa e,Gq c] Hp (.tup [A6 (O4 e c).1,A6 (O4 e c).2]):=by
 refine Aq [.tmp 4,.tmp 5] [0,1] Tryz.func13 Tryz.ntmps13 (fun d=>?_)
 refine Z14 ?_;refine A2 [1,2] ?_;refine Z37 ?_;refine Ac Tryz.call38 (c38 n e hok hn _) ?_;refine Y0 ?_;refine Co Tryz.call36 (fun hB=>c36 c hc _) ?_;refine Z63 ?_;refine A2 [1,2,13] ?_
 refine A4 (fun ht13=>?_) (fun ht13=>?_)
 ·have hk:O4 e c=(0,1):=if_pos ht13
  refine Z1 ?_;refine az ?_;exact uu
 have hk:O4 e c=B7 c e:=if_neg (by rw [ht13];simp)
 have hr:Au e=true:=by simp only [F7,Ja] at ht13;exact ht13.1
 refine S4 ?_;refine Ac Tryz.call39 (c39 c hc n e hok (J6 hr) _) ?_;refine Z64 ?_;refine Z11 ?_;exact uu

/-- The first fault of those that were asked. -/
structure AllAt (f:Expr→Rs) (k:List Expr) (x:Nat):Prop where
 le:x≤k.length
 ok:∀(j:Nat) (y:Expr),j<x→k[j]? = some y→((f y).2 != 0)=false
theorem AllAt.bad {f:Expr→Rs} {k:List Expr} {x:Nat} (h:AllAt f k x) (hx:x<k.length) (hb:((f k[x]).2 != 0)=true) (g:List Val→Rs):D9 g (k.map f)=Br (f k[x]).2:=by
 unfold D9
 have:(k.map f).find? (fun q=>q.2 != 0)=some ((k.map f)[x]'(by simpa using hx)):=Wm (by simpa using hx) (by simpa using hb) (fun j y hj hy=>by
  rw [Ce,Dp] at hy
  obtain ⟨z,hz,rfl⟩:=hy
  exact h.ok j z hj hz)
 rw [this]
 simp
theorem AllAt.all {f:Expr→Rs} {k:List Expr} {x:Nat} (h:AllAt f k x) (hx:k.length≤x) (g:List Val→Rs):D9 g (k.map f)=if (k.take x).any (fun y=>(f y).1.kind==0) then (noV,0) else g ((k.take x).map fun y=>(f y).1):=by
 unfold D9
 have:(k.map f).find? (fun q=>q.2 != 0)=none:=P8 (fun j y hy=>by
  rw [Ce,Dp] at hy
  obtain ⟨z,hz,rfl⟩:=hy
  exact h.ok j z (by have:=(Ae.1 hz).1;omega) hz)
 rw [this,G5 hx]
 simp only [List.any_map,Id]
 rfl
theorem AllAt.next {f:Expr→Rs} {k:List Expr} {x:Nat} (h:AllAt f k x) (hx:x<k.length) (hb:((f k[x]).2 != 0)=false):AllAt f k (x+1):=⟨hx,Gj hx h.ok hb⟩
theorem o6 (f:Expr→Bool) (k:List Expr) {x:Nat} (h:x<k.length):(k.take (x+1)).any f=((k.take x).any f || f k[x]):=by rw [Ix h,List.any_append];simp
theorem jq (f:Expr→Val) (l:List Expr) {x:Nat} (h:x<l.length):((l.take x).map f).map Bq++[Bq (f l[x])]=((l.take (x+1)).map f).map Bq:=by rw [Ix h,G7,G7];rfl
theorem Ze {n k:Nat} {own:Bool} {l:List Val}:Low n (.slice own k (l.map Bq)):=low_slice.2 fun y hy=>by
 obtain ⟨z,_,rfl⟩:=Dd.1 hy
 simp [or_imp,forall_and]
theorem c90 (c:List Col) (l:List Val) (e:Expr) (hk:e.kids.length≤1048576) (hev:∀y∈e.kids,I8 c l y (Af c l y)) (hargs:((∀y∈e.kids,(Af c l y).2=0)→ArgsOk e.op (e.kids.map fun y=>(Af c l y).1))) (Hp:List AObj):AFun Tryz.prog 90 [Tg c l,Aa e] Hp (O8 (D9 (Aj e.op e.text) (e.kids.map (Af c l)))):=by
 refine Aq [.cell 4 23,.tmp 5] [0,1] Tryz.func90 Tryz.ntmps90 (fun d=>?_)
 refine Z1 ?_;refine m5 ?_;refine Z3 ?_;refine A2 [2,3,4,6] ?_;refine Ey ?_;refine R.nilSl 6 3 ?_;refine A7 ?_;refine A2 [2,3,4,6,7] ?_;refine Z60 ?_;refine A2 [2,3,4,6,7,13,14,15] ?_
 refine Ff (α:=Nat) (fun x=>⟨49,Ao 2 (.ro [Gq c,Jk l]) (Ao 3 (.ro (Bg e)) (Ao 4 (.ptr (oid Hp.length 0) 0) (Ao 6 (.slice true 3 (((e.kids.take x).map fun y=>(Af c l y).1).map Bq)) (Ao 7 (B8 ((e.kids.take x).any fun y=>(Af c l y).1.kind==0)) (Ao 13 (.slice false 6 (e.kids.map Aa)) (Ao 14 (A6 (e.kids.length:Nat)) (Ao 15 (A6 (x:Nat)) (fun _=>.any)))))))),Hp,[.cells 23 [A6 0,A6 0,Ah []]],[],none⟩) (fun x=>AllAt (Af c l) e.kids x) (fun x=>e.kids.length-x) (0) ⟨Bk _,fun j y h=>by omega⟩ (E9 (by simp)) rfl (fun x hx=>?_)
 refine Z3 ?_;refine A2 [2,3,4,6,7,13,14,15,16] ?_
 refine Gp (fun ht16=>?_) (fun ht16=>?_)
 ·have hlt:x<e.kids.length:=by simpa using ht16
  refine b6 ?_
  refine A7 (h:=Ax (x) (Aa e.kids[x]) (fun _=>Cu hlt)) (hr:=?_)
  refine A7 ?_;refine Z21 ?_;refine A2 [2,3,4,6,7,9,13,14,15] ?_;refine Z1 ?_;refine Ac Tryz.call44 (hev _ (Db hlt) _) ?_;refine Z82 ?_;refine A2 [2,3,4,6,7,10,11,13,14,15] ?_;refine Z32 ?_;refine A2 [2,3,4,6,7,10,11,13,14,15,26] ?_
  refine A4 (fun ht26=>?_) (fun ht26=>?_)
  ·have hm:=hx.bad hlt ht26 (Aj e.op e.text)
   refine Z3 ?_;refine Z40 ?_;refine Z36 ?_;refine Cp ?_;refine Z65 ?_;exact Z23
  refine S4 ?_;refine Z56 ?_;refine A2 [2,3,4,6,7,10,13,14,15] ?_;refine If ?_;refine R.moveT ?_;refine A7 ?_;refine S5 ?_
  refine P3 jU Tryz.type23 ?_ ?_ ?_
  ·simp only [Bp,Ic,Ay,Bn,Tryz.t23];omega
  ·simp only [Bp,Ic,Ay,Bn,Tryz.t23];omega
  refine W8 ?_;refine A2 [2,3,4,6,7,13,14,15] ?_;refine ie ?_;refine A2 [2,3,4,6,7,13,14,15] ?_;refine Ct (x+1) (hx.next hlt ht26) (by omega) ?_
  simp only [show Tryz.t23.size=3 from rfl,o6 _ _ hlt]
  have hvs:((e.kids.take x).map fun y=>(Af c l y).1).map Bq++[.agg [.v (.int .i64 (Af c l e.kids[x]).1.kind),.v (.int .i64 (Af c l e.kids[x]).1.n),.v (sv (Af c l e.kids[x]).1.s)]]=((e.kids.take (x+1)).map fun y=>(Af c l y).1).map Bq:=jq _ _ hlt
  simp only [hvs]
  exact Es (own:=[.cells 23 [A6 0,A6 0,Ah []]]) (fun _=>.refl _) (by repeat (first|exact C6|refine C5 (by first|exact Du|exact Ze|exact O9|(simp [or_imp,forall_and,oid]<;>omega)) ?_)) (by intro y hy;rw [Bh.1 hy];intro z hz;simp only [By,Hb,or_false] at hz;rcases hz with rfl|rfl|rfl<;>simp) (by simp)
 have hxe:e.kids.length≤x:=by simpa using ht16
 have ha:=hx.all hxe (Aj e.op e.text)
 have htk:e.kids.take x=e.kids:=G5 hxe
 have h00:∀y∈e.kids,(Af c l y).2=0:=fun y hy=>by
  obtain ⟨j,hj⟩:=Cf hy
  have:=hx.ok j y (by have:=(Ae.1 hj).1;omega) hj
  simpa using this
 have hao:=hargs h00
 rw [←htk] at hao
 refine Z58 ?_;refine Z37 ?_;refine A2 [3,4,6,42] ?_
 refine A4 (fun ht42=>?_) (fun ht42=>?_)
 ·have hm:D9 (Aj e.op e.text) (e.kids.map (Af c l))=(noV,0):=by rw [ha,if_pos ht42]
  refine uo ?_;exact i7
 have hm:D9 (Aj e.op e.text) (e.kids.map (Af c l))=Aj e.op e.text ((e.kids.take x).map fun y=>(Af c l y).1):=by rw [ha,if_neg (by rw [ht42];simp)]
 refine S4 ?_;refine Ac Tryz.call137 (ABl e _ hao _) ?_;refine Z0 ?_;exact Z42

set_option maxRecDepth 8000
set_option maxRecDepth 4000
theorem Th (o:Int) (t:Str) (v:Val) (k:List Expr):Aa (.mk o t v k)=.agg [A6 o,.v (sv t),A6 v.kind,A6 v.n,.v (sv v.s),.slice false 6 (k.map Aa)]:=by rw [Ad];rfl
set_option maxRecDepth 8000
/-! Who decides decides: the law's sources, columns and truths. -/
/-! Rows. -/
theorem row_iff {c:List Col} {l:List Val}:Kb c l=true↔S9 c=true∧l.length=c.length∧∀(i:Nat) (v:Val) (y:Col),l[i]? = some v→c[i]? = some y→C9 v=true∧(v.kind=0∨v.kind=y.kind):=by
 unfold Kb
 rw [Ak,Ak,Ww,beq_iff_eq,B2,and_assoc]
 refine and_congr_right fun _=>and_congr_right fun hl=>⟨fun h i v y hv hy=>?_,fun h p hp=>?_⟩
 ·have:=h (v,y) (B3 (i:=i) (by rw [Rk];exact ⟨hv,hy⟩))
  simpa using this
 obtain ⟨i,hi⟩:=Cf hp
 rw [Rk] at hi
 have:=h i p.1 p.2 hi.1 hi.2
 simpa using this
theorem X3 {x:Expr} {c:List Col} {l:List Val} (h1:Au x=true) (h2:Kb c l=true):Dh x c l=Af c l x:=by
 unfold Dh Z7
 rw [h1,h2]
 rfl
/-! Rows that differ in what is not named. -/
/-! Who has a kind tz to it. -/
/-- What a tree of this kind may come to. -/
structure KOk (k:Int) (r:Rs):Prop where
 kind:r.2=0→r.1.kind=k∨r.1.kind=0
 err:r.2≠0→r.2=4∨r.2=5∨r.2=6∨r.2=3
theorem KOk.null (k:Int):KOk k (noV,0):=⟨fun _=>.inr rfl,fun h=>absurd rfl h⟩
theorem KOk.val {k:Int} {v:Val} (h:v.kind=k):KOk k (v,0):=⟨fun _=>.inl h,fun h=>absurd rfl h⟩
theorem KOk.wrong {k e:Int} (h:e=4∨e=5∨e=6∨e=3):KOk k (Br e):=⟨fun h0=>by rw [show e=0 from h0] at h;omega,fun _=>h⟩
theorem KOk.whole {x:Int×Int} (h:x.2≠0→x.2=4∨x.2=5∨x.2=6∨x.2=3):KOk 1 (E4 x):=by
 unfold E4
 split
 ·rename_i h1;exact .wrong (h (by simpa using h1))
 exact .val rfl
theorem KOk.mono {k k':Int} {r:Rs} (h:KOk k r) (hk:k=k'∨k=0):KOk k' r:=⟨fun h0=>by have:=h.kind h0;omega,h.err⟩
theorem Qg {α:Type} {g:α→Int} {r:α→Rs} {l:List α} (h:∀y∈l,KOk (g y) (r y)) {k:Int} {f:List Val→Rs} (hs:∀vs:List Val,vs.map (·.kind)=l.map g→(∀v∈vs,v.kind≠0)→KOk k (f vs)):KOk k (D9 f (l.map r)):=by
 unfold D9
 split
 ·rename_i q hq
  have h1:=Rg hq
  obtain ⟨y,hy,rfl⟩:=Dd.1 (List.mem_of_find?_eq_some hq)
  exact .wrong ((h y hy).err (by simpa using h1))
 rename_i hq
 have h0:∀y∈l,(r y).2=0:=fun y hy=>by
  have:=Jw.1 hq (r y) (Vt hy)
  simpa using this
 split
 ·exact .null k
 rename_i hn
 have hnn:∀y∈l,(r y).1.kind≠0:=fun y hy e=>hn (by rw [Jv];exact ⟨r y,Vt hy,by simpa using e⟩)
 refine hs _ ?_ ?_
 ·rw [Id,Id]
  refine Rn fun y hy=>?_
  have:=(h y hy).kind (h0 y hy)
  have:=hnn y hy
  show (r y).1.kind=g y
  omega
 intro v hv
 rw [Id] at hv
 obtain ⟨y,hy,rfl⟩:=Dd.1 hv
 exact hnn y hy
theorem Oa {a b:Int} (h:(Cr a b).2=true):((a=0∧(Cr a b).1=b)∨(a≠0∧(b=0∨b=a)∧(Cr a b).1=a)):=by
 unfold Cr at h ⊢
 split
 ·rename_i e;exact .inl ⟨by simpa using e,rfl⟩
 rename_i e
 rw [if_neg e] at h
 split
 ·rename_i e2
  exact .inr ⟨by simpa using e,by simp only [Dj,beq_iff_eq] at e2;omega,rfl⟩
 rename_i e2
 rw [if_neg e2] at h
 cases h
theorem vz {s:Sign} {ks:List Int} (h:(N7 s ks).2=0):∃c,Fy s.kids ks 0=some c∧(N7 s ks).1=if s.own == -1 then c else s.own:=by
 unfold N7 at h ⊢
 cases hk:Fy s.kids ks 0 with
 | none=>rw [hk] at h;cases h
 | some c=>exact ⟨c,rfl,by simp only;split<;>rfl⟩
/-- One kid, of a kind. -/
theorem jr {w k0 c:Int} (h1:(w == -2)=false) (h2:(w == -1)=false) (h3:w≠0) (h:Fy [w] [k0] 0=some c):k0=0∨k0=w:=by
 rw [Fy,h1,h2] at h
 simp only [Bs,if_false] at h
 split at h
 ·rename_i hm;have:=Oa hm;omega
 cases h
theorem js {w w' k0 k1 c:Int} (h1:(w == -2)=false) (h2:(w == -1)=false) (h3:w≠0) (h1':(w' == -2)=false) (h2':(w' == -1)=false) (h3':w'≠0) (h:Fy [w,w'] [k0,k1] 0=some c):(k0=0∨k0=w)∧(k1=0∨k1=w'):=by
 rw [Fy,h1,h2] at h
 simp only [Bs,if_false] at h
 split at h
 ·rename_i hm
  rw [Fy,h1',h2'] at h
  simp only [Bs,if_false] at h
  split at h
  ·rename_i hm';have:=Oa hm;have:=Oa hm';omega
  cases h
 cases h
/-- Two kids of one kind, whichever. -/
theorem X4 {k0 k1 c c0:Int} (h:Fy [-1, -1] [k0,k1] c0=some c) (h0:c0=0):(k0=0∨k0=c)∧(k1=0∨k1=c)∧(k0≠0→k1≠0→k0=k1):=by
 subst h0
 rw [Fy] at h
 simp only [show ((-1:Int) == -2)=false from rfl,show ((-1:Int) == -1)=true from rfl,Bs,if_false,if_true] at h
 split at h
 ·rename_i hm
  rw [Fy] at h
  simp only [show ((-1:Int) == -2)=false from rfl,show ((-1:Int) == -1)=true from rfl,Bs,if_false,if_true] at h
  split at h
  ·rename_i hm'
   rw [Fy] at h
   injection h with h
   have a:=Oa hm
   have b:=Oa hm'
   omega
  cases h
 cases h
theorem M2 {c:List Col} {o:Int} {t:Str} {v:Val} {k:List Expr} (h:(B7 c (.mk o t v k)).2=0) (h1:(o==1)=false) (h2:(o==2)=false):
  (∀y∈k,(B7 c y).2=0)∧∃m,Fy (Cb o t).kids (k.map fun y=>(B7 c y).1) 0=some m∧(B7 c (.mk o t v k)).1=if (Cb o t).own == -1 then m else (Cb o t).own:=by
 rw [B7] at h ⊢
 have hk:=nf h h1 h2
 rw [Pk] at hk h ⊢
 have hk':∀y∈k,(B7 c y).2=0:=fun y hy=>hk _ (Vt hy)
 refine ⟨hk',?_⟩
 have e:Km c o t v (k.map (B7 c))=N7 (Cb o t) (k.map fun y=>(B7 c y).1):=by
  unfold Km
  rw [h1,h2]
  have:(k.map (B7 c)).find? (fun q=>q.2 != 0)=none:=Jw.2 fun q hq=>by simpa using hk q hq
  simp only [Bs,if_false,this,Id]
  rfl
 rw [e] at h ⊢
 exact vz h
theorem jt (t:Str) (a b:Int):(B5 t a b).2≠0→(B5 t a b).2=4∨(B5 t a b).2=5∨(B5 t a b).2=6∨(B5 t a b).2=3:=by
 unfold B5 N9 Gv M7 Gy Na
 simp only
 repeat' split
 all_goals simp
theorem rx (a b:Int):(Gv a b).2≠0→(Gv a b).2=4∨(Gv a b).2=5∨(Gv a b).2=6∨(Gv a b).2=3:=by
 unfold Gv
 repeat' split
 all_goals simp
theorem ry (s:Str):(Bo s).2≠0→(Bo s).2=4∨(Bo s).2=5∨(Bo s).2=6∨(Bo s).2=3:=by
 unfold Bo
 repeat' split
 all_goals simp
theorem w4 {a b:Val} (ha:a.kind=2) (hb:b.kind=2):KOk 2 (Jp a b):=by
 unfold Jp
 rw [show Bi [a,b] [2,2]=true by simp [Bi,ha,hb]]
 simp only [Ib,Bs,if_false]
 split
 ·exact .wrong (by omega)
 exact .val rfl
/-- A mark of two values of the kinds that its sign asks for. -/
theorem zj {t:Str} {a b:Val} (ht:t∈[[61],[33,61],[60],[60,61],[62],[62,61],[43],[45],[38],[42],[47],[37]]) {m:Int} (hf:Fy (Cn t).kids [a.kind,b.kind] 0=some m) (ha:a.kind≠0) (hb:b.kind≠0):
  KOk (if (Cn t).own == -1 then m else (Cn t).own) (Gd t a b):=by
 have hcmp:∀t:Str,(A9 t (Z8 a b)).2=true→Cn t=⟨[-1, -1],3⟩→Fy (Cn t).kids [a.kind,b.kind] 0=some m→KOk (if (Cn t).own == -1 then m else (Cn t).own) (Gd t a b):=fun t h1 h2 hf=>by
  rw [h2] at hf ⊢
  have:=X4 hf rfl
  have e:a.kind=b.kind:=this.2.2 ha hb
  unfold Gd
  rw [h1,if_pos rfl,e]
  simp only [bne_self_eq_false,Bs,if_false]
  exact .val rfl
 have har:∀t:Str,(A9 t (Z8 a b)).2=false→(t==[38])=false→Cn t=⟨[1,1],1⟩→Fy (Cn t).kids [a.kind,b.kind] 0=some m→KOk (if (Cn t).own == -1 then m else (Cn t).own) (Gd t a b):=fun t h1 h2 h3 hf=>by
  rw [h3] at hf ⊢
  have:=js rfl rfl (by decide) rfl rfl (by decide) hf
  unfold Gd
  rw [h1,h2,show Bi [a,b] [1,1]=true by simp [Bi];omega]
  exact KOk.whole (jt _ _ _)
 simp only [By,Hb,or_false] at ht
 rcases ht with rfl|rfl|rfl|rfl|rfl|rfl|rfl|rfl|rfl|rfl|rfl|rfl
 ·exact io
 ·exact io
 ·exact io
 ·exact io
 ·exact io
 ·exact io
 ·exact md
 ·exact md
 ·have h3:Cn [38]=⟨[2,2],2⟩:=rfl
  rw [h3] at hf ⊢
  have:=js rfl rfl (by decide) rfl rfl (by decide) hf
  exact w4 (by omega) (by omega)
 ·exact md
 ·exact md
 exact md
theorem X5 {r:Rs} (h:KOk 3 r):Az r=r:=by
 unfold Az
 split
 ·rename_i e
  simp only [Ak,beq_iff_eq,bne_iff_ne] at e
  have:=h.kind e.1.1
  omega
 rfl
theorem ey {s:Val} {a b:Rs} (ha:KOk 3 a) (hb:KOk 3 b):KOk 3 (Fw s a b):=by
 unfold Fw
 rw [X5 ha,X5 hb]
 split
 ·exact ha
 rename_i h1
 split
 ·exact hb
 simp only [Dj,bne_iff_ne,not_or,Decidable.not_not] at h1
 exact ⟨fun _=>ha.kind h1.1,fun h=>absurd rfl h⟩
theorem Eb {t:Str} {n:Nat} (h:Bx t=(n:Int)):(t=[108,101,110]∧n=1)∨(t=[115,116,114]∧n=1)∨(t=[110,117,109]∧n=1)∨(t=Bm∧n=1)∨(t=Fo∧n=2)∨(t=[108,101,102,116]∧n=2)∨(t=[114,105,103,104,116]∧n=2)∨(t=ifW∧n=3):=by
 by_cases hm:t∈arityList.map (·.1)
 ·have ha:∀s∈arityList.map (·.1),(s=[108,101,110]∧Bx s=1)∨(s=[115,116,114]∧Bx s=1)∨(s=[110,117,109]∧Bx s=1)∨(s=Bm∧Bx s=1)∨(s=Fo∧Bx s=2)∨(s=[108,101,102,116]∧Bx s=2)∨(s=[114,105,103,104,116]∧Bx s=2)∨(s=ifW∧Bx s=3):=by
   have:((arityList.map (·.1)).all fun s=>decide ((s=[108,101,110]∧Bx s=1)∨(s=[115,116,114]∧Bx s=1)∨(s=[110,117,109]∧Bx s=1)∨(s=Bm∧Bx s=1)∨(s=Fo∧Bx s=2)∨(s=[108,101,102,116]∧Bx s=2)∨(s=[114,105,103,104,116]∧Bx s=2)∨(s=ifW∧Bx s=3)))=true:=by kernel_rfl
   exact fun s hs=>of_decide_eq_true (B2.1 this s hs)
  have:=ha t hm
  rw [h] at this
  rcases this with ⟨e,h2⟩|⟨e,h2⟩|⟨e,h2⟩|⟨e,h2⟩|⟨e,h2⟩|⟨e,h2⟩|⟨e,h2⟩|⟨e,h2⟩
  ·exact .inl ⟨e,by omega⟩
  ·exact .inr (.inl ⟨e,by omega⟩)
  ·exact .inr (.inr (.inl ⟨e,by omega⟩))
  ·exact .inr (.inr (.inr (.inl ⟨e,by omega⟩)))
  ·exact .inr (.inr (.inr (.inr (.inl ⟨e,by omega⟩))))
  ·exact .inr (.inr (.inr (.inr (.inr (.inl ⟨e,by omega⟩)))))
  ·exact .inr (.inr (.inr (.inr (.inr (.inr (.inl ⟨e,by omega⟩))))))
  exact .inr (.inr (.inr (.inr (.inr (.inr (.inr ⟨e,by omega⟩))))))
 have h1:Bx t = -1:=by
  unfold Bx
  rw [Jw.2 fun p hp=>by
   simp only [beq_iff_eq]
   rintro rfl
   exact hm (Dd.2 ⟨p,hp,rfl⟩)]
 omega
theorem R8 {k:List Expr} (h:k.length=1):∃a,k=[a]:=by match k,h with|[a],_=>exact ⟨a,rfl⟩
theorem M3 {k:List Expr} (h:k.length=2):∃a b,k=[a,b]:=by match k,h with|[a,b],_=>exact ⟨a,b,rfl⟩
theorem ju {k:List Expr} (h:k.length=3):∃a b c,k=[a,b,c]:=by match k,h with|[a,b,c],_=>exact ⟨a,b,c,rfl⟩
theorem Jq {vs:List Val} {k:Int} (h:vs.map (·.kind)=[k]):∃v,vs=[v]∧v.kind=k:=by
 match vs,h with
 | [v],h=>exact ⟨v,rfl,by simpa using h⟩
theorem Ps {vs:List Val} {k k':Int} (h:vs.map (·.kind)=[k,k']):∃v v',vs=[v,v']∧v.kind=k∧v'.kind=k':=by
 match vs,h with
 | [v,v'],h=>exact ⟨v,v',rfl,by simpa using h⟩
theorem f5 {c:List Col} {l:List Val} (hl:Kb c l=true):∀(n:Nat) (e:Expr),sizeE e≤n→B9 C1 e=true→(B7 c e).2=0→KOk (B7 c e).1 (Af c l e)
 | 0,e,hn,_,_=>by have:=Fi e;omega
 | n+1,e,hn,hnd,hk=>by
  have hnd0:=hnd
  rw [Cj,Ak] at hnd0
  have ih:∀y∈e.kids,(B7 c y).2=0→KOk (B7 c y).1 (Af c l y):=fun y hy h0=>f5 hl n y (jj hn hy) ((Ba _ _).1 hnd0.2 y hy) h0
  obtain ⟨r1,r2,r3⟩:=row_iff.1 hl
  have hNC:=Gc hnd0.1
  cases hNC with
  | val v hp h0 =>
   have:B7 c (Cs v)=(v.kind,0):=by rw [Cs,B7];rfl
   rw [this]
   exact .val rfl
  | name t ht =>
   have e1:B7 c (B6 t)=O3 c t:=by rw [B6,B7];rfl
   have e2:Af c l (B6 t)=Hr c l t:=by rw [Af,B6,D5];rfl
   rw [e1] at hk ⊢
   rw [e2]
   unfold O3 at hk ⊢
   unfold Hr
   split at hk
   ·cases hk
   rename_i hf
   rw [if_neg hf,if_neg hf]
   obtain ⟨j,z,hj,hz,hfj⟩:=find_mem.1 hf
   have hjl:j<l.length:=by rw [r2];exact (Ae.1 hj).1
   have:=r3 j l[j] z (Al hjl) hj
   rw [hfj,Int.toNat_natCast,Ch,Ch,hj,Al hjl]
   exact ⟨fun _=>by show l[j].kind=z.kind∨l[j].kind=0;omega,fun h=>absurd rfl h⟩
  | neg a =>
   rw [F1] at hk ⊢
   obtain ⟨hky,m,hf,ho⟩:=M2 hk rfl rfl
   rw [ho,Af,D5,Ia]
   have hs:Cb 3 []=⟨[1],1⟩:=rfl
   rw [hs] at hf ⊢
   have hm:=jr rfl rfl (by decide) hf
   show KOk 1 (D9 (Aj 3 []) ([a].map (D5 Aj c l)))
   refine Qg (g:=fun y=>(B7 c y).1) (fun y hy=>ih y hy (hky y hy)) (fun vs hvs hnz=>?_)
   obtain ⟨v,rfl,hv⟩:=Jq hvs
   have hv0:=hnz v (by simp)
   have hv1:v.kind=1:=by omega
   unfold Aj
   rw [show Bi [v] [1]=true by simp [Bi,hv1]]
   exact KOk.whole (rx _ _)
  | no a =>
   rw [F1] at hk ⊢
   obtain ⟨hky,m,hf,ho⟩:=M2 hk rfl rfl
   rw [ho,Af,D5,Ia]
   have hs:Cb 4 []=⟨[3],3⟩:=rfl
   rw [hs] at hf ⊢
   have hm:=jr rfl rfl (by decide) hf
   show KOk 3 (D9 (Aj 4 []) ([a].map (D5 Aj c l)))
   refine Qg (g:=fun y=>(B7 c y).1) (fun y hy=>ih y hy (hky y hy)) (fun vs hvs hnz=>?_)
   obtain ⟨v,rfl,hv⟩:=Jq hvs
   have hv0:=hnz v (by simp)
   have hv1:v.kind=3:=by omega
   unfold Aj
   rw [show Bi [v] [3]=true by simp [Bi,hv1]]
   exact KOk.val rfl
  | bin t a b ht =>
   rw [Gx] at hk ⊢
   obtain ⟨hky,m,hf,ho⟩:=M2 hk rfl rfl
   have ha:=ih a (by simp [Gx,Expr.kids]) (hky a (by simp))
   have hb:=ih b (by simp [Gx,Expr.kids]) (hky b (by simp))
   rw [ho,Af,D5,Ia]
   rw [show Cb 5 t=Cn t from rfl] at hf ⊢
   have hmem:t∈levels.flatten:=by
    rcases Hq t with h|h
    ·exact h
    omega
   by_cases h1:(t==orW)=true
   ·have e:t=orW:=by simpa using h1
    subst e
    rw [show Cn orW=⟨[3,3],3⟩ from rfl] at hf ⊢
    have hm:((B7 c a).1=0∨(B7 c a).1=3)∧((B7 c b).1=0∨(B7 c b).1=3):=js rfl rfl (by decide) rfl rfl (by decide) hf
    exact ey (ha.mono (by omega)) (hb.mono (by omega))
   by_cases h2:(t==Pq)=true
   ·have e:t=Pq:=by simpa using h2
    subst e
    rw [show Cn Pq=⟨[3,3],3⟩ from rfl] at hf ⊢
    have hm:((B7 c a).1=0∨(B7 c a).1=3)∧((B7 c b).1=0∨(B7 c b).1=3):=js rfl rfl (by decide) rfl rfl (by decide) hf
    exact ey (ha.mono (by omega)) (hb.mono (by omega))
   have e:Eh Aj c l 5 t noV ([a,b].map (D5 Aj c l))=D9 (Aj 5 t) ([a,b].map (D5 Aj c l)):=by
    unfold Eh
    rw [show (t==orW)=false by simpa using h1,show (t==Pq)=false by simpa using h2]
    rfl
   rw [e]
   have hm12:t∈[[61],[33,61],[60],[60,61],[62],[62,61],[43],[45],[38],[42],[47],[37]]:=by
    have h1':t≠orW:=by simpa using h1
    have h2':t≠Pq:=by simpa using h2
    simp only [levels,List.flatten_cons,List.flatten_nil,E0,Dz,Hu,By,Hb,or_false] at hmem ⊢
    rcases hmem with h|h|h
    ·exact absurd h h1'
    ·exact absurd h h2'
    exact h
   refine Qg (g:=fun y=>(B7 c y).1) (fun y hy=>ih y hy (hky y hy)) (fun vs hvs hnz=>?_)
   obtain ⟨v,v',rfl,hv,hv'⟩:=Ps hvs
   have hf':Fy (Cn t).kids [v.kind,v'.kind] 0=some m:=by rw [hv,hv'];exact hf
   exact zj hm12 hf' (hnz v (by simp)) (hnz v' (by simp))
  | call t k ht =>
   obtain ⟨hky,m,hf,ho⟩:=M2 hk rfl rfl
   rw [ho,Af,D5,Ia]
   rw [show Cb 6 t=Dg t from rfl] at hf ⊢
   rcases Eb ht with ⟨rfl,hn1⟩|⟨rfl,hn1⟩|⟨rfl,hn1⟩|⟨rfl,hn1⟩|⟨rfl,hn1⟩|⟨rfl,hn1⟩|⟨rfl,hn1⟩|⟨rfl,hn1⟩
   ·obtain ⟨a,rfl⟩:=R8 hn1
    have hs:Dg [108,101,110]=⟨[2],1⟩:=rfl
    rw [hs] at hf ⊢
    have hm:=jr rfl rfl (by decide) hf
    show KOk 1 (D9 (Aj 6 [108,101,110]) ([a].map (D5 Aj c l)))
    refine Qg (g:=fun y=>(B7 c y).1) (fun y hy=>ih y hy (hky y hy)) (fun vs hvs hnz=>?_)
    obtain ⟨v,rfl,hv⟩:=Jq hvs
    have hv0:=hnz v (by simp)
    have hv1:v.kind=2:=by omega
    show KOk 1 (F5 [108,101,110] v)
    unfold F5
    rw [hv1]
    exact KOk.val rfl
   ·obtain ⟨a,rfl⟩:=R8 hn1
    have hs:Dg [115,116,114]=⟨[1],2⟩:=rfl
    rw [hs] at hf ⊢
    have hm:=jr rfl rfl (by decide) hf
    show KOk 2 (D9 (Aj 6 [115,116,114]) ([a].map (D5 Aj c l)))
    refine Qg (g:=fun y=>(B7 c y).1) (fun y hy=>ih y hy (hky y hy)) (fun vs hvs hnz=>?_)
    obtain ⟨v,rfl,hv⟩:=Jq hvs
    have hv0:=hnz v (by simp)
    have hv1:v.kind=1:=by omega
    show KOk 2 (F5 [115,116,114] v)
    unfold F5
    rw [hv1]
    exact KOk.val rfl
   ·obtain ⟨a,rfl⟩:=R8 hn1
    have hs:Dg [110,117,109]=⟨[2],1⟩:=rfl
    rw [hs] at hf ⊢
    have hm:=jr rfl rfl (by decide) hf
    show KOk 1 (D9 (Aj 6 [110,117,109]) ([a].map (D5 Aj c l)))
    refine Qg (g:=fun y=>(B7 c y).1) (fun y hy=>ih y hy (hky y hy)) (fun vs hvs hnz=>?_)
    obtain ⟨v,rfl,hv⟩:=Jq hvs
    have hv0:=hnz v (by simp)
    have hv1:v.kind=2:=by omega
    show KOk 1 (F5 [110,117,109] v)
    unfold F5
    rw [hv1]
    exact KOk.whole (ry _)
   ·obtain ⟨a,rfl⟩:=R8 hn1
    have ha:=ih a (by simp [Expr.kids]) (hky a (by simp))
    have hs:Dg Bm=⟨[-2],3⟩:=rfl
    rw [hs]
    show KOk 3 (Dc Bm (Af c l a) (noV,0) (noV,0))
    unfold Dc
    rw [show (Bm==ifW)=false from rfl,show (Bm==Bm)=true from rfl]
    simp only [Bs,if_false,if_true]
    split
    ·rename_i h;exact .wrong (ha.err (by simpa using h))
    exact .val rfl
   ·obtain ⟨a,b,rfl⟩:=M3 hn1
    have ha:=ih a (by simp [Expr.kids]) (hky a (by simp))
    have hb:=ih b (by simp [Expr.kids]) (hky b (by simp))
    have hs:Dg Fo=⟨[-1, -1], -1⟩:=rfl
    rw [hs] at hf ⊢
    have hm:((B7 c a).1=0∨(B7 c a).1=m)∧((B7 c b).1=0∨(B7 c b).1=m)∧((B7 c a).1≠0→(B7 c b).1≠0→(B7 c a).1=(B7 c b).1):=X4 hf rfl
    show KOk m (Dc Fo (Af c l a) (Af c l b) (noV,0))
    unfold Dc
    rw [show (Fo==ifW)=false from rfl,show (Fo==Bm)=false from rfl]
    simp only [Bs,if_false]
    split
    ·rename_i h;exact .wrong (ha.err (by simpa using h))
    rename_i h
    split
    ·rename_i h2
     have:=ha.kind (by simpa using h)
     have h2:(Af c l a).1.kind≠0:=by simpa using h2
     exact .val (by omega)
    exact hb.mono (by omega)
   ·obtain ⟨a,b,rfl⟩:=M3 hn1
    have hs:Dg [108,101,102,116]=⟨[2,1],2⟩:=rfl
    rw [hs] at hf ⊢
    have hm:=js rfl rfl (by decide) rfl rfl (by decide) hf
    show KOk 2 (D9 (Aj 6 [108,101,102,116]) ([a,b].map (D5 Aj c l)))
    refine Qg (g:=fun y=>(B7 c y).1) (fun y hy=>ih y hy (hky y hy)) (fun vs hvs hnz=>?_)
    obtain ⟨v,v',rfl,hv,hv'⟩:=Ps hvs
    have hv0:=hnz v (by simp)
    have hv0':=hnz v' (by simp)
    have hv1:v.kind=2:=by omega
    have hv1':v'.kind=1:=by omega
    unfold Aj
    rw [show Bi [v,v'] [2,1]=true by simp [Bi,hv1,hv1']]
    exact KOk.val rfl
   ·obtain ⟨a,b,rfl⟩:=M3 hn1
    have hs:Dg [114,105,103,104,116]=⟨[2,1],2⟩:=rfl
    rw [hs] at hf ⊢
    have hm:=js rfl rfl (by decide) rfl rfl (by decide) hf
    show KOk 2 (D9 (Aj 6 [114,105,103,104,116]) ([a,b].map (D5 Aj c l)))
    refine Qg (g:=fun y=>(B7 c y).1) (fun y hy=>ih y hy (hky y hy)) (fun vs hvs hnz=>?_)
    obtain ⟨v,v',rfl,hv,hv'⟩:=Ps hvs
    have hv0:=hnz v (by simp)
    have hv0':=hnz v' (by simp)
    have hv1:v.kind=2:=by omega
    have hv1':v'.kind=1:=by omega
    unfold Aj
    rw [show Bi [v,v'] [2,1]=true by simp [Bi,hv1,hv1']]
    exact KOk.val rfl
   obtain ⟨a,b,d,rfl⟩:=ju hn1
   have ha:=ih a (by simp [Expr.kids]) (hky a (by simp))
   have hb:=ih b (by simp [Expr.kids]) (hky b (by simp))
   have hd:=ih d (by simp [Expr.kids]) (hky d (by simp))
   have hs:Dg ifW=⟨[3, -1, -1], -1⟩:=rfl
   rw [hs] at hf ⊢
   have hf':Fy [3] [(B7 c a).1] 0=some 0∧Fy [-1, -1] [(B7 c b).1,(B7 c d).1] 0=some m:=by
    simp only [Dk,Kt] at hf
    rw [Fy] at hf
    simp only [show ((3:Int) == -2)=false from rfl,show ((3:Int) == -1)=false from rfl,Bs,if_false] at hf
    split at hf
    ·rename_i hm
     refine ⟨?_,hf⟩
     rw [Fy]
     simp only [show ((3:Int) == -2)=false from rfl,show ((3:Int) == -1)=false from rfl,Bs,if_false,hm,if_true]
     rw [Fy]
    cases hf
   have hm1:=jr rfl rfl (by decide) hf'.1
   have hm:=X4 hf'.2 rfl
   show KOk m (Dc ifW (Af c l a) (Af c l b) (Af c l d))
   unfold Dc
   rw [show (ifW==ifW)=true from rfl,if_pos rfl,X5 (ha.mono (by omega))]
   split
   ·rename_i h;exact .wrong (ha.err (by simpa using h))
   split
   ·exact hb.mono (by omega)
   exact hd.mono (by omega)
set_option maxRecDepth 4000
theorem Jr {e:Expr} (h:C1 e=true):(e.op=5→e.kids.length=2)∧(e.op=3∨e.op=4→e.kids.length=1)∧(e.op=6→Bx e.text=(e.kids.length:Int))∧(e.op=1∨e.op=2∨e.op=3∨e.op=4∨e.op=5∨e.op=6):=by
 cases Gc h with
 | val v hp h0=>simp [Cs,Expr.op]
 | name t ht=>simp [B6,Expr.op]
 | neg a=>simp [F1,Expr.op,Expr.kids]
 | no a=>simp [F1,Expr.op,Expr.kids]
 | bin t a b ht=>simp [Gx,Expr.op,Expr.kids]
 | call t k ht=>simpa [Expr.op,Expr.kids,Expr.text] using ht
theorem Fz {k:List Expr} {i:Nat} (h:i<k.length):(k.map Aa)[i]? = some (Aa (k.getD i A8))∧k.getD i A8∈k∧∀(f:Expr→Rs) (d:Rs),(k.map f).getD i d=f (k.getD i A8):=by
 have e:k.getD i A8=k[i]:=by rw [Ch,Al h];rfl
 rw [e]
 refine ⟨by simp [h],Db h,fun f d=>?_⟩
 rw [Ch,Ce,Al h]
 rfl
theorem X6 {c:List Col} {l:List Val} {e:Expr} (h1:(e.op==1)=false) (h2:(e.op==2)=false) (h3:((e.op==5)&&(e.text==orW))=false) (h4:((e.op==5)&&(e.text==Pq))=false) (h5:((e.op==6)&&(((e.text==ifW) || (e.text==Fo)) || (e.text==Bm)))=false):Af c l e=D9 (Aj e.op e.text) (e.kids.map (Af c l)):=by
 rw [Af,E7]
 unfold Eh
 rw [h1,h2,h3,h4,h5]
 rfl
theorem rz {c:List Col} {l:List Val} (hf:∀v∈l,Fine v) {e:Expr} (hnd:B9 C1 e=true) (hrg:B9 Cg e=true) (hv:B9 J5 e=true) (h5:((e.op==6)&&(((e.text==ifW) || (e.text==Fo)) || (e.text==Bm)))=false):ArgsOk e.op (e.kids.map fun y=>(Af c l y).1):=by
 rw [Cj,Ak] at hnd hrg hv
 obtain ⟨k5,k34,k6,_⟩:=Jr hnd.1
 refine ⟨fun h=>?_,fun h=>by rw [Bp];exact k34 h,fun h=>?_,fun v hv'=>?_⟩
 ·obtain ⟨a,b,e⟩:=M3 (k5 h)
  rw [e]
  exact ⟨_,_,rfl⟩
 ·rw [Bp]
  rw [h] at h5
  simp only [beq_self_eq_true,Mj,F7,beq_eq_false_iff_ne] at h5
  rcases Eb (k6 h) with ⟨_,h⟩|⟨_,h⟩|⟨_,h⟩|⟨e,_⟩|⟨e,_⟩|⟨_,h⟩|⟨_,h⟩|⟨e,_⟩
  ·exact .inl h
  ·exact .inl h
  ·exact .inl h
  ·exact absurd e h5.2
  ·exact absurd e h5.1.2
  ·obtain ⟨a,b,e⟩:=M3 h
   rw [e]
   exact .inr ⟨_,_,rfl⟩
  ·obtain ⟨a,b,e⟩:=M3 h
   rw [e]
   exact .inr ⟨_,_,rfl⟩
  exact absurd e h5.1.1
 obtain ⟨y,hy,rfl⟩:=Dd.1 hv'
 exact Gk hf y ((Ba _ _).1 hv.2 y hy) ((Ba _ _).1 hrg.2 y hy)
theorem Qh (a b d:Rs):Dc Bm a b d=Dc Bm a (noV,0) (noV,0):=by
 unfold Dc
 rw [show (Bm==ifW)=false from rfl,show (Bm==Bm)=true from rfl]
 rfl
theorem cr {t:Str} (h:(t==ifW)=false) (a b d d':Rs):Dc t a b d=Dc t a b d':=by
 unfold Dc
 rw [h]
 rfl
theorem Zf {t:Str} (h:(t==Bm)=true) (a b b' d d':Rs):Dc t a b d=Dc t a b' d':=by
 have e:t=Bm:=by simpa using h
 subst e
 rw [Qh,Qh a b' d']
theorem jv {t:Str} {k:List Expr} {f:Expr→Rs} {a:Rs} (h1:(t==Bm)=false→1<k.length) (h2:(t==ifW)=true→2<k.length):Dc t a ((k.map f).getD 1 (noV,0)) ((k.map f).getD 2 (noV,0))=Dc t a (f (k.getD 1 A8)) (f (k.getD 2 A8)):=by
 cases hn:t==Bm with
 | true=>exact Zf hn _ _ _ _ _
 | false =>
  rw [(Fz (h1 hn)).2.2]
  cases hi:t==ifW with
  | true=>rw [(Fz (h2 hi)).2.2]
  | false=>exact cr hi _ _ _ _
theorem c44 (c:List Col) (l:List Val) (hc:OkCols c) (hl:l.length=c.length) (hf:∀v∈l,Fine v):∀(n:Nat) (e:Expr),okE n e→B9 C1 e=true→B9 Cg e=true→B9 J5 e=true→I8 c l e (Af c l e):=by
 intro n
 induction n with
 | zero=>exact fun e h=>h.elim
 | succ n ih =>
 intro e hok hnd hrg hvo Hp
 have hnd0:=hnd
 have hrg0:=hrg
 have hvo0:=hvo
 rw [Cj,Ak] at hnd0 hrg0 hvo0
 have hev:∀y∈e.kids,I8 c l y (Af c l y):=fun y hy=>ih y (hok.2.2 y hy) ((Ba _ _).1 hnd0.2 y hy) ((Ba _ _).1 hrg0.2 y hy) ((Ba _ _).1 hvo0.2 y hy)
 obtain ⟨k5,k34,k6,_⟩:=Jr hnd0.1
 have hev0:Af c l e=Eh Aj c l e.op e.text e.val (e.kids.map (Af c l)):=E7 _ _ _ _
 refine Aq [.cell 4 23,.tmp 5] [0,1] Tryz.func44 Tryz.ntmps44 (fun d=>?_)
 refine Z1 ?_;refine m5 ?_;refine Z27 ?_;refine Z17 ?_;refine A2 [2,3,4,7] ?_
 refine A4 (fun ht7=>?_) (fun ht7=>?_)
 ·have hm:Af c l e=(e.val,0):=by rw [hev0];unfold Eh;rw [if_pos ht7]
  refine Z1 ?_;exact Z66
 refine Z17 ?_;refine A2 [2,3,4,13] ?_
 refine A4 (fun ht13=>?_) (fun ht13=>?_)
 ·have hm0:Af c l e=Hr c l e.text:=by rw [hev0];unfold Eh;rw [if_neg (by rw [ht7];simp),if_pos ht13]
  refine Z17 ?_;refine Ac Tryz.call58 (c58 c hc e.text _) ?_;refine A7 ?_;refine A2 [2,4,6] ?_;refine Z32 ?_;refine A2 [2,4,6,23] ?_
  refine A4 (fun ht23=>?_) (fun ht23=>?_)
  ·have hm:Af c l e=Br 9:=by rw [hm0];exact if_pos (by simpa using ht23)
   refine U1 ?_;refine Z36 ?_;refine Cp ?_;exact Z15
  have hneg:¬(Ez e.text c<0):=by simpa using ht23
  obtain ⟨j,hj,hjc⟩:=Zd hneg
  have hjl:j<l.length:=by omega
  have hm:Af c l e=(l[j],0):=by
   rw [hm0]
   unfold Hr
   rw [if_neg hneg,hj,Int.toNat_natCast,Ch,Al hjl]
   rfl
  rw [hj]
  refine U4 ?_
  refine A7 (h:=Ax (j) (Bq l[j]) (fun _=>Cu hjl)) (hr:=?_)
  refine A7 ?_;exact Z66
 refine Wh ?_;refine A2 [2,3,4,32] ?_
 refine A4 (fun ht32=>?_) (fun ht32=>?_)
 ·have h32:((e.op==5)&&(e.text==orW))=true:=ht32
  have hop:e.op=5:=by simp only [Ak,beq_iff_eq] at h32;exact h32.1
  have hkl:=k5 hop
  have hm:Af c l e=Fw (C7 true) (Af c l (e.kids.getD 0 A8)) (Af c l (e.kids.getD 1 A8)):=by rw [hev0];unfold Eh;rw [if_neg (by rw [ht7];simp),if_neg (by rw [ht13];simp),if_pos h32,(Fz (by omega)).2.2,(Fz (by omega)).2.2]
  refine xw ?_;refine Cy Tryz.call88 (c88 _ _) ?_;refine Cy Tryz.call87 (c87 c l e (e.kids.getD 0 A8) (e.kids.getD 1 A8) (C7 true) _ _ (Fz (by omega)).1 (Fz (by omega)).1 (hev _ (Fz (by omega)).2.1) (hev _ (Fz (by omega)).2.1) _) ?_;refine Z91 ?_;exact Z66
 have h32:((e.op==5)&&(e.text==orW))=false:=ht32
 refine Wh ?_;refine A2 [2,3,4,47] ?_
 refine A4 (fun ht47=>?_) (fun ht47=>?_)
 ·have h47:((e.op==5)&&(e.text==Pq))=true:=ht47
  have hop:e.op=5:=by simp only [Ak,beq_iff_eq] at h47;exact h47.1
  have hkl:=k5 hop
  have hm:Af c l e=Fw (C7 false) (Af c l (e.kids.getD 0 A8)) (Af c l (e.kids.getD 1 A8)):=by rw [hev0];unfold Eh;rw [if_neg (by rw [ht7];simp),if_neg (by rw [ht13];simp),if_neg (by rw [h32];simp),if_pos h47,(Fz (by omega)).2.2,(Fz (by omega)).2.2]
  refine xw ?_;refine Cy Tryz.call88 (c88 _ _) ?_;refine Cy Tryz.call87 (c87 c l e (e.kids.getD 0 A8) (e.kids.getD 1 A8) (C7 false) _ _ (Fz (by omega)).1 (Fz (by omega)).1 (hev _ (Fz (by omega)).2.1) (hev _ (Fz (by omega)).2.1) _) ?_;refine Z91 ?_;exact Z66
 have h47:((e.op==5)&&(e.text==Pq))=false:=ht47
 refine Z17 ?_;refine Z45 ?_;refine Z45 ?_;refine Z45 ?_;refine Z35 ?_;refine A2 [2,3,4,62] ?_
 refine A4 (fun ht62=>?_) (fun ht62=>?_)
 ·have h62:((e.op==6)&&(((e.text==ifW) || (e.text==Fo)) || (e.text==Bm)))=true:=ht62
  obtain ⟨hkl,hl1,hl2⟩:0<e.kids.length∧((e.text==Bm)=false→1<e.kids.length)∧((e.text==ifW)=true→2<e.kids.length):=by
   have h:=h62
   simp only [Ak,Dj,beq_iff_eq] at h
   have ha:=k6 h.1
   rcases h.2 with (h1|h1)|h1
   ·rw [h1] at ha ⊢
    have:e.kids.length=3:=by
     have:Bx ifW=3:=by kernel_rfl
     omega
    exact ⟨by omega,fun _=>by omega,fun _=>by omega⟩
   ·rw [h1] at ha ⊢
    have:e.kids.length=2:=by
     have:Bx Fo=2:=by kernel_rfl
     omega
    exact ⟨by omega,fun _=>by omega,fun h=>absurd h (by decide)⟩
   rw [h1] at ha ⊢
   have:e.kids.length=1:=by
    have:Bx Bm=1:=by kernel_rfl
    omega
   exact ⟨by omega,fun h=>absurd h (by decide),fun h=>absurd h (by decide)⟩
  have hm:Af c l e=Dc e.text (Af c l (e.kids.getD 0 A8)) (Af c l (e.kids.getD 1 A8)) (Af c l (e.kids.getD 2 A8)):=by
   rw [hev0]
   unfold Eh
   rw [if_neg (by rw [ht7];simp),if_neg (by rw [ht13];simp),if_neg (by rw [h32];simp),if_neg (by rw [h47];simp),if_pos h62,(Fz hkl).2.2]
   exact jv hl1 hl2
  refine Z1 ?_;refine Ac Tryz.call89 (c89 c l e (e.kids.getD 0 A8) (e.kids.getD 1 A8) (e.kids.getD 2 A8) _ _ _ (Fz (by omega)).1 (fun h=>(Fz (hl1 h)).1) (fun h=>(Fz (hl2 h)).1) (hev _ (Fz (by omega)).2.1) (fun h=>hev _ (Fz (hl1 h)).2.1) (fun h=>hev _ (Fz (hl2 h)).2.1) _) ?_;refine Z0 ?_;exact Z66
 have h62:((e.op==6)&&(((e.text==ifW) || (e.text==Fo)) || (e.text==Bm)))=false:=ht62
 have hm:=X6 (c:=c) (l:=l) ht7 ht13 h32 h47 h62
 refine Y1 ?_;refine Ac Tryz.call90 (c90 c l e hok.2.1 hev (fun _=>rz hf hnd hrg hvo h62) _) ?_;refine Z0 ?_;exact Z42

end Go.SX.Nb
