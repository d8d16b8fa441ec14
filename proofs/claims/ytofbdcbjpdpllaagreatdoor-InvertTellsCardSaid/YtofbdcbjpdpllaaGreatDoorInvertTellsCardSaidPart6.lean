/- On the way (part 6). -/
import Derived.ReadAgain
import Derived.ChangeSame
import Derived.ChangeArms
import Derived.ChangeOld
import Derived.ChangeFn
import Derived.MapPlaces
import Derived.DataReads
import Derived.OpenShut
import Derived.RowKit
import Derived.Deep.DeepHandedRow
import Derived.Test.YtofbdcbjpdpllaaGreatDoorCards
import Derived.Test.YtofbdcbjpdpllaaGreatDoorTie
import Derived.Lay
import Derived.Lib.LaidTab
import Derived.Stop.LaidErr
import Derived.Shelf.Vars
import Derived.ChangeBears
import Derived.Lib.ParseIntBTie
import Derived.Test.YtofbdcbjpdpllaaGreatDoorInvertTellsCardSaidPart5
set_option linter.all false
namespace Go.SX
variable [GI:GlobInv]
open Classical Go.RowKit Go.ChangeShapes
section
variable {P:Program} {H:Type} {enc:TypeId×Value→H}

/-- The first ghost: whatever lies there is read for good. -/
noncomputable def G0 (W:World):Gh:=⟨fun b o=>if (W.cell? ⟨b,o,none⟩).isSome then .fix else .free,fun _=>0,0⟩
theorem ALb {W:World} {b o:Nat} {u:Value} (h:W.cell? ⟨b,o,none⟩=some u):(G0 W).tag b o=.fix:=by simp [G0,h]
theorem Uq {W:World} {b:Nat} (h:b<W.heap.size):Kb (G0 W) W b:=⟨h,fun o=>by simp only [G0];split<;>simp,fun i hi=>absurd hi (Nat.not_lt_zero _)⟩
theorem AGk (W:World):HeapRel (G0 W) [] W:=⟨fun i x h=>by simp at h,rfl,fun i j hi=>absurd hi (Nat.not_lt_zero _)⟩
theorem AGl {W:World} (h:Lc W):TagOK (G0 W) W:=by
 refine ⟨fun b o hb=>?_,fun b o i hb=>?_,fun b o L hb=>?_,fun x hx=>?_⟩
 ·simp only [G0] at hb
  split at hb
  ·rename_i hs;exact Option.isSome_iff_exists.1 hs
  exact absurd rfl hb
 ·simp only [G0] at hb;split at hb<;>cases hb
 ·simp only [G0] at hb;split at hb<;>cases hb
 obtain ⟨v,h1,h2⟩:=h x hx
 exact ⟨Uq (Oc.1 h1).1,v,h1,h2⟩

/-- What a datum of a plain type ARp as. -/
inductive DRep (P:Program):TypeId→DataW H→AV→Prop
 | int {t:TypeId} {k:IntKind} {n:Int} (hu:P.underlying t=some (.int k)) (wf:(Lit.int k n).wf=true):DRep P t (.lit (.int k n)) (.v (.int k n))
 | bool {t:TypeId} {b:Bool} (hu:P.underlying t=some .bool):DRep P t (.lit (.bool b)) (.v (.bool b))
 | str {t:TypeId} {bs:List UInt8} (hu:P.underlying t=some .string):DRep P t (.lit (.string bs)) (.v (sv bs))
 | nil {t e:TypeId} (hu:P.underlying t=some (.slice e)):DRep P t .nil (.slice false (P.cellsOf e) [])
 | slice {t e:TypeId} {elems spare:List (DataW H)} {ys:List AV} (hu:P.underlying t=some (.slice e)) (hn:ys.length=elems.length)
   (h:∀(i:Nat) (d:DataW H) (y:AV),elems[i]? = some d→ys[i]? = some y→DRep P e d y):DRep P t (.slice elems spare) (.slice false (P.cellsOf e) ys)
 | struct {t:TypeId} {fs:Array Field} {parts:List (DataW H)} {ys:List AV} (hu:P.underlying t=some (.struct fs)) (hn:parts.length=fs.size) (hn':ys.length=fs.size)
   (h:∀(i:Nat) (f:Field) (d:DataW H) (y:AV),fs[i]? = some f→parts[i]? = some d→ys[i]? = some y→DRep P f.type d y):DRep P t (.agg parts) (.agg (ys.flatMap AV.cells))

/-- Types that are made of numbers, texts, bools, slices and structs alone. -/
structure PlainT (P:Program) (T:TypeId→Prop):Prop where
 look:∀t,T t→(P.cellsOf t=1∧((∃k,P.underlying t=some (.int k))∨P.underlying t=some .bool∨P.underlying t=some .string∨(∃e,P.underlying t=some (.slice e)∧T e∧0<P.cellsOf e))) ∨
  (∃fs,P.underlying t=some (.struct fs)∧(∀f∈fs.toList,T f.type)∧P.cellsOf t=(fs.toList.map fun f=>P.cellsOf f.type).sum ∧
   ∀(j:Nat) (f:Field),fs.toList[j]? = some f→f.offset=((fs.toList.take j).map fun f=>P.cellsOf f.type).sum)

/-- The reading of a row of cells. -/
def CRep (W:World) (y:AV) (cs:List Value):Prop:=
 y.cells.length=cs.length∧(∀c∈y.cells,c.one=true)∧∀(j:Nat) (c:AV) (v:Value),y.cells[j]? = some c→cs[j]? = some v→Rep (G0 W) W none c v

theorem CRep.v1 {W:World} {x:Value} (h:x.oneCell'=true):CRep W (.v x) [x]:=
 ⟨rfl,by simp [AV.cells,AV.one,h],fun j c v h1 h2=>by
  match j with
  | 0=>simp [AV.cells] at h1 h2;subst h1;subst h2;exact .v _ _
  | j+1=>simp [AV.cells] at h1⟩

theorem ka {f:AV→List AV}:∀(ys:List AV) (j:Nat) (c:AV),(ys.flatMap f)[j]? = some c→∃(i:Nat) (y:AV) (q:Nat),ys[i]? = some y∧(f y)[q]? = some c∧j=((ys.take i).map fun y=>(f y).length).sum+q
 | [],j,c,h=>by simp at h
 | y::r,j,c,h=>by
  rw [X9] at h
  rcases Bn j (f y).length with h'|h'
  ·rw [E5 h'] at h
   exact ⟨0,y,j,rfl,h,by simp⟩
  rw [E6 h'] at h
  obtain ⟨i,z,q,h1,h2,h3⟩:=ka r _ c h
  exact ⟨i+1,z,q,h1,h2,by simp only [List.take_succ_cons,Ci,List.sum_cons];omega⟩
theorem P6 {α:Type} {R:Nat→α→Prop}:∀(n:Nat),(∀i,i<n→∃y,R i y)→∃ys:List α,ys.length=n∧∀(i:Nat) (y:α),ys[i]? = some y→R i y
 | 0,_=>⟨[],rfl,fun i y h=>by simp at h⟩
 | n+1,h=>by
  obtain ⟨ys,h1,h2⟩:=P6 n (fun i hi=>h i (by omega))
  obtain ⟨y,hy⟩:=h n (by omega)
  refine ⟨ys++[y],by simp [h1],fun i z hz=>?_⟩
  rcases Bn i n with h'|h'
  ·rw [E5 (by omega)] at hz;exact h2 i z hz
  rw [E6 (by omega)] at hz
  have:i=n:=by
   have:=(Ak.1 hz).1
   simp at this;omega
  subst this
  rw [h1] at hz
  simp at hz
  exact hz ▸ hy
theorem Rl {α β:Type} {f:α→Nat} {g:β→Nat}:∀(l:List α) (m:List β),l.length=m.length→(∀(i:Nat) (a:α) (b:β),l[i]? = some a→m[i]? = some b→f a=g b)→(l.map f).sum=(m.map g).sum
 | [],[],_,_=>rfl
 | [],b::m,h,_=>by simp at h
 | a::l,[],h,_=>by simp at h
 | a::l,b::m,h,hh=>by
  simp only [Ci,List.sum_cons]
  rw [hh 0 a b rfl rfl,Rl l m (by simpa using h) (fun i a b h1 h2=>hh (i+1) a b h1 h2)]

theorem ACe {T:TypeId→Prop} (PT:PlainT P T) {W:World}:∀(n:Nat) (t:TypeId) (cs:List Value) (x:DataW H×List MemPlace),T t→DataW.trod enc P W 0 (fun _=>true) true n t cs=some x →
  ∃y,DRep P t x.1 y∧CRep W y cs∧cs.length=P.cellsOf t:=by
 intro n
 induction n with
 | zero=>intro t cs x _ h;simp [DataW.trod] at h
 | succ n ih =>
  intro t cs x hT h
  rcases PT.look t hT with ⟨hc1,⟨k,hu⟩|hu|hu|⟨e,hu,he,hz⟩⟩|⟨fs,hu,hf,hsum,hoff⟩
  ·obtain ⟨m,rfl,rfl,hw⟩:=DataW.trod_int hu h
   exact ⟨_,.int hu hw,.v1 rfl,hc1.symm⟩
  ·obtain ⟨b,rfl,rfl⟩:=DataW.trod_bool hu h
   exact ⟨_,.bool hu,.v1 rfl,hc1.symm⟩
  ·obtain ⟨s,rfl,rfl,_⟩:=DataW.trod_string hu h
   exact ⟨_,.str hu,.v1 rfl,hc1.symm⟩
  ·rcases DataW.trod_slice hu h with ⟨rfl,rfl⟩|⟨a,len,cap,elems,rest,m,hm,rfl,rfl,hb,hlc,hcm,hel,hE,_,_⟩
   ·refine ⟨_,.nil hu,⟨rfl,by simp [AV.cells,AV.one],fun j c v h1 h2=>?_⟩,hc1.symm⟩
    match j with
    | 0=>simp [AV.cells] at h1 h2;subst h1;subst h2;exact .slice0 _ _ _
    | j+1=>simp [AV.cells] at h1
   injection hm with hm
   subst hm
   subst hel
   have hEi:∀i,i<elems.length→∃y,(∀d,elems[i]? = some d→DRep P e d.1 y)∧∃ci,W.cells? 0 (a.add (i*P.cellsOf e)) (P.cellsOf e)=some ci∧CRep W y ci:=fun i hi=>by
    have h1:=hE i hi
    rw [Ae hi,Option.bind_eq_some_iff] at h1
    obtain ⟨ci,h2,h3⟩:=h1
    obtain ⟨y,h4,h5,_⟩:=ih e ci _ he h3
    exact ⟨y,fun d hd=>by rw [Ae hi] at hd;injection hd with hd;subst hd;exact h4,ci,h2,h5⟩
   obtain ⟨ys,hyl,hys⟩:=P6 elems.length hEi
   refine ⟨.slice false (P.cellsOf e) ys,.slice hu (by simp [hyl]) (fun i d y hd hy=>?_),⟨rfl,by simp [AV.cells,AV.one],fun j c v h1 h2=>?_⟩,hc1.symm⟩
   ·rw [Cp,Ez] at hd
    obtain ⟨d',hd',rfl⟩:=hd
    exact (hys i y hy).1 d' hd'
   match j with
   | j+1=>simp [AV.cells] at h1
   | 0 =>
    simp [AV.cells] at h1 h2
    subst h1;subst h2
    by_cases h0:elems.length=0
    ·have:ys=[]:=N4 (by omega)
     subst this
     rw [h0]
     exact .sliceE _ _ _ _
    have hspot:a.spot=none:=by
     obtain ⟨ci,hci,_⟩:=(hys 0 ys[0] (Ae (by omega))).2
     obtain ⟨_,g1,g2⟩:=World.cells?_some hci
     have g3:=g2 0 hz
     rw [Ae (by omega)] at g3
     simp only [Sf,Addr.add,if_true] at g3
     unfold World.cell? at g3
     split at g3
     ·split at g3
      ·cases g3
      rename_i hs;simpa using hs
     cases g3
    refine .slice _ false _ ys a _ cap (fun i j=>(W.cell? ⟨a.block,a.off+i*P.cellsOf e+j,none⟩).getD undef) hspot hyl.symm hlc (fun x hx=>?_) (fun x hx=>?_) (fun i x j y hx hy=>?_) (fun i x j y hx hy=>?_) (fun h=>by cases h)
    ·obtain ⟨i,hi⟩:=Cr hx
     obtain ⟨ci,hci,hcr⟩:=(hys i x hi).2
     rw [hcr.1]
     exact (World.cells?_some hci).2.1
    ·obtain ⟨i,hi⟩:=Cr hx
     obtain ⟨ci,hci,hcr⟩:=(hys i x hi).2
     exact hcr.2.1
    ·obtain ⟨ci,hci,hcr⟩:=(hys i x hx).2
     obtain ⟨_,g1,g2⟩:=World.cells?_some hci
     have hj:j<P.cellsOf e:=by
      have:=(Ak.1 hy).1
      rw [hcr.1] at this;omega
     have g3:=g2 j hj
     rw [Ae (by omega),Cn hspot,Cn rfl] at g3
     exact ⟨ALb g3,by rw [g3];rfl⟩
    obtain ⟨ci,hci,hcr⟩:=(hys i x hx).2
    obtain ⟨_,g1,g2⟩:=World.cells?_some hci
    have hj:j<P.cellsOf e:=by
     have:=(Ak.1 hy).1
     rw [hcr.1] at this;omega
    have g3:=g2 j hj
    rw [Ae (by omega),Cn hspot,Cn rfl] at g3
    simp only at g3
    rw [g3]
    exact hcr.2.2 j y _ hy (Ae (by omega))
  obtain ⟨xs,m,hm,rfl,hcl,hxl,hX⟩:=DataW.trod_struct hu h
  injection hm with hm
  subst hm
  have hXi:∀i,i<fs.size→∃y,∀(f:Field),fs[i]? = some f→(∀d,xs[i]? = some d→DRep P f.type d.1 y)∧CRep W y ((cs.drop f.offset).take (P.cellsOf f.type))∧y.cells.length=P.cellsOf f.type:=fun i hi=>by
   have h1:=hX i fs[i] (F7 hi)
   rw [Ae (by omega)] at h1
   obtain ⟨y,h2,h3,h4⟩:=ih _ _ _ (hf _ (by simp)) h1
   refine ⟨y,fun f hf'=>?_⟩
   rw [F7 hi] at hf'
   injection hf' with hf'
   subst hf'
   exact ⟨fun d hd=>by rw [Ae (by omega)] at hd;injection hd with hd;subst hd;exact h2,h3,by rw [h3.1,h4]⟩
  obtain ⟨ys,hyl,hys⟩:=P6 fs.size hXi
  have hlenI:∀(i:Nat),((ys.take i).map fun y=>y.cells.length).sum=((fs.toList.take i).map fun f=>P.cellsOf f.type).sum:=fun i=>by
   refine Rl _ _ (by simp [hyl]) (fun j y f h1 h2=>?_)
   rw [Je] at h1 h2
   split at h1
   ·rename_i hj
    rw [if_pos hj] at h2
    exact (hys j y h1 f (by simpa using h2)).2.2
   cases h1
  have htot:(ys.flatMap AV.cells).length=cs.length:=by
   rw [List.length_flatMap,hcl,hsum]
   refine Rl _ _ (by simp [hyl]) (fun j y f h1 h2=>(hys j y h1 f (by simpa using h2)).2.2)
  refine ⟨.agg (ys.flatMap AV.cells),.struct hu (by simp [hxl]) hyl (fun i f d y hf' hd hy=>?_),⟨htot,fun c hc=>?_,fun j c v h1 h2=>?_⟩,hcl⟩
  ·rw [Cp,Ez] at hd
   obtain ⟨d',hd',rfl⟩:=hd
   exact (hys i y hy f hf').1 d' hd'
  ·obtain ⟨y,hy,hcy⟩:=List.mem_flatMap.1 hc
   obtain ⟨i,hi⟩:=Cr hy
   have hlt:i<fs.size:=by rw [←hyl];exact (Ak.1 hi).1
   exact ((hys i y hi fs[i] (F7 hlt)).2.1).2.1 c hcy
  obtain ⟨i,y,q,g1,g2,rfl⟩:=ka ys j c h1
  have hlt:i<fs.size:=by rw [←hyl];exact (Ak.1 g1).1
  obtain ⟨_,k2,k3⟩:=hys i y g1 fs[i] (F7 hlt)
  have hq:q<P.cellsOf (fs[i]).type:=by have:=(Ak.1 g2).1;omega
  refine k2.2.2 q c v g2 ?_
  rw [Je,if_pos hq,G9,hoff i fs[i] (by simp [hlt]),←hlenI i]
  exact h2

/-- A measure of data. -/
structure Bulk (B:DataW H→Nat):Prop where
 str:∀bs,bs.length≤B (.lit (.string bs))
 slice:∀elems spare,elems.length≤B (.slice elems spare)∧∀d∈elems,B d≤B (.slice elems spare)
 agg:∀parts,∀d∈parts,B d≤B (.agg parts)
theorem DRep.int' {t:TypeId} {k:IntKind} {d:DataW H} {y:AV} (hu:P.underlying t=some (.int k)) (h:DRep P t d y):∃n,d=.lit (.int k n)∧y=.v (.int k n)∧k.min≤n∧n≤k.max:=by
 cases h with
 | int hu' wf=>rw [hu] at hu';injection hu' with e;injection e with e;subst e;exact ⟨_,rfl,rfl,by simpa [Lit.wf] using wf⟩
 | _ hu'=>rw [hu] at hu';cases hu'
theorem DRep.str' {t:TypeId} {d:DataW H} {y:AV} (hu:P.underlying t=some .string) (h:DRep P t d y):∃s,d=.lit (.string s)∧y=.v (sv s):=by
 cases h with
 | str hu'=>exact ⟨_,rfl,rfl⟩
 | _ hu'=>rw [hu] at hu';cases hu'
theorem DRep.slice' {t e:TypeId} {d:DataW H} {y:AV} {B:DataW H→Nat} (hB:Bulk B) {α:Type} (A:α→AV) (R:α→Prop) {b:Nat} (hu:P.underlying t=some (.slice e)) (h:DRep P t d y) (hb:B d≤b)
  (hE:∀d y,B d≤b→DRep P e d y→∃x,y=A x∧R x):∃l:List α,y=.slice false (P.cellsOf e) (l.map A)∧l.length≤b∧∀x∈l,R x:=by
 cases h with
 | nil hu'=>rw [hu] at hu';injection hu' with e';injection e' with e';subst e';exact ⟨[],rfl,Av _,fun x hx=>by cases hx⟩
 | slice hu' hn hh =>
  rw [hu] at hu';injection hu' with e';injection e' with e';subst e'
  rename_i elems spare ys
  obtain ⟨h1,h2⟩:=hB.slice elems spare
  have key:∀(ys:List AV) (es:List (DataW H)),ys.length=es.length→(∀d∈es,B d≤b)→(∀(i:Nat) (d:DataW H) (y:AV),es[i]? = some d→ys[i]? = some y→DRep P e d y)→∃l:List α,ys=l.map A∧∀x∈l,R x:=by
   intro ys
   induction ys with
   | nil=>exact fun es _ _ _=>⟨[],rfl,fun x hx=>by cases hx⟩
   | cons y ys ih =>
    intro es hl hb2 hr
    cases es with
    | nil=>simp at hl
    | cons d es =>
     obtain ⟨x,rfl,hx⟩:=hE d y (hb2 d (by simp)) (hr 0 d y rfl rfl)
     obtain ⟨l,rfl,hR⟩:=ih es (by simpa using hl) (fun d hd=>hb2 d (by simp [hd])) (fun i d y a c=>hr (i+1) d y a c)
     exact ⟨x::l,rfl,fun z hz=>by
      rcases C0.1 hz with rfl|hz
      ·exact hx
      exact hR z hz⟩
  obtain ⟨l,rfl,hR⟩:=key ys elems hn (fun d hd=>I7 (h2 d hd) hb) hh
  exact ⟨l,rfl,by simp at hn;omega,hR⟩
 | _ hu'=>rw [hu] at hu';cases hu'
theorem DRep.struct' {t:TypeId} {fs:Array Field} {d:DataW H} {y:AV} {B:DataW H→Nat} (hB:Bulk B) (hu:P.underlying t=some (.struct fs)) (h:DRep P t d y):
  ∃ys:List AV,ys.length=fs.size∧y=.agg (ys.flatMap AV.cells)∧∀(i:Nat) (f:Field) (z:AV),fs[i]? = some f→ys[i]? = some z→∃d',B d'≤B d∧DRep P f.type d' z:=by
 cases h with
 | struct hu' hn hn' hh =>
  rw [hu] at hu';injection hu' with e';injection e' with e';subst e'
  rename_i parts ys
  refine ⟨ys,hn',rfl,fun i f z h1 h2=>?_⟩
  have hlt:i<parts.length:=by rw [hn];exact (Oc.1 h1).1
  exact ⟨parts[i],hB.agg parts _ (Bb hlt),hh i f parts[i] z h1 (Ae hlt) h2⟩
 | _ hu'=>rw [hu] at hu';cases hu'

/-- An argument's reading. -/
theorem AGm {T:TypeId→Prop} (PT:PlainT P T) {W:World} {t:TypeId} {v:Value} {d:DataW H} {ps:List MemPlace} {b0:Nat} (hT:T t) (hok:Value.okWide P W .any b0 t v) (h:DataW.Trod enc P W 0 (fun _=>true) true t v d ps):
  ∃y,DRep P t d y∧Rep (G0 W) W none y v:=by
 obtain ⟨n,hn⟩:=h
 obtain ⟨y,h1,h2,h3⟩:=ACe PT n t _ _ hT hn
 refine ⟨y,h1,?_⟩
 rcases PT.look t hT with ⟨hc1,hone⟩|⟨fs,hu,_⟩
 ·have hva:∀cs,v≠.agg cs:=fun cs e=>by
   subst e
   rcases hone with ⟨k,hu⟩|hu|hu|⟨e,hu,he,hz⟩<;>simp [Value.okWide,hu,Cell.okWide,Cell.ok] at hok
  have hvc:v.cells=#[v]:=by cases v<;>first|rfl|exact absurd rfl (hva _)
  have hyc:y.cells=[y]:=by
   cases h1 with
   | struct hu=>rcases hone with ⟨k,hu'⟩|hu'|hu'|⟨e,hu',he,hz⟩<;>rw [hu] at hu'<;>cases hu'
   | _=>rfl
  have:=h2.2.2 0 y v (by rw [hyc];rfl) (by rw [hvc];rfl)
  exact this
 obtain ⟨cs,rfl,hsz,_⟩:∃cs,v=.agg cs∧cs.size=P.cellsOf t∧Row.okWide P W .any b0 t cs:=by
  simp only [Value.okWide,hu] at hok
  exact hok
 cases h1 with
 | struct hu' hn1 hn2 hh =>
  refine .agg _ _ _ (by have:=h2.1;simp only [AV.cells,Value.cells,Array.length_toList] at this;exact this.symm) h2.2.1 (fun i c u a b=>h2.2.2 i c u a (by simpa [Value.cells] using b))
 | int hu'=>rw [hu] at hu';cases hu'
 | bool hu'=>rw [hu] at hu';cases hu'
 | str hu'=>rw [hu] at hu';cases hu'
 | nil hu'=>rw [hu] at hu';cases hu'
 | slice hu'=>rw [hu] at hu';cases hu'

def DReps (P:Program):List TypeId→List (DataW H)→List AV→Prop
 | [],[],[]=>True
 | t::ts,d::ds,y::ys=>DRep P t d y∧DReps P ts ds ys
 | _,_,_=>False

theorem DReps.cons' {t:TypeId} {ts:List TypeId} {ds:List (DataW H)} {ys:List AV} (h:DReps P (t::ts) ds ys):∃d ds' y ys',ds=d::ds'∧ys=y::ys'∧DRep P t d y∧DReps P ts ds' ys':=by
 match ds,ys,h with
 | d::ds',y::ys',⟨h1,h2⟩=>exact ⟨d,ds',y,ys',rfl,rfl,h1,h2⟩
 | [],_,h=>simp [DReps] at h
 | _::_,[],h=>simp [DReps] at h
theorem DReps.nil' {ds:List (DataW H)} {ys:List AV} (h:DReps P [] ds ys):ds=[]∧ys=[]:=by
 match ds,ys,h with
 | [],[],_=>exact ⟨rfl,rfl⟩
 | [],_::_,h=>simp [DReps] at h
 | _::_,_,h=>simp [DReps] at h
theorem ca {T:TypeId→Prop} (PT:PlainT P T) {W:World} {b0:Nat}:∀(ts:List TypeId) (vs:List Value) (ds:List (DataW H)) (ps:List MemPlace),(∀t∈ts,T t) →
  (∀(j:Nat) t v,ts[j]? = some t→vs[j]? = some v→Value.okWide P W .any b0 t v)→DataW.TrodAll enc P W 0 (fun _=>true) true ts vs ds ps →
  ∃ys,DReps P ts ds ys∧ys.length=vs.length∧∀(i:Nat) (y:AV) (u:Value),ys[i]? = some y→vs[i]? = some u→Rep (G0 W) W none y u
 | [],[],[],_,_,_,_=>⟨[],trivial,rfl,fun i y u h=>by simp at h⟩
 | t::ts,v::vs,d::ds,ps,hT,hok,⟨p,q,h1,h2,_⟩=>by
  obtain ⟨y,k1,k2⟩:=AGm PT (hT t (by simp)) (hok 0 t v rfl rfl) h1
  obtain ⟨ys,k3,k4,k5⟩:=ca PT ts vs ds q (fun t ht=>hT t (by simp [ht])) (fun j t v a b=>hok (j+1) t v a b) h2
  refine ⟨y::ys,⟨k1,k3⟩,by simp [k4],fun i z u a b=>?_⟩
  match i with
  | 0=>simp at a b;subst a;subst b;exact k2
  | i+1=>exact k5 i z u a b
 | [],_::_,_,_,_,_,h=>by simp [DataW.TrodAll] at h
 | [],[],_::_,_,_,_,h=>by simp [DataW.TrodAll] at h
 | _::_,[],_,_,_,_,h=>by simp [DataW.TrodAll] at h
 | _::_,_::_,[],_,_,_,h=>by simp [DataW.TrodAll] at h

theorem Vp {W:World} {sp:Nat→Bool} {hd:Bool}:∀{ts:List TypeId} {vs:List Value} {ds:List (DataW H)} {ps:List MemPlace},DataW.TrodAll enc P W 0 sp hd ts vs ds ps→ds.length=ts.length
 | [],[],[],_,_=>rfl
 | _::_,_::_,_::_,_,⟨_,_,_,h,_⟩=>by rw [B6,B6,Vp h]
 | [],_::_,_,_,h=>by simp [DataW.TrodAll] at h
 | [],[],_::_,_,h=>by simp [DataW.TrodAll] at h
 | _::_,[],_,_,h=>by simp [DataW.TrodAll] at h
 | _::_,_::_,[],_,h=>by simp [DataW.TrodAll] at h
theorem P7 {W W':World} {sp:Nat→Bool}:∀{ts:List TypeId} {vs:List Value} {ds:List (DataW H)} {ps:List MemPlace},DataW.TrodAll enc P W 0 sp true ts vs ds ps→(∀p∈ps,W.sameAt W' p)→DataW.TrodAll enc P W' 0 sp true ts vs ds ps
 | [],[],[],_,h,_=>h
 | _::_,_::_,_::_,_,⟨p,q,⟨n,hn⟩,h2,e⟩,hs=>⟨p,q,⟨n,DataW.trod_carry n _ _ _ hn (fun x hx=>hs x (by rw [e];exact r7 _ hx))⟩,P7 h2 (fun x hx=>hs x (by rw [e];exact S5 _ hx)),e⟩
 | [],_::_,_,_,h,_=>by simp [DataW.TrodAll] at h
 | [],[],_::_,_,h,_=>by simp [DataW.TrodAll] at h
 | _::_,[],_,_,h,_=>by simp [DataW.TrodAll] at h
 | _::_,_::_,[],_,h,_=>by simp [DataW.TrodAll] at h

/-- **A law that answers true, for whatever can be read.** -/
theorem xd {f:FuncId} {fn:Func} {s:ChangeSpec} {T:TypeId→Prop} {tb:TypeId} {W:World} {base:Nat} {args:Array Value} {ds gs:List (DataW H)} {before:List MemPlace} (K:Kids P (·<P.types.size)) (hz:∀t e,t<P.types.size→P.underlying t=some (.slice e)→0<P.cellsOf e)
  (PT:PlainT P T) (hT:∀t∈fn.params.toList,T t∧t<P.types.size) (hb:P.underlying tb=some .bool) (hres:fn.resultTypes=#[tb]) (hvars:s.vars=[])
  (hspec:∀ds:List (DataW H),ds.length=fn.params.size→s.fn H ds={ results:=[.lit (.bool true)],args:=ds })
  (hval:∀(j:Nat) t v,fn.params[j]? = some t→args[j]? = some v→Value.okWide P W .any base t v) (hW:DataW.Whole enc P fn.params.toList s.vars false W args.toList ds gs before)
  (hglob:Lc W)
  (main:∀ys:List AV,DReps P fn.params.toList ds ys→AFun P f ys [] (.v (.bool true))) (hbd:GI.bd≤0:=by exact Ao 0):
  Calls P f args W (fun e W'=>∃v,e=.returned v∧s.post enc P fn false true false false W args v W'):=by
 have hW0:=hW
 obtain ⟨p,q,hA,hV,hpq,hfz,hnd⟩:=hW
 rw [hvars] at hV
 obtain ⟨rfl,rfl⟩:=trodVars_none hV
 rw [Jd] at hpq
 subst hpq
 obtain ⟨ys,h1,h2,h3⟩:=ca PT _ _ _ _ (fun t ht=>(hT t ht).1) (fun j t v a b=>hval j t v (by simpa using a) (by simpa using b)) hA
 have hlen:=Vp hA
 have hc:=main ys h1 0 (G0 W) W args (by simpa using h2.symm) (fun i y u a b=>(h3 i y u a (by simpa using b)).lift) (AGk W) (AGl hglob)
 refine (callsIn_wide.1 (hc hbd)).mono ?_
 rintro e W' ⟨v,G',r,H',rfl,hr,hH,hTg,hk,hl,rfl,rfl⟩
 have hv:=O0 hr
 subst hv
 refine ⟨_,rfl,ds,[],before,[],before,[],hW0,?_,?_,?_,?_,fun h=>by cases h⟩
 ·rw [hres,Jd,hspec ds (by simpa using hlen)]
  exact trodAll_cons_mk (p:=[]) (shut_bool hb true) trodAll_mk0
 ·rw [Jd,hspec ds (by simpa using hlen)]
  refine P7 (DataW.TrodAll.respare K hz (fun t ht=>(hT t ht).2) hA (fun p hp=>by simpa using hW0.lt p hp)) (fun p hp=>?_)
  have hlt:=hW0.lt p hp
  have hb:=(hk.old _ (Uq hlt)).1
  cases p with
  | cell b o=>exact F3 hb
  | map b=>exact hb
 ·rw [hvars,Jd,hspec ds (by simpa using hlen)]
  rfl
 refine ⟨hk.os,hk.output,fun i hi=>?_⟩
 have hb:=(hk.old i (Uq hi)).1
 rw [hb]
 cases ho:W.heap[i]? with
 | none=>simp
 | some o=>cases o<;>simp
end
end Go.SX
namespace Go.Proofs.YtofbdcbjpdpllaaGreatDoor
open Go Go.SX Go.SX.Nb Go.ChangeShapes Go.RowKit
set_option maxRecDepth 100000

theorem own:ownKnob Tryz.prog.godebug=none:=by kernel_rfl
theorem kids:Kids Tryz.prog (·<Tryz.prog.types.size):=kids_rows (by kernel_rfl) (by kernel_rfl)
theorem full:∀t e,t<Tryz.prog.types.size→Tryz.prog.underlying t=some (.slice e)→0<Tryz.prog.cellsOf e:=slices_full_of Tryz.prog (by kernel_rfl)
theorem ACf {H:Type}:∀d:DataW H,1≤Rows.uptoBulk d
 | .lit (.string b)=>by rw [Rows.uptoBulk];omega
 | .lit (.bool _)=>by simp [Rows.uptoBulk]
 | .lit (.int _ _)=>by simp [Rows.uptoBulk]
 | .lit (.float _ _)=>by simp [Rows.uptoBulk]
 | .lit .nil=>by simp [Rows.uptoBulk]
 | .nil=>by simp [Rows.uptoBulk]
 | .ptr d=>by rw [Rows.uptoBulk];omega
 | .slice a b=>by rw [Rows.uptoBulk];omega
 | .agg a=>by rw [Rows.uptoBulk];omega
 | .iface _ d=>by rw [Rows.uptoBulk];omega
 | .map a=>by rw [Rows.uptoBulk];omega
 | .held _=>by simp [Rows.uptoBulk]
theorem Yf {H:Type}:∀l:List (DataW H),l.length≤Rows.uptoBulkAll l∧∀d∈l,Rows.uptoBulk d≤Rows.uptoBulkAll l
 | []=>⟨Nat.zero_le _,fun d h=>by cases h⟩
 | d::r=>by
  obtain ⟨h1,h2⟩:=Yf r
  have:=ACf d
  rw [Rows.uptoBulkAll,List.length_cons]
  refine ⟨by omega,fun x hx=>?_⟩
  rcases List.mem_cons.1 hx with rfl|hx
  ·omega
  have:=h2 x hx;omega
theorem ALc {H:Type}:Bulk (Rows.uptoBulk (H:=H)) where
 str:=fun bs=>by rw [Rows.uptoBulk];omega
 slice:=fun elems spare=>by
  obtain ⟨h1,h2⟩:=Yf elems
  rw [Rows.uptoBulk]
  exact ⟨by omega,fun d hd=>by have:=h2 d hd;omega⟩
 agg:=fun parts d hd=>by
  have:=(Yf parts).2 d hd
  rw [Rows.uptoBulk]
  omega

/-- What the rows of this seat list. -/
def ACg:List (String×DataW Unit):=Rows.invertComesUptoRow.laid
theorem xe:∀u,Tryz.prog.typeName? 3 u=some "*errors.errorString" → u=347:=by
 intro u hu
 exact typeName_ptr_named (nm := "errors.errorString") (by kernel_rfl) (by kernel_rfl) (by decide) u hu
theorem AGn {W:World} (h:laidMet Tryz.prog ACg W):∃a:Addr,W.var? Tryz.prog "strconv.ErrRange" = some #[.iface 347 (.pointer (some a))]:=by
 have h':=h.tail.tail.tail.tail
 obtain ⟨a,s,h1,_⟩:=laid_sentinel (g:=1) (ti:=175) (tp:=347) (te:=349) (ts:=9) h' (by kernel_rfl) (by kernel_rfl) Tryz.underlying175 xe Tryz.underlying347 Tryz.underlying349 rfl rfl Tryz.underlying9 (by kernel_rfl) (by kernel_rfl)
 exact ⟨a,h1⟩
theorem AGo {W:World} (h:laidMet Tryz.prog ACg W):Lib.TabIs Tryz.prog W "internal/strconv.uint64pow10" .u64 Lib.pow10Tab:=
 Lib.tabIs_of_head (g:=4) (t:=315) (e:=233) (n:=20) (by kernel_rfl) (by kernel_rfl) (by kernel_rfl) (by kernel_rfl) (by kernel_rfl) (by kernel_rfl) h.tail.tail
theorem cb {P:Program} {W:World} {n:String} {g:Nat} {cs:Array Value} (hg:P.globalNamed n=some g) (h:W.var? P n=some cs):∃t f,W.heap[g]? = some (.cells cs t f):=by
 unfold World.var? at h
 rw [hg] at h
 simp only [Option.bind_some] at h
 split at h
 ·rename_i cs' t f e
  injection h with h
  subst h
  exact ⟨t,f,e⟩
 cases h
theorem glob {W:World} [E:ErrAt] (h:W.ShapedOpen Tryz.prog) (hl:laidMet Tryz.prog ACg W) (he:W.var? Tryz.prog "strconv.ErrRange" = some #[.iface 347 (.pointer (some E.b))]):Lc W:=by
 intro x hx
 have hx':x∈bn:=hx
 unfold bn at hx'
 simp only [List.mem_cons,List.mem_nil_iff,or_false] at hx'
 rcases hx' with rfl|rfl|rfl
 ·obtain ⟨m,hm⟩:=cell_of_shapedOpen_int (g:=0) (t:=3) (zero:=#[.int .i64 0]) (k:=.i64) h (of_decide_eq_true (by kernel_rfl)) (by kernel_rfl) rfl (by kernel_rfl) (by kernel_rfl) Tryz.underlying3
  obtain ⟨cs,hh,hs,_⟩:=h.1 0 #[.int .i64 0] 3 (of_decide_eq_true (by kernel_rfl)) (by kernel_rfl)
  have hs':cs.size=1:=hs
  have h1:0<cs.size:=by omega
  have hc:cs[0]=.int .i64 m:=by
   simp [World.cell?,hh,h1] at hm
   exact hm
  have:cs=#[.int .i64 m]:=by
   apply Array.ext
   ·simpa using hs'
   intro i h1 h2
   have:i=0:=by omega
   subst this
   simpa using hc
  rw [this] at hh
  exact ⟨_,hh,m,3,_,rfl⟩
 ·obtain ⟨t,f,e⟩:=cb (g:=1) (by kernel_rfl) he
  exact ⟨_,e,t,f,rfl⟩
 obtain ⟨t,f,e⟩:=cb (g:=4) (by kernel_rfl) (AGo hl)
 exact ⟨_,e,t,f,rfl⟩
end Go.Proofs.YtofbdcbjpdpllaaGreatDoor
namespace Go.SX.Nb
open Go Go.SX Go.Proofs
variable [ErrAt]
set_option maxRecDepth 4000
mutual
def depthE:Expr→Nat
 | .mk _ _ _ k=>De k+1
def De:List Expr→Nat
  | []=>0
  | e::r=>max (depthE e) (De r)
 end
mutual
def Bq (p:Expr→Bool):Expr→Bool
 | .mk o t v k=>p (.mk o t v k)&&K5 p k
def K5 (p:Expr→Bool):List Expr→Bool
  | []=>true
  | e::r=>Bq p e&&K5 p r
 end
mutual
def P8:Expr→List Expr
 | .mk o t v k=>.mk o t v k::H0 k
def H0:List Expr→List Expr
  | []=>[]
  | e::r=>P8 e++H0 r
 end
theorem In (e:Expr):depthE e=De e.kids+1:=by cases e;rfl
theorem Cb (p:Expr→Bool) (e:Expr):Bq p e=(p e&&K5 p e.kids):=by cases e;rfl
theorem xf (e:Expr):P8 e=e::H0 e.kids:=by cases e;rfl
theorem Qt:∀a b,De (a++b)=max (De a) (De b)
 | [],b=>by rw [Dx,De,Nat.zero_max]
 | e::r,b=>by rw [Ef,De,De,Qt r b,Nat.max_assoc]
theorem Kq:∀a b,Bp (a++b)=Bp a+Bp b
 | [],b=>by rw [Dx,Bp,C9]
 | e::r,b=>by rw [Ef,Bp,Bp,Kq r b,Lu]
theorem Vq (p:Expr→Bool):∀a b,K5 p (a++b)=(K5 p a&&K5 p b)
 | [],b=>by rw [Dx,K5,Dc]
 | e::r,b=>by rw [Ef,K5,K5,Vq p r b,Bool.and_assoc]
theorem Qu:∀a b,H0 (a++b)=H0 a++H0 b
 | [],b=>rfl
 | e::r,b=>by rw [Ef,H0,H0,Qu r b,C1]
theorem Vr (l:List Expr) {x:Nat} (h:x<l.length):De (l.take (x+1))=max (De (l.take x)) (depthE l[x]):=by
 rw [Gm h,Qt,De,De,Nat.max_zero]
theorem pi (l:List Expr) {x:Nat} (h:x<l.length):Bp (l.take (x+1))=Bp (l.take x)+sizeE l[x]:=by
 rw [Gm h,Kq,Bp,Bp,Nat.add_zero]
theorem Bd (p:Expr→Bool):∀l:List Expr,K5 p l=true↔∀y∈l,Bq p y=true
 | []=>by simp [K5]
 | e::r=>by rw [K5,Ah,Bd p r];simp
mutual
theorem Gq:∀(d:Int) (e:Expr),(Bg d e).length=sizeE e
 | d,.mk o t v k=>by rw [Bg,sizeE,B6,Yg (d+1) k,Wp]
theorem Yg:∀(d:Int) (l:List Expr),(C5 d l).length=Bp l
  | d,[]=>rfl
  | d,e::r=>by rw [C5,Bp,Aw,Gq d e,Yg d r]
 end
mutual
theorem Rm:∀(d:Int) (e:Expr),(Bg d e).map (·.2)=P8 e
 | d,.mk o t v k=>by rw [Bg,P8,Ci,Yh (d+1) k]
theorem Yh:∀(d:Int) (l:List Expr),(C5 d l).map (·.2)=H0 l
  | d,[]=>rfl
  | d,e::r=>by rw [C5,H0,Cs,Rm d e,Yh d r]
 end
mutual
theorem cd (p:Expr→Bool):∀e:Expr,(P8 e).all p=Bq p e
 | .mk o t v k=>by rw [P8,Bq,List.all_cons,Yi p k]
theorem Yi (p:Expr→Bool):∀l:List Expr,(H0 l).all p=K5 p l
  | []=>rfl
  | e::r=>by rw [H0,K5,mv,cd p e,Yi p r]
 end
theorem xg (p:Expr→Bool) (d:Int) (e:Expr):((Bg d e).all fun it=>p it.2)=Bq p e:=by
 rw [←cd p e,←Rm d e,List.all_map]
 rfl
def Gj (m:Int) (L:List (Int×Expr)):Int:=L.foldl (fun m it=>max m it.1) m
mutual
theorem Yj:∀(d m:Int) (e:Expr),Gj m (Bg d e)=max m (d-1+depthE e)
 | d,m,.mk o t v k=>by
  rw [Bg,depthE]
  show Gj (max m d) (C5 (d+1) k)=_
  rw [Yk (d+1) (max m d) k (by omega)]
  omega
theorem Yk:∀(d m:Int) (l:List Expr),d-1≤m→Gj m (C5 d l)=max m (d-1+De l)
  | d,m,[],h=>by
    rw [C5,De]
    show m=_
    omega
  | d,m,e::r,h=>by
    rw [C5,De]
    unfold Gj
    rw [Xa]
    show Gj (Gj m (Bg d e)) (C5 d r)=_
    rw [Yj d m e,Yk d _ r (by omega)]
    omega
 end
theorem Vs (e:Expr):Gj 0 (Bg 1 e)=depthE e:=by rw [Yj];omega
theorem kb:∀(L:List (Int×Expr)) (m b:Int),m≤b→(Gj m L≤b↔∀it∈L,it.1≤b)
 | [],m,b,h=>by simp [Gj,h]
 | it::r,m,b,h=>by
  show Gj (max m it.1) r≤b↔_
  rcases Decidable.em (it.1≤b) with h1|h1
  ·rw [kb r (max m it.1) b (by omega)]
   simp [h1]
  constructor
  ·intro h2
   have:∀(r:List (Int×Expr)) (m:Int),m≤Gj m r:=by
    intro r
    induction r with
    | nil=>intro m;exact Int.le_refl _
    | cons a r ih=>intro m;have:=ih (max m a.1);show m≤Gj (max m a.1) r;omega
   have:=this r (max m it.1)
   omega
  intro h2
  exact absurd (h2 it (by simp)) h1
theorem AGp (e:Expr) {b:Nat}:(∀it∈Bg 1 e,it.1≤(b:Int))↔depthE e≤b:=by
 rw [←kb (Bg 1 e) 0 b (by omega),Vs]
 omega
def Ax (e:Expr):Bool:=(decide (depthE e≤30)&&decide (sizeE e≤300))&&Bq Ch e
theorem C4 (e:Expr):Ar e=Ax e:=by
 have hpos:1≤sizeE e:=by rw [Ds];omega
 rw [K9]
 unfold Ar Ax
 rw [Bj]
 simp only [Ah,decide_eq_true_eq,Po,Gq]
 rw [←AGp e,←xg Ch 1 e,Bj]
 constructor
 ·intro h
  have key:∀(k:Nat) (hk:k<(Bg 1 e).length),Ch (Bg 1 e)[k].2=true∧(Bg 1 e)[k].1≤30∧(k:Int)+1≤300:=fun k hk=>by
   have:=h k (by rw [Gq] at hk;exact hk)
   rw [g9 (Ae hk)] at this
   simp only [R1,Df,Ka,decide_eq_false_iff_not] at this
   exact ⟨this.1.1,by have:=this.1.2;omega,by have:=this.2;omega⟩
  refine ⟨⟨fun it hit=>?_,?_⟩,fun it hit=>?_⟩
  ·obtain ⟨k,hk,rfl⟩:=R5 hit
   exact (key k hk).2.1
  ·have:=(key (sizeE e-1) (by rw [Gq];omega)).2.2
   omega
  obtain ⟨k,hk,rfl⟩:=R5 hit
  exact (key k hk).1
 rintro ⟨⟨h1,h2⟩,h3⟩ k hk
 have hk':k<(Bg 1 e).length:=by rw [Gq];exact hk
 rw [g9 (Ae hk')]
 have a1:=h1 _ (Bb hk')
 have a3:=h3 _ (Bb hk')
 have a3':Ch (Bg 1 e)[k].2=true:=a3
 rw [a3']
 simp only [R1,Df,Ck,decide_eq_false_iff_not]
 exact ⟨⟨trivial,by have:(Bg 1 e)[k].1≤(30:Int):=a1;omega⟩,by omega⟩
/-- Its number is one of 64 bits. -/
def Cw (e:Expr):Bool:=decide (-9223372036854775808≤e.val.n)&&decide (e.val.n≤9223372036854775807)
/-! Names. -/
def G7 (l:List Str) (e:Expr):List Str:=if (e.op==2) && !l.contains e.text then l++[e.text] else l
def Cm (e:Expr):List Str:=(P8 e).foldl G7 []
theorem kc (e:Expr):Cm e=(Bg 1 e).foldl (fun l it=>G7 l it.2) []:=by
 unfold Cm
 rw [←Rm 1 e,List.foldl_map]
theorem ry (l:List Str) (e:Expr):(G7 l e).length≤l.length+1:=by
 unfold G7;split<;>simp
theorem ke:∀(L:List Expr) (l:List Str),(L.foldl G7 l).length≤l.length+L.length
 | [],l=>by simp
 | e::r,l=>by
  have h1:=ke r (G7 l e)
  have h2:=ry l e
  rw [List.foldl_cons,B6]
  omega
mutual
def eqE:Expr→Expr→Bool
 | .mk o t v k,.mk o' t' v' k'=>((((o==o')&&(t==t'))&&((v.kind==v'.kind&&v.n==v'.n)&&v.s==v'.s)))&&eqL k k'
def eqL:List Expr→List Expr→Bool
  | [],[]=>true
  | e::r,e'::r'=>eqE e e'&&eqL r r'
  | _,_=>false
 end
theorem ACh (x y:Expr):eqE x y=((((x.op==y.op)&&(x.text==y.text))&&((x.val.kind==y.val.kind&&x.val.n==y.val.n)&&x.val.s==y.val.s))&&eqL x.kids y.kids):=by
 cases x;cases y;rw [eqE];rfl
mutual
theorem ge:∀x y:Expr,eqE x y=true↔x=y
 | .mk o t v k,.mk o' t' v' k'=>by
  rw [eqE]
  simp only [Ah,beq_iff_eq,M0 k k',Expr.mk.injEq]
  constructor
  ·rintro ⟨⟨⟨rfl,rfl⟩,⟨h1,h2⟩,h3⟩,rfl⟩
   refine ⟨rfl,rfl,?_,rfl⟩
   cases v;cases v'
   simp_all
  rintro ⟨rfl,rfl,rfl,rfl⟩
  exact ⟨⟨⟨rfl,rfl⟩,⟨rfl,rfl⟩,rfl⟩,rfl⟩
theorem M0:∀x y:List Expr,eqL x y=true↔x=y
  | [],[]=>by simp [eqL]
  | [],e::r=>by simp [eqL]
  | e::r,[]=>by simp [eqL]
  | e::r,e'::r'=>by rw [eqL,Ah,ge e e',M0 r r',X8]
 end
theorem AGq:∀{x y:List Expr},eqL x y=true→x.length=y.length:=fun h=>by rw [(M0 _ _).1 h]
theorem kg (x:Expr):eqE x x=true:=(ge x x).2 rfl
/-! A node by itself, and marks. -/
theorem gg {of:Str} {ws:List Str} (h:of=P5 ws) (hp:∀w∈ws,(32:UInt8)∉w) (s:Str):Q4 s of=(!(s==[])&&ws.contains s):=by
 unfold Q4
 rw [k9]
 cases hb:s.contains 32 with
 | false =>
  have h2:(32:UInt8)∉s:=by simpa using hb
  rw [h,Lg s h2 ws hp,Da,R0]
  congr 1
  rw [List.contains_eq_any_beq]
  congr 1
  funext w
  rw [K9,beq_iff_eq,beq_iff_eq]
  exact eq_comm
 | true =>
  have h2:(32:UInt8)∈s:=by simpa using hb
  have h3:ws.contains s=false:=by
   rw [D6]
   intro h4
   exact hp s (by simpa using h4) h2
  rw [h3]
  simp
def levels:List (List Str):=[[[111,114]],[[97,110,100]],[],[[61],[33,61],[60],[60,61],[62],[62,61]],[[43],[45],[38]],[[42],[47],[37]]]
def Bt (s:Str):Int:=match levels.findIdx? (fun l=>l.contains s) with|some i=>i|none => -1
def Ur:List Str:=[[111,114],[],[97,110,100],[],[61],[33,61],[60],[60,61],[62],[62,61],[],[43],[45],[38],[],[42],[47],[37]]
theorem pj:Q5=P5 Ur:=by kernel_rfl
theorem ki:∀w∈Ur,(32:UInt8)∉w:=by decide
theorem pk (s:Str):Q4 s Q5=decide (0≤Bt s):=by
 rw [gg pj ki s]
 have h1:decide (0≤Bt s)=levels.any (fun l=>l.contains s):=by
  unfold Bt
  cases h:levels.findIdx? (fun l=>l.contains s) with
  | some i =>
   have:levels.any (fun l=>l.contains s)=true:=by
    have:=N5.1 h
    obtain ⟨hi,hp,_⟩:=this
    exact M5.2 ⟨_,Bb hi,hp⟩
   rw [this]
   simp
  | none =>
   have:=Tw.1 h
   have e:levels.any (fun l=>l.contains s)=false:=by
    rw [R2]
    intro l hl
    rw [this l hl]
    simp
   rw [e]
   rfl
 rw [h1]
 by_cases h0:s=[]
 ·subst h0;rfl
 have:(s==[])=false:=by simpa using h0
 rw [this,Da,Dc]
 simp [levels,Ur,h0,Bool.or_assoc]
def Hi (e:Expr):Bool:=
 if e.op==1 then ((C2 e.val&&decide (0≤e.val.n))&&(e.text==[]))&&((e.kids.length:Int)==0)
 else if !(Mt e.val) then false
 else if e.op==2 then Hg e.text&&((e.kids.length:Int)==0)
 else if e.op==3 || e.op==4 then (e.text==[])&&((e.kids.length:Int)==1)
 else if e.op==5 then decide (0≤Bt e.text)&&((e.kids.length:Int)==2)
 else if e.op==6 then Cc e.text==(e.kids.length:Int)
 else false
theorem Hj (e:Expr):Ch e=Hi e:=by
 unfold Ch Hi
 rw [pk,Ea]
 cases Mt e.val<;>simp
/-! What is wide. -/
def Us (e:Expr):Bool:=((decide ((100:Int)<e.text.length) || decide ((400:Int)<e.val.s.length)) || decide ((100:Int)<e.kids.length))
/-- Among trees, when n have been seen: is one too much? -/
def Qv (l:List Expr) (n:Nat):Bool:=decide (500<n+l.length) || l.any Us
def Hz:Nat→List Expr→Nat→Bool
 | 0,l,n => !l.isEmpty
 | f+1,l,n=>if l.isEmpty then false else if Qv l n then true else if decide ((500:Int)<(l.flatMap Expr.kids).length) then true else Hz f (l.flatMap Expr.kids) (n+l.length)
theorem Ns:∀l:List Expr,Bp l=l.length+Bp (l.flatMap Expr.kids)
 | []=>rfl
 | e::r=>by
  rw [Bp,Ds,X9,Kq,Ns r,B6]
  omega
theorem Yl {l:List Expr} {n:Nat} (h:Qv l n=false):n+l.length≤500∧∀e∈l,Us e=false:=by
 unfold Qv at h
 simp only [Df,decide_eq_false_iff_not,R2,dt] at h
 exact ⟨by omega,h.2⟩
theorem gh {e:Expr} (h:Us e=false):e.text.length≤100∧e.val.s.length≤400∧e.kids.length≤100:=by
 unfold Us at h
 simp only [Df,decide_eq_false_iff_not] at h
 omega
theorem ce {f:Nat} {l:List Expr} {n:Nat} (h:Hz (f+1) l n=false) (hl:l.isEmpty=false):Qv l n=false∧(l.flatMap Expr.kids).length≤500∧Hz f (l.flatMap Expr.kids) (n+l.length)=false:=by
 rw [Hz,if_neg (by rw [hl];simp)] at h
 split at h
 ·cases h
 rename_i h1
 split at h
 ·cases h
 rename_i h2
 simp only [decide_eq_true_eq] at h2
 exact ⟨by simpa using h1,by omega,h⟩
theorem rz:∀(f:Nat) (l:List Expr) (n:Nat),Hz f l n=false→∀e∈l,okE f e∧Bq (fun y => !Us y) e=true
 | 0,l,n,h,e,he=>by
  have:l=[]:=by simpa [Hz] using h
  subst this
  cases he
 | f+1,l,n,h,e,he=>by
  have hl:l.isEmpty=false:=by cases l<;>simp_all
  obtain ⟨h1,h2,h3⟩:=ce h hl
  have h4:=gh ((Yl h1).2 e he)
  have ih:=rz f _ _ h3
  have hk:∀y∈e.kids,okE f y∧Bq (fun y => !Us y) y=true:=fun y hy=>ih y (List.mem_flatMap.2 ⟨e,he,hy⟩)
  refine ⟨⟨by omega,by omega,fun y hy=>(hk y hy).1⟩,?_⟩
  rw [Cb,(Yl h1).2 e he,(Bd _ _).2 fun y hy=>(hk y hy).2]
  rfl
theorem cf:∀(f:Nat) (l:List Expr) (n:Nat),n≤500→Hz f l n=false→n+Bp l≤500
 | 0,l,n,hn,h=>by
  have:l=[]:=by simpa [Hz] using h
  subst this
  simpa [Bp] using hn
 | f+1,l,n,hn,h=>by
  by_cases hl:l.isEmpty=true
  ·have:l=[]:=by simpa using hl
   subst this
   simpa [Bp] using hn
  have hl':l.isEmpty=false:=by simpa using hl
  obtain ⟨h1,h2,h3⟩:=ce h hl'
  have:=cf f _ _ (Yl h1).1 h3
  rw [Ns l]
  omega
def ACi (e:Expr):Bool:=Hz 61 [e] 0
/-- A tree that is gone through. -/
structure Slim (e:Expr):Prop where
 ok:okE 61 e
 size:sizeE e≤500
 slim:Bq (fun y => !Us y) e=true
theorem AGr {e:Expr} (h:ACi e=false):Slim e:=by
 obtain ⟨h1,h2⟩:=rz _ _ _ h e (by simp)
 have:=cf _ _ _ (by decide) h
 exact ⟨h1,by simpa [Bp] using this,h2⟩
end Go.SX.Nb
namespace Go.Proofs.YtofbdcbjpdpllaaGreatDoor
open Go Go.SX Go.SX.Nb Go.ChangeShapes Go.RowKit
set_option maxRecDepth 100000
theorem pl {ys:List AV} (h:∀(i:Nat) (y:AV),ys[i]? = some y→∃e:Nb.Expr,y=Ab e∧Bq Cw e=true):∃l:List Nb.Expr,ys=l.map Ab∧K5 Cw l=true:=by
 induction ys with
 | nil=>exact ⟨[],rfl,rfl⟩
 | cons y ys ih =>
  obtain ⟨e,rfl,he⟩:=h 0 y rfl
  obtain ⟨l,rfl,hl⟩:=ih (fun i z hz=>h (i+1) z hz)
  exact ⟨e::l,rfl,by rw [K5,he,hl];rfl⟩
theorem AGs {H:Type} [ErrAt] (d:DataW H) (y:AV) (h:DRep Tryz.prog 23 d y):∃v:Val,y=Ca v ∧ -9223372036854775808≤v.n∧v.n≤9223372036854775807:=by
 obtain ⟨ys,hn,rfl,hh⟩:=h.struct' ALc Tryz.underlying23
 match ys,hn with
 | [y0,y1,y2],_ =>
  obtain ⟨d0,b0,h0⟩:=hh 0 _ y0 rfl rfl
  obtain ⟨d1,b1,h1⟩:=hh 1 _ y1 rfl rfl
  obtain ⟨d2,b2,h2⟩:=hh 2 _ y2 rfl rfl
  obtain ⟨k,rfl,rfl,_⟩:=h0.int' Tryz.underlying3
  obtain ⟨n,rfl,rfl,hn1,hn2⟩:=h1.int' Tryz.underlying2
  obtain ⟨s,rfl,rfl⟩:=h2.str' Tryz.underlying9
  exact ⟨⟨k,n,s⟩,rfl,hn1,hn2⟩
theorem ACj {H:Type} [ErrAt] {t:TypeId} {d:DataW H} {y:AV} (h:DRep Tryz.prog t d y):(t=26→∃e:Nb.Expr,y=Ab e∧Bq Cw e=true)∧(t=24→∃l:List Nb.Expr,y=.slice false 6 (l.map Ab)∧K5 Cw l=true):=by
 induction h with
 | int hu _=>exact ⟨fun e=>(by subst e;rw [Tryz.underlying26] at hu;cases hu),fun e=>by subst e;rw [Tryz.underlying24] at hu;cases hu⟩
 | bool hu=>exact ⟨fun e=>(by subst e;rw [Tryz.underlying26] at hu;cases hu),fun e=>by subst e;rw [Tryz.underlying24] at hu;cases hu⟩
 | str hu=>exact ⟨fun e=>(by subst e;rw [Tryz.underlying26] at hu;cases hu),fun e=>by subst e;rw [Tryz.underlying24] at hu;cases hu⟩
 | nil hu =>
  refine ⟨fun e=>(by subst e;rw [Tryz.underlying26] at hu;cases hu),fun e=>?_⟩
  subst e
  rw [Tryz.underlying24] at hu
  injection hu with hu
  injection hu with hu
  subst hu
  exact ⟨[],by rw [show Tryz.prog.cellsOf 26=6 by kernel_rfl];rfl,rfl⟩
 | slice hu hn hh ih =>
  refine ⟨fun e=>(by subst e;rw [Tryz.underlying26] at hu;cases hu),fun e=>?_⟩
  subst e
  rw [Tryz.underlying24] at hu
  injection hu with hu
  injection hu with hu
  subst hu
  rename_i elems spare ys
  obtain ⟨l,rfl,hl⟩:=pl (ys:=ys) (fun i y hy=>by
   have hlt:i<elems.length:=by rw [←hn];exact (List.getElem?_eq_some_iff.1 hy).1
   exact (ih i elems[i] y (List.getElem?_eq_getElem hlt) hy).1 rfl)
  exact ⟨l,by rw [show Tryz.prog.cellsOf 26=6 by kernel_rfl],hl⟩
 | struct hu hn hn' hh ih =>
  refine ⟨fun e=>?_,fun e=>by subst e;rw [Tryz.underlying24] at hu;cases hu⟩
  subst e
  rw [Tryz.underlying26] at hu
  injection hu with hu
  injection hu with hu
  subst hu
  rename_i parts ys
  match parts,hn,ys,hn' with
  | [p0,p1,p2,p3],_,[y0,y1,y2,y3],_ =>
   obtain ⟨o,rfl,rfl,_⟩:=(hh 0 _ p0 y0 rfl rfl rfl).int' Tryz.underlying3
   obtain ⟨s,rfl,rfl⟩:=(hh 1 _ p1 y1 rfl rfl rfl).str' Tryz.underlying9
   obtain ⟨v,rfl,hv1,hv2⟩:=AGs p2 y2 (hh 2 _ p2 y2 rfl rfl rfl)
   obtain ⟨l,rfl,hl⟩:=(ih 3 _ p3 y3 rfl rfl rfl).2 rfl
   refine ⟨.mk o s v l,?_,?_⟩
   ·rw [Af];rfl
   rw [Bq,hl,Bool.and_true]
   show (decide (-9223372036854775808≤v.n)&&decide (v.n≤9223372036854775807))=true
   simp [hv1,hv2]
theorem ACk {H:Type} [ErrAt] (d:DataW H) (y:AV) (h:DRep Tryz.prog 26 d y):∃e:Nb.Expr,y=Ab e∧Bq Cw e=true:=(ACj h).1 rfl
end Go.Proofs.YtofbdcbjpdpllaaGreatDoor
namespace Go.SX.Nb
open Go Go.SX Go.Proofs
variable [ErrAt]
set_option maxRecDepth 4000
/-- The lexer from a place between two words on. -/
def ASk (f q:Nat) (s:Str):List (Tok×Int):=Jk f (q+gapM s) (s.drop (gapM s))
theorem kj {f q:Nat} {s:Str} (h:s≠[]):∃(n:Nat),Jk (f+1) q s=(⟨(D0 s).1,(D0 s).2.1,q⟩,(D0 s).2.2.2)::(if (D0 s).2.2.2=0 then ASk f (q+n) (s.drop n) else [])∧((D0 s).2.2.2=0→(D0 s).2.2.1=(n:Int)∧1≤n∧n≤s.length):=by
 refine ⟨(D0 s).2.2.1.toNat,?_,fun he=>?_⟩
 ·rw [P3 h]
  simp only [beq_iff_eq]
  rfl
 obtain ⟨n,h1,h2,h3⟩:=ru (s:=s) (by cases s with|nil=>exact absurd rfl h|cons c r=>simp) he
 rw [h1]
 exact ⟨rfl,by simpa using h2,by simpa using h3⟩
/-! ### Gaps -/
/-! ### Words -/
theorem AGt {s:Str} (h:(Ey s).2.1=0):s.length≤4000∧(∀it∈Cv s,it.2=0)∧Ey s=((Cv s).map (·.1)++[⟨0,[],s.length⟩],0,0):=by
 unfold Ey at h ⊢
 split at h
 ·exact absurd h (show ¬(3:Int)=0 by decide)
 rename_i hl
 rw [if_neg hl]
 cases hf:(Cv s).find? (fun it=>it.2 != 0) with
 | some it =>
  rw [hf] at h
  have:=List.find?_some hf
  simp at this
  exact absurd h this
 | none =>
  rw [R4] at hf
  refine ⟨by omega,fun it hit=>by simpa using hf it hit,rfl⟩
theorem ASl:Tryz.prog.eqGuardType Tryz.prog.depth 41=false:=by kernel_rfl
theorem AGu (k k':Int) (s s':List UInt8) (w:World):(Op.equal 41 (.agg #[.string ⟨s.toArray⟩,.int .i64 k]) (.agg #[.string ⟨s'.toArray⟩,.int .i64 k'])).run Tryz.prog w=.ok (s==s'&&k==k') w:=by
 have h1:Tryz.prog.stoodInHeld 41=false:=by kernel_rfl
 show (Op.equalIn (9999+1) _ _ _).run _ _=_
 rw [Op.equalIn]
 generalize hd:(9999:Nat)=d
 obtain ⟨d,rfl⟩:∃e,d=e+1:=⟨9998,hd.symm⟩
 clear hd
 simp [run_underlying Tryz.underlying41,h1,part,AAr _ _ _ _ _ _ Tryz.underlying3,AJd _ _ _ _ _ Tryz.underlying9,Tryz.isAgg3,Tryz.isAgg9]
 by_cases e1:k=k'<;>by_cases e3:s=s'<;>simp [e1,e3]
theorem s0 {a b:Col}:(a.name==b.name&&a.kind==b.kind)=decide (a=b):=by
 rw [K9]
 cases a;cases b
 simp
def km (c:UInt8):Str:=if c=39 then [39,39] else [c]
def Qj (t:Str):Str:=t.flatMap km
theorem kn:∀t:Str,(Qj t).length≤2*t.length
 | []=>Ao _
 | c::r=>by
  have:=kn r
  unfold Qj at this ⊢
  rw [X9,Aw,B6]
  have h:(km c).length≤2:=by unfold km;split<;>simp
  omega
theorem Ut (c:UInt8) (r:Str):Qj (c::r)=km c++Qj r:=by unfold Qj;rw [X9]
theorem s6:∀s:Str,(Lib.index s [39] = -1∧Qj s=s)∨∃i:Nat,Lib.index s [39]=(i:Int)∧i<s.length∧Qj s=s.take i++[39,39]++Qj (s.drop (i+1))
 | []=>.inl ⟨rfl,rfl⟩
 | b::l=>by
  by_cases hb:b=39
  ·subst hb
   refine .inr ⟨0,by simp [Lib.index,List.isPrefixOf],by simp,?_⟩
   rw [Ut]
   simp [km]
  have hp:([39]:Str).isPrefixOf (b::l)=false:=by
   simp [List.isPrefixOf,Ne.symm hb]
  have hd:Qj (b::l)=b::Qj l:=by
   rw [Ut,km,if_neg hb]
   rfl
  rcases s6 l with ⟨h1,h2⟩|⟨i,h1,h2,h3⟩
  ·refine .inl ⟨?_,by rw [hd,h2]⟩
   rw [Lib.index,hp,h1];rfl
  refine .inr ⟨i+1,?_,by simp;omega,?_⟩
  ·rw [Lib.index,hp,h1,if_neg (by simp),if_neg (by simp)]
   rfl
  rw [hd,h3]
  simp
theorem Sy:∀(n:Nat) (s:Str),s.length≤n→Lib.replaceK [39] [39,39] (Lib.count s [39]) s=Qj s
 | n,s,hn=>by
  rcases s6 s with ⟨h1,h2⟩|⟨i,h1,h2,h3⟩
  ·rw [Lib.count_miss h1,h2];rfl
  cases n with
  | zero=>omega
  | succ n =>
   rw [Lib.count_hit (by decide) h1,Wp,Lib.replaceK_hit _ _ _ _ i h1]
   have e:i+([39]:Str).length=i+1:=rfl
   rw [e,Sy n (s.drop (i+1)) (by rw [Gl];omega),h3]
theorem Vt (s:Str):Lib.replaceAll s [39] [39,39]=Qj s:=by
 unfold Lib.replaceAll Lib.replace
 rw [if_neg (by decide)]
 have e:Lib.replaceNum s [39] (-1)=Lib.count s [39]:=by unfold Lib.replaceNum;rw [if_pos (.inl (by decide))]
 rw [e]
 exact Sy _ s (Ao _)
def s7 (t:Tok):Str:=if t.kind=4 then [39]++Qj t.text++[39] else t.text
theorem pm {q:Str} (h0:q.headD 0=39) (h1:1≤q.length) (h:(Iy q).2=0):[39]++Qj (Iy q).1.s++[39]=q:=by
 cases q with
 | nil=>simp at h1
 | cons c r =>
  have hc:c=39:=h0
  subst hc
  unfold Iy at h ⊢
  have n1:((39::r:Str)==[110,117,108,108])=false:=by rw [beq_eq_false_iff_ne];intro e;injection e with e;exact absurd e (by decide)
  have n2:((39::r:Str)==[116,114,117,101])=false:=by rw [beq_eq_false_iff_ne];intro e;injection e with e;exact absurd e (by decide)
  have n3:((39::r:Str)==[102,97,108,115,101])=false:=by rw [beq_eq_false_iff_ne];intro e;injection e with e;exact absurd e (by decide)
  rw [n1,n2,n3] at h ⊢
  simp only [An,if_false,Bool.or_self] at h ⊢
  by_cases hq:bt (39::r)=true
  ·rw [if_pos hq] at h ⊢
   unfold jr at h ⊢
   split at h
   ·exact absurd h (show ¬(7:Int)=0 by decide)
   rename_i hp
   rw [if_neg hp]
   have hp':Ih (Y1 (39::r))=39::r:=by simpa using hp
   have hk:(Y1 (39::r)).kind=2:=rfl
   show [39]++Qj (Y1 (39::r)).s++[39]=39::r
   generalize Y1 (39::r)=v at hp' hk
   have hne:Ih v≠[]:=by rw [hp'];simp
   rw [←hp']
   unfold Ih at hne ⊢
   split at hne
   ·exact absurd rfl hne
   rename_i hpl
   rw [if_neg hpl,hk,if_neg (by decide),if_pos (by decide),Vt]
  rw [if_neg hq] at h
  have hd:Hf (39::r)=true:=by
   unfold Hf
   have e:Mp (39::r)=39::r:=by
    rcases K4 (39::r) with ⟨_,h4⟩|⟨r',h3,_⟩
    ·exact h4
    injection h3 with h3;exact absurd h3 (by decide)
   rw [e]
   have:(Lib.trimS (39::r) digs==[])=false:=by
    rw [beq_eq_false_iff_ne]
    intro e
    rw [trimS_nil] at e
    exact absurd (e 39 (by simp)) (by decide)
   rw [this]
   simp
  have hn:Cf (39::r)=(0,6):=by unfold Cf;rw [if_pos hd]
  rw [hn] at h
  simp at h
theorem b8 (s:Str) (m:Nat):s.take (s.take m).length=s.take m:=by
 rw [E7]
 rcases Nat.le_total m s.length with h|h
 ·rw [rf h]
 rw [Nat.min_eq_right h,Dn (Ao _),Dn h]
theorem P9 (s of:Str):s.take (Eg s of).length=Eg s of:=by
 unfold Eg
 exact b8 s _
/-- What a word's print spells is what was read. -/
theorem pq {s:Str} {n p:Nat} (h0:1≤s.length) (he:(D0 s).2.2.2=0) (hn:(D0 s).2.2.1=(n:Int)):s7 ⟨(D0 s).1,(D0 s).2.1,p⟩=s.take n:=by
 cases s with
 | nil=>simp at h0
 | cons c r =>
  unfold D0 at he hn ⊢
  by_cases c1:decide (0<Sr ((c::r).take 1) letters)=true
  ·rw [if_pos c1] at he hn
   simp only [if_pos c1]
   unfold Ri at he hn ⊢
   by_cases r1:Hq (Eg (c::r) tails)=true
   ·rw [if_pos r1] at hn
    simp only [if_pos r1]
    have hn':(((Eg (c::r) tails).length:Nat):Int)=n:=hn
    have e:n=(Eg (c::r) tails).length:=by omega
    rw [e,P9]
    rfl
   rw [if_neg r1] at he hn
   simp only [if_neg r1]
   by_cases r2:(!Cg (Eg (c::r) tails))=true
   ·rw [if_pos r2] at he;exact absurd he (show ¬(3:Int)=0 by decide)
   rw [if_neg r2] at hn
   simp only [if_neg r2]
   have hn':(((Eg (c::r) tails).length:Nat):Int)=n:=hn
   have e:n=(Eg (c::r) tails).length:=by omega
   rw [e,P9]
   rfl
  rw [if_neg c1] at he hn
  simp only [if_neg c1]
  by_cases c2:decide (0<Sr ((c::r).take 1) digs)=true
  ·rw [if_pos c2] at he hn
   simp only [if_pos c2]
   have hn':(((Eg (c::r) digs).length:Nat):Int)=n:=hn
   have e:n=(Eg (c::r) digs).length:=by omega
   rw [e,P9]
   rfl
  rw [if_neg c2] at he hn
  simp only [if_neg c2]
  by_cases c3:(((((c::r)).getD 0 0).toNat:Int)==39)=true
  ·rw [if_pos c3] at he hn
   simp only [if_pos c3]
   have hc:c=39:=by
    have c3':((c.toNat:Int)==39)=true:=c3
    exact Kp.1 (by have:(39:UInt8).toNat=39:=rfl;simp at c3';omega)
   unfold Ly at he hn ⊢
   cases hq:E0 ((c::r).drop 1) with
   | none=>rw [hq] at he;exact absurd he (show ¬(7:Int)=0 by decide)
   | some m =>
    rw [hq] at he hn
    simp only at he hn ⊢
    split at he
    ·exact absurd he (show ¬(3:Int)=0 by decide)
    rename_i hr
    rw [if_neg hr] at hn
    simp only [if_neg hr]
    have hm':(((m+1:Nat)):Int)=n:=hn
    have hm:n=m+1:=by omega
    subst hm
    have hr':(Iy ((c::r).take (m+1))).2=0:=by simpa using hr
    have:=pm (q:=(c::r).take (m+1)) (by rw [hc];rfl) (by simp) hr'
    unfold s7
    rw [if_pos rfl]
    exact this
  rw [if_neg c3] at he hn
  simp only [if_neg c3]
  unfold Y5 at he hn ⊢
  split at hn
  ·rename_i h2
   simp only [if_pos h2]
   have hn':(2:Int)=n:=hn
   have:n=2:=by omega
   subst this
   rfl
  rename_i h2
  rw [if_neg h2] at he
  simp only [if_neg h2]
  split at hn
  ·rename_i h3
   simp only [if_pos h3]
   have hn':(1:Int)=n:=hn
   have:n=1:=by omega
   subst this
   rfl
  rename_i h3
  rw [if_neg h3] at he
  exact absurd he (show ¬(7:Int)=0 by decide)
/-! What is printed of columns, word by word. -/
theorem wrap_u64 {n:Int} (h1:0≤n) (h2:n<18446744073709551616):IntKind.u64.wrap n=n:=by
 have e1:(2 ^ IntKind.u64.bits:Int)=18446744073709551616:=rfl
 have e3:IntKind.u64.signed=false:=rfl
 unfold IntKind.wrap
 simp only [e1,e3,Es]
 simp
 omega
theorem s8:∀t:Str,t.length≤(Qj t).length
 | []=>Ao _
 | c::r=>by
  have:=s8 r
  rw [Ut,Aw,B6]
  have h:1≤(km c).length:=by unfold km;split<;>simp
  omega
theorem AGv (t:Tok):t.text.length≤(s7 t).length:=by
 unfold s7
 split
 ·have:=s8 t.text
  simp only [Aw,B6,Bc]
  omega
 exact Ao _
theorem Q7 {n k:Nat} {o:Bool} {l:List Str} {z:Str}:Low n (.slice o k (l.map Ac++[Ac z])):=by
 refine .slice _ _ _ (fun y hy=>?_)
 rcases Ek.1 hy with hy|hy
 ·obtain ⟨a,_,rfl⟩:=Dm.1 hy
  intro z hz
  rw [Br.1 (show z∈[Ac a] from hz)]
  exact .v _
 rw [Br.1 hy]
 intro z' hz
 rw [Br.1 (show z'∈[Ac z] from hz)]
 exact .v _
/-- Words with an end. -/
structure TokEnd (l:List Tok):Prop where
 split:∃L z,l=L++[z]∧z.kind=0∧∀t∈L,t.kind≠0
 texts:∀t∈l,t.text.length≤1048576
theorem TokEnd.pos {l:List Tok} (h:TokEnd l):1≤l.length:=by
 obtain ⟨L,z,rfl,_,_⟩:=h.split
 simp
theorem TokEnd.text {l:List Tok} (h:TokEnd l) (i:Nat):(B1 l i).text.length≤1048576:=by
 unfold B1
 rcases Bn i l.length with hi|hi
 ·rw [Cz,Ae hi]
  exact h.texts _ (Bb hi)
 rw [Cz,Hv hi]
 exact Av _
theorem AGw (s:Str) (he:(D0 s).2.2.2=0):(D0 s).1≠0:=by
 revert he
 unfold D0 Ri g8 Ly Y5
 repeat' split
 all_goals simp
theorem ko:∀(f q:Nat) (s:Str),(∀it∈Jk f q s,it.2=0)→∀it∈Jk f q s,it.1.kind≠0∧it.1.text.length≤s.length
 | 0,_,_,_,it,hm=>by cases hm
 | f+1,q,s,h,it,hm=>by
  by_cases hs:s=[]
  ·subst hs;cases hm
  obtain ⟨n,h1,h2⟩:=kj (f:=f) (q:=q) hs
  rw [h1] at hm h
  have h0:(D0 s).2.2.2=0:=h (⟨(D0 s).1,(D0 s).2.1,q⟩,(D0 s).2.2.2) (Js ..)
  obtain ⟨hn,hn1,hn2⟩:=h2 h0
  rw [if_pos h0] at hm h
  rcases C0.1 hm with rfl|hm
  ·refine ⟨AGw s h0,?_⟩
   have hs1:1≤s.length:=by cases s with|nil=>exact absurd rfl hs|cons c r=>simp
   have:=pq (p:=q) hs1 h0 hn
   have h3:=AGv ⟨(D0 s).1,(D0 s).2.1,q⟩
   rw [this] at h3
   simp only [E7] at h3
   show (D0 s).2.1.length≤s.length
   omega
  have:=ko f _ _ (fun it hit=>h it (It _ hit)) it hm
  simp only [Gl] at this
  exact ⟨this.1,by omega⟩
theorem s9 {s:Str} (h:(Ey s).2.1=0):TokEnd (Ey s).1:=by
 by_cases h4:4000<s.length
 ·unfold Ey at h
  rw [if_pos h4] at h
  exact ABp
 have e:Ey s=((Cv s).map (·.1)++[⟨0,[],s.length⟩],0,0)∧∀it∈Cv s,it.2=0:=by
  unfold Ey at h ⊢
  rw [if_neg h4] at h ⊢
  cases hf:(Cv s).find? (fun it=>it.2 != 0) with
  | none =>
   rw [R4] at hf
   exact ⟨rfl,fun it hit=>by simpa using hf it hit⟩
  | some it =>
   rw [hf] at h
   have:=List.find?_some hf
   simp only [bne_iff_ne] at this
   exact absurd h this
 obtain ⟨e,hz⟩:=e
 have hnz:=ko _ _ _ hz
 rw [e]
 refine ⟨⟨_,_,rfl,rfl,fun t ht=>?_⟩,fun t ht=>?_⟩
 ·obtain ⟨it,hit,rfl⟩:=Dm.1 ht
  exact (hnz it hit).1
 rcases Ek.1 ht with ht|ht
 ·obtain ⟨it,hit,rfl⟩:=Dm.1 ht
  have:=(hnz it hit).2
  simp only [Gl] at this
  omega
 have e:t=⟨0,[],s.length⟩:=by simpa using ht
 subst e
 exact Av _
/-! What is printed of a schema is read. -/
theorem AGx {c:List Col} (h:O4 c=false):OkCols c:=by
 unfold O4 at h
 simp only [Df,decide_eq_false_iff_not,R2,decide_eq_true_eq] at h
 refine ⟨by omega,fun y hy=>?_⟩
 have:=h.2 y hy
 omega
def b9 {α:Type} [BEq α] (v:α) (l:List α):Int:=match l.findIdx? (·==v) with|some i=>i|none => -1
theorem ACl {α:Type} [BEq α] [LawfulBEq α] {v:α} {l:List α} {x:Nat} (h:x<l.length) (h1:l[x]=v) (h2:∀(j:Nat) (y:α),j<x→l[j]? = some y→¬(y=v)):b9 v l=x:=by
 have:l.findIdx? (·==v)=some x:=by
  rw [N5]
  exact ⟨h,by simpa using h1,fun j hj=>by simpa using h2 j l[j] hj (Ae _)⟩
 simp [b9,this]
theorem ACm {α:Type} [BEq α] [LawfulBEq α] {v:α} {l:List α} (h:∀(j:Nat) (y:α),l[j]? = some y→¬(y=v)):b9 v l = -1:=by
 have:l.findIdx? (·==v)=none:=by
  rw [Tw]
  intro y hy
  obtain ⟨j,hj⟩:=Cr hy
  simpa using h j y hj
 simp [b9,this]
theorem AGy {α:Type} [BEq α] [LawfulBEq α] (v:α) (l:List α):decide (0≤b9 v l)=l.contains v:=by
 unfold b9
 cases h:l.findIdx? (·==v) with
 | none =>
  rw [Tw] at h
  have:l.contains v=false:=by
   rw [D6]
   intro hc
   have:=h v (by simpa using hc)
   simp at this
  rw [this];rfl
 | some i =>
  rw [N5] at h
  obtain ⟨hi,e,_⟩:=h
  have:l.contains v=true:=by
   have:l[i]=v:=by simpa using e
   rw [←this]
   simp
  rw [this]
  simp only [decide_eq_true_eq]
  omega
theorem c70 (l:List Str) (v:Str) (hl:l.length≤1048576) (Hp:List AObj):AFun Tryz.prog 70 [En l,Ac v] Hp (A5 (b9 v l)):=by
 refine Aj [.tmp 4] [0,1] Tryz.func70 Tryz.ntmps70 (fun d=>?_)
 refine wh ?_
 refine B9 (α:=Nat) (fun x=>⟨19,Aa 0 (En l) (Aa 1 (Ac v) (Aa 7 (A5 l.length) (Aa 8 (A5 (x:Nat)) (fun _=>.any)))),Hp,[],[],none⟩) (fun x=>x≤l.length∧∀(j:Nat) (y:Str),j<x→l[j]? = some y→¬(y=v)) (fun x=>l.length-x) (0) (by simp) (Az (by simp)) rfl (fun x hx=>?_)
 refine vh ?_
 refine Ev (fun ht9=>?_) (fun ht9=>?_)
 ·have hlt:x<l.length:=by simpa using ht9
  refine wg ?_
  refine A4 (h:=Ad (x) (Ac l[x]) (fun _=>B3 hlt)) (hr:=?_)
  refine Z0 ?_;refine wm ?_
  refine A3 (fun ht16=>?_) (fun ht16=>?_)
  ·refine Z1 ?_;refine nv ?_;exact A8 (Ai A7) ⟨by rw [ACl hlt (by simpa using (Eq.symm (by simpa using ht16):l[x]=v)) hx.2],rfl⟩
  refine Ni ?_;refine A2 [0,1,7,8] ?_;exact B2 (x+1) ⟨hlt,D3 hlt hx.2 (fun e=>by rw [e] at ht16;simp at ht16)⟩ (by omega) (Bz rfl)
 refine So ?_;refine Z33 ?_;exact A8 (Ai A7) ⟨by rw [ACm (Ld (by simp at ht9;omega) hx.2)],rfl⟩

theorem c96 (l:List Str) (v:Str) (hl:l.length≤1048576) (Hp:List AObj):AFun Tryz.prog 96 [En l,Ac v] Hp (At (l.contains v)):=by
 refine Aj [.tmp 4] [0,1] Tryz.func96 Tryz.ntmps96 (fun d=>?_)
 refine Z60 ?_;refine Z1 ?_;refine A9 Tryz.call70 (c70 l v hl _) ?_;refine Z0 ?_;refine Z33 ?_;exact A8 (Ai A7) ⟨by rw [AGy],rfl⟩

theorem xh {n k:Nat} {o:Bool} {l:List Col} {z:Col}:Low n (.slice o k (l.map D8++[D8 z])):=by
 refine .slice _ _ _ (fun y hy=>?_)
 have key:∀c:Col,∀w∈(D8 c).cells,Low n w:=by
  intro c w hw
  have hw':w∈[AV.v (sv c.name),AV.v (.int .i64 c.kind)]:=hw
  simp only [C0,I6,or_false] at hw'
  rcases hw' with rfl|rfl
  ·exact .v _
  exact .v _
 rcases Ek.1 hy with hy|hy
 ·obtain ⟨a,_,rfl⟩:=Dm.1 hy
  exact key a
 rw [Br.1 hy]
 exact key z
def Ia (c:List Col) (take:List Str) (j:Nat) (nm:Str):Bool := !(decide (C6 nm c<0) || (b9 nm take != (j:Int)))
def Hy (c:List Col) (take:List Str):Bool:=take.zipIdx.all fun x=>Ia c take x.2 x.1
theorem takenM_true {c:List Col} {take:List Str}:Hy c take=true↔∀(j:Nat) (y:Str),take[j]? = some y→Ia c take j y=true:=Rg
def Iz (c:List Col) (x:Nat) (y:Col):Bool := !((!Hg y.name) || (C6 y.name c != (x:Int)))
def J0 (c:List Col):Bool:=c.zipIdx.all fun x=>Iz c x.2 x.1
theorem namedC_true {c:List Col}:J0 c=true↔∀(j:Nat) (y:Col),c[j]? = some y→Iz c j y=true:=Rg
def Fd (c:List Col) (take:List Str):List Col:=c.filter fun y => !take.contains y.name
theorem sc {c:List Col} {take:List Str} {k:Nat} {y:Col} (h:c[k]? = some y) (hn:take.contains y.name=false):Fd (c.take (k+1)) take=Fd (c.take k) take++[y]:=by
 unfold Fd
 have e:c.take (k+1)=c.take k++[y]:=by rw [Wo,h];rfl
 have hm:¬y.name∈take:=by simpa using hn
 rw [e,List.filter_append]
 simp [List.filter_cons,hm]
theorem cg {c:List Col} {take:List Str} {k:Nat} {y:Col} (h:c[k]? = some y) (hn:take.contains y.name=true):Fd (c.take (k+1)) take=Fd (c.take k) take:=by
 unfold Fd
 have e:c.take (k+1)=c.take k++[y]:=by rw [Wo,h];rfl
 have hm:y.name∈take:=by simpa using hn
 rw [e,List.filter_append]
 simp [List.filter_cons,hm]
theorem J1 (c:List Col) (take:List Str):(Fd c take).length≤c.length:=List.length_filter_le _ _
def Dt (c:List Col) (take:List Str) (give:List Col):List Col×Int:=
 if Ew c=false then ([],1) else if Hy c take=false then ([],9) else if J0 (Fd c take++give)=false then ([],9)
 else if J8 (Fd c take++give)=false then ([],10) else if 12<(Fd c take++give).length then ([],3) else (Fd c take++give,0)
theorem ALd {c:List Col} {take:List Str} {give:List Col} (h:Ew c=false):Dt c take give=([],1):=by unfold Dt;rw [if_pos h]
theorem ACn {c:List Col} {take:List Str} {give:List Col} (h:Ew c=true) (h2:Hy c take=false):Dt c take give=([],9):=by unfold Dt;rw [if_neg (by rw [h];simp),if_pos h2]
theorem ACo {c:List Col} {take:List Str} {give out:List Col} (h:Ew c=true) (h2:Hy c take=true) (ho:Fd c take++give=out) (h3:J0 out=false):Dt c take give=([],9):=by
 unfold Dt;rw [ho,if_neg (by rw [h];simp),if_neg (by rw [h2];simp),if_pos h3]
theorem ACp {c:List Col} {take:List Str} {give out:List Col} (h:Ew c=true) (h2:Hy c take=true) (ho:Fd c take++give=out) (h3:J0 out=true) (h4:J8 out=false):Dt c take give=([],10):=by
 unfold Dt;rw [ho,if_neg (by rw [h];simp),if_neg (by rw [h2];simp),if_neg (by rw [h3];simp),if_pos h4]
theorem ACq {c:List Col} {take:List Str} {give out:List Col} (h:Ew c=true) (h2:Hy c take=true) (ho:Fd c take++give=out) (h3:J0 out=true) (h4:J8 out=true) (h5:12<out.length):Dt c take give=([],3):=by
 unfold Dt;rw [ho,if_neg (by rw [h];simp),if_neg (by rw [h2];simp),if_neg (by rw [h3];simp),if_neg (by rw [h4];simp),if_pos h5]
theorem ACr {c:List Col} {take:List Str} {give out:List Col} (h:Ew c=true) (h2:Hy c take=true) (ho:Fd c take++give=out) (h3:J0 out=true) (h4:J8 out=true) (h5:¬12<out.length):Dt c take give=(out,0):=by
 unfold Dt;rw [ho,if_neg (by rw [h];simp),if_neg (by rw [h2];simp),if_neg (by rw [h3];simp),if_neg (by rw [h4];simp),if_neg h5]
theorem Mu {c:List Col} (h:Ew c=true):c.length≤12:=by
 unfold Ew at h
 simp at h
 omega
theorem pt {c give:List Col} {take:List Str} {out:List Col} (hc:OkCols c) (h:Ew c=true) (hg:OkCols give) (hg2:give.length≤1000000) (ho:Fd c take++give=out):OkCols out:=by
 subst ho
 have h1:=J1 c take
 have h2:=Mu h
 refine ⟨by simp only [Aw];omega,fun y hy=>?_⟩
 rcases Ek.1 hy with hy|hy
 ·exact hc.2 y ((List.mem_filter.1 hy).1)
 exact hg.2 y hy
theorem ASm (c:List Col) (hc:OkCols c) (take:List Str) (ht:take.length≤1048576) (Hp:List AObj):AFun Tryz.prog 241 [B0 c,En take] Hp (At (Hy c take)):=by
 refine Aj [.tmp 4] [0,1] Tryz.func241 Tryz.ntmps241 (fun d=>?_)
 refine Z60 ?_;refine Z31 ?_;refine A2 [0,1,7,8,9] ?_
 refine B9 (α:=Nat) (fun x=>⟨26,Aa 0 (B0 c) (Aa 1 (En take) (Aa 7 (En take) (Aa 8 (A5 take.length) (Aa 9 (A5 (x:Nat)) (fun _=>.any))))),Hp,[],[],none⟩) (fun x=>x≤take.length∧∀(j:Nat) (y:Str),j<x→take[j]? = some y→Ia c take j y=true) (fun x=>take.length-x) (0) (by simp) (Az (by simp)) rfl (fun x hx=>?_)
 refine Z2 ?_;refine A2 [0,1,7,8,9,10] ?_
 refine Ev (fun ht10=>?_) (fun ht10=>?_)
 ·have hlt:x<take.length:=by simpa using ht10
  refine U8 ?_
  refine A4 (h:=Ad (x) (Ac take[x]) (fun _=>B3 hlt)) (hr:=?_)
  refine Z11 ?_;refine A2 [0,1,5,6,7,8,9] ?_;refine Z1 ?_;refine A9 Tryz.call58 (c58 c hc _ _) ?_;refine Z42 ?_;refine Bk Tryz.call70 (fun hB=>c70 take _ ht _) ?_;refine Nj ?_;refine A2 [0,1,7,8,9,24] ?_
  refine A3 (fun ht24=>?_) (fun ht24=>?_)
  ·refine Z84 ?_;refine Z99 ?_
   exact A8 (Ai A7) ⟨by rw [show Hy c take=false from D6.2 fun h=>by have:=takenM_true.1 h x take[x] (Ae hlt);unfold Ia at this;rw [ht24] at this;cases this],rfl⟩
  refine Ni ?_;refine A2 [0,1,7,8,9] ?_;exact B2 (x+1) ⟨hlt,Ig hlt hx.2 (by unfold Ia;rw [ht24];rfl)⟩ (by omega) (Bz rfl)
 refine So ?_;refine Z33 ?_;exact A8 (Ai A7) ⟨by rw [takenM_true.2 (Kw (by simp at ht10;omega) hx.2)],rfl⟩

theorem ASn (c:List Col) (hc:OkCols c) (Hp:List AObj):AFun Tryz.prog 243 [B0 c] Hp (At (J0 c)):=by
 refine Aj [.tmp 2] [0] Tryz.func243 Tryz.ntmps243 (fun d=>?_)
 refine Z56 ?_;refine Z31 ?_;refine A2 [0,5,6,7] ?_
 refine B9 (α:=Nat) (fun x=>⟨25,Aa 0 (B0 c) (Aa 5 (B0 c) (Aa 6 (A5 c.length) (Aa 7 (A5 (x:Nat)) (fun _=>.any)))),Hp,[],[],none⟩) (fun x=>x≤c.length∧∀(j:Nat) (y:Col),j<x→c[j]? = some y→Iz c j y=true) (fun x=>c.length-x) (0) (by simp) (Az (by simp)) rfl (fun x hx=>?_)
 refine Z2 ?_;refine A2 [0,5,6,7,8] ?_
 refine Ev (fun ht8=>?_) (fun ht8=>?_)
 ·have hlt:x<c.length:=by simpa using ht8
  have hcl:=hc.len
  refine U8 ?_
  refine A4 (h:=Ad (x) (D8 c[x]) (fun _=>B3 hlt)) (hr:=?_)
  refine w5 ?_;refine A2 [0,3,4,5,6,7] ?_;refine Z1 ?_;refine A9 Tryz.call40 (c40 _ (hc.names _ (Bb hlt)) _) ?_;refine Z0 ?_;refine Z27 ?_;refine Bk Tryz.call58 (fun hB=>c58 c hc _ _) ?_;refine Nj ?_;refine A2 [0,5,6,7,23] ?_
  refine A3 (fun ht23=>?_) (fun ht23=>?_)
  ·rw [Ea] at ht23
   refine w9 ?_
   exact A8 (Ai A7) ⟨by rw [show J0 c=false from D6.2 fun h=>by have:=namedC_true.1 h x c[x] (Ae hlt);unfold Iz at this;rw [ht23] at this;cases this],rfl⟩
  rw [Ea] at ht23
  refine Ni ?_;refine A2 [0,5,6,7] ?_
  refine B2 (x+1) ⟨hlt,Ig hlt hx.2 (by unfold Iz;rw [ht23];rfl)⟩ (by omega) ?_
  exact Dz (own:=[]) (fun _=>.refl _) (by repeat (first|exact By|refine Bx (by simp [or_imp,forall_and]) ?_)) (by simp) (by simp)
 refine Z30 ?_;refine Z26 ?_;exact A8 (Ai A7) ⟨by rw [namedC_true.2 (Kw (by simp at ht8;omega) hx.2)],rfl⟩

theorem ASo (c:List Col) (take:List Str) (Hp:List AObj):AFun Tryz.prog 242 [B0 c,En take] Hp (.fn (.func 286) [] [.ro [B0 c],.ro [En take]]):=by
 refine Aj [.tmp 4] [0,1] Tryz.func242 Tryz.ntmps242 (fun d=>?_)
 refine vl ?_;refine E9 ?_;refine vm ?_;exact nt

theorem ASp (l:Nat) (c:List Col) (take:List Str) (hc:c.length≤1048576) (ht:take.length≤1048576) (U:Nat→List AObj) (hlen:∀k,(U k).length=(U 0).length) (hll:l<(U 0).length)
  (hlw:∀k,∀x∈U k,ObjLow (U 0).length x) (hn:∀k y,c[k]? = some y→take.contains y.name=true→U (k+1)=U k)
  (hy:∀k y X,c[k]? = some y→take.contains y.name=false→AYield Tryz.prog l [D8 y] (U k++X) (fun b H'=>b=true∧H'=U (k+1)++X)):ACall Tryz.prog 286 [.yield l,.ro [B0 c],.ro [En take]] (U 0) (fun _ H'=>H'=U c.length):=by
 refine Aj [] [0,1,2] Tryz.func286 Tryz.ntmps286 (fun d=>?_)
 refine Z14 ?_;refine A2 [0,2,6,7,8] ?_
 refine B9 (α:=Nat) (fun x=>⟨24,Aa 0 (.yield l) (Aa 2 (.ro [En take]) (Aa 6 (B0 c) (Aa 7 (A5 c.length) (Aa 8 (A5 (x:Nat)) (fun _=>.any))))),U x,[],[],none⟩) (fun x=>x≤c.length) (fun x=>c.length-x) (0) (Av _) (Az (by simp)) rfl (fun x hx=>?_)
 refine Z2 ?_;refine A2 [0,2,6,7,8,9] ?_
 refine Ev (fun ht9=>?_) (fun ht9=>?_)
 ·have hlt:x<c.length:=by simpa using ht9
  refine Wc ?_
  refine A4 (h:=Ad (x) (D8 c[x]) (fun _=>B3 hlt)) (hr:=?_)
  refine We ?_;refine A2 [0,2,5,6,7,8] ?_;refine Z14 ?_;refine A9 Tryz.call96 (c96 take _ ht _) ?_;refine Z42 ?_
  refine G.yield (l:=l) (C:=((!take.contains c[x].name)==true)) (args:=[D8 c[x]]) (fun hC=>hy x c[x] _ (Ae hlt) (by simpa using hC)) ?_
  intro b V O hV hb hb0
  have hVO:V=U (x+1)∧O=[AObj.cells 41 [Ac c[x].name,A5 c[x].kind]]∧(take.contains c[x].name=false→b=true):=by
   cases hcn:take.contains c[x].name with
   | true =>
    obtain ⟨h1,h2⟩:=hb0 (by rw [hcn];rfl)
    exact ⟨h1.trans (hn x c[x] (Ae hlt) hcn).symm,h2,fun e=>by cases e⟩
   | false =>
    obtain ⟨h1,h2⟩:=hb (by rw [hcn];rfl)
    have h3:=Ts h2 (by rw [hV,hlen x,hlen (x+1)])
    exact ⟨h3.1,h3.2,fun _=>h1⟩
  obtain ⟨rfl,rfl,hbt⟩:=hVO
  refine ⟨fun _=>by rw [hlen (x+1)];exact hlw (x+1),fun o ho=>(by cases ho),?_⟩
  refine Z92 ?_;refine A2 [0,2,6,7,8,22] ?_
  refine A3 (fun ht22=>?_) (fun ht22=>?_)
  ·exfalso
   have hcf:take.contains c[x].name=false:=by simp at ht22 ⊢;exact ht22.1
   rw [hbt hcf] at ht22
   simp at ht22
  refine Ni ?_;refine A2 [0,2,6,7,8] ?_;refine B2 (x+1) hlt (by omega) ?_
  exact Dz (own:=[]) (fun _=>.refl _) (by repeat (first|exact By|refine Bx (by first|(simp [or_imp,forall_and];done)|(have:=hlen (x+1);simp;omega)) ?_)) (by simp) (by simp)
 have hxe:x=c.length:=by simp at ht9;omega
 refine K.lpE ?_;exact Mc .nores (hp:=by rw [hxe])

theorem kp {c:List Col} {take:List Str} {x:Nat} (hlt:x<take.length) (h:Ia c take x take[x]=false):Hy c take=false:=
 D6.2 fun h'=>by rw [takenM_true.1 h' x take[x] (Ae hlt)] at h;cases h
theorem pu {α:Type} [BEq α] [LawfulBEq α] {v:α} {l:List α} {k x:Nat} (hlk:k<l.length) (hkx:k<x) (h:l[k]=v):(b9 v l != (x:Int))=true:=by
 rw [bne_iff_ne]
 intro e
 unfold b9 at e
 cases hf:l.findIdx? (·==v) with
 | none=>rw [hf] at e;exact absurd (show (-1:Int)=(x:Int) from e) (by omega)
 | some i =>
  rw [hf] at e
  have hix:i=x:=by simp at e;omega
  subst hix
  rw [N5] at hf
  obtain ⟨_,_,h3⟩:=hf
  have:=h3 k hkx
  rw [h] at this
  simp at this
theorem ACs {α:Type} {p:α→Bool} {l:List α} {x:Nat} (h:x<l.length):(l.take (x+1)).all p=((l.take x).all p&&p l[x]):=by
 have e:l.take (x+1)=l.take x++[l[x]]:=by rw [Wo,Ae h];rfl
 rw [e,mv]
 simp
theorem ALe (l:List Str) (n:Str):(l.all fun t => !(t==n)) = !l.contains n:=by
 induction l with
 | nil=>rfl
 | cons x r ih =>
  rw [List.all_cons,ih,List.contains_cons,Bool.not_or]
  congr 2
  exact Bool.beq_comm ..
def Rn (y:Col):Bool := !(decide (y.kind<1) || decide ((3:Int)<y.kind))
theorem kq (c:List Col) (j:Nat) (y:Col):Vk c j y=(Iz c j y&&Rn y):=by
 unfold Vk Iz Rn
 cases Hg y.name<;>cases decide (y.kind<1)<;>cases decide ((3:Int)<y.kind)<;>cases (C6 y.name c != (j:Int))<;>rfl
theorem pv {c:List Col} (h:J0 c=true) (hk:∀(j:Nat) (y:Col),c[j]? = some y→Rn y=true):J8 c=true:=
 colsM_true.2 fun j y hj=>by rw [kq,namedC_true.1 h j y hj,hk j y hj];rfl
theorem gi {c:List Col} {x:Nat} (hlt:x<c.length) (hk:Rn c[x]=false):J8 c=false:=
 D6.2 fun h=>by have:=colsM_true.1 h x c[x] (Ae hlt);rw [kq,hk,dr] at this;cases this
theorem ACt {c:List Col} {x:Nat} (hlt:x<c.length) (hk:Iz c x c[x]=false):J0 c=false:=
 D6.2 fun h=>by rw [namedC_true.1 h x c[x] (Ae hlt)] at hk;cases hk
theorem ASq (c:List Col) (hc:OkCols c) (take:List Str) (ht:take.length≤1048576) (give:List Col) (hg:OkCols give) (hg2:give.length≤1000000) (Hp:List AObj):AFun Tryz.prog 108 [B0 c,En take,B0 give] Hp (.tup [B0 (Dt c take give).1,A5 (Dt c take give).2]):=by
 refine Aj [.tmp 6,.tmp 7] [0,1,2] Tryz.func108 Tryz.ntmps108 (fun d=>?_)
 refine Z1 ?_;refine A2 [0,1,2] ?_;refine Z25 ?_;refine A9 Tryz.call24 (c24 c hc _) ?_;refine A4 ?_;refine A2 [0,1,2,18] ?_
 refine A3 (fun ht18=>?_) (fun ht18=>?_)
 ·have hr:Ew c=false:=by simpa using ht18
  refine Xs ?_;exact ANt
 have hr:Ew c=true:=by simpa using ht18
 refine Nk ?_;refine A2 [0,1,2,8] ?_
 refine B9 (α:=Nat) (fun x=>⟨131,Aa 0 (B0 c) (Aa 1 (En take) (Aa 2 (B0 give) (Aa 8 (A5 (x:Nat)) (fun _=>.any)))),Hp,[],[],none⟩) (fun x=>x≤take.length∧∀(j:Nat) (y:Str),j<x→take[j]? = some y→Ia c take j y=true) (fun x=>take.length-x) (0) (by simp) (F1 _) rfl (fun x hx=>?_)
 refine Z46 ?_;refine A2 [0,1,2,8,22] ?_
 refine A3 (fun ht22=>?_) (fun ht22=>?_)
 ·have hlt:x<take.length:=by simpa using ht22
  refine Z50 ?_;refine Z31 ?_
  refine A4 (h:=Ad (x) (Ac take[x]) (fun _=>B3 hlt)) (hr:=?_)
  refine A4 ?_;refine A9 Tryz.call25 (c25 c hc _ _) ?_;refine A4 ?_;refine A2 [0,1,2,8,31] ?_
  refine A3 (fun ht31=>?_) (fun ht31=>?_)
  ·have hkn:Hy c take=false:=kp hlt (by unfold Ia;rw [ht31];rfl)
   refine Xs ?_;refine Z10 ?_;exact ANm
  refine Z58 ?_;refine A2 [0,1,2,8,9] ?_
  refine B9 (α:=Nat) (fun k=>⟨131,Aa 0 (B0 c) (Aa 1 (En take) (Aa 2 (B0 give) (Aa 8 (A5 (x:Nat)) (Aa 9 (A5 (k:Nat)) (fun _=>.any))))),Hp,[],[],none⟩) (fun k=>k≤x∧∀(j:Nat) (y:Str),j<k→take[j]? = some y→¬(y=take[x])) (fun k=>x-k) (0) (by simp) (F1 _) rfl (fun k hk=>?_)
  refine Z31 ?_;refine A2 [0,1,2,8,9,34] ?_
  refine A3 (fun ht34=>?_) (fun ht34=>?_)
  ·have hkx:k<x:=by simpa using ht34
   have hlk:k<take.length:=by omega
   refine AOy ?_;refine Z9 ?_
   refine Aq (h:=Ad (k) (Ac take[k]) (fun _=>B3 hlk)) (hr:=?_)
   refine Z37 ?_
   refine Aq (h:=Ad (x) (Ac take[x]) (fun _=>B3 hlt)) (hr:=?_)
   refine Z86 ?_;refine A4 ?_;refine A2 [0,1,2,8,9,45] ?_
   refine A3 (fun ht45=>?_) (fun ht45=>?_)
   ·have hkn:Hy c take=false:=kp hlt (by unfold Ia;rw [pu hlk hkx (by simpa using ht45)];simp)
    refine Xs ?_;refine Z13 ?_;refine Kh ?_;exact ANm
   refine Z87 ?_;refine A2 [0,1,2,8,9] ?_;exact B2 (k+1) ⟨hkx,D3 (l:=take) hlk hk.2 (by simpa using ht45)⟩ (by omega) (Bz rfl)
  have hkx:k=x:=by simp at ht34;omega
  have htk:Ia c take x take[x]=true:=by
   unfold Ia
   rw [ht31,ACl hlt rfl (fun j y hj=>hk.2 j y (by omega))]
   simp
  refine w7 ?_;refine Me ?_;refine A2 [0,1,2,8] ?_;exact B2 (x+1) ⟨hlt,Ig hlt hx.2 htk⟩ (by omega) (Bz rfl)
 have hk0:Hy c take=true:=takenM_true.2 (Kw (by simp at ht22;omega) hx.2)
 refine vw ?_;refine j3 ?_;refine A2 [0,1,2,10] ?_;refine Z25 ?_;refine A2 [0,1,2,10,11] ?_
 refine B9 (α:=Nat) (fun i=>⟨131,Aa 0 (B0 c) (Aa 1 (En take) (Aa 2 (B0 give) (Aa 10 (.slice true 2 ((Fd (c.take i) take).map D8)) (Aa 11 (A5 (i:Nat)) (fun _=>.any))))),Hp,[],[],none⟩) (fun i=>i≤c.length) (fun i=>c.length-i) (0) (Av _) (Az (by simp [Fd])) rfl (fun i hi=>?_)
 refine Z46 ?_;refine A2 [0,1,2,10,11,50] ?_
 refine A3 (fun ht50=>?_) (fun ht50=>?_)
 ·have hli:i<c.length:=by simpa using ht50
  have hcl:=hc.len
  refine Z50 ?_;refine Z2 ?_;refine A2 [0,1,2,10,11,12] ?_;refine Z25 ?_;refine A2 [0,1,2,10,11,12,13] ?_
  refine B9 (α:=Nat) (fun m=>⟨131,Aa 0 (B0 c) (Aa 1 (En take) (Aa 2 (B0 give) (Aa 10 (.slice true 2 ((Fd (c.take i) take).map D8)) (Aa 11 (A5 (i:Nat)) (Aa 12 (At ((take.take m).all fun t => !(t==c[i].name))) (Aa 13 (A5 (m:Nat)) (fun _=>.any))))))),Hp,[],[],none⟩) (fun m=>m≤take.length) (fun m=>take.length-m) (0) (Av _) (F1 _) rfl (fun m hm=>?_)
  refine Z46 ?_;refine A2 [0,1,2,10,11,12,13,56] ?_
  refine A3 (fun ht56=>?_) (fun ht56=>?_)
  ·have hlm:m<take.length:=by simpa using ht56
   refine Z50 ?_;refine U6 [0,1,3,3,15,31,3,3,195,451,963,2047,4095,8191] 11 Am (by kernel_rfl) ?_;refine w4 ?_
   refine Fh (h:=Ad (m) (Ac take[m]) (fun _=>B3 hlm)) (hr:=?_)
   refine jf ?_
   refine Fh (h:=Ad (i) (D8 c[i]) (fun _=>B3 hli)) (hr:=?_)
   refine Z57 ?_;refine Dq ?_;refine U7 ?_;refine A2 [0,1,2,10,11,12,13] ?_;refine Me ?_;refine A2 [0,1,2,10,11,12,13] ?_;exact B2 (m+1) hlm (by omega) (Bz (by rw [ACs hlm];rfl))
  have hme:take.take m=take:=Dn (by simp at ht56;omega)
  rw [hme,ALe]
  refine Xw ?_;refine A2 [0,1,2,10,11,72] ?_
  refine A3 (fun ht72=>?_) (fun ht72=>?_)
  ·have hst:=sc (take:=take) (Ae hli) (by simpa using ht72)
   refine j6 ?_;refine Z0 ?_
   refine A4 (h:=Ad (i) (D8 c[i]) (fun _=>B3 hli)) (hr:=?_)
   refine fc ?_
   refine Gz jU Tryz.type41 ?_ ?_ ?_
   ·have h1:=J1 (c.take i) take;have h2:=hc.len;simp only [E7] at h1;simp [Tryz.t41];omega
   ·have h1:=J1 (c.take i) take;have h2:=hc.len;simp only [E7] at h1;simp [Tryz.t41];omega
   refine Jh ?_;refine A2 [0,1,2,10,11] ?_;refine Me ?_;exact AN5
  have hst:=cg (take:=take) (Ae hli) (by simpa using ht72)
  refine Z87 ?_;exact AN5
 have hie:c.take i=c:=Dn (by simp at ht50;omega)
 rw [hie]
 refine vw ?_;refine R.moveT ?_;refine A4 ?_
 refine Gz jU Tryz.type41 ?_ ?_ ?_
 ·have h1:=J1 c take;have h2:=Mu hr;simp [Tryz.t41];omega
 ·have h1:=J1 c take;have h2:=Mu hr;simp [Tryz.t41];omega
 refine Jh ?_;refine A2 [10] ?_;refine Z89 ?_
 have e10:(Fd c take).map D8++give.map D8=(Fd c take++give).map D8:=(Cs ..).symm
 rw [e10]
 generalize hout:Fd c take++give=out
 have ho:OkCols out:=pt hc hr hg hg2 hout
 have hol:=ho.len
 refine A4 ?_;refine A2 [10,14] ?_
 refine B9 (α:=Nat) (fun a=>⟨131,Aa 10 (.slice true 2 (out.map D8)) (Aa 14 (A5 (a:Nat)) (fun _=>.any)),Hp,[],[],none⟩) (fun a=>a≤out.length∧∀(j:Nat) (y:Col),j<a→out[j]? = some y→Iz out j y=true) (fun a=>out.length-a) (0) (by simp) (F1 _) rfl (fun a ha=>?_)
 refine Z46 ?_;refine A2 [10,14,86] ?_
 refine A3 (fun ht86=>?_) (fun ht86=>?_)
 ·have hla:a<out.length:=by simpa using ht86
  refine Xt ?_
  refine A4 (h:=Ad (a) (D8 out[a]) (fun _=>B3 hla)) (hr:=?_)
  refine Z0 ?_;refine A9 Tryz.call52 (c52 _ (ho.names _ (Bb hla)) _) ?_;refine Z0 ?_;refine Z27 ?_
  refine Bl (h:=Ad (a) (D8 out[a]) (fun _=>B3 hla)) (hr:=?_)
  refine Z5 ?_;refine Bk Tryz.call25 (fun hB=>c25 out ho _ _) ?_;refine Nj ?_;refine A2 [10,14,106] ?_
  refine A3 (fun ht106=>?_) (fun ht106=>?_)
  ·have hn:J0 out=false:=ACt hla (by unfold Iz;rw [ht106];rfl)
   refine Xs ?_;refine Z99 ?_;exact A8 (As A7 A7) ⟨by rw [ACo hr hk0 hout hn];try rfl,rfl⟩
  refine Z87 ?_;refine A2 [10,14] ?_;exact B2 (a+1) ⟨hla,Ig hla ha.2 (by unfold Iz;rw [ht106];rfl)⟩ (by omega) (Bz rfl)
 have hn:J0 out=true:=namedC_true.2 (Kw (by simp at ht86;omega) ha.2)
 refine Z52 ?_;refine Z25 ?_;refine A2 [10,15] ?_
 refine B9 (α:=Nat) (fun b=>⟨131,Aa 10 (.slice true 2 (out.map D8)) (Aa 15 (A5 (b:Nat)) (fun _=>.any)),Hp,[],[],none⟩) (fun b=>b≤out.length∧∀(j:Nat) (y:Col),j<b→out[j]? = some y→Rn y=true) (fun b=>out.length-b) (0) (by simp) (F1 _) rfl (fun b hb=>?_)
 refine Z46 ?_;refine A2 [10,15,110] ?_
 refine A3 (fun ht110=>?_) (fun ht110=>?_)
 ·have hlb:b<out.length:=by simpa using ht110
  refine Xt ?_
  refine A4 (h:=Ad (b) (D8 out[b]) (fun _=>B3 hlb)) (hr:=?_)
  refine Z0 ?_;refine Z42 ?_
  refine Bl (h:=Ad (b) (D8 out[b]) (fun _=>B3 hlb)) (hr:=?_)
  refine Mf ?_;refine A2 [10,15,126] ?_
  refine A3 (fun ht126=>?_) (fun ht126=>?_)
  ·have hq:J8 out=false:=gi hlb (by unfold Rn;rw [ht126];rfl)
   refine Xs ?_;refine Z99 ?_;exact A8 (As A7 A7) ⟨by rw [ACp hr hk0 hout hn hq];try rfl,rfl⟩
  refine Z87 ?_;refine A2 [10,15] ?_;exact B2 (b+1) ⟨hlb,D3 hlb hb.2 (by unfold Rn;rw [ht126];rfl)⟩ (by omega) (Bz rfl)
 have hq:J8 out=true:=pv hn (Ld (by simp at ht110;omega) hb.2)
 refine Z52 ?_;refine Z31 ?_;refine A2 [10,129] ?_
 refine A3 (fun ht129=>?_) (fun ht129=>?_)
 ·have h12:12<out.length:=by simp at ht129;omega
  refine Xs ?_;refine Z10 ?_;exact A8 (As A7 A7) ⟨by rw [ACq hr hk0 hout hn hq h12];try rfl,rfl⟩
 have h12:¬12<out.length:=by simp at ht129;omega
 refine Nl ?_;refine A2 [6,7] ?_;refine Fg ?_;exact A8 (As A7 A7) ⟨by rw [ACr hr hk0 hout hn hq h12];try rfl,rfl⟩

/-! What went and came, taken back: the same columns. -/
theorem find_mem {nm:Str} {c:List Col}:¬(C6 nm c<0)↔∃(j:Nat) (y:Col),c[j]? = some y∧y.name=nm∧C6 nm c=(j:Int):=by
 unfold C6
 cases h:c.findIdx? (fun y=>y.name==nm) with
 | none =>
  constructor
  ·intro h';exact absurd (by decide) h'
  rintro ⟨j,y,_,_,e⟩
  exact absurd (show (-1:Int)=(j:Int) from e) (by omega)
 | some i =>
  rw [N5] at h
  obtain ⟨hi,e,_⟩:=h
  constructor
  ·intro _;exact ⟨i,c[i],Ae hi,by simpa using e,rfl⟩
  intro _ h'
  have:(i:Int)<0:=h'
  omega
set_option maxRecDepth 8000
/-- What a node asks of its kids, and what it is. -/
structure Sign where
 kids:List Int
 own:Int
def Hr (s:Str):Sign:=if (s==[111,114]) || (s==[97,110,100]) then ⟨[3,3],3⟩ else if (((((s==[61]) || (s==[33,61])) || (s==[60])) || (s==[60,61])) || (s==[62])) || (s==[62,61]) then ⟨[-1, -1],3⟩ else if s==[38] then ⟨[2,2],2⟩ else ⟨[1,1],1⟩
def G8 (s:Str):Sign:=if (s==[108,101,110]) || (s==[110,117,109]) then ⟨[2],1⟩ else if s==[115,116,114] then ⟨[1],2⟩ else if (s==[108,101,102,116]) || (s==[114,105,103,104,116]) then ⟨[2,1],2⟩ else if s==[105,115,110,117,108,108] then ⟨[-2],3⟩ else if s==[110,118,108] then ⟨[-1, -1], -1⟩ else ⟨[3, -1, -1], -1⟩
def Qw (o:Int) (t:Str):Sign:=if o==3 then ⟨[1],1⟩ else if o==4 then ⟨[3],3⟩ else if o==5 then Hr t else G8 t
def H3 (a b:Int):Int×Bool:=if a==0 then (b,true) else if (b==0) || (a==b) then (a,true) else (0,false)
def Qk:List Int→List Int→Int→Option Int
 | _,[],c=>some c
 | [],_::_,_=>none
 | w::ws,k::ks,c=>if w == -2 then Qk ws ks c else if w == -1 then (if (H3 c k).2 then Qk ws ks (H3 c k).1 else none) else if (H3 w k).2 then Qk ws ks c else none
def Mi (s:Sign) (ks:List Int):Int×Int:=match Qk s.kids ks 0 with|none=>(0,10)|some c=>if s.own == -1 then (c,0) else (s.own,0)
def Vu (c:List Col) (t:Str):Int×Int:=if C6 t c<0 then (0,9) else ((c.getD (C6 t c).toNat ⟨[],0⟩).kind,0)
def cj (c:List Col) (o:Int) (t:Str) (v:Val) (ks:List (Int×Int)):Int×Int:=
 if o==1 then (v.kind,0) else if o==2 then Vu c t else match ks.find? (fun q=>q.2 != 0) with|some q=>(0,q.2)|none=>Mi (Qw o t) (ks.map (·.1))
mutual
def F4 (c:List Col):Expr→Int×Int
 | .mk o t v k=>cj c o t v (sd c k)
def sd (c:List Col):List Expr→List (Int×Int)
  | []=>[]
  | e::r=>F4 c e::sd c r
 end
theorem ck (c:List Col):∀l,sd c l=l.map (F4 c)
 | []=>rfl
 | e::r=>by rw [sd,ck c r];rfl
theorem Sz (c:List Col) (e:Expr):F4 c e=cj c e.op e.text e.val (e.kids.map (F4 c)):=by cases e;rw [F4,ck];rfl
/-- infer.Kind. -/
def G5 (e:Expr) (c:List Col):Int×Int:=if (!(Ar e)) || !(Sx c) then (0,1) else F4 c e
/-! The signs have as many as the nodes have kids. -/
theorem Ro (s:Str):(Hr s).kids.length=2:=by
 unfold Hr;repeat' split
 all_goals rfl
theorem px {t:Str} {n:Nat} (h:Cc t=(n:Int)):(G8 t).kids.length=n:=by
 rw [show Cc t=Cc t from rfl] at h
 by_cases hm:t∈arityList.map (·.1)
 ·have:((arityList.map (·.1)).all fun s=>decide (((G8 s).kids.length:Int)=Cc s))=true:=by kernel_rfl
  have:=of_decide_eq_true (Bj.1 this t hm)
  omega
 have h1:Cc t = -1:=by
  unfold Cc
  rw [R4.2 fun p hp=>by
   simp only [beq_iff_eq]
   rintro rfl
   exact hm (Dm.2 ⟨p,hp,rfl⟩)]
 omega
theorem Mv {e:Expr} (h:Ch e=true) (h1:(e.op==1)=false) (h2:(e.op==2)=false):(Qw e.op e.text).kids.length=e.kids.length:=by
 unfold Ch at h
 rw [h1,h2] at h
 simp only [An,if_false] at h
 unfold Qw
 by_cases h3:(e.op==3)=true
 ·rw [h3] at h
  simp only [Dd,if_true,Ah,beq_iff_eq] at h
  rw [if_pos h3]
  show 1=_
  omega
 have h3':(e.op==3)=false:=by simpa using h3
 rw [if_neg h3]
 rw [h3'] at h
 by_cases h4:(e.op==4)=true
 ·rw [h4] at h
  simp only [Cj,if_true,Ah,beq_iff_eq] at h
  rw [if_pos h4]
  show 1=_
  omega
 have h4':(e.op==4)=false:=by simpa using h4
 rw [if_neg h4]
 rw [h4'] at h
 simp only [Jc,An,if_false] at h
 by_cases h5:(e.op==5)=true
 ·rw [h5] at h
  simp only [if_true,Ah,beq_iff_eq] at h
  rw [if_pos h5,Ro]
  omega
 have h5':(e.op==5)=false:=by simpa using h5
 rw [if_neg h5]
 rw [h5'] at h
 simp only [An,if_false] at h
 by_cases h6:(e.op==6)=true
 ·rw [h6] at h
  simp only [if_true,Ah,beq_iff_eq] at h
  exact px h.2
 have h6':(e.op==6)=false:=by simpa using h6
 rw [h6'] at h
 cases h
/-! More columns. -/
/-! A tree in a column's place. -/
set_option maxRecDepth 4000
/-- Where a parser of expressions stands: its word, its nest, its fault. -/
structure PS where
 i:Nat
 nest:Nat
 code:Int
 at_:Int
def noV:Val:=⟨0,0,[]⟩
def A6:Expr:=.mk 0 [] noV []
def F5 (e a:Int) (S:PS):PS:=if S.code==0 then ⟨S.i,S.nest,e,a⟩ else S
def isM (l:List Tok) (of:Str) (S:PS):Bool:=(((B1 l S.i).kind==5) || ((B1 l S.i).kind==2))&&Q4 (B1 l S.i).text of
def Au (S:PS):PS:=⟨S.i+1,S.nest,S.code,S.at_⟩
def E1 (S:PS):PS:=⟨S.i,S.nest+1,S.code,S.at_⟩
def cl (S:PS):PS:=⟨S.i,S.nest-1,S.code,S.at_⟩
def Gv (l:List Tok) (s:Str) (S:PS):PS:=if S.code != 0 then S else if ((B1 l S.i).kind != 5) || !((B1 l S.i).text==s) then F5 8 (B1 l S.i).at_ S else Au S
/-- What stands one nest deeper. -/
structure Fam where
 ei:PS→Expr×PS
 no:PS→Expr×PS
 ne:PS→Expr×PS
def Db (a:Int) (f:PS→Expr×PS) (S:PS):Expr×PS:=if (S.nest:Int)==30 then (A6,F5 18 a S) else ((f (E1 S)).1,cl (f (E1 S)).2)
def Jm (t:Str) (x y:Expr):Expr:=.mk 5 t noV [x,y]
def kr (l:List Tok) (of:Str) (f:PS→Expr×PS):Nat→Expr×PS→Expr×PS
 | 0,r=>r
 | n+1,r=>if (r.2.code==0)&&isM l of r.2 then kr l of f n (Jm (B1 l r.2.i).text r.1 (f (Au r.2)).1,(f (Au r.2)).2) else r
def Ht (l:List Tok) (of:Str) (f:PS→Expr×PS) (S:PS):Expr×PS:=kr l of f l.length (f S)
def Ym:Str:=[32,44,32]
def argsF (l:List Tok) (f:PS→Expr×PS):Nat→List Expr×PS→List Expr×PS
 | 0,r=>r
 | n+1,r=>if (r.2.code==0)&&isM l Ym r.2 then argsF l f n (r.1++[(f (Au r.2)).1],(f (Au r.2)).2) else r
def J9 (l:List Tok) (f:PS→Expr×PS) (S:PS):List Expr×PS:=argsF l f l.length ([(f S).1],(f S).2)
def Vw (l:List Tok) (a:Int) (f:PS→Expr×PS) (S:PS):List Expr×PS:=if (S.nest:Int)==30 then ([],F5 18 a S) else ((J9 l f (E1 S)).1,cl (J9 l f (E1 S)).2)
def Gr:Str:=[41]
def Eh (l:List Tok) (D:Fam) (S:PS):List Expr×PS:=Vw l (B1 l S.i).at_ D.ei (Au S)
def Ja (l:List Tok) (D:Fam) (t:Tok) (S:PS):Expr×PS:=
 if Cc t.text<0 then (A6,F5 9 t.at_ S)
 else if ((Gv l Gr (Eh l D S).2).code==0) && !(((Eh l D S).1.length:Int)==Cc t.text) then (A6,F5 8 t.at_ (Gv l Gr (Eh l D S).2))
 else (.mk 6 t.text noV (Eh l D S).1,Gv l Gr (Eh l D S).2)
def orT:Str:=[32,111,114,32]
def ACu:Str:=[32,97,110,100,32]
def ALf:Str:=[32,110,111,116,32]
def ALg:Str:=[32,61,32,33,61,32,60,32,60,61,32,62,32,62,61,32]
def ACv:Str:=[32,43,32,45,32,38,32]
def kt:Str:=[32,42,32,47,32,37,32]
def ALh:Str:=[32,45,32]
def opT:Str:=[32,40,32]
def ALi:Str:=[32,116,114,117,101,32,102,97,108,115,101,32,110,117,108,108,32]
def Ei (v:Val):Expr:=.mk 1 [] v []
def I0 (l:List Tok) (D:Fam) (S:PS):Expr×PS:=
 if S.code != 0 then (A6,S)
 else if ((B1 l S.i).kind==3) || isM l ALi S then (Ei (Iy (B1 l S.i).text).1,Au S)
 else if (B1 l S.i).kind==4 then (Ei ⟨2,0,(B1 l S.i).text.take 200⟩,Au S)
 else if (B1 l S.i).kind==1 then (if isM l opT (Au S) then Ja l D (B1 l S.i) (Au S) else (Bh (B1 l S.i).text,Au S))
 else if isM l opT S then ((Db (B1 l S.i).at_ D.ei (Au S)).1,Gv l Gr (Db (B1 l S.i).at_ D.ei (Au S)).2)
 else (A6,F5 8 (B1 l S.i).at_ S)
def Gw (op:Int) (x:Expr):Expr:=.mk op [] noV [x]
def Yn (l:List Tok) (D:Fam) (S:PS):Expr×PS:=if !isM l ALh S then I0 l D S else (Gw 3 (Db (B1 l S.i).at_ D.ne (Au S)).1,(Db (B1 l S.i).at_ D.ne (Au S)).2)
def se (l:List Tok) (D:Fam):PS→Expr×PS:=Ht l kt (Yn l D)
def Fv (l:List Tok) (D:Fam):PS→Expr×PS:=Ht l ACv (se l D)
def Hl (l:List Tok) (D:Fam) (S:PS):Expr×PS:=
 if ((Fv l D S).2.code != 0) || !isM l ALg (Fv l D S).2 then Fv l D S
 else (Jm (B1 l (Fv l D S).2.i).text (Fv l D S).1 (Fv l D (Au (Fv l D S).2)).1,(Fv l D (Au (Fv l D S).2)).2)
def Yo (l:List Tok) (D:Fam) (S:PS):Expr×PS:=if !isM l ALf S then Hl l D S else (Gw 4 (Db (B1 l S.i).at_ D.no (Au S)).1,(Db (B1 l S.i).at_ D.no (Au S)).2)
def sg (l:List Tok) (D:Fam):PS→Expr×PS:=Ht l ACu (Yo l D)
def gj (l:List Tok) (D:Fam):PS→Expr×PS:=Ht l orT (sg l D)
def Gx (l:List Tok):Nat→Fam
 | 0=>⟨fun S=>(A6,S),fun S=>(A6,S),fun S=>(A6,S)⟩
 | d+1=>⟨gj l (Gx l d),Yo l (Gx l d),Yn l (Gx l d)⟩

/-! What is so of them. -/
theorem Fo:∀{n m:Nat},n≤m→∀{e:Expr},okE n e→okE m e
 | 0,_,_,_,h=>h.elim
 | n+1,0,h,_,_=>by omega
 | n+1,m+1,h,_,ho=>⟨ho.1,ho.2.1,fun y hy=>Fo (by omega) (ho.2.2 y hy)⟩
theorem Yp:sizeE A6=1:=rfl
theorem xi (t:Str) (a b:Expr):sizeE (Jm t a b)=1+(sizeE a+(sizeE b+0)):=by rw [Jm,sizeE,Bp,Bp,Bp]
theorem xj (o:Int) (a:Expr):sizeE (Gw o a)=1+(sizeE a+0):=by rw [Gw,sizeE,Bp,Bp]
theorem cm:∀a b:List Expr,Bp (a++b)=Bp a+Bp b
 | [],b=>by rw [Dx,Bp,C9]
 | e::r,b=>by rw [Ef,Bp,Bp,cm r b,Lu]
theorem Lh {n:Nat} (h:1≤n):okE n A6:=Fo h ⟨by decide,by decide,fun y hy=>by cases hy⟩
theorem sh {n:Nat} (h:1≤n) (v:Val):okE n (Ei v):=Fo h ⟨by simp [Ei,Expr.text],by simp [Ei,Expr.kids],fun y hy=>by cases hy⟩
structure Fact (l:List Tok) (S:PS) (r:Expr×PS):Prop where
 le:S.i≤r.2.i
 lt:r.2.i<l.length
 nest:r.2.nest=S.nest
 ok:okE (2*(r.2.i-S.i)+1) r.1
 sz:sizeE r.1≤2*(r.2.i-S.i)+1
def Fp (l:List Tok) (n:Nat) (f:PS→Expr×PS):Prop:=∀S,S.i<l.length→S.nest=n→Fact l S (f S)
theorem TokEnd.step {l:List Tok} (h:TokEnd l) {i:Nat} (hi:i<l.length) (hk:(B1 l i).kind≠0):i+1<l.length:=by
 obtain ⟨L,z,rfl,hz,_⟩:=h.split
 rcases Bn i L.length with h1|h1
 ·simp only [Aw,B6,Bc];omega
 have:i=L.length:=by simp only [Aw,B6,Bc] at hi;omega
 subst this
 exact absurd (by unfold B1;simpa using hz) hk
theorem ACw {l:List Tok} {of:Str} {S:PS} (h:isM l of S=true):(B1 l S.i).kind≠0:=by
 unfold isM at h
 simp only [Ah,Dg,beq_iff_eq] at h
 omega
theorem TokEnd.stepIs {l:List Tok} (h:TokEnd l) {of:Str} {S:PS} (hi:S.i<l.length) (hk:isM l of S=true):(Au S).i<l.length:=h.step hi (ACw hk)
theorem failM_i {e a:Int} {S:PS}:(F5 e a S).i=S.i∧(F5 e a S).nest=S.nest:=by unfold F5;split<;>exact ⟨rfl,rfl⟩
theorem si {l:List Tok} (hl:TokEnd l) {s:Str} {S:PS} (hi:S.i<l.length):S.i≤(Gv l s S).i∧(Gv l s S).i<l.length∧(Gv l s S).nest=S.nest:=by
 unfold Gv
 split
 ·exact ⟨Ao _,hi,rfl⟩
 split
 ·rw [failM_i.1,failM_i.2];exact ⟨Ao _,hi,rfl⟩
 rename_i h
 simp only [Dg,bne_iff_ne,ne_eq,not_or,Classical.not_not] at h
 have:=hl.step hi (by rw [h.1];decide)
 exact ⟨Km _,this,rfl⟩
theorem T0 {l:List Tok} {S S0:PS} (h0:S0.i≤S.i) (h1:S.i<l.length) (h2:S.nest=S0.nest) (e a:Int):Fact l S0 (A6,F5 e a S):=by
 refine ⟨?_,?_,?_,Lh (by omega),by rw [Yp];omega⟩
 ·show _≤(F5 e a S).i;rw [failM_i.1];exact h0
 ·show (F5 e a S).i<_;rw [failM_i.1];exact h1
 show (F5 e a S).nest=_;rw [failM_i.2];exact h2
/-- A state of a loop of marks. -/
structure LeftAt (l:List Tok) (of:Str) (f:PS→Expr×PS) (S:PS) (r:Expr×PS):Prop where
 fact:Fact l S r
 eq:∃n,l.length≤r.2.i+n∧Ht l of f S=kr l of f n r
theorem LeftAt.start {l:List Tok} {of:Str} {f:PS→Expr×PS} {S:PS} (h:Fact l S (f S)):LeftAt l of f S (f S):=⟨h,l.length,by omega,rfl⟩
theorem sj {l:List Tok} {S:PS} {r q:Expr×PS} (h:Fact l S r) (hq:Fact l (Au r.2) q) (hl:TokEnd l):Fact l S (Jm (B1 l r.2.i).text r.1 q.1,q.2):=by
 have h1:=h.le
 have h2:r.2.i+1≤q.2.i:=hq.le
 refine ⟨by show S.i≤q.2.i;omega,hq.lt,by show q.2.nest=S.nest;rw [hq.nest];exact h.nest,?_,?_⟩
 rotate_left
 ·have s1:=h.sz
  have s2:sizeE q.1≤2*(q.2.i-(r.2.i+1))+1:=hq.sz
  show sizeE (Jm _ r.1 q.1)≤2*(q.2.i-S.i)+1
  rw [xi]
  omega
 show okE (2*(q.2.i-S.i)+1) _
 refine ⟨hl.text _,by simp [Jm,Expr.kids],fun y hy=>?_⟩
 have hy':y=r.1∨y=q.1:=by simpa [Jm,Expr.kids] using hy
 rcases hy' with rfl|rfl
 ·exact Fo (by omega) h.ok
 exact Fo (by show 2*(q.2.i-(r.2.i+1))+1≤_;omega) hq.ok
theorem LeftAt.on {l:List Tok} {of:Str} {f:PS→Expr×PS} {S:PS} {r:Expr×PS} (hl:TokEnd l) (h:LeftAt l of f S r) (hc:((r.2.code==0)&&isM l of r.2)=true) (hf:Fp l S.nest f):(Au r.2).i<l.length∧Fact l (Au r.2) (f (Au r.2))∧LeftAt l of f S (Jm (B1 l r.2.i).text r.1 (f (Au r.2)).1,(f (Au r.2)).2):=by
 have hi:=hl.stepIs h.fact.lt (AA9.1 hc).2
 have hq:=hf (Au r.2) hi h.fact.nest
 obtain ⟨n,hn,e⟩:=h.eq
 have h1:=h.fact.lt
 have h2:r.2.i+1≤(f (Au r.2)).2.i:=hq.le
 obtain ⟨m,rfl⟩:∃m,n=m+1:=⟨n-1,by omega⟩
 refine ⟨hi,hq,sj h.fact hq hl,m,by show l.length≤(f (Au r.2)).2.i+m;omega,?_⟩
 rw [e,kr,if_pos hc]
theorem LeftAt.out {l:List Tok} {of:Str} {f:PS→Expr×PS} {S:PS} {r:Expr×PS} (h:LeftAt l of f S r) (hc:¬((r.2.code==0)&&isM l of r.2)=true):Ht l of f S=r:=by
 obtain ⟨n,hn,e⟩:=h.eq
 have h1:=h.fact.lt
 obtain ⟨m,rfl⟩:∃m,n=m+1:=⟨n-1,by omega⟩
 rw [e,kr,if_neg hc]
theorem ku {l:List Tok} {of:Str} {f:PS→Expr×PS} {S:PS} (hl:TokEnd l) (hf:Fp l S.nest f):∀(k:Nat) (r:Expr×PS),l.length-r.2.i≤k→LeftAt l of f S r→Fact l S (Ht l of f S)
 | 0,r,hk,h=>by have:=h.fact.lt;omega
 | k+1,r,hk,h=>by
  by_cases hc:((r.2.code==0)&&isM l of r.2)=true
  ·obtain ⟨h1,h2,h3⟩:=h.on hl hc hf
   have h4:r.2.i+1≤(f (Au r.2)).2.i:=h2.le
   exact ku hl hf k _ (by show l.length-(f (Au r.2)).2.i≤k;have:=h.fact.lt;omega) h3
  rw [h.out hc];exact h.fact
theorem Ii {l:List Tok} {of:Str} {f:PS→Expr×PS} {n:Nat} (hl:TokEnd l) (hf:Fp l n f):Fp l n (Ht l of f):=fun S hi hn=>ku hl (hn ▸ hf) l.length (f S) (by omega) (.start (hf S hi hn))
theorem Kr {l:List Tok} {f:PS→Expr×PS} {S:PS} (a:Int) (hi:S.i<l.length) (hf:S.nest≠30→Fp l (S.nest+1) f):Fact l S (Db a f S):=by
 unfold Db
 split
 ·exact T0 (Ao _) hi rfl _ _
 rename_i h
 have h30:S.nest≠30:=fun e=>h (by rw [e];rfl)
 have:=hf h30 (E1 S) hi rfl
 refine ⟨this.le,this.lt,?_,this.ok,this.sz⟩
 show (f (E1 S)).2.nest-1=S.nest
 rw [this.nest]
 rfl
/-- What is so of some kids. -/
structure KFact (l:List Tok) (S:PS) (r:List Expr×PS):Prop where
 le:S.i≤r.2.i
 lt:r.2.i<l.length
 nest:r.2.nest=S.nest
 len:r.1.length≤r.2.i-S.i+1
 ok:∀y∈r.1,okE (2*(r.2.i-S.i)+1) y
 sz:Bp r.1≤2*(r.2.i-S.i)+1
structure ArgsAt (l:List Tok) (f:PS→Expr×PS) (S:PS) (r:List Expr×PS):Prop where
 fact:KFact l S r
 eq:∃n,l.length≤r.2.i+n∧J9 l f S=argsF l f n r
theorem ArgsAt.start {l:List Tok} {f:PS→Expr×PS} {S:PS} (h:Fact l S (f S)):ArgsAt l f S ([(f S).1],(f S).2):=⟨⟨h.le,h.lt,h.nest,by simp,fun y hy=>by rw [Br.1 hy];exact h.ok,by have:=h.sz;show sizeE (f S).1+0≤_;exact this⟩,l.length,by omega,rfl⟩
theorem ArgsAt.on {l:List Tok} {f:PS→Expr×PS} {S:PS} {r:List Expr×PS} (hl:TokEnd l) (h:ArgsAt l f S r) (hc:((r.2.code==0)&&isM l Ym r.2)=true) (hf:Fp l S.nest f):(Au r.2).i<l.length∧Fact l (Au r.2) (f (Au r.2))∧ArgsAt l f S (r.1++[(f (Au r.2)).1],(f (Au r.2)).2):=by
 have hi:=hl.stepIs h.fact.lt (AA9.1 hc).2
 have hq:=hf (Au r.2) hi h.fact.nest
 obtain ⟨n,hn,e⟩:=h.eq
 have h1:=h.fact.lt
 have h0:=h.fact.le
 have h2:r.2.i+1≤(f (Au r.2)).2.i:=hq.le
 obtain ⟨m,rfl⟩:∃m,n=m+1:=⟨n-1,by omega⟩
 refine ⟨hi,hq,⟨by show S.i≤(f (Au r.2)).2.i;omega,hq.lt,by show (f (Au r.2)).2.nest=_;rw [hq.nest];exact h.fact.nest,?_,fun y hy=>?_,?_⟩,m,by show l.length≤(f (Au r.2)).2.i+m;omega,?_⟩
 ·have:=h.fact.len
  show (r.1++_).length≤(f (Au r.2)).2.i-S.i+1
  simp only [Aw,B6,Bc]
  omega
 ·show okE (2*((f (Au r.2)).2.i-S.i)+1) y
  rcases Ek.1 hy with hy|hy
  ·exact Fo (by omega) (h.fact.ok y hy)
  rw [Br.1 hy]
  exact Fo (by show 2*((f (Au r.2)).2.i-(r.2.i+1))+1≤_;omega) hq.ok
 ·have s1:=h.fact.sz
  have s2:sizeE (f (Au r.2)).1≤2*((f (Au r.2)).2.i-(r.2.i+1))+1:=hq.sz
  show Bp (r.1++[(f (Au r.2)).1])≤2*((f (Au r.2)).2.i-S.i)+1
  rw [cm,Bp,Bp]
  omega
 rw [e,argsF,if_pos hc]
theorem ArgsAt.out {l:List Tok} {f:PS→Expr×PS} {S:PS} {r:List Expr×PS} (h:ArgsAt l f S r) (hc:¬((r.2.code==0)&&isM l Ym r.2)=true):J9 l f S=r:=by
 obtain ⟨n,hn,e⟩:=h.eq
 have h1:=h.fact.lt
 obtain ⟨m,rfl⟩:∃m,n=m+1:=⟨n-1,by omega⟩
 rw [e,argsF,if_neg hc]
theorem kv {l:List Tok} {f:PS→Expr×PS} {S:PS} (hl:TokEnd l) (hf:Fp l S.nest f):∀(k:Nat) (r:List Expr×PS),l.length-r.2.i≤k→ArgsAt l f S r→KFact l S (J9 l f S)
 | 0,r,hk,h=>by have:=h.fact.lt;omega
 | k+1,r,hk,h=>by
  by_cases hc:((r.2.code==0)&&isM l Ym r.2)=true
  ·obtain ⟨h1,h2,h3⟩:=h.on hl hc hf
   have h4:r.2.i+1≤(f (Au r.2)).2.i:=h2.le
   exact kv hl hf k _ (by show l.length-(f (Au r.2)).2.i≤k;have:=h.fact.lt;omega) h3
  rw [h.out hc];exact h.fact
theorem Yq {l:List Tok} {f:PS→Expr×PS} {S:PS} (hl:TokEnd l) (hi:S.i<l.length) (hf:Fp l S.nest f):KFact l S (J9 l f S):=kv hl hf l.length _ (by show l.length-(f S).2.i≤_;omega) (.start (hf S hi rfl))
theorem Yr {l:List Tok} {f:PS→Expr×PS} {S:PS} (hl:TokEnd l) (a:Int) (hi:S.i<l.length) (hf:S.nest≠30→Fp l (S.nest+1) f):KFact l S (Vw l a f S):=by
 unfold Vw
 split
 ·refine ⟨?_,?_,?_,by simp,fun y hy=>(by cases hy),by simp [Bp]⟩
  ·show _≤(F5 _ _ S).i;rw [failM_i.1];exact Ao _
  ·show (F5 _ _ S).i<_;rw [failM_i.1];exact hi
  show (F5 _ _ S).nest=_;rw [failM_i.2]
 rename_i h
 have h30:S.nest≠30:=fun e=>h (by rw [e];rfl)
 have:=Yq (S:=E1 S) hl hi (hf h30)
 refine ⟨this.le,this.lt,?_,this.len,this.ok,this.sz⟩
 show (J9 l f (E1 S)).2.nest-1=S.nest
 rw [this.nest]
 rfl
theorem py {l:List Tok} {D:Fam} {S:PS} (hl:TokEnd l) (hll:l.length≤1048576) {t:Tok} (ht:t.text.length≤1048576) (hi:(Au S).i<l.length) (hf:S.nest≠30→Fp l (S.nest+1) D.ei):Fact l S (Ja l D t S):=by
 have hk:KFact l (Au S) (Eh l D S):=Yr hl _ hi hf
 have h1:S.i+1≤(Eh l D S).2.i:=hk.le
 obtain ⟨w1,w2,w3⟩:=si (s:=Gr) hl hk.lt
 unfold Ja
 split
 ·exact T0 (Ao _) (by show S.i<_;have:S.i+1<l.length:=hi;omega) rfl _ _
 split
 ·exact T0 (show S.i≤(Gv l Gr (Eh l D S).2).i by omega) w2 (w3.trans hk.nest) 8 t.at_
 refine ⟨by show S.i≤(Gv l Gr (Eh l D S).2).i;omega,w2,w3.trans hk.nest,?_,?_⟩
 rotate_left
 ·have s1:Bp (Eh l D S).1≤2*((Eh l D S).2.i-(S.i+1))+1:=hk.sz
  show sizeE (.mk 6 t.text noV (Eh l D S).1)≤2*((Gv l Gr (Eh l D S).2).i-S.i)+1
  rw [sizeE]
  omega
 show okE (2*((Gv l Gr (Eh l D S).2).i-S.i)+1) _
 refine ⟨ht,?_,fun y hy=>?_⟩
 ·have h5:(Eh l D S).1.length≤(Eh l D S).2.i-(Au S).i+1:=hk.len
  have h6:=hk.lt
  show (Eh l D S).1.length≤1048576
  omega
 exact Fo (by show 2*((Eh l D S).2.i-(S.i+1))+1≤_;omega) (hk.ok y hy)
theorem pz {l:List Tok} {D:Fam} {n:Nat} (hl:TokEnd l) (hll:l.length≤1048576) (hf:n≠30→Fp l (n+1) D.ei):Fp l n (I0 l D):=by
 intro S hi hn
 subst hn
 unfold I0
 have leaf:∀e:Expr,okE 1 e→sizeE e=1→(B1 l S.i).kind≠0→Fact l S (e,Au S):=fun e he hs hk=>⟨Km _,hl.step hi hk,rfl,Fo (by omega) he,by show sizeE e≤_;omega⟩
 split
 ·exact ⟨Ao _,hi,rfl,Lh (by omega),by show sizeE A6≤_;rw [Yp];omega⟩
 split
 ·rename_i h
  refine leaf _ (sh (Ao _) _) rfl ?_
  rcases Bool.or_eq_true_iff.1 h with h|h
  ·rw [beq_iff_eq] at h;rw [h];decide
  exact ACw h
 split
 ·rename_i h
  rw [beq_iff_eq] at h
  exact leaf _ (sh (Ao _) _) rfl (by rw [h];decide)
 split
 ·rename_i h
  rw [beq_iff_eq] at h
  have hk:(B1 l S.i).kind≠0:=by rw [h];decide
  split
  ·rename_i h2
   have hi1:(Au S).i<l.length:=hl.step hi hk
   have:=py (S:=Au S) (D:=D) hl hll (hl.text S.i) (hl.stepIs hi1 h2) hf
   have h3:S.i+1≤(Ja l D (B1 l S.i) (Au S)).2.i:=this.le
   have h4:sizeE (Ja l D (B1 l S.i) (Au S)).1≤2*((Ja l D (B1 l S.i) (Au S)).2.i-(S.i+1))+1:=this.sz
   exact ⟨by omega,this.lt,this.nest,Fo (by show 2*((Ja l D (B1 l S.i) (Au S)).2.i-(S.i+1))+1≤_;omega) this.ok,by omega⟩
  exact leaf _ (jz _ (hl.text _)) rfl hk
 split
 ·rename_i h
  have hi1:(Au S).i<l.length:=hl.stepIs hi h
  have:=Kr (S:=Au S) (l:=l) (f:=D.ei) (B1 l S.i).at_ hi1 hf
  obtain ⟨w1,w2,w3⟩:=si (s:=Gr) hl this.lt
  have h3:S.i+1≤(Db (B1 l S.i).at_ D.ei (Au S)).2.i:=this.le
  have h4:sizeE (Db (B1 l S.i).at_ D.ei (Au S)).1≤2*((Db (B1 l S.i).at_ D.ei (Au S)).2.i-(S.i+1))+1:=this.sz
  refine ⟨by show S.i≤(Gv l Gr _).i;omega,w2,w3.trans this.nest,Fo ?_ this.ok,by show sizeE (Db (B1 l S.i).at_ D.ei (Au S)).1≤2*((Gv l Gr (Db (B1 l S.i).at_ D.ei (Au S)).2).i-S.i)+1;omega⟩
  show 2*((Db (B1 l S.i).at_ D.ei (Au S)).2.i-(S.i+1))+1≤2*((Gv l Gr (Db (B1 l S.i).at_ D.ei (Au S)).2).i-S.i)+1
  omega
 exact T0 (Ao _) hi rfl _ _
theorem sk {l:List Tok} {S:PS} {r:Expr×PS} (h:Fact l (Au S) r) (op:Int):Fact l S (Gw op r.1,r.2):=by
 have h1:S.i+1≤r.2.i:=h.le
 refine ⟨by show S.i≤r.2.i;omega,h.lt,h.nest,?_,?_⟩
 rotate_left
 ·have s1:sizeE r.1≤2*(r.2.i-(S.i+1))+1:=h.sz
  show sizeE (Gw op r.1)≤2*(r.2.i-S.i)+1
  rw [xj]
  omega
 show okE (2*(r.2.i-S.i)+1) _
 refine ⟨by simp [Gw,Expr.text],by simp [Gw,Expr.kids],fun y hy=>?_⟩
 have hy':y=r.1:=by simpa [Gw,Expr.kids] using hy
 subst hy'
 exact Fo (by show 2*(r.2.i-(S.i+1))+1≤_;omega) h.ok
theorem Uu {l:List Tok} {D:Fam} {n:Nat} (hl:TokEnd l) (hll:l.length≤1048576) (hf:n≠30→Fp l (n+1) D.ei) (hg:n≠30→Fp l (n+1) D.ne):Fp l n (Yn l D):=by
 intro S hi hn
 unfold Yn
 split
 ·exact pz hl hll hf S hi hn
 rename_i h
 subst hn
 exact sk (Kr (S:=Au S) _ (hl.stepIs hi (by simpa using h)) hg) 3
theorem cn {l:List Tok} {D:Fam} {n:Nat} (hl:TokEnd l) (hll:l.length≤1048576) (hf:n≠30→Fp l (n+1) D.ei) (hg:n≠30→Fp l (n+1) D.ne):Fp l n (Fv l D):=Ii hl (Ii hl (Uu hl hll hf hg))
theorem Qx {l:List Tok} {D:Fam} {n:Nat} (hl:TokEnd l) (hll:l.length≤1048576) (hf:n≠30→Fp l (n+1) D.ei) (hg:n≠30→Fp l (n+1) D.ne):Fp l n (Hl l D):=by
 intro S hi hn
 have h1:=cn hl hll hf hg S hi hn
 unfold Hl
 split
 ·exact h1
 rename_i h
 simp only [Dg,not_or,dt,Ka] at h
 exact sj h1 (cn hl hll hf hg _ (hl.stepIs h1.lt h.2) (h1.nest.trans hn)) hl
theorem co {l:List Tok} {D:Fam} {n:Nat} (hl:TokEnd l) (hll:l.length≤1048576) (hf:n≠30→Fp l (n+1) D.ei) (hg:n≠30→Fp l (n+1) D.ne) (hh:n≠30→Fp l (n+1) D.no):Fp l n (Yo l D):=by
 intro S hi hn
 unfold Yo
 split
 ·exact Qx hl hll hf hg S hi hn
 rename_i h
 subst hn
 exact sk (Kr (S:=Au S) _ (hl.stepIs hi (by simpa using h)) hh) 4
theorem Uv {l:List Tok} (hl:TokEnd l) (hll:l.length≤1048576):∀(d n:Nat),n+d=31→n≠31→Fp l n (Gx l d).ei∧Fp l n (Gx l d).no∧Fp l n (Gx l d).ne
 | 0,n,h,h2=>by omega
 | d+1,n,h,_=>by
  have ih:n≠30→_:=fun h30=>Uv hl hll d (n+1) (by omega) (by omega)
  have hn:=co (D:=Gx l d) (n:=n) hl hll (fun h=>(ih h).1) (fun h=>(ih h).2.2) (fun h=>(ih h).2.1)
  exact ⟨Ii hl (Ii hl hn),hn,Uu hl hll (fun h=>(ih h).1) (fun h=>(ih h).2.2)⟩
abbrev pr (l:List Tok) (S:PS):AObj:=.cells 171 [.slice false 3 (l.map Ls),A5 (S.i:Int),A5 (S.nest:Int),A5 S.code,A5 S.at_]
theorem Dk {n:Nat} {l:List Tok} {S:PS}:ObjLow n (pr l S):=by
 show ∀y∈[AV.slice false 3 (l.map Ls),A5 (S.i:Int),A5 (S.nest:Int),A5 S.code,A5 S.at_],Low n y
 intro y hy
 simp only [C0,I6,or_false] at hy
 rcases hy with rfl|rfl|rfl|rfl|rfl
 ·simp [or_imp,forall_and]
 all_goals simp
theorem K6 (o:Int) (t:Str) (v:Val):Le (.agg [A5 o,Ac t,A5 v.kind,A5 v.n,Ac v.s,.nil]) (Ab (.mk o t v [])):=by
 rw [Af]
 refine .agg _ _ rfl (by simp [AV.one,Value.oneCell',sv]) fun i y y' h1 h2=>?_
 match i with
 | 0=>simp at h1 h2;subst h1;subst h2;exact .inl rfl
 | 1=>simp at h1 h2;subst h1;subst h2;exact .inl rfl
 | 2=>simp at h1 h2;subst h1;subst h2;exact .inl rfl
 | 3=>simp at h1 h2;subst h1;subst h2;exact .inl rfl
 | 4=>simp at h1 h2;subst h1;subst h2;exact .inl rfl
 | 5=>simp at h1 h2;subst h1;subst h2;exact .inr ⟨rfl,6,rfl⟩
 | i+6=>simp at h1
theorem Du:Le (.agg [A5 0,Ac [],A5 0,A5 0,Ac [],.nil]) (Ab A6):=K6 0 [] noV
theorem ASr (l:List Tok) (S:PS) (o:Nat) (Hp:List AObj) (ho:Hp[o]? = some (pr l S)) (hi:S.i<l.length):AFun Tryz.prog 254 [.ptr o 0] Hp (Ls (B1 l S.i)):=by
 refine Aj [.cell 2 113] [0] Tryz.func254 Tryz.ntmps254 (fun d=>?_)
 refine Z77 ?_;refine C3 [0,1,3,7,0,16,48,112,255,511,1023] 8 Am (by kernel_rfl) ?_;refine Z37 ?_
 refine Aq (h:=Fi ho) (hr:=?_)
 refine Z37 ?_
 refine Aq (h:=Fi ho) (hr:=?_)
 refine Dq ?_
 refine A4 (h:=Ad (S.i) (Ls (B1 l S.i)) (fun _=>Up hi)) (hr:=?_)
 refine A4 ?_;exact AFp

theorem kw (l:List Tok) (S:PS) (of:Str) (o:Nat) (Hp:List AObj) (ho:Hp[o]? = some (pr l S)) (hi:S.i<l.length) (hl:TokEnd l) (hof:of.length≤1048576):AFun Tryz.prog 203 [.ptr o 0,Ac of] Hp (At (isM l of S)):=by
 refine Aj [.tmp 4] [0,1] Tryz.func203 Tryz.ntmps203 (fun d=>?_)
 refine Z60 ?_;refine Z2 ?_;refine AFm ?_;refine A2 [1,5] ?_;refine O7 ?_;refine Z27 ?_;refine Bk Tryz.call125 (fun hB=>APz (B1 l S.i).text of (hl.text _) hof _) ?_;refine Z0 ?_;exact nt

theorem xl (l:List Tok) (S:PS) (o:Nat) (Hp:List AObj) (ho:Hp[o]? = some (pr l S)) (hi:S.i<l.length) (hll:l.length≤1048576):ACall Tryz.prog 204 [.ptr o 0] Hp (fun r H'=>r=Ls (B1 l S.i)∧H'=Hp.set o (pr l (Au S))):=by
 refine Aj [.cell 2 113] [0] Tryz.func204 Tryz.ntmps204 (fun d=>?_)
 refine Z77 ?_;refine Z2 ?_;refine AFm ?_;refine A2 [0,2,3] ?_;refine Z14 ?_
 refine A4 (h:=Fi ho) (hr:=?_)
 refine Z11 ?_
 refine Hb jS ho ?_ ?_
 ·simp
 refine Ua ?_;refine Z2 ?_;exact AFp

theorem xm (l:List Tok) (S:PS) (e a:Int) (o:Nat) (Hp:List AObj) (ho:Hp[o]? = some (pr l S)):ACall Tryz.prog 116 [.ptr o 0,A5 e,A5 a] Hp (fun r H'=>r=Ab A6∧H'=Hp.set o (pr l (F5 e a S))):=by
 refine Aj [.cell 6 26] [0,1,2] Tryz.func116 Tryz.ntmps116 (fun d=>?_)
 refine AFx ?_;refine Z46 ?_
 refine A4 (h:=Fi ho) (hr:=?_)
 refine A4 ?_;refine A2 [0,1,2,6,12] ?_
 refine A3 (fun ht12=>?_) (fun ht12=>?_)
 ·have e:F5 e a S=⟨S.i,S.nest,e,a⟩:=if_pos ht12
  refine Z22 ?_;refine jm ?_;refine Z0 ?_
  refine Hb jS ho ?_ ?_
  ·simp
  refine A2 [6] ?_;refine Fl ?_;refine Z19 ?_;refine D7 19 _ Du ?_;refine nw ?_;exact A8 (Ai (Ap jA jS)) ⟨rfl,by rw [e]⟩ (hlow:=Ag _ A6)
 have e:F5 e a S=S:=if_neg (by rw [ht12];simp)
 refine Z3 ?_;refine Z19 ?_;refine D7 19 _ Du ?_;refine nw ?_;exact A8 (Ai (Ap jA jS)) ⟨rfl,by rw [e];exact (K3 ho).symm⟩ (hlow:=Ag _ A6)

theorem AQ4 (v:Val) (Hp:List AObj):AFun Tryz.prog 348 [Ca v] Hp (Ab (Ei v)):=by
 refine Aj [.cell 2 26] [0] Tryz.func348 Tryz.ntmps348 (fun d=>?_)
 refine Z2 ?_;refine ABb ?_;refine AFh ?_;refine D7 4 _ (K6 1 [] v) ?_;exact ANj

theorem AQ5 (l:List Tok) (S:PS) (s:Str) (o:Nat) (Hp:List AObj) (ho:Hp[o]? = some (pr l S)) (hi:S.i<l.length) (hll:l.length≤1048576):ACall Tryz.prog 350 [.ptr o 0,Ac s] Hp (fun r H'=>r=.v (.tuple #[])∧H'=Hp.set o (pr l (Gv l s S))):=by
 refine Aj [] [0,1] Tryz.func350 Tryz.ntmps350 (fun d=>?_)
 refine Z46 ?_
 refine A4 (h:=Fi ho) (hr:=?_)
 refine A4 ?_;refine A2 [0,1,10] ?_
 refine A3 (fun ht10=>?_) (fun ht10=>?_)
 ·have e:Gv l s S=S:=if_pos ht10
  refine Z10 ?_;exact A8 .nores (hp:=⟨rfl,by rw [e];exact (K3 ho).symm⟩)
 have e0:¬(S.code != 0)=true:=by rw [ht10];simp
 refine Nk ?_;refine AFm ?_;refine A2 [0,1,4] ?_;refine Z21 ?_;refine Z70 ?_;refine A4 ?_;refine A2 [0,4,21] ?_
 refine A3 (fun ht21=>?_) (fun ht21=>?_)
 ·have e:Gv l s S=F5 8 (B1 l S.i).at_ S:=by unfold Gv;rw [if_neg e0,if_pos ht21]
  refine AO6 ?_;refine A2 [] ?_;refine Z10 ?_;exact A8 .nores (hp:=⟨rfl,by rw [e]⟩)
 have e:Gv l s S=Au S:=by unfold Gv;rw [if_neg e0,if_neg (by rw [ht21];simp)]
 refine Z3 ?_;refine Z22 ?_
 refine A4 (h:=Fi ho) (hr:=?_)
 refine Z11 ?_
 refine Hb jS ho ?_ ?_
 ·simp
 refine A2 [] ?_;exact Mc .nores (hp:=⟨rfl,by rw [e];rfl⟩)

/-- The contract of one of the parser's functions. -/
def PC (g:FuncId) (l:List Tok) (f:PS→Expr×PS) (n:Nat):Prop:=∀(o:Nat) (Hp:List AObj) (S:PS),Hp[o]? = some (pr l S)→S.i<l.length→S.nest=n→ACall Tryz.prog g [.ptr o 0] Hp (fun r H'=>r=Ab (f S).1∧H'=Hp.set o (pr l (f S).2))
abbrev Mj:AObj:=.cells 26 [A5 0,Ac [],A5 0,A5 0,Ac [],.nil]
theorem Q8 {n:Nat}:ObjLow n Mj:=by
 show ∀y∈[A5 0,Ac [],A5 0,A5 0,Ac [],AV.nil],Low n y
 simp
theorem AGz {n:Nat} (e:Expr):ObjLow n (.cells 26 (B7 e)):=by
 have h:=Ag n e
 rw [Af] at h
 show ∀y∈B7 e,Low n y
 intro y hy
 cases h with
 | agg _ h=>exact h y hy
theorem AH0 (l:List Tok) (S:PS) (a:Int) (g:FuncId) (first caps:List AV) (x:Expr) (S2:PS) (o:Nat) (Hp Hx:List AObj) (ho:Hp[o]? = some (pr l S)) (hnl:S.nest≤1048576) (hgc:∀args w,(callFunc g args).run Tryz.prog w=.ok (.enter g args) w) (hxl:Hx.length=Hp.length) (hxo:Hx[o]? = some (pr l S2)) (hn2:S2.nest=S.nest+1) (hlow:(∀y∈Hp.set o (pr l (E1 S)),ObjLow Hp.length y)→∀y∈Hx,ObjLow Hp.length y) (hcf:S.nest≠30→∀own,ACall Tryz.prog g (first++caps) (Hp.set o (pr l (E1 S))++own) (fun y H'=>y=Ab x∧H'=Hx++own)):ACall Tryz.prog 256 [.ptr o 0,A5 a,.fn (.func g) first caps] Hp (fun r H'=>(S.nest=30→r=Ab A6∧H'=Hp.set o (pr l (F5 18 a S)))∧(S.nest≠30→r=Ab x∧H'=Hx.set o (pr l (cl S2)))):=by
 refine Aj [.cell 6 26] [0,1,2] Tryz.func256 Tryz.ntmps256 (fun d=>?_)
 refine AFx ?_;refine Z31 ?_
 refine A4 (h:=Fi ho) (hr:=?_)
 refine A4 ?_;refine A2 [0,1,2,6,12] ?_
 refine A3 (fun ht12=>?_) (fun ht12=>?_)
 ·have hn30:S.nest=30:=by have:=ht12;simp at this;omega
  refine Z1 ?_;refine Cl Tryz.call116 ho (by simp) Dk (xm l S 18 a o _ (B5 ho)) ?_;refine G4 ?_;refine A2 [6] ?_;refine Z10 ?_;exact A8 (Ai (Ap jA jS)) ⟨fun _=>⟨by rw [Af],rfl⟩,fun h=>absurd hn30 h⟩ (hlow:=by have:=Ag Hp.length A6;rw [Af] at this;simpa using this)
 have hn30:S.nest≠30:=by have:=ht12;simp at this;omega
 refine Nl ?_
 refine A4 (h:=Fi ho) (hr:=?_)
 refine Z11 ?_
 refine Hb jS ho ?_ ?_
 ·simp
 refine A2 [0,2,6] ?_;refine Z2 ?_
 refine R.callVX (up':=Hx) (own':=[Mj]) hgc (hcf hn30 [Mj]) (by simpa using hxl) (by rw [Dw];exact hlow) ?_
 rw [←hxl]
 refine Z17 ?_;refine A2 [0,6,7] ?_;refine Z14 ?_
 refine A4 (h:=Fi hxo) (hr:=?_)
 refine Z11 ?_
 refine Hb jS hxo ?_ ?_
 ·simp
 refine A2 [6,7] ?_;refine Z2 ?_;refine nw ?_;exact A8 (Ai (Ap jA jS)) ⟨fun h=>absurd h hn30,fun _=>⟨by rw [Af],by rw [show ((S2.nest:Int)-1)=((cl S2).nest:Int) by show _=((S2.nest-1:Nat):Int);omega];rfl⟩⟩ (hlow:=by have:=Ag Hx.length x;rw [Af] at this;simpa using this)

theorem xn (t:Str) (a b:Expr):B7 (Jm t a b)=[A5 5,.v (sv t),A5 0,A5 0,Ac [],.slice false 6 [Ab a,Ab b]]:=rfl
theorem AH1 {n:Nat} (t:Str) (a b:Expr):ObjLow n (.cells 26 [A5 5,.v (sv t),A5 0,A5 0,Ac [],.slice false 6 [Ab a,Ab b]]):=AGz (Jm t a b)
theorem AH2 {n:Nat} {U:List AObj} {i:Nat} {x:AObj} (h:∀y∈U,ObjLow n y) (hx:ObjLow n x):∀y∈U.set i x,ObjLow n y:=by
 intro y hy
 rcases S8 hy with h1|h1
 ·exact h y h1
 rw [h1];exact hx
/-- within, with a method's value. -/
theorem ACx {g:FuncId} (hgc:∀args w,(callFunc g args).run Tryz.prog w=.ok (.enter g args) w) (l:List Tok) (S:PS) (a:Int) (f:PS→Expr×PS) (o:Nat) (Hp:List AObj) (ho:Hp[o]? = some (pr l S)) (hi:S.i<l.length) (hnl:S.nest≤30) (hf:S.nest≠30→Fp l (S.nest+1) f) (hcf:S.nest≠30→PC g l f (S.nest+1)):
  ACall Tryz.prog 256 [.ptr o 0,A5 a,.fn (.func g) [.ptr o 0] []] Hp (fun r H'=>r=Ab (Db a f S).1∧H'=Hp.set o (pr l (Db a f S).2)):=by
 have hlt:=(Ak.1 ho).1
 by_cases h30:S.nest=30
 ·refine (AH0 l S a g [.ptr o 0] [] A6 (E1 S) o Hp (Hp.set o (pr l (E1 S))) ho (by omega) hgc (by simp) (by simp [hlt]) rfl (fun h=>h) (fun h=>absurd h30 h)).mono fun r H' h=>?_
  have e:Db a f S=(A6,F5 18 a S):=if_pos (by rw [h30];rfl)
  rw [e]
  exact h.1 h30
 have hq:=hf h30 (E1 S) hi rfl
 refine (AH0 l S a g [.ptr o 0] [] (f (E1 S)).1 (f (E1 S)).2 o Hp (Hp.set o (pr l (f (E1 S)).2)) ho (by omega) hgc (by simp) (by simp [hlt]) hq.nest (fun h y hy=>?_) (fun _ own=>?_)).mono fun r H' h=>?_
 ·rcases S8 hy with h1|h1
  ·obtain ⟨i,hi',rfl⟩:=R5 h1
   by_cases hio:i=o
   ·subst hio
    have:Hp[i]=pr l S:=by rw [Ae hi'] at ho;injection ho
    rw [this];exact Dk
   refine h _ ?_
   rw [r8]
   exact ⟨i,by rw [F8 (Ne.symm hio),Ae hi']⟩
  rw [h1];exact Dk
 ·have hg:(Hp.set o (pr l (E1 S))++own)[o]? = some (pr l (E1 S)):=B5 (by simp [hlt])
  refine (hcf h30 o (Hp.set o (pr l (E1 S))++own) (E1 S) hg hi rfl).mono fun r H' h=>⟨h.1,h.2.trans ?_⟩
  rw [Pq _ _ (by simpa using hlt),Ep]
 have e:Db a f S=((f (E1 S)).1,cl (f (E1 S)).2):=if_neg (by
  show ¬(((S.nest:Int)==30)=true)
  simp
  omega)
 rw [e]
 obtain ⟨h1,h2⟩:=h.2 h30
 exact ⟨h1,by rw [h2,Ep]⟩
theorem AH3 {g:FuncId} (hgc:∀args w,(callFunc g args).run Tryz.prog w=.ok (.enter g args) w) (l:List Tok) (S:PS) (of:Str) (hof:of.length≤1048576) (f:PS→Expr×PS) (o:Nat) (Hp:List AObj) (ho:Hp[o]? = some (pr l S)) (hi:S.i<l.length) (hl:TokEnd l) (hll:l.length≤1048576) (hf:Fp l S.nest f) (hcf:PC g l f S.nest):ACall Tryz.prog 156 [.ptr o 0,Ac of,.fn (.func g) [.ptr o 0] []] Hp (fun r H'=>r=Ab (Ht l of f S).1∧H'=Hp.set o (pr l (Ht l of f S).2)):=by
 have holt:=(Ak.1 ho).1
 refine Aj [.cell 6 26] [0,1,2] Tryz.func156 Tryz.ntmps156 (fun d=>?_)
 refine AFx ?_;refine Z2 ?_;refine R.callVUp hgc ho (by simp) Dk (hcf o _ S (B5 ho) hi rfl) ?_;refine Z17 ?_;refine A2 [0,1,2,6,7] ?_;refine Ki ?_
 refine B9 (α:=Expr×PS) (fun r=>⟨32,Aa 0 (.ptr o 0) (Aa 1 (Ac of) (Aa 2 (.fn (.func g) [.ptr o 0] []) (Aa 6 (.ptr (oid Hp.length 0) 0) (Aa 7 (.ptr (oid Hp.length 1) 0) (fun _=>.any))))),Hp.set o (pr l r.2),[.cells 26 [A5 0,Ac [],A5 0,A5 0,Ac [],.nil],.cells 26 (B7 r.1)],[],none⟩) (fun r=>LeftAt l of f S r) (fun r=>l.length-r.2.i) (f S) (.start (hf S hi rfl)) (Az (by simp)) rfl (fun r hx=>?_)
 refine Z46 ?_
 refine A4 (h:=Fi (Ay ho)) (hr:=?_)
 refine Z42 ?_;refine Bk Tryz.call203 (fun hB=>kw l r.2 of o _ (B5 (Ay ho)) hx.fact.lt hl hof) ?_;refine A4 ?_;refine A2 [0,1,2,6,7,21] ?_
 refine A3 (fun ht21=>?_) (fun ht21=>?_)
 ·have hon:=hx.on hl ht21 hf
  have hle:=hon.2.1.le
  have hlt0:=hx.fact.lt
  have hU1:(Hp.set o (pr l r.2)).set o (pr l (Au r.2))=Hp.set o (pr l (Au r.2)):=Ep ..
  refine vt ?_;refine Z2 ?_;refine Cl Tryz.call204 (Ay ho) (by simp) Dk (xl l r.2 o _ (B5 (Ay ho)) hx.fact.lt hll) ?_;refine Z17 ?_;refine A2 [0,1,2,6,7,8] ?_;refine W.drawY0 [0,1,0,0,8,28,63,127] [4] [.q 4 [] [],.s [28] (some 0) [] [],.q 1 [0] []] (fun B=>Hp.set o (if B 0=true then pr l (f (Au r.2)).2 else pr l (Au r.2))) (fun _=>[.cells 26 [A5 0,Ac [],A5 0,A5 0,Ac [],.nil],.cells 26 (B7 r.1),.cells 113 [A5 (B1 l r.2.i).kind,Ac (B1 l r.2.i).text,A5 (B1 l r.2.i).at_]]) Am (by kernel_rfl) (by simp [Ep]) rfl (fun B=>by simp) ?_
  apply Y.q
  ·intro B hT hF
   exact AKp
  case hTF=>decide
  refine Y.callVUp (r:=Ab (f (Au r.2)).1) (o:=o) (x0:=pr l (Au r.2)) (x:=pr l (f (Au r.2)).2) hgc (fun B hT hF hB=>⟨by simp only [hB];exact Ay ho,by simp [upd],rfl,Dk,?_⟩) ?_
  ·simp only [hB]
   exact hcf o _ (Au r.2) (B5 (Ay ho)) hon.1 hx.fact.nest
  apply Y.q
  ·intro B hT hF
   exact AB6
  case hTF=>decide
  refine Hd (tn:=[4]) (U:=Hp.set o (pr l (f (Au r.2)).2)) ?_;refine AO7 ?_;refine A2 [0,1,2,6,7] ?_;refine Ix ?_
  refine B2 (Jm (B1 l r.2.i).text r.1 (f (Au r.2)).1,(f (Au r.2)).2) hon.2.2 (by show l.length-(f (Au r.2)).2.i<l.length-r.2.i;have:r.2.i+1≤(f (Au r.2)).2.i:=hle;omega) ?_
  simp only [xn]
  have hlow2:=fun n=>AH1 (n:=n) (B1 l r.2.i).text r.1 (f (Au r.2)).1
  simp only [Af] at hlow2 ⊢
  exact Dz (fun _=>.refl _) (by repeat (first|exact By|refine Bx (by simp [oid]<;>omega) ?_)) (by intro y hy;rcases C0.1 hy with rfl|hy;exact Q8;rw [Br.1 hy];exact hlow2 _) (by simp)
 have hout:=hx.out (by rw [ht21];simp)
 refine Xw ?_;refine nw ?_;exact A8 (Ai (Ap jA jS)) ⟨by rw [hout,Af],by rw [hout]⟩ (hlow:=by have:=Ag (Hp.set o (pr l r.2)).length r.1;rw [Af] at this;simpa using this)

theorem ASs (l:List Tok) (S:PS) (f:PS→Expr×PS) (o:Nat) (Hp:List AObj) (ho:Hp[o]? = some (pr l S)) (hi:S.i<l.length) (hl:TokEnd l) (hll:l.length≤1048576) (hf:Fp l S.nest f) (hcf:PC 157 l f S.nest):ACall Tryz.prog 114 [.ptr o 0] Hp (fun r H'=>r=Ab (Ht l orT f S).1∧H'=Hp.set o (pr l (Ht l orT f S).2)):=by
 refine Aj [.cell 2 26] [0] Tryz.func114 Tryz.ntmps114 (fun d=>?_)
 refine Z77 ?_;refine Z1 ?_;refine Ma ?_;refine Cl Tryz.call156 ho (by simp) Dk (AH3 Tryz.call157 l S orT (by decide) f o _ (B5 ho) hi hl hll hf hcf) ?_;refine Z24 ?_;exact A8 (Ai (Ap jA jS)) ⟨by rw [Af],rfl⟩ (hlow:=by have:=Ag Hp.length (Ht l orT f S).1;rw [Af] at this;simpa using this)

theorem ASt (l:List Tok) (S:PS) (f:PS→Expr×PS) (o:Nat) (Hp:List AObj) (ho:Hp[o]? = some (pr l S)) (hi:S.i<l.length) (hl:TokEnd l) (hll:l.length≤1048576) (hf:Fp l S.nest f) (hcf:PC 205 l f S.nest):ACall Tryz.prog 157 [.ptr o 0] Hp (fun r H'=>r=Ab (Ht l ACu f S).1∧H'=Hp.set o (pr l (Ht l ACu f S).2)):=by
 refine Aj [.cell 2 26] [0] Tryz.func157 Tryz.ntmps157 (fun d=>?_)
 refine Z77 ?_;refine Z1 ?_;refine Ma ?_;refine Cl Tryz.call156 ho (by simp) Dk (AH3 Tryz.call205 l S ACu (by decide) f o _ (B5 ho) hi hl hll hf hcf) ?_;refine Z24 ?_;exact A8 (Ai (Ap jA jS)) ⟨by rw [Af],rfl⟩ (hlow:=by have:=Ag Hp.length (Ht l ACu f S).1;rw [Af] at this;simpa using this)

theorem ASu (l:List Tok) (S:PS) (f:PS→Expr×PS) (o:Nat) (Hp:List AObj) (ho:Hp[o]? = some (pr l S)) (hi:S.i<l.length) (hl:TokEnd l) (hll:l.length≤1048576) (hf:Fp l S.nest f) (hcf:PC 317 l f S.nest):ACall Tryz.prog 291 [.ptr o 0] Hp (fun r H'=>r=Ab (Ht l ACv f S).1∧H'=Hp.set o (pr l (Ht l ACv f S).2)):=by
 refine Aj [.cell 2 26] [0] Tryz.func291 Tryz.ntmps291 (fun d=>?_)
 refine Z77 ?_;refine Z1 ?_;refine Ma ?_;refine Cl Tryz.call156 ho (by simp) Dk (AH3 Tryz.call317 l S ACv (by decide) f o _ (B5 ho) hi hl hll hf hcf) ?_;refine Z24 ?_;exact A8 (Ai (Ap jA jS)) ⟨by rw [Af],rfl⟩ (hlow:=by have:=Ag Hp.length (Ht l ACv f S).1;rw [Af] at this;simpa using this)

theorem ASv (l:List Tok) (S:PS) (f:PS→Expr×PS) (o:Nat) (Hp:List AObj) (ho:Hp[o]? = some (pr l S)) (hi:S.i<l.length) (hl:TokEnd l) (hll:l.length≤1048576) (hf:Fp l S.nest f) (hcf:PC 334 l f S.nest):ACall Tryz.prog 317 [.ptr o 0] Hp (fun r H'=>r=Ab (Ht l kt f S).1∧H'=Hp.set o (pr l (Ht l kt f S).2)):=by
 refine Aj [.cell 2 26] [0] Tryz.func317 Tryz.ntmps317 (fun d=>?_)
 refine Z77 ?_;refine Z1 ?_;refine Ma ?_;refine Cl Tryz.call156 ho (by simp) Dk (AH3 Tryz.call334 l S kt (by decide) f o _ (B5 ho) hi hl hll hf hcf) ?_;refine Z24 ?_;exact A8 (Ai (Ap jA jS)) ⟨by rw [Af],rfl⟩ (hlow:=by have:=Ag Hp.length (Ht l kt f S).1;rw [Af] at this;simpa using this)

/-- What is so of the functions one nest deeper. -/
structure DeepC (l:List Tok) (Dv:Fam) (n:Nat):Prop where
 ei:n≠30→Fp l (n+1) Dv.ei∧PC 114 l Dv.ei (n+1)
 no:n≠30→Fp l (n+1) Dv.no∧PC 205 l Dv.no (n+1)
 ne:n≠30→Fp l (n+1) Dv.ne∧PC 334 l Dv.ne (n+1)
theorem Wz (op:Int) (x:Expr):Ab (Gw op x)=.agg [A5 op,Ac [],A5 0,A5 0,Ac [],.slice false 6 [Ab x]]:=by rw [Af];rfl
theorem sm (t:Str) (a b:Expr):Ab (Jm t a b)=.agg [A5 5,.v (sv t),A5 0,A5 0,Ac [],.slice false 6 [Ab a,Ab b]]:=by rw [Af];rfl
theorem low_agg {n:Nat} (e:Expr):Low n (.agg [.v (.int .i64 e.op),.v (sv e.text),.v (.int .i64 e.val.kind),.v (.int .i64 e.val.n),.v (sv e.val.s),.slice false 6 (e.kids.map Ab)]):=by
 have:=Ag n e
 rwa [Af] at this
theorem ASw (l:List Tok) (S:PS) (Dv:Fam) (o:Nat) (Hp:List AObj) (ho:Hp[o]? = some (pr l S)) (hi:S.i<l.length) (hl:TokEnd l) (hll:l.length≤1048576) (hnl:S.nest≤30) (hd:DeepC l Dv S.nest) (hc:PC 346 l (I0 l Dv) S.nest):ACall Tryz.prog 334 [.ptr o 0] Hp (fun r H'=>r=Ab (Yn l Dv S).1∧H'=Hp.set o (pr l (Yn l Dv S).2)):=by
 refine Aj [.cell 2 26] [0] Tryz.func334 Tryz.ntmps334 (fun d=>?_)
 refine Z77 ?_;refine Z25 ?_;refine A9 Tryz.call203 (kw l S ALh o _ (B5 ho) hi hl (by decide)) ?_;refine A4 ?_;refine A2 [0,2,6] ?_
 refine A3 (fun ht6=>?_) (fun ht6=>?_)
 ·have e:Yn l Dv S=I0 l Dv S:=if_pos ht6
  refine Z2 ?_;refine Cl Tryz.call346 ho (by simp) Dk (hc o _ S (B5 ho) hi rfl) ?_;exact AJw
 have his:isM l ALh S=true:=by simpa using ht6
 have hi1:(Au S).i<l.length:=hl.stepIs hi his
 have e:Yn l Dv S=(Gw 3 (Db (B1 l S.i).at_ Dv.ne (Au S)).1,(Db (B1 l S.i).at_ Dv.ne (Au S)).2):=if_neg (by rw [ht6];simp)
 refine AOs ?_;refine AG5 ?_;refine Z21 ?_;refine Ma ?_;refine Cl Tryz.call256 (Ay ho) (by simp) Dk (ACx Tryz.call334 l (Au S) (B1 l S.i).at_ Dv.ne o _ (B5 (Ay ho)) hi1 hnl (fun h=>(hd.ne h).1) (fun h=>(hd.ne h).2)) ?_;refine Sq ?_;refine AK3 ?_;exact A8 (Ai (Ap jA jS)) ⟨by rw [e,Wz];simp only [Af],by rw [e,Ep]⟩ (hlow:=by have:=Ag Hp.length (Gw 3 (Db (B1 l S.i).at_ Dv.ne (Au S)).1);rw [Wz] at this;simp only [Af] at this;simpa only [Dw] using this)

theorem ASx (l:List Tok) (S:PS) (Dv:Fam) (o:Nat) (Hp:List AObj) (ho:Hp[o]? = some (pr l S)) (hi:S.i<l.length) (hl:TokEnd l) (hll:l.length≤1048576) (hnl:S.nest≤30) (hd:DeepC l Dv S.nest) (hc:PC 255 l (Hl l Dv) S.nest):ACall Tryz.prog 205 [.ptr o 0] Hp (fun r H'=>r=Ab (Yo l Dv S).1∧H'=Hp.set o (pr l (Yo l Dv S).2)):=by
 refine Aj [.cell 2 26] [0] Tryz.func205 Tryz.ntmps205 (fun d=>?_)
 refine Z77 ?_;refine Z25 ?_;refine A9 Tryz.call203 (kw l S ALf o _ (B5 ho) hi hl (by decide)) ?_;refine A4 ?_;refine A2 [0,2,6] ?_
 refine A3 (fun ht6=>?_) (fun ht6=>?_)
 ·have e:Yo l Dv S=Hl l Dv S:=if_pos ht6
  refine Z2 ?_;refine Cl Tryz.call255 ho (by simp) Dk (hc o _ S (B5 ho) hi rfl) ?_;exact AJw
 have his:isM l ALf S=true:=by simpa using ht6
 have hi1:(Au S).i<l.length:=hl.stepIs hi his
 have e:Yo l Dv S=(Gw 4 (Db (B1 l S.i).at_ Dv.no (Au S)).1,(Db (B1 l S.i).at_ Dv.no (Au S)).2):=if_neg (by rw [ht6];simp)
 refine AOs ?_;refine AG5 ?_;refine Z21 ?_;refine Ma ?_;refine Cl Tryz.call256 (Ay ho) (by simp) Dk (ACx Tryz.call205 l (Au S) (B1 l S.i).at_ Dv.no o _ (B5 (Ay ho)) hi1 hnl (fun h=>(hd.no h).1) (fun h=>(hd.no h).2)) ?_;refine Sq ?_;refine AK3 ?_;exact A8 (Ai (Ap jA jS)) ⟨by rw [e,Wz];simp only [Af],by rw [e,Ep]⟩ (hlow:=by have:=Ag Hp.length (Gw 4 (Db (B1 l S.i).at_ Dv.no (Au S)).1);rw [Wz] at this;simp only [Af] at this;simpa only [Dw] using this)

theorem ASy (l:List Tok) (S:PS) (Dv:Fam) (o:Nat) (Hp:List AObj) (ho:Hp[o]? = some (pr l S)) (hi:S.i<l.length) (hl:TokEnd l) (hll:l.length≤1048576) (hnl:S.nest≤30) (hd:DeepC l Dv S.nest) (hg:Fp l S.nest (Fv l Dv)) (hc:PC 291 l (Fv l Dv) S.nest):ACall Tryz.prog 255 [.ptr o 0] Hp (fun r H'=>r=Ab (Hl l Dv S).1∧H'=Hp.set o (pr l (Hl l Dv S).2)):=by
 have hq:=hg S hi rfl
 refine Aj [.cell 2 26] [0] Tryz.func255 Tryz.ntmps255 (fun d=>?_)
 refine Z77 ?_;refine Z2 ?_;refine Cl Tryz.call291 ho (by simp) Dk (hc o _ S (B5 ho) hi rfl) ?_;refine AG5 ?_;refine Z46 ?_
 refine A4 (h:=Fi (Ay ho)) (hr:=?_)
 refine Wf ?_;refine Bk Tryz.call203 (fun hB=>kw l (Fv l Dv S).2 ALg o _ (B5 (Ay ho)) hq.lt hl (by decide)) ?_;refine Z92 ?_;refine A2 [0,2,3,17] ?_
 refine A3 (fun ht17=>?_) (fun ht17=>?_)
 ·have e:Hl l Dv S=Fv l Dv S:=if_pos ht17
  refine Z2 ?_;exact AJw
 have his:isM l ALg (Fv l Dv S).2=true:=by
  have:=ht17
  simp only [Df,Ka] at this
  exact this.2
 have hi1:(Au (Fv l Dv S).2).i<l.length:=hl.stepIs hq.lt his
 have e:Hl l Dv S=(Jm (B1 l (Fv l Dv S).2.i).text (Fv l Dv S).1 (Fv l Dv (Au (Fv l Dv S).2)).1,(Fv l Dv (Au (Fv l Dv S).2)).2):=if_neg (by rw [ht17];simp)
 refine Z58 ?_;refine Cl Tryz.call204 (Ay ho) (by simp) Dk (xl l (Fv l Dv S).2 o _ (B5 (Ay ho)) hq.lt hll) ?_;refine Z17 ?_;refine A2 [0,2,3,4] ?_;refine Hc [0,1,0,0,8,28,63,127] [4] [.q 4 [] [],.s [25] (some 0) [] [],.q 1 [0] []] (fun B=>Hp.set o (if B 0=true then pr l (Fv l Dv (Au (Fv l Dv S).2)).2 else pr l (Au (Fv l Dv S).2))) (fun _=>[.cells 26 [A5 0,Ac [],A5 0,A5 0,Ac [],.nil],.cells 26 (B7 (Fv l Dv S).1),.cells 113 [A5 (B1 l (Fv l Dv S).2.i).kind,Ac (B1 l (Fv l Dv S).2.i).text,A5 (B1 l (Fv l Dv S).2.i).at_]]) Am (by kernel_rfl) (by simp [Ep]) rfl (fun B=>by simp) ?_
 apply Y.q
 ·intro B hT hF
  exact AKp
 case hTF=>decide
 refine Y.callUp (r:=Ab (Fv l Dv (Au (Fv l Dv S).2)).1) (o:=o) (x0:=pr l (Au (Fv l Dv S).2)) (x:=pr l (Fv l Dv (Au (Fv l Dv S).2)).2) Tryz.call291 (fun B hT hF hB=>⟨by simp only [hB];exact Ay ho,by simp [upd],rfl,Dk,?_⟩) ?_
 ·simp only [hB]
  exact hc o _ (Au (Fv l Dv S).2) (B5 (Ay ho)) hi1 hq.nest
 apply Y.q
 ·intro B hT hF
  exact AB6
 case hTF=>decide
 refine Hd (tn:=[4]) (U:=Hp.set o (pr l (Fv l Dv (Au (Fv l Dv S).2)).2)) ?_;refine AK3 ?_;exact A8 (Ai (Ap jA jS)) ⟨by rw [e,sm];simp only [Af],by rw [e]⟩ (hlow:=by have:=Ag Hp.length (Jm (B1 l (Fv l Dv S).2.i).text (Fv l Dv S).1 (Fv l Dv (Au (Fv l Dv S).2)).1);rw [sm] at this;simp only [Af] at this;simpa only [Dw] using this)

/-- The contract of the parser of calls. -/
def cp (l:List Tok) (Dv:Fam) (n:Nat):Prop:=∀(o:Nat) (Hp:List AObj) (S:PS) (t:Tok),Hp[o]? = some (pr l S)→(Au S).i<l.length→S.nest=n→t.text.length≤1048576→isM l opT S=true→ACall Tryz.prog 349 [.ptr o 0,Ls t] Hp (fun r H'=>r=Ab (Ja l Dv t S).1∧H'=Hp.set o (pr l (Ja l Dv t S).2))
theorem kx:Ab A6=.agg [A5 0,Ac [],A5 0,A5 0,Ac [],.slice false 6 []]:=by rw [Af];rfl
theorem ASz (l:List Tok) (S:PS) (Dv:Fam) (o:Nat) (Hp:List AObj) (ho:Hp[o]? = some (pr l S)) (hi:S.i<l.length) (hl:TokEnd l) (hll:l.length≤1048576) (hnl:S.nest≤30) (hd:DeepC l Dv S.nest) (hcl:cp l Dv S.nest):ACall Tryz.prog 346 [.ptr o 0] Hp (fun r H'=>r=Ab (I0 l Dv S).1∧H'=Hp.set o (pr l (I0 l Dv S).2)):=by
 refine Aj [.cell 2 26] [0] Tryz.func346 Tryz.ntmps346 (fun d=>?_)
 refine Z77 ?_;refine Z2 ?_;refine AFm ?_;refine A2 [0,2,3] ?_;refine Z46 ?_
 refine A4 (h:=Fi ho) (hr:=?_)
 refine A4 ?_;refine A2 [0,2,3,14] ?_
 refine A3 (fun ht14=>?_) (fun ht14=>?_)
 ·have e:I0 l Dv S=(A6,S):=if_pos ht14
  refine Z19 ?_;refine D7 15 _ Du ?_;refine Rd ?_;exact A8 (Ai (Ap jA jS)) ⟨by rw [e,Af],by rw [e];exact (K3 ho).symm⟩ (hlow:=by have:=Ag Hp.length (A6);simpa only [Af,Dw] using this)
 have e0:¬(S.code != 0)=true:=by rw [ht14];simp
 refine Z50 ?_;refine fg ?_;refine Bk Tryz.call203 (fun hB=>kw l S ALi o _ (B5 ho) hi hl (by decide)) ?_;refine Z0 ?_;refine A2 [0,2,3,16] ?_
 refine A3 (fun ht16=>?_) (fun ht16=>?_)
 ·have e:I0 l Dv S=(Ei (Iy (B1 l S.i).text).1,Au S):=by unfold I0;rw [if_neg e0,if_pos ht16]
  refine AFi ?_;refine A4 ?_;refine A9 Tryz.call252 (AL7 (B1 l S.i).text (hl.text _) _) ?_;refine Z94 ?_;refine A2 [2,4] ?_;refine Z2 ?_;refine A9 Tryz.call348 (AQ4 (Iy (B1 l S.i).text).1 _) ?_;refine Z24 ?_;refine Z7 ?_;exact A8 (Ai (Ap jA jS)) ⟨by rw [e,Af],by rw [e]⟩ (hlow:=by have:=Ag Hp.length (Ei (Iy (B1 l S.i).text).1);simpa only [Af,Dw] using this)
 have e1:¬(((B1 l S.i).kind==3) || isM l ALi S)=true:=by rw [ht16];simp
 refine Z21 ?_;refine A2 [0,2,3,33] ?_
 refine A3 (fun ht33=>?_) (fun ht33=>?_)
 ·have e:I0 l Dv S=(Ei ⟨2,0,(B1 l S.i).text.take 200⟩,Au S):=by unfold I0;rw [if_neg e0,if_neg e1,if_pos ht33]
  refine AFi ?_;refine A4 ?_;refine A9 Tryz.call223 (wy (B1 l S.i).text _) ?_;refine A9 Tryz.call348 (AQ4 ⟨2,0,(B1 l S.i).text.take 200⟩ _) ?_;refine Z24 ?_;refine Z7 ?_;exact A8 (Ai (Ap jA jS)) ⟨by rw [e,Af],by rw [e]⟩ (hlow:=by have:=Ag Hp.length (Ei ⟨2,0,(B1 l S.i).text.take 200⟩);simpa only [Af,Dw] using this)
 have e2:¬((B1 l S.i).kind==4)=true:=by rw [ht33];simp
 refine Z21 ?_;refine A2 [0,2,3,42] ?_
 refine A3 (fun ht42=>?_) (fun ht42=>?_)
 ·have hi1:(Au S).i<l.length:=hl.step hi (by rw [beq_iff_eq] at ht42;rw [ht42];decide)
  refine AFi ?_;refine A2 [0,2,3] ?_;refine Z25 ?_;refine A9 Tryz.call203 (kw l (Au S) opT o _ (B5 (Ay ho)) hi1 hl (by decide)) ?_;refine A2 [0,2,3,49] ?_
  refine A3 (fun ht49=>?_) (fun ht49=>?_)
  ·have e:I0 l Dv S=Ja l Dv (B1 l S.i) (Au S):=by unfold I0;rw [if_neg e0,if_neg e1,if_neg e2,if_pos ht42,if_pos ht49]
   have hi2:(Au (Au S)).i<l.length:=hl.stepIs hi1 ht49
   refine Z1 ?_;refine Cl Tryz.call349 (Ay ho) (by simp) Dk (hcl o _ (Au S) (B1 l S.i) (B5 (Ay ho)) hi2 rfl (hl.text _) ht49) ?_;refine Rd ?_;refine Z7 ?_;exact A8 (Ai (Ap jA jS)) ⟨by rw [e,Af],by rw [e,Ep]⟩ (hlow:=by have:=Ag Hp.length ((Ja l Dv (B1 l S.i) (Au S)).1);simpa only [Af,Dw] using this)
  have e:I0 l Dv S=(Bh (B1 l S.i).text,Au S):=by unfold I0;rw [if_neg e0,if_neg e1,if_neg e2,if_pos ht42,if_neg (by rw [ht49];simp)]
  refine Z98 ?_;refine Wh ?_;refine D7 55 _ (jy _) ?_;refine Z24 ?_;refine Z7 ?_;exact A8 (Ai (Ap jA jS)) ⟨by rw [e,Af],by rw [e]⟩ (hlow:=by have:=Ag Hp.length (Bh (B1 l S.i).text);simpa only [Af,Dw] using this)
 have e3:¬((B1 l S.i).kind==1)=true:=by rw [ht42];simp
 refine Z2 ?_;refine A9 Tryz.call203 (kw l S opT o _ (B5 ho) hi hl (by decide)) ?_;refine A4 ?_;refine A2 [0,2,3,56] ?_
 refine A3 (fun ht56=>?_) (fun ht56=>?_)
 ·have e:I0 l Dv S=((Db (B1 l S.i).at_ Dv.ei (Au S)).1,Gv l Gr (Db (B1 l S.i).at_ Dv.ei (Au S)).2):=by unfold I0;rw [if_neg e0,if_neg e1,if_neg e2,if_neg e3,if_pos ht56]
  have hi1:(Au S).i<l.length:=hl.stepIs hi ht56
  have hwf:=Kr (S:=Au S) (l:=l) (f:=Dv.ei) (B1 l S.i).at_ hi1 (fun h=>(hd.ei h).1)
  refine AFi ?_;refine A2 [0,2,3] ?_;refine Z21 ?_;refine Ma ?_;refine Cl Tryz.call256 (Ay ho) (by simp) Dk (ACx Tryz.call114 l (Au S) (B1 l S.i).at_ Dv.ei o _ (B5 (Ay ho)) hi1 hnl (fun h=>(hd.ei h).1) (fun h=>(hd.ei h).2)) ?_;refine Z17 ?_;refine A2 [0,2,6] ?_;refine Z2 ?_;refine Cl Tryz.call350 (Ay (Ay ho)) (by simp) Dk (AQ5 l (Db (B1 l S.i).at_ Dv.ei (Au S)).2 Gr o _ (B5 (Ay (Ay ho))) hwf.lt hll) ?_;refine A2 [2,6] ?_;refine Z2 ?_;refine Z24 ?_;refine Z7 ?_;exact A8 (Ai (Ap jA jS)) ⟨by rw [e,Af],by rw [e,Ep,Ep]⟩ (hlow:=by have:=Ag Hp.length ((Db (B1 l S.i).at_ Dv.ei (Au S)).1);simpa only [Af,Dw] using this)
 have e:I0 l Dv S=(A6,F5 8 (B1 l S.i).at_ S):=by unfold I0;rw [if_neg e0,if_neg e1,if_neg e2,if_neg e3,if_neg (by rw [ht56];simp)]
 refine Z18 ?_;refine AO6 ?_;refine Z24 ?_;exact A8 (Ai (Ap jA jS)) ⟨by rw [e,Af],by rw [e]⟩ (hlow:=by have:=Ag Hp.length (A6);simpa only [Af,Dw] using this)

theorem AH4 {l:List Tok} (hl:TokEnd l) (hll:l.length≤1048576) {d n:Nat} (h:n+(d+1)=31) (hp:n≠30→PC 114 l (Gx l d).ei (n+1)∧PC 205 l (Gx l d).no (n+1)∧PC 334 l (Gx l d).ne (n+1)):DeepC l (Gx l d) n:=by
 have g:n≠30→_:=fun h30=>Uv hl hll d (n+1) (by omega) (by omega)
 exact ⟨fun h=>⟨(g h).1,(hp h).1⟩,fun h=>⟨(g h).2.1,(hp h).2.1⟩,fun h=>⟨(g h).2.2,(hp h).2.2⟩⟩
/-- All functions of the parser. -/
theorem ky {l:List Tok} (hl:TokEnd l) (hll:l.length≤1048576) (hcl:∀n Dv,n≤30→DeepC l Dv n→cp l Dv n):∀(d n:Nat),n+d=31→n≤30→PC 114 l (Gx l d).ei n∧PC 205 l (Gx l d).no n∧PC 334 l (Gx l d).ne n
 | 0,n,h,hn=>by omega
 | d+1,n,h,hn=>by
  have hd:DeepC l (Gx l d) n:=AH4 hl hll h (fun h30=>ky hl hll hcl d (n+1) (by omega) (by omega))
  have g1:Fp l n (Yn l (Gx l d)):=Uu hl hll (fun h=>(hd.ei h).1) (fun h=>(hd.ne h).1)
  have g2:Fp l n (se l (Gx l d)):=Ii hl g1
  have g3:Fp l n (Fv l (Gx l d)):=Ii hl g2
  have g4:Fp l n (Hl l (Gx l d)):=Qx hl hll (fun h=>(hd.ei h).1) (fun h=>(hd.ne h).1)
  have g5:Fp l n (Yo l (Gx l d)):=co hl hll (fun h=>(hd.ei h).1) (fun h=>(hd.ne h).1) (fun h=>(hd.no h).1)
  have g6:Fp l n (sg l (Gx l d)):=Ii hl g5
  have p0:PC 346 l (I0 l (Gx l d)) n:=fun o Hp S ho hi hS=>by
   subst hS
   exact ASz l S (Gx l d) o Hp ho hi hl hll hn hd (hcl _ _ hn hd)
  have p1:PC 334 l (Yn l (Gx l d)) n:=fun o Hp S ho hi hS=>by
   subst hS
   exact ASw l S (Gx l d) o Hp ho hi hl hll hn hd p0
  have p2:PC 317 l (se l (Gx l d)) n:=fun o Hp S ho hi hS=>by
   subst hS
   exact ASv l S (Yn l (Gx l d)) o Hp ho hi hl hll g1 p1
  have p3:PC 291 l (Fv l (Gx l d)) n:=fun o Hp S ho hi hS=>by
   subst hS
   exact ASu l S (se l (Gx l d)) o Hp ho hi hl hll g2 p2
  have p4:PC 255 l (Hl l (Gx l d)) n:=fun o Hp S ho hi hS=>by
   subst hS
   exact ASy l S (Gx l d) o Hp ho hi hl hll hn hd g3 p3
  have p5:PC 205 l (Yo l (Gx l d)) n:=fun o Hp S ho hi hS=>by
   subst hS
   exact ASx l S (Gx l d) o Hp ho hi hl hll hn hd p4
  have p6:PC 157 l (sg l (Gx l d)) n:=fun o Hp S ho hi hS=>by
   subst hS
   exact ASt l S (Yo l (Gx l d)) o Hp ho hi hl hll g5 p5
  have p7:PC 114 l (gj l (Gx l d)) n:=fun o Hp S ho hi hS=>by
   subst hS
   exact ASs l S (sg l (Gx l d)) o Hp ho hi hl hll g6 p6
  exact ⟨p7,p5,p1⟩
theorem Q9:∀(n:Nat) (e:Expr),okE n e→depthE e≤n
 | 0,_,h=>h.elim
 | n+1,e,h=>by
  rw [In]
  have:∀l:List Expr,(∀y∈l,okE n y)→De l≤n:=by
   intro l
   induction l with
   | nil=>intro _;exact Av _
   | cons y r ih =>
    intro hl
    rw [De]
    have h1:=Q9 n y (hl y (by simp))
    have h2:=ih (fun z hz=>hl z (by simp [hz]))
    omega
  have:=this e.kids h.2.2
  omega
theorem ACy (e:Expr) (x:Nat):Bp (e.kids.take x)+1≤sizeE e:=by
 rw [Ds]
 have:∀(l:List Expr) (x:Nat),Bp (l.take x)≤Bp l:=by
  intro l
  induction l with
  | nil=>intro x;simp
  | cons y r ih =>
   intro x
   cases x with
   | zero=>simp [Bp]
   | succ x =>
    have:=ih x
    rw [List.take_succ_cons,Bp,Bp]
    omega
 have:=this e.kids x
 omega
theorem c54:∀(n:Nat) (e:Expr),okE n e→n≤1048576→∀Hp:List AObj,AFun Tryz.prog 54 [Ab e] Hp (A5 (depthE e:Nat)):=by
 intro n
 induction n with
 | zero=>exact fun e h=>h.elim
 | succ n ih =>
 intro e hok hn Hp
 refine Aj [.tmp 2] [0] Tryz.func54 Tryz.ntmps54 (fun d=>?_)
 refine jl ?_;refine A2 [1,3] ?_;refine Z25 ?_;refine fm ?_
 refine B9 (α:=Nat) (fun x=>⟨25,Aa 1 (.ro (B7 e)) (Aa 3 (A5 (De (e.kids.take x):Nat)) (Aa 4 (A5 (x:Nat)) (fun _=>.any))),Hp,[],[],none⟩) (fun x=>x≤e.kids.length) (fun x=>e.kids.length-x) (0) (Av _) (Az (by simp [De])) rfl (fun x hx=>?_)
 refine O8 ?_;refine A2 [1,3,4,10] ?_
 refine A3 (fun ht10=>?_) (fun ht10=>?_)
 ·have hlt:x<e.kids.length:=by simpa using ht10
  have hkl:=hok.2.1
  refine jh ?_
  refine A4 (h:=Ad (x) (Ab e.kids[x]) (fun _=>B3 hlt)) (hr:=?_)
  refine A4 ?_;refine A9 Tryz.call54 (ih e.kids[x] (hok.2.2 _ (Bb hlt)) (by omega) _) ?_;refine A4 ?_;refine A2 [1,3,4,5] ?_;refine Z14 ?_;refine A2 [1,3,4,5,21] ?_
  refine A3 (fun ht21=>?_) (fun ht21=>?_)
  ·have em:De (e.kids.take (x+1))=depthE e.kids[x]:=by rw [Vr _ hlt];have:=of_decide_eq_true ht21;omega
   refine Z29 ?_;refine fm ?_;refine Me ?_;exact ANg
  have em:De (e.kids.take (x+1))=De (e.kids.take x):=by rw [Vr _ hlt];have:=of_decide_eq_false ht21;omega
  refine Z87 ?_;exact ANg
 have hd1:=Q9 _ e hok
 have hxe:e.kids.take x=e.kids:=Dn (by simp at ht10;omega)
 have hdd:=In e
 refine Xw ?_
 rw [hxe]
 refine Z55 ?_;exact A8 (Ai A7) ⟨by rw [hdd];rfl,rfl⟩

theorem c55:∀(n:Nat) (e:Expr),okE n e→sizeE e≤1048576→∀Hp:List AObj,AFun Tryz.prog 55 [Ab e] Hp (A5 (sizeE e:Nat)):=by
 intro n
 induction n with
 | zero=>exact fun e h=>h.elim
 | succ n ih =>
 intro e hok hn Hp
 refine Aj [.tmp 2] [0] Tryz.func55 Tryz.ntmps55 (fun d=>?_)
 refine jl ?_;refine A2 [1,3] ?_;refine Z25 ?_;refine fm ?_
 refine B9 (α:=Nat) (fun x=>⟨21,Aa 1 (.ro (B7 e)) (Aa 3 (A5 ((Bp (e.kids.take x):Nat)+1)) (Aa 4 (A5 (x:Nat)) (fun _=>.any))),Hp,[],[],none⟩) (fun x=>x≤e.kids.length) (fun x=>e.kids.length-x) (0) (Av _) (Az (by simp [Bp])) rfl (fun x hx=>?_)
 refine O8 ?_;refine A2 [1,3,4,9] ?_
 refine A3 (fun ht9=>?_) (fun ht9=>?_)
 ·have hlt:x<e.kids.length:=by simpa using ht9
  have hkl:=hok.2.1
  have hs1:=pi e.kids hlt
  have hs2:=ACy e (x+1)
  refine Z50 ?_;refine Z29 ?_;refine Z0 ?_
  refine A4 (h:=Ad (x) (Ab e.kids[x]) (fun _=>B3 hlt)) (hr:=?_)
  refine A4 ?_
  refine A9 Tryz.call55 (ih e.kids[x] (hok.2.2 _ (Bb hlt)) (by have:=Sv e hlt;omega) _) ?_
  refine Z0 ?_;refine fm ?_;refine Me ?_;refine fm ?_;exact B2 (x+1) hlt (by omega) (Bz (by simp only [hs1];congr 4;simp only [AV.v.injEq,Value.int.injEq,true_and];omega))
 have hxe:e.kids.take x=e.kids:=Dn (by simp at ht9;omega)
 have hdd:=Ds e
 refine Z52 ?_;refine fk ?_;exact A8 (Ai A7) ⟨by rw [hxe,hdd];simp;omega,rfl⟩

def Uw (s:Str):Int:=if (((s==[108,101,110]) || (s==[115,116,114])) || (s==[110,117,109])) || (s==[105,115,110,117,108,108]) then 1 else if ((s==[110,118,108]) || (s==[108,101,102,116])) || (s==[114,105,103,104,116]) then 2 else if s==[105,102] then 3 else -1
theorem xp (s:Str):Cc s=Uw s:=by
 by_cases h:s∈arityList.map (·.1)
 ·have:((arityList.map (·.1)).all fun s=>decide (Cc s=Uw s))=true:=by kernel_rfl
  exact of_decide_eq_true (Bj.1 this s h)
 have h1:Cc s = -1:=by
  unfold Cc
  rw [R4.2 fun p hp=>by
   simp only [beq_iff_eq]
   rintro rfl
   exact h (Dm.2 ⟨p,hp,rfl⟩)]
 rw [h1]
 simp only [arityList,Ci,Fs,C0,I6,or_false,not_or] at h
 obtain ⟨a1,a2,a3,a4,a5,a6,a7,a8⟩:=h
 simp [Uw,a1,a2,a3,a4,a5,a6,a7,a8]
theorem AQ6 (s:Str) (Hp:List AObj):AFun Tryz.prog 148 [Ac s] Hp (A5 (Uw s)):=by
 refine Aj [.tmp 2] [0] Tryz.func148 Tryz.ntmps148 (fun d=>?_)
 refine Z56 ?_;refine Z25 ?_;refine A2 [3] ?_;refine J6 ?_;refine Z8 ?_;refine A2 [3,4] ?_
 refine A3 (fun ht4=>?_) (fun ht4=>?_)
 ·refine Z3 ?_
  refine A3 (fun ht4=>?_) (fun ht4=>?_)
  ·exact Z69
  refine Z8 ?_;refine A2 [3,9] ?_
  refine A3 (fun ht9=>?_) (fun ht9=>?_)
  ·refine Z3 ?_
   refine A3 (fun ht9=>?_) (fun ht9=>?_)
   ·exact Z69
   refine Wb ?_
   refine A3 (fun ht13=>?_) (fun ht13=>?_)
   ·exact Z69
   exact Wd
  refine Z1 ?_;refine A2 [3,9] ?_
  refine A3 (fun ht9=>?_) (fun ht9=>?_)
  ·refine Z3 ?_
   refine A3 (fun ht9=>?_) (fun ht9=>?_)
   ·exact Z69
   refine Wb ?_
   refine A3 (fun ht13=>?_) (fun ht13=>?_)
   ·exact Z69
   exact Wd
  refine Z29 ?_;refine AG6 ?_
  refine A3 (fun ht9=>?_) (fun ht9=>?_)
  ·exact Z69
  refine Wb ?_
  refine A3 (fun ht13=>?_) (fun ht13=>?_)
  ·exact Z69
  exact Wd
 refine Z1 ?_;refine A2 [3,4] ?_
 refine A3 (fun ht4=>?_) (fun ht4=>?_)
 ·refine Z3 ?_
  refine A3 (fun ht4=>?_) (fun ht4=>?_)
  ·exact Z69
  refine Z8 ?_;refine A2 [3,9] ?_
  refine A3 (fun ht9=>?_) (fun ht9=>?_)
  ·refine Z3 ?_
   refine A3 (fun ht9=>?_) (fun ht9=>?_)
   ·exact Z69
   refine Wb ?_
   refine A3 (fun ht13=>?_) (fun ht13=>?_)
   ·exact Z69
   exact Wd
  refine Z1 ?_;refine A2 [3,9] ?_
  refine A3 (fun ht9=>?_) (fun ht9=>?_)
  ·refine Z3 ?_
   refine A3 (fun ht9=>?_) (fun ht9=>?_)
   ·exact Z69
   refine Wb ?_
   refine A3 (fun ht13=>?_) (fun ht13=>?_)
   ·exact Z69
   exact Wd
  refine Z29 ?_;refine AG6 ?_
  refine A3 (fun ht9=>?_) (fun ht9=>?_)
  ·exact Z69
  refine Wb ?_
  refine A3 (fun ht13=>?_) (fun ht13=>?_)
  ·exact Z69
  exact Wd
 refine Z1 ?_;refine A2 [3,4] ?_
 refine A3 (fun ht4=>?_) (fun ht4=>?_)
 ·refine Z3 ?_
  refine A3 (fun ht4=>?_) (fun ht4=>?_)
  ·exact Z69
  refine Z8 ?_;refine A2 [3,9] ?_
  refine A3 (fun ht9=>?_) (fun ht9=>?_)
  ·refine Z3 ?_
   refine A3 (fun ht9=>?_) (fun ht9=>?_)
   ·exact Z69
   refine Wb ?_
   refine A3 (fun ht13=>?_) (fun ht13=>?_)
   ·exact Z69
   exact Wd
  refine Z1 ?_;refine A2 [3,9] ?_
  refine A3 (fun ht9=>?_) (fun ht9=>?_)
  ·refine Z3 ?_
   refine A3 (fun ht9=>?_) (fun ht9=>?_)
   ·exact Z69
   refine Wb ?_
   refine A3 (fun ht13=>?_) (fun ht13=>?_)
   ·exact Z69
   exact Wd
  refine Z29 ?_;refine AG6 ?_
  refine A3 (fun ht9=>?_) (fun ht9=>?_)
  ·exact Z69
  refine Wb ?_
  refine A3 (fun ht13=>?_) (fun ht13=>?_)
  ·exact Z69
  exact Wd
 refine Z29 ?_;refine A2 [3,4] ?_;refine Fl ?_
 refine A3 (fun ht4=>?_) (fun ht4=>?_)
 ·exact Z69
 refine Z8 ?_;refine A2 [3,9] ?_
 refine A3 (fun ht9=>?_) (fun ht9=>?_)
 ·refine Z3 ?_
  refine A3 (fun ht9=>?_) (fun ht9=>?_)
  ·exact Z69
  refine Wb ?_
  refine A3 (fun ht13=>?_) (fun ht13=>?_)
  ·exact Z69
  exact Wd
 refine Z1 ?_;refine A2 [3,9] ?_
 refine A3 (fun ht9=>?_) (fun ht9=>?_)
 ·refine Z3 ?_
  refine A3 (fun ht9=>?_) (fun ht9=>?_)
  ·exact Z69
  refine Wb ?_
  refine A3 (fun ht13=>?_) (fun ht13=>?_)
  ·exact Z69
  exact Wd
 refine Z29 ?_;refine AG6 ?_
 refine A3 (fun ht9=>?_) (fun ht9=>?_)
 ·exact Z69
 refine Wb ?_
 refine A3 (fun ht13=>?_) (fun ht13=>?_)
 ·exact Z69
 exact Wd

theorem ACz {s:Str} {x:Nat} (hx:x<levels.length) (h:levels[x].contains s=true) (h0:∀(j:Nat) (l:List Str),j<x→levels[j]? = some l→l.contains s=false):Bt s=(x:Int):=by
 unfold Bt
 rw [N5.2 ⟨hx,h,fun j hj=>by
  have e:=h0 j levels[j] hj (Ae _)
  show ¬(levels[j].contains s=true)
  rw [e]
  simp⟩]
theorem AD0 {s:Str} (h0:∀(j:Nat) (l:List Str),j<levels.length→levels[j]? = some l→l.contains s=false):Bt s = -1:=by
 unfold Bt
 rw [Tw.2 fun l hl=>by
  obtain ⟨j,hj⟩:=Cr hl
  exact h0 j l (Ak.1 hj).1 hj]
theorem q8:levels.length=6:=rfl
theorem gk {x:Nat} (hx:x<levels.length):levels[x].length≤6:=by
 have:(levels.all fun l=>decide (l.length≤6))=true:=by kernel_rfl
 exact of_decide_eq_true (Bj.1 this _ (Bb hx))
theorem ba {l:List Str} {s:Str} (h:∀(j:Nat) (w:Str),j<l.length→l[j]? = some w→(w==s)=false):l.contains s=false:=by
 rw [D6]
 intro hc
 have hm:s∈l:=by simpa using hc
 obtain ⟨j,hj⟩:=Cr hm
 have:=h j s (Ak.1 hj).1 hj
 simp at this
theorem AH5 (s:Str) (Hp:List AObj):AFun Tryz.prog 147 [Ac s] Hp (A5 (Bt s)):=by
 refine Aj [.tmp 2] [0] Tryz.func147 Tryz.ntmps147 (fun d=>?_)
 refine Z56 ?_;refine E9 ?_;refine AKo ?_;refine AKo ?_;refine AKo ?_;refine j3 ?_;refine Lr ?_;refine Z25 ?_;refine fl ?_
 refine B9 (α:=Nat) (fun x=>⟨38,Aa 0 (Ac s) (Aa 3 (.slice true 1 (levels.map En)) (Aa 4 (A5 (x:Nat)) (fun _=>.any))),Hp,[],[],none⟩) (fun x=>x≤levels.length∧∀(j:Nat) (l:List Str),j<x→levels[j]? = some l→l.contains s=false) (fun x=>levels.length-x) (0) ⟨Av _,fun j l h=>by omega⟩ (F1 _) rfl (fun x hx=>?_)
 refine Z46 ?_;refine A2 [0,3,4,16] ?_
 refine A3 (fun ht16=>?_) (fun ht16=>?_)
 ·have hlt:x<levels.length:=by simpa using ht16
  have h6:=q8
  have hls:=gk hlt
  refine Z50 ?_;refine Z2 ?_;refine A2 [0,3,4,5] ?_
  refine B9 (α:=Nat) (fun y=>⟨38,Aa 0 (Ac s) (Aa 3 (.slice true 1 (levels.map En)) (Aa 4 (A5 (x:Nat)) (Aa 5 (A5 (y:Nat)) (fun _=>.any)))),Hp,[],[],none⟩) (fun y=>y≤levels[x].length∧∀(j:Nat) (w:Str),j<y→levels[x][j]? = some w→(w==s)=false) (fun y=>levels[x].length-y) (0) ⟨Av _,fun j l h=>by omega⟩ (F1 _) rfl (fun y hy=>?_)
  refine Z31 ?_
  refine A4 (h:=Ad (x) (En levels[x]) (fun _=>B3 hlt)) (hr:=?_)
  refine Z11 ?_;refine A2 [0,3,4,5,25] ?_
  refine A3 (fun ht25=>?_) (fun ht25=>?_)
  ·have hly:y<levels[x].length:=by simpa using ht25
   refine Xt ?_
   refine A4 (h:=Ad (x) (En levels[x]) (fun _=>B3 hlt)) (hr:=?_)
   refine Z0 ?_
   refine A4 (h:=Ad (y) (Ac (levels[x])[y]) (fun _=>B3 hly)) (hr:=?_)
   refine Z11 ?_;refine A2 [0,3,4,5,36] ?_
   refine A3 (fun ht36=>?_) (fun ht36=>?_)
   ·refine fk ?_;refine Z7 ?_;refine Kh ?_;refine Z71 ?_;exact A8 (Ai A7) ⟨by rw [ACz hlt (by simp only [AAb];have:=ht36;simp only [beq_iff_eq] at this;rw [←this];exact Bb hly) hx.2],rfl⟩
   refine Z87 ?_;refine A2 [0,3,4,5] ?_;exact B2 (y+1) ⟨hly,D3 hly hy.2 ht36⟩ (by omega) (Bz rfl)
  have hny:levels[x].length≤y:=by simpa using ht25
  refine w7 ?_;refine Me ?_;refine fl ?_;exact B2 (x+1) ⟨hlt,D3 hlt hx.2 (ba fun j w hj hw=>hy.2 j w (by omega) hw)⟩ (by omega) (Bz rfl)
 have hnx:levels.length≤x:=by simpa using ht16
 refine Z52 ?_;refine Z26 ?_;exact A8 (Ai A7) ⟨by rw [AD0 (fun j l hj h=>hx.2 j l (by omega) h)],rfl⟩

theorem AT0 (e:Expr) (hs:e.text.length≤1048576) (Hp:List AObj):AFun Tryz.prog 103 [Ab e] Hp (At (Hi e)):=by
 refine Aj [.tmp 2] [0] Tryz.func103 Tryz.ntmps103 (fun d=>?_)
 refine Z81 ?_;refine Z21 ?_;refine A2 [1,3] ?_;refine Z31 ?_;refine A2 [1,3,9] ?_
 refine A3 (fun ht9=>?_) (fun ht9=>?_)
 ·refine Z1 ?_;refine A9 Tryz.call146 (AS3 e.val _) ?_;refine A4 ?_;refine Z70 ?_;refine Z0 ?_;refine Z27 ?_;refine Z42 ?_;refine Z55 ?_;exact ANk
 refine Re ?_;refine Wg ?_
 refine A4 (h:=Q.neqAgg Ud (Ho e.val.kind e.val.n 0 0 e.val.s [])) (hr:=?_)
 refine A2 [1,3,31] ?_
 refine A3 (fun ht31=>?_) (fun ht31=>?_)
 ·refine Z26 ?_;exact ANk
 refine Re ?_;refine A2 [1,3,33] ?_;refine Z97 ?_;refine A2 [1,3,33,34] ?_
 refine A3 (fun ht34=>?_) (fun ht34=>?_)
 ·refine Z1 ?_;refine A9 Tryz.call52 (c52 e.text hs _) ?_;refine A4 ?_;refine Z5 ?_;exact ABg
 refine Z8 ?_;refine A2 [1,3,33,43] ?_
 refine A3 (fun ht43=>?_) (fun ht43=>?_)
 ·refine Z3 ?_
  refine A3 (fun ht43=>?_) (fun ht43=>?_)
  ·refine Z21 ?_;refine Z5 ?_;exact ABg
  refine Z1 ?_;refine A2 [1,3,33,53] ?_
  refine A3 (fun ht53=>?_) (fun ht53=>?_)
  ·refine Z1 ?_;refine A9 Tryz.call147 (AH5 e.text _) ?_;refine Z42 ?_;exact ABg
  refine Z1 ?_;refine A2 [1,3,63] ?_
  refine A3 (fun ht63=>?_) (fun ht63=>?_)
  ·refine Z1 ?_;refine A9 Tryz.call148 (AQ6 e.text _) ?_;refine Z11 ?_;refine Z4 ?_;exact Z61
  exact ANl
 refine Z29 ?_;refine A2 [1,3,33,43] ?_;refine Fl ?_
 refine A3 (fun ht43=>?_) (fun ht43=>?_)
 ·refine Z21 ?_;refine Z5 ?_;exact ABg
 refine Z1 ?_;refine A2 [1,3,33,53] ?_
 refine A3 (fun ht53=>?_) (fun ht53=>?_)
 ·refine Z1 ?_;refine A9 Tryz.call147 (AH5 e.text _) ?_;refine Z42 ?_;exact ABg
 refine Z1 ?_;refine A2 [1,3,63] ?_
 refine A3 (fun ht63=>?_) (fun ht63=>?_)
 ·refine Z1 ?_;refine A9 Tryz.call148 (AQ6 e.text _) ?_;refine Z11 ?_;refine Z4 ?_;exact Z61
 exact ANl

theorem c56:∀(n:Nat) (e:Expr),okE n e→∀Hp:List AObj,AFun Tryz.prog 56 [Ab e] Hp (At (Bq Hi e)):=by
 intro n
 induction n with
 | zero=>exact fun e h=>h.elim
 | succ n ih =>
 intro e hok Hp
 refine Aj [.tmp 2] [0] Tryz.func56 Tryz.ntmps56 (fun d=>?_)
 refine Z81 ?_;refine Z25 ?_;refine A9 Tryz.call103 (AT0 e hok.1 _) ?_;refine A4 ?_;refine A2 [1,6] ?_
 refine A3 (fun ht6=>?_) (fun ht6=>?_)
 ·refine Z26 ?_;refine Fm ?_;exact A8 (Ai A7) ⟨by rw [Cb];simp at ht6;rw [ht6];rfl,rfl⟩
 refine Nk ?_;refine A2 [1,3] ?_
 refine B9 (α:=Nat) (fun x=>⟨21,Aa 1 (.ro (B7 e)) (Aa 3 (A5 (x:Nat)) (fun _=>.any)),Hp,[],[],none⟩) (fun x=>x≤e.kids.length∧K5 Hi (e.kids.take x)=true) (fun x=>e.kids.length-x) (0) ⟨Av _,rfl⟩ (F1 _) rfl (fun x hx=>?_)
 refine O8 ?_;refine A2 [1,3,11] ?_
 refine A3 (fun ht11=>?_) (fun ht11=>?_)
 ·have hlt:x<e.kids.length:=by simpa using ht11
  have hkl:=hok.2.1
  refine jh ?_
  refine A4 (h:=Ad (x) (Ab e.kids[x]) (fun _=>B3 hlt)) (hr:=?_)
  refine A4 ?_;refine A9 Tryz.call56 (ih e.kids[x] (hok.2.2 _ (Bb hlt)) _) ?_;refine A4 ?_;refine A2 [1,3,20] ?_
  refine A3 (fun ht20=>?_) (fun ht20=>?_)
  ·refine w9 ?_;exact A8 (Ai A7) ⟨by rw [show Bq Hi e=false from by rw [D6];intro h;rw [Cb,Ah] at h;have:=(Bd _ _).1 h.2 _ (Bb hlt);rw [this] at ht20;cases ht20],rfl⟩
  refine Z87 ?_;refine A2 [1,3] ?_;exact B2 (x+1) ⟨hlt,by rw [Gm hlt,Vq,hx.2,K5,K5,R0,Dc];simpa using ht20⟩ (by omega) (Bz rfl)
 have hxe:e.kids.take x=e.kids:=Dn (by simp at ht11;omega)
 refine Z52 ?_;refine Z26 ?_;exact A8 (Ai A7) ⟨by have:=hx.2;rw [hxe] at this;rw [Cb,this];simp at ht6;rw [ht6];rfl,rfl⟩

theorem AD1 (e:Expr):Bq Hi e=Bq Ch e:=by rw [show Ch=Hi from funext Hj]
theorem c22 (n:Nat) (e:Expr) (hok:okE n e) (hn:n≤1048576) (hs:sizeE e≤1048576) (Hp:List AObj):AFun Tryz.prog 22 [Ab e] Hp (At (Ax e)):=by
 refine Aj [.tmp 2] [0] Tryz.func22 Tryz.ntmps22 (fun d=>?_)
 refine jl ?_;refine A9 Tryz.call54 (c54 n e hok hn _) ?_;refine Wf ?_;refine Bk Tryz.call55 (fun hB=>c55 n e hok hs _) ?_;refine wc ?_;refine Bk Tryz.call56 (fun hB=>c56 n e hok _) ?_;refine Z55 ?_;exact A8 (Ai A7) ⟨by rw [Ax,AD1,show decide ((depthE e:Int)≤30)=decide (depthE e≤30) by rw [decide_eq_decide];omega,show decide ((sizeE e:Int)≤300)=decide (sizeE e≤300) by rw [decide_eq_decide];omega],rfl⟩

theorem gm {n:Nat} {U F:Nat→List AObj} {H':List AObj} (h:Lf (fun _=>true) U F n H'):H'=U n:=by
 rcases h with ⟨_,h⟩|⟨j,_,_,h,_⟩
 ·exact h
 cases h
theorem Ux {α:Type} {l:List α} {k:Nat} {y:α} (h:l[k]? = some y):l.take (k+1)=l.take k++[y]:=by rw [List.take_add_one,h];rfl
theorem AD2 {L:List (Int×Expr)} {k:Nat} {it:Int×Expr} (h:L[k]? = some it):Gj 0 (L.take (k+1))=if Gj 0 (L.take k)<it.1 then it.1 else Gj 0 (L.take k):=by
 have e:Gj 0 (L.take (k+1))=max (Gj 0 (L.take k)) it.1:=by
  unfold Gj
  rw [Ux h,Xa]
  rfl
 rw [e]
 split<;>omega
def Gs (L:List (Int×Expr)) (k:Nat):List Str:=(L.take k).foldl (fun l it=>G7 l it.2) []
theorem cq {L:List (Int×Expr)} {k:Nat} {it:Int×Expr} (h:L[k]? = some it):Gs L (k+1)=G7 (Gs L k) it.2:=by
 unfold Gs
 rw [Ux h,Xa]
 rfl
theorem Rp (L:List (Int×Expr)) (k:Nat):(Gs L k).length≤k:=by
 unfold Gs
 have h:=ke ((L.take k).map (·.2)) []
 rw [List.foldl_map] at h
 simp only [B8,E7,Bc] at h
 omega
theorem Kx {n k:Nat} {o:Bool} {l:List Str}:Low n (.slice o k (l.map Ac)):=by simp [or_imp,forall_and]
theorem AT1 (n:Nat) (e:Expr) (hok:okE n e) (hn:n≤1048576) (hs:sizeE e≤1048576) (Hp:List AObj):AFun Tryz.prog 115 [Ab e] Hp (A5 (depthE e:Nat)):=by
 refine Aj [.tmp 2] [0,4] Tryz.func115 Tryz.ntmps115 (fun d=>?_)
 refine Z1 ?_;refine A2 [1,4] ?_;refine vu ?_;refine fm ?_;refine Z89 ?_
 refine L8 (fun hlow=>?_)
 refine AFr ?_;refine A2 [3,4,6] ?_;refine J6 ?_
 refine Nh (m:=1) Tryz.call123 (fun FR as' bd' hFR has hbd=>?_)
 have hFRl:∀s,Low (Hp.length+3) (FR s):=by
  intro s
  rw [hFR]
  refine Og ?_
  revert s
  repeat (first|exact By|refine Bx (by simp [oid,Ag]<;>try omega) ?_)
 have hOl:∀{k:Nat},∀x∈[AObj.cells 3 [A5 (Gj 0 ((Bg 1 e).take k))],AObj.defs,AObj.loop LoopState.ready none FR 13 #[7,8] as' bd' (oid Hp.length 1)],ObjLow (Hp.length+3) x:=by
  intro k x hx
  simp only [C0,Fb,or_false] at hx
  rcases hx with rfl|rfl|rfl
  ·intro y hy
   rw [Br.1 hy]
   first|exact Kx|simp
  ·trivial
  exact o5
 refine ⟨fun _ H'=>Lf (fun _=>true) (fun k=>Hp++[AObj.cells 3 [A5 (Gj 0 ((Bg 1 e).take k))],AObj.defs,AObj.loop LoopState.ready none FR 13 #[7,8] as' bd' (oid Hp.length 1)]) (fun k=>Hp++[AObj.cells 3 [A5 (Gj 0 ((Bg 1 e).take k))],AObj.defs,AObj.loop LoopState.ready none FR 13 #[7,8] as' bd' (oid Hp.length 1)]) (Bg 1 e).length H',AGj (l:=oid Hp.length 2) (go:=fun _=>true) (U:=fun k=>Hp++[AObj.cells 3 [A5 (Gj 0 ((Bg 1 e).take k))],AObj.defs,AObj.loop LoopState.ready none FR 13 #[7,8] as' bd' (oid Hp.length 1)]) (F:=fun k=>Hp++[AObj.cells 3 [A5 (Gj 0 ((Bg 1 e).take k))],AObj.defs,AObj.loop LoopState.ready none FR 13 #[7,8] as' bd' (oid Hp.length 1)]) (n0:=Hp.length+3) ⟨fun k=>by simp,fun k=>by simp,fun k x hx=>?_,fun k x hx=>?_,by simp [oid],fun X k it hit hgo=>?_⟩ n hok hn,?_⟩
 ·exact o6
 ·exact o6
 ·have hklt:k<sizeE e:=by rw [←Gq 1 e];exact (Ak.1 hit).1
  generalize hV:(Hp++[AObj.cells 3 [A5 (Gj 0 ((Bg 1 e).take k))],AObj.defs,AObj.loop LoopState.ready none FR 13 #[7,8] as' bd' (oid Hp.length 1)]++X)=V
  have hL:V[oid Hp.length 2]? = some (AObj.loop LoopState.ready none FR 13 #[7,8] as' bd' (oid Hp.length 1)):=by rw [←hV,C1,Bv];rfl
  have hA0:V[oid Hp.length 0]? = some (AObj.cells 3 [A5 (Gj 0 ((Bg 1 e).take k))]):=by rw [←hV,C1,Bv];rfl
  refine Na (pd:=none) (fr:=FR) (sz:=13) (ps:=#[7,8]) (df:=oid Hp.length 1) (asg:=as') (bd:=bd') hL rfl (by decide) (fun d=>?_)
  subst hFR has hbd
  refine Di [3,7,8] ?_;refine Z48 ?_;refine A2 [3,4] ?_
  refine ⟨rfl,none,hL,?_⟩
  generalize hbz:(AObj.loop LoopState.busy _ _ _ _ _ _ _)=bz
  have hA:(V.set (oid Hp.length 2) bz)[oid Hp.length 0]? = some (AObj.cells 3 [A5 (Gj 0 ((Bg 1 e).take k))]):=by rw [F8 (E8 (by decide))];exact hA0
  refine J6 ?_;refine Kd ?_
  refine A4 (h:=Fi hA) (hr:=?_)
  refine A4 ?_;refine R.maxI ?_
  refine Hb jS hA ?_ ?_
  ·simp
  refine fe ?_
  subst hbz
  refine AG9 ?_
  refine ⟨rfl,?_⟩
  rw [if_pos rfl]
  subst hV
  simp only [C1,Fu,Ef,Dx,List.set_cons_succ,List.set_cons_zero]
  rw [AD2 hit]
 intro r H' hq
 obtain rfl:=gm hq
 refine ⟨Hp,_,_,_,rfl,rfl,fun h=>h,?_,rfl,by simp,?_⟩
 ·intro o ho
  have:o=oid Hp.length 1:=by simpa using ho
  subst this
  rw [Bv]
  rfl
 refine Z12 ?_;refine fk ?_;exact A8 (Ai A7) ⟨by rw [Pr,Vs],rfl⟩

theorem AT2 (n:Nat) (e:Expr) (hok:okE n e) (hn:n≤1048576) (hs:sizeE e≤1048576) (Hp:List AObj):AFun Tryz.prog 117 [Ab e] Hp (A5 (sizeE e:Nat)):=by
 refine Aj [.tmp 2] [0] Tryz.func117 Tryz.ntmps117 (fun d=>?_)
 refine Z81 ?_;refine vu ?_;refine A2 [1,3] ?_;refine Z89 ?_
 refine L8 (fun hlow=>?_)
 refine AFr ?_;refine A2 [3,5] ?_;refine J6 ?_
 refine Nh (m:=1) Tryz.call123 (fun FR as' bd' hFR has hbd=>?_)
 have hFRl:∀s,Low (Hp.length+3) (FR s):=by
  intro s
  rw [hFR]
  refine Og ?_
  revert s
  repeat (first|exact By|refine Bx (by simp [oid,Ag]<;>try omega) ?_)
 have hOl:∀{k:Nat},∀x∈[AObj.cells 3 [A5 ((k:Nat))],AObj.defs,AObj.loop LoopState.ready none FR 11 #[6,7] as' bd' (oid Hp.length 1)],ObjLow (Hp.length+3) x:=by
  intro k x hx
  simp only [C0,Fb,or_false] at hx
  rcases hx with rfl|rfl|rfl
  ·intro y hy
   rw [Br.1 hy]
   first|exact Kx|simp
  ·trivial
  exact o5
 refine ⟨fun _ H'=>Lf (fun _=>true) (fun k=>Hp++[AObj.cells 3 [A5 ((k:Nat))],AObj.defs,AObj.loop LoopState.ready none FR 11 #[6,7] as' bd' (oid Hp.length 1)]) (fun k=>Hp++[AObj.cells 3 [A5 ((k:Nat))],AObj.defs,AObj.loop LoopState.ready none FR 11 #[6,7] as' bd' (oid Hp.length 1)]) (Bg 1 e).length H',AGj (l:=oid Hp.length 2) (go:=fun _=>true) (U:=fun k=>Hp++[AObj.cells 3 [A5 ((k:Nat))],AObj.defs,AObj.loop LoopState.ready none FR 11 #[6,7] as' bd' (oid Hp.length 1)]) (F:=fun k=>Hp++[AObj.cells 3 [A5 ((k:Nat))],AObj.defs,AObj.loop LoopState.ready none FR 11 #[6,7] as' bd' (oid Hp.length 1)]) (n0:=Hp.length+3) ⟨fun k=>by simp,fun k=>by simp,fun k x hx=>?_,fun k x hx=>?_,by simp [oid],fun X k it hit hgo=>?_⟩ n hok hn,?_⟩
 ·exact o6
 ·exact o6
 ·have hklt:k<sizeE e:=by rw [←Gq 1 e];exact (Ak.1 hit).1
  generalize hV:(Hp++[AObj.cells 3 [A5 ((k:Nat))],AObj.defs,AObj.loop LoopState.ready none FR 11 #[6,7] as' bd' (oid Hp.length 1)]++X)=V
  have hL:V[oid Hp.length 2]? = some (AObj.loop LoopState.ready none FR 11 #[6,7] as' bd' (oid Hp.length 1)):=by rw [←hV,C1,Bv];rfl
  have hA0:V[oid Hp.length 0]? = some (AObj.cells 3 [A5 ((k:Nat))]):=by rw [←hV,C1,Bv];rfl
  refine Na (pd:=none) (fr:=FR) (sz:=11) (ps:=#[6,7]) (df:=oid Hp.length 1) (asg:=as') (bd:=bd') hL rfl (by decide) (fun d=>?_)
  subst hFR has hbd
  refine Di [3,6,7] ?_;refine Jf ?_
  refine ⟨rfl,none,hL,?_⟩
  generalize hbz:(AObj.loop LoopState.busy _ _ _ _ _ _ _)=bz
  have hA:(V.set (oid Hp.length 2) bz)[oid Hp.length 0]? = some (AObj.cells 3 [A5 ((k:Nat))]):=by rw [F8 (E8 (by decide))];exact hA0
  refine J6 ?_;refine Kd ?_
  refine A4 (h:=Fi hA) (hr:=?_)
  refine A4 ?_
  refine Hb jS hA ?_ ?_
  ·simp
  refine fe ?_
  subst hbz
  refine AG9 ?_
  refine ⟨rfl,?_⟩
  rw [if_pos rfl]
  subst hV
  simp only [C1,Fu,Ef,Dx,List.set_cons_succ,List.set_cons_zero]
  rfl
 intro r H' hq
 obtain rfl:=gm hq
 refine ⟨Hp,_,_,_,rfl,rfl,fun h=>h,?_,rfl,by simp,?_⟩
 ·intro o ho
  have:o=oid Hp.length 1:=by simpa using ho
  subst this
  rw [Bv]
  rfl
 refine Z12 ?_;refine fk ?_;exact A8 (Ai A7) ⟨by rw [Gq],rfl⟩

set_option maxRecDepth 8000
theorem M1 (s:Str):s∈levels.flatten∨(Bt s = -1∧∀l∈levels,l.contains s=false):=by
 by_cases h:s∈levels.flatten
 ·exact .inl h
 have h2:∀l∈levels,l.contains s=false:=fun l hl=>by
  rw [D6]
  intro h3
  exact h (List.mem_flatten.2 ⟨l,hl,by simpa using h3⟩)
 refine .inr ⟨?_,h2⟩
 unfold Bt
 rw [Tw.2 fun l hl=>h2 l hl]
theorem AD3 (s:Str) : -1≤Bt s∧Bt s≤5∧Bt s≠2:=by
 rcases M1 s with h|⟨h,_⟩
 ·have h3:(levels.flatten.all fun s=>decide (-1≤Bt s∧Bt s≤5∧Bt s≠2))=true:=by kernel_rfl
  exact of_decide_eq_true (Bj.1 h3 s h)
 omega
def AD4:Str:=[110,111,116]
def levE (e:Expr):Nat:=if e.op==4 then 2 else if e.op==3 then 6 else if e.op==5 then (Bt e.text).toNat else 7
def Kj (own:Nat):Nat:=if own=3 then 4 else own
theorem gn {v:Val} (h:Mt v=true):v=noV:=by
 unfold Mt at h
 simp only [Ah,beq_iff_eq] at h
 cases v
 simp_all [noV]
/-- What a right node is. -/
inductive NodeC:Expr→Prop
 | val (v:Val) (h:C2 v=true) (h0:0≤v.n):NodeC (Ei v)
 | name (t:Str) (h:Hg t=true):NodeC (Bh t)
 | neg (a:Expr):NodeC (Gw 3 a)
 | no (a:Expr):NodeC (Gw 4 a)
 | bin (t:Str) (a b:Expr) (h:0≤Bt t):NodeC (Jm t a b)
 | call (t:Str) (k:List Expr) (h:Cc t=(k.length:Int)):NodeC (.mk 6 t noV k)
theorem Gt (o:Int) (t:Str) (v:Val) (k:List Expr):Hi (.mk o t v k) =
 if o==1 then ((C2 v&&decide (0≤v.n))&&(t==[]))&&((k.length:Int)==0)
 else if !(Mt v) then false
 else if o==2 then Hg t&&((k.length:Int)==0)
 else if o==3 || o==4 then (t==[])&&((k.length:Int)==1)
 else if o==5 then decide (0≤Bt t)&&((k.length:Int)==2)
 else if o==6 then Cc t==(k.length:Int)
 else false:=rfl
theorem Ij {e:Expr} (h:Ch e=true):NodeC e:=by
 rw [Hj] at h
 cases e with
 | mk o t v k =>
 rw [Gt] at h
 by_cases h1:(o==1)=true
 ·rw [if_pos h1] at h
  simp only [Ah,beq_iff_eq,decide_eq_true_eq] at h h1
  obtain ⟨⟨⟨a1,a2⟩,a3⟩,a4⟩:=h
  subst h1
  subst a3
  have:k=[]:=by cases k with|nil=>rfl|cons x r=>simp at a4;omega
  subst this
  exact .val v a1 a2
 rw [if_neg h1] at h
 by_cases hb:(!(Mt v))=true
 ·rw [if_pos hb] at h;cases h
 rw [if_neg hb] at h
 have hv:v=noV:=gn (by simpa using hb)
 subst hv
 by_cases h2:(o==2)=true
 ·rw [if_pos h2] at h
  simp only [Ah,beq_iff_eq] at h h2
  subst h2
  have:k=[]:=by cases k with|nil=>rfl|cons x r=>have:=h.2;simp at this;omega
  subst this
  exact .name t h.1
 rw [if_neg h2] at h
 by_cases h3:(o==3 || o==4)=true
 ·rw [if_pos h3] at h
  simp only [Ah,Dg,beq_iff_eq] at h h3
  obtain ⟨rfl,h4⟩:=h
  match k,h4 with
  | [a],_ =>
   rcases h3 with rfl|rfl
   ·exact .neg a
   exact .no a
  | [],h4=>simp at h4
  | _::_::_,h4=>simp at h4;omega
 rw [if_neg h3] at h
 by_cases h5:(o==5)=true
 ·rw [if_pos h5] at h
  simp only [Ah,beq_iff_eq,decide_eq_true_eq] at h h5
  subst h5
  match k,h.2 with
  | [a,b],_=>exact .bin t a b h.1
  | [],h4=>simp at h4
  | [_],h4=>simp at h4
  | _::_::_::_,h4=>simp at h4;omega
 rw [if_neg h5] at h
 by_cases h6:(o==6)=true
 ·rw [if_pos h6] at h
  simp only [beq_iff_eq] at h h6
  subst h6
  exact .call t k h
 rw [if_neg h6] at h;cases h
theorem cr {e:Expr} {n:Nat} (h:sizeE e≤n+1) {y:Expr} (hy:y∈e.kids):sizeE y≤n:=by
 rw [Ds] at h
 obtain ⟨i,hi,rfl⟩:=R5 hy
 have:=Q6 e.kids hi
 omega
/-! The parser from a word on, and of a source. -/
def atS (l:List Tok) (i:Nat) (r:Expr×PS):PS:=if r.2.code != 0 then r.2 else if decide ((30:Int)<depthE r.1) then F5 18 (B1 l i).at_ r.2 else if decide ((300:Int)<sizeE r.1) then F5 3 (B1 l i).at_ r.2 else r.2
def atR (l:List Tok) (i:Nat):Expr×PS:=gj l (Gx l 30) ⟨i,0,0,0⟩
/-- The tree, the word behind it, the fault. -/
def atM (l:List Tok) (i:Nat):Expr×Int×Int×Int:=if (atS l i (atR l i)).code != 0 then (A6,0,(atS l i (atR l i)).code,(atS l i (atR l i)).at_) else ((atR l i).1,((atS l i (atR l i)).i:Int),0,0)
def gq (l:List Tok) (c a:Int):Expr×Int×Int:=
 if c != 0 then (A6,c,a) else if (atM l 0).2.2.1 != 0 then (A6,(atM l 0).2.2.1,(atM l 0).2.2.2)
 else if (B1 l (atM l 0).2.1.toNat).kind != 0 then (A6,8,((B1 l (atM l 0).2.1.toNat).at_:Int)) else ((atM l 0).1,0,0)
def J2 (s:Str):Expr×Int×Int:=gq (Ey s).1 (Ey s).2.1 ((Ey s).2.2:Int)
set_option maxRecDepth 4000
theorem l3 {l:List Tok} (hl:TokEnd l) (hll:l.length≤1048576) {i:Nat} (hi:i<l.length):Fact l ⟨i,0,0,0⟩ (atR l i):=(Uv hl hll 31 0 rfl (by decide)).1 ⟨i,0,0,0⟩ hi rfl
theorem ALj {l:List Tok} {i:Nat} (hi:i<l.length) (hl:TokEnd l) (hll:l.length≤1048576) (hcl:∀n Dv,n≤30→DeepC l Dv n→cp l Dv n) (o:Nat) (Hp:List AObj) (ho:Hp[o]? = some (pr l ⟨i,0,0,0⟩)):ACall Tryz.prog 114 [.ptr o 0] Hp (fun r H'=>r=Ab (atR l i).1∧H'=Hp.set o (pr l (atR l i).2)):=(ky hl hll hcl 31 0 rfl (by decide)).1 o Hp ⟨i,0,0,0⟩ ho hi rfl
theorem l4 {l:List Tok} (hl:TokEnd l):(B1 l (l.length-1)).kind=0:=by
 obtain ⟨L,z,rfl,hz,_⟩:=hl.split
 unfold B1
 simp [hz]
theorem c72 (l:List Tok) (i:Nat) (hi:i<l.length) (hl:TokEnd l) (hll:l.length≤500000) (hcl:∀n Dv,n≤30→DeepC l Dv n→cp l Dv n) (Hp:List AObj):AFun Tryz.prog 72 [rr l,A5 (i:Int)] Hp (.tup [Ab (atM l i).1,A5 (atM l i).2.1,.agg [A5 (atM l i).2.2.1,A5 (atM l i).2.2.2]]):=by
 have hmap:(l.map Ls).length=l.length:=B8 ..
 have hll1:l.length≤1048576:=by omega
 have hq:=l3 hl hll1 hi
 have hlast:=l4 hl
 have hpos:=hl.pos
 have hqlt:=hq.lt
 have hqs:=hq.sz
 have hok0:okE 1048576 (atR l i).1:=Fo (by have:=hq.lt;omega) hq.ok
 have hsz0:sizeE (atR l i).1≤1048576:=by have:=hq.sz;have:=hq.lt;omega
 refine Aj [.cell 4 26,.tmp 5,.cell 6 69] [0,1] Tryz.func72 Tryz.ntmps72 (fun d=>?_)
 refine ji ?_;refine La ?_;refine A2 [0,1,4,6] ?_;refine Z31 ?_;refine Z70 ?_;refine am ?_
 refine Bl (h:=Ad ((l.length-1)) (Ls (B1 l (l.length-1))) (fun _=>Up (by omega))) (hr:=?_)
 refine Mf ?_;refine A2 [0,1,4,6,26] ?_
 refine A3 (fun ht26=>?_) (fun ht26=>?_)
 ·simp only [Dg,decide_eq_true_eq,bne_iff_ne,ne_eq] at ht26
  rcases ht26 with (h|h)|h
  ·omega
  ·simp at h;omega
  exact absurd hlast h
 refine Z98 ?_;refine M9 (places:=#[(0,1),(1,1),(2,1),(3,2)]) jU (fun w=>by simp) jZ ?_;refine R.box ?_;refine A4 ?_;refine A2 [0,1,4,6,7] ?_;refine Z2 ?_
 refine Xk (n:=2) (x:=pr l (atR l i).2) Tryz.call114 (ALj hi hl hll1 hcl (oid Hp.length 2) _ (by rw [Bv];rfl)) ?_
 refine Z17 ?_;refine A2 [0,1,4,6,7,8] ?_
 refine Hw ⟨81,Aa 4 (.ptr (oid Hp.length 0) 0) (Aa 6 (.ptr (oid Hp.length 1) 0) (Aa 7 (.ptr (oid Hp.length 2) 0) (Aa 8 (.ptr (oid Hp.length 3) 0) (fun _=>.any)))),Hp,[.cells 26 [A5 0,Ac [],A5 0,A5 0,Ac [],.nil],.cells 69 [A5 0,A5 0],pr l (atS l i (atR l i)),.cells 26 (B7 (atR l i).1)],[],none⟩ ?_ ?_
 ·refine J6 ?_;refine Z21 ?_;refine Z11 ?_;refine A2 [0,1,4,6,7,8,35] ?_
  refine A3 (fun ht35=>?_) (fun ht35=>?_)
  ·have e:atS l i (atR l i)=(atR l i).2:=if_pos ht35
   refine Di [4,6,7,8] ?_;refine Jf ?_;exact AFo
  have e0:¬((atR l i).2.code != 0)=true:=by rw [ht35];simp
  refine Z2 ?_;refine A9 Tryz.call115 (AT1 1048576 _ hok0 (Ao _) hsz0 _) ?_;refine Z0 ?_;refine A2 [0,1,4,6,7,8,42] ?_
  refine A3 (fun ht42=>?_) (fun ht42=>?_)
  ·have e:atS l i (atR l i)=F5 18 (B1 l i).at_ (atR l i).2:=by unfold atS;rw [if_neg e0,if_pos ht42]
   refine Z22 ?_
   refine A4 (h:=Ad (i) (Ls (B1 l i)) (fun _=>Up hi)) (hr:=?_)
   refine Z0 ?_
   refine Xk (n:=2) (x:=pr l (F5 18 (B1 l i).at_ (atR l i).2)) Tryz.call116 (xm l (atR l i).2 18 (B1 l i).at_ (oid Hp.length 2) _ (by rw [Bv];rfl)) ?_
   refine A2 [4,6,7,8] ?_;exact AFo
  have e1:¬decide ((30:Int)<depthE (atR l i).1)=true:=by rw [ht42];simp
  refine Z2 ?_;refine A9 Tryz.call117 (AT2 1048576 _ hok0 (Ao _) hsz0 _) ?_;refine Z0 ?_;refine A2 [0,1,4,6,7,8,53] ?_
  refine A3 (fun ht53=>?_) (fun ht53=>?_)
  ·have e:atS l i (atR l i)=F5 3 (B1 l i).at_ (atR l i).2:=by unfold atS;rw [if_neg e0,if_neg e1,if_pos ht53]
   refine Z22 ?_
   refine A4 (h:=Ad (i) (Ls (B1 l i)) (fun _=>Up hi)) (hr:=?_)
   refine Z0 ?_
   refine Xk (n:=2) (x:=pr l (F5 3 (B1 l i).at_ (atR l i).2)) Tryz.call116 (xm l (atR l i).2 3 (B1 l i).at_ (oid Hp.length 2) _ (by rw [Bv];rfl)) ?_
   refine A2 [4,6,7,8] ?_;exact AFo
  have e:atS l i (atR l i)=(atR l i).2:=by unfold atS;rw [if_neg e0,if_neg e1,if_neg (by rw [ht53];simp)]
  refine Di [4,6,7,8] ?_;refine Jf ?_;exact AFo
 refine Z46 ?_;refine Z0 ?_;refine A2 [4,6,7,8,69] ?_
 refine A3 (fun ht69=>?_) (fun ht69=>?_)
 ·have e:atM l i=(A6,0,(atS l i (atR l i)).code,(atS l i (atR l i)).at_):=if_pos ht69
  refine Hc [0,0,2,6,14,1,33,127] [5] [.q 5 [] [],.s [] (some 0) [] [],.q 1 [0] []] (fun _=>Hp) (fun _=>[.cells 26 [A5 0,Ac [],A5 0,A5 0,Ac [],.nil],.cells 69 [A5 0,A5 0],pr l (atS l i (atR l i)),.cells 26 (B7 (atR l i).1)]) Am (by kernel_rfl) rfl rfl (fun _=>rfl) ?_
  apply Y.q
  ·intro B hT hF
   refine ABq ?_;exact AKp
  case hTF=>decide
  refine AKs ?_
  apply Y.q
  ·intro B hT hF
   exact Xp
  case hTF=>decide
  refine Hd (tn:=[5])  ?_;refine AFs ?_;refine A2 [4,5,6] ?_;refine Z10 ?_;exact A8 (V.three (Ap jA jS) A7 (Ap jA jS)) ⟨by rw [e,kx]<;>rfl,rfl⟩
 have e:atM l i=((atR l i).1,((atS l i (atR l i)).i:Int),0,0):=if_neg (by rw [ht69];simp)
 refine Z3 ?_;refine Hc [0,0,2,6,14,0,1,95,255] [6] [.q 6 [] [],.s [] (some 0) [] [],.q 1 [0] []] (fun _=>Hp) (fun B=>[.cells 26 (if B 0=true then B7 (atR l i).1 else [A5 0,Ac [],A5 0,A5 0,Ac [],.nil]),.cells 69 [A5 0,A5 0],pr l (atS l i (atR l i)),.cells 26 (B7 (atR l i).1)]) Am (by kernel_rfl) rfl rfl (fun _=>rfl) ?_
 apply Y.q
 ·intro B hT hF
  refine Xu ?_;exact AJy
 case hTF=>decide
 refine f6 (u:=Hp.length) (n:=0) (t':=26) (cs:=[A5 0,Ac [],A5 0,A5 0,Ac [],.nil]) (cs':=B7 (atR l i).1) Tryz.sizeOf26 (fun B hB=>⟨rfl,by simp only [hB];rfl,by simp [upd],rfl⟩) ?_
 apply Y.q
 ·intro B hT hF
  exact Xp
 case hTF=>decide
 refine Hd (tn:=[6]) (O:=[.cells 26 (B7 (atR l i).1),.cells 69 [A5 0,A5 0],pr l (atS l i (atR l i)),.cells 26 (B7 (atR l i).1)]) ?_;refine G4 ?_;refine A2 [4,5,6] ?_;refine Fg ?_;exact A8 (V.three (Ap jA jS) A7 (Ap jA jS)) ⟨by rw [e,Af]<;>rfl,rfl⟩ (hlow:=by have:=low_agg (n:=Hp.length) (atR l i).1;simp at this ⊢;exact this)

theorem sq {s:Str} (h:(Ey s).2.1=0):(Ey s).1.length≤4002:=by
 obtain ⟨h1,_,h3⟩:=AGt h
 have h2:=Yb s
 rw [h3]
 simp only [Aw,B8,B6,Bc]
 omega
theorem AH6 {l:List Tok} (hl:TokEnd l) (hll:l.length≤1048576) {i:Nat} (hi:i<l.length) (h:(atM l i).2.2.1=0):∃k:Nat,(atM l i).2.1=(k:Int)∧k<l.length:=by
 have hq:=l3 hl hll hi
 unfold atM at h ⊢
 split at h
 ·rename_i h1
  have:(atS l i (atR l i)).code=0:=h
  rw [this] at h1
  cases h1
 rename_i h1
 rw [if_neg h1]
 refine ⟨(atS l i (atR l i)).i,rfl,?_⟩
 have e:(atS l i (atR l i)).i=(atR l i).2.i:=by
  unfold atS
  repeat' split
  all_goals first|rfl|exact failM_i.1
 rw [e]
 exact hq.lt
theorem Mk {α:Type} {a b:List α} (hl:a.length=b.length) (h:∀(j:Nat) (y:α),j<a.length→a[j]? = some y→b[j]? = some y):a=b:=by
 apply List.ext_getElem hl
 intro j h1 h2
 have:=h j a[j] h1 (Ae h1)
 rw [Ae h2] at this
 injection this with this
 exact this.symm
theorem c63 (a b:List Str) (ha:a.length≤1048576) (Hp:List AObj):AFun Tryz.prog 63 [En a,En b] Hp (At (decide (a=b))):=by
 refine Aj [.tmp 4] [0,1] Tryz.func63 Tryz.ntmps63 (fun d=>?_)
 refine Z60 ?_;refine O8 ?_;refine A2 [0,1,10] ?_
 refine A3 (fun ht10=>?_) (fun ht10=>?_)
 ·have hne:a≠b:=by rintro rfl;simp at ht10
  refine Z84 ?_;refine Z10 ?_;exact AP9
 have hlen:a.length=b.length:=by have:=ht10;simp at this;omega
 refine Nk ?_;refine Xx ?_
 refine B9 (α:=Nat) (fun x=>⟨26,Aa 0 (En a) (Aa 1 (En b) (Aa 5 (A5 (x:Nat)) (fun _=>.any))),Hp,[],[],none⟩) (fun x=>x≤a.length∧∀(j:Nat) (y:Str),j<x→a[j]? = some y→b[j]? = some y) (fun x=>a.length-x) (0) ⟨Av _,fun j y h=>by omega⟩ (F1 _) rfl (fun x hx=>?_)
 refine Z46 ?_;refine A2 [0,1,5,14] ?_
 refine A3 (fun ht14=>?_) (fun ht14=>?_)
 ·have hlt:x<a.length:=by simpa using ht14
  have hlb:x<b.length:=by omega
  refine AOy ?_;refine Z9 ?_
  refine Aq (h:=Ad (x) (Ac a[x]) (fun _=>B3 hlt)) (hr:=?_)
  refine Z37 ?_
  refine Aq (h:=Ad (x) (Ac b[x]) (fun _=>B3 hlb)) (hr:=?_)
  refine Z86 ?_;refine A4 ?_;refine A2 [0,1,5,25] ?_
  refine A3 (fun ht25=>?_) (fun ht25=>?_)
  ·have hne:a≠b:=by rintro rfl;simp at ht25
   refine Z84 ?_;refine Z99 ?_;exact AP9
  have heq:a[x]=b[x]:=by simpa using ht25
  refine Z87 ?_;refine Xx ?_
  refine B2 (x+1) ⟨hlt,fun j y hj hy=>?_⟩ (by omega) (Bz rfl)
  rcases Bn j x with h|h
  ·exact hx.2 j y h hy
  have:j=x:=by omega
  subst this
  rw [Ae hlt] at hy
  rw [Ae hlb,←hy,heq]
 have hxe:a.length≤x:=by simpa using ht14
 refine Xw ?_;refine Z33 ?_;exact A8 (Ai A7) ⟨by rw [decide_eq_true (Mk hlen fun j y hj hy=>hx.2 j y (by omega) hy)],rfl⟩

theorem D4 {n k:Nat} {o:Bool} {l:List Expr}:Low n (.slice o k (l.map Ab)):=low_slice.2 fun y hy=>by
 obtain ⟨a,_,rfl⟩:=Dm.1 hy
 exact Ag _ a
theorem ct {l:List Expr} (h:0<l.length):H0 l=l[0]::H0 (l[0].kids++l.drop 1)∧Bp l=1+Bp (l[0].kids++l.drop 1)∧l[0].kids.length≤Bp l:=by
 cases l with
 | nil=>simp at h
 | cons e r =>
  refine ⟨?_,?_,?_⟩
  ·show P8 e++H0 r=e::H0 (e.kids++r)
   rw [xf,Qu]
   rfl
  ·show sizeE e+Bp r=1+Bp (e.kids++r)
   rw [Ds,Kq]
   omega
  show e.kids.length≤sizeE e+Bp r
  have:=Ns e.kids
  rw [Ds]
  omega
theorem cu (l:List Expr):l.length≤Bp l:=by have:=Ns l;omega
structure NamesAt (e:Expr) (x:List Expr×List Str):Prop where
 eq:Cm e=(H0 x.1).foldl G7 x.2
 bd:x.2.length+Bp x.1≤1048576
theorem NamesAt.on {e:Expr} {x:List Expr×List Str} (h:NamesAt e x) (h0:0<x.1.length):NamesAt e (x.1[0].kids++x.1.drop 1,G7 x.2 x.1[0]):=by
 obtain ⟨a,b,_⟩:=ct h0
 refine ⟨?_,?_⟩
 ·rw [h.eq,a,List.foldl_cons]
 have:=h.bd
 have:=ry x.2 x.1[0]
 show (G7 x.2 x.1[0]).length+Bp (x.1[0].kids++x.1.drop 1)≤_
 omega
theorem T3 (l:List Str) (s:Str):(l.any fun w=>w==s)=l.contains s:=by
 rw [K9,M5,AAb]
 constructor
 ·rintro ⟨w,hw,h⟩
  rw [beq_iff_eq] at h
  subst h
  exact hw
 exact fun h=>⟨s,h,by simp⟩
theorem xq {l:List Str} {z:Nat} (h:z<l.length) (s:Str):((l.take (z+1)).any fun w=>w==s)=(((l.take z).any fun w=>w==s) || (l[z]==s)):=by
 rw [Gm h,List.any_append]
 simp
theorem ALk (e:Expr) (hs:sizeE e≤1048576) (Hp:List AObj):AFun Tryz.prog 100 [Ab e] Hp (En (Cm e)):=by
 refine Aj [.tmp 2] [0] Tryz.func100 Tryz.ntmps100 (fun d=>?_)
 refine Z81 ?_;refine E9 ?_;refine j3 ?_;refine A2 [1,3] ?_;refine Z2 ?_;refine j3 ?_;refine A2 [3,4] ?_;refine Ki ?_
 refine B9 (α:=List Expr×List Str) (fun x=>⟨51,Aa 3 (.slice true 1 (x.2.map Ac)) (Aa 4 (.slice true 6 (x.1.map Ab)) (fun _=>.any)),Hp,[],[],none⟩) (fun x=>NamesAt e x) (fun x=>Bp x.1) (([e],[])) ⟨by unfold Cm;simp [H0],by simp [Bp];exact hs⟩ (Az (by simp [Af])) rfl (fun x hx=>?_)
 refine Z31 ?_;refine A2 [3,4,13] ?_
 refine A3 (fun ht13=>?_) (fun ht13=>?_)
 ·have hlt:0<x.1.length:=by simpa using ht13
  have hpop:=ct hlt
  have hon:=hx.on hlt
  have em:List.map Ab x.1[0].kids++List.drop 1 (List.map Ab x.1)=List.map Ab (x.1[0].kids++x.1.drop 1):=by rw [Cs,List.map_drop]
  refine vt ?_;refine Z2 ?_
  refine A4 (h:=Ad (0) (Ab x.1[0]) (fun _=>B3 hlt)) (hr:=?_)
  refine We ?_;refine A2 [3,4,5] ?_;refine Hc [0,0,2,7,0,16,63,127] [] [.s [17] none [] [],.q 2 [] [],.s [17,20] none [] [],.q 2 [] []] (fun _=>Hp) (fun _=>[.cells 26 (B7 x.1[0])]) Am (by kernel_rfl) rfl rfl (fun _=>rfl) ?_;refine Y.buildSlice jU Tryz.sizeOf26 Tryz.zeroValue26 ?_
  apply Y.q
  ·intro B hT hF
   refine Z9 ?_;exact ar
  case hTF=>decide
  refine Y.append jU Tryz.type26 ?_ ?_ ?_
  ·have:=hpop.2.2;have:=hx.bd;simp [Tryz.t26];omega
  ·have:=hpop.2.2;have:=hx.bd;simp [Tryz.t26];omega
  apply Y.q
  ·intro B hT hF
   refine Aq ?_
   refine Aq (h:=Q.cutL 1 (fun _=>show 1≤(x.1.map Ab).length by rw [B8];exact hlt) (fun _=>Ao _)) (hr:=?_)
   exact ar
  case hTF=>decide
  refine Hd (tn:=[])  ?_
  refine Gz jU Tryz.type26 ?_ ?_ ?_
  ·have:=hpop.2.2;have:=hx.bd;have:=cu x.1;simp [Tryz.t26];omega
  ·have:=hpop.2.2;have:=hx.bd;have:=cu x.1;simp [Tryz.t26];omega
  refine Jh ?_;refine A2 [3,4,5] ?_;refine Z31 ?_;refine A2 [3,4,5,26] ?_
  refine A3 (fun ht26=>?_) (fun ht26=>?_)
  ·have hadd:G7 x.2 x.1[0]=x.2:=if_neg (by have:=ht26;simp at this;simp [this])
   rw [hadd] at hon
   refine Di [3,4] ?_;refine Z35 ?_;refine K.blE ?_
   refine B2 (x.1[0].kids++x.1.drop 1,x.2) hon (by have:=hpop.2.1;show Bp (x.1[0].kids++x.1.drop 1)<Bp x.1;omega) ?_
   simp only [show Tryz.t26.size=6 from rfl,em]
   exact Dz (own:=[]) (fun _=>.refl _) (by repeat (first|exact By|refine Bx (by first|exact D4|exact Kx|exact Q7|(rw [←Cs];exact D4)) ?_)) (by simp) (by simp)
  have hop:(x.1[0].op==2)=true:=by simpa using ht26
  refine Z58 ?_;refine A2 [3,4,5,6] ?_;refine Z25 ?_;refine A2 [3,4,5,6,7] ?_
  refine B9 (α:=Nat) (fun z=>⟨51,Aa 3 (.slice true 1 (x.2.map Ac)) (Aa 4 (.slice true 6 ((x.1[0].kids++x.1.drop 1).map Ab)) (Aa 5 (.ptr (oid Hp.length 0) 0) (Aa 6 (At ((x.2.take z).any fun w=>w==x.1[0].text)) (Aa 7 (A5 (z:Nat)) (fun _=>.any))))),Hp,[.cells 26 (B7 x.1[0])],[],none⟩) (fun z=>z≤x.2.length) (fun z=>x.2.length-z) (0) (Av _) (Az (by simp [Cs,List.map_drop]<;>rfl)) rfl (fun z hz=>?_)
  refine Z46 ?_;refine A2 [3,4,5,6,7,30] ?_
  refine A3 (fun ht30=>?_) (fun ht30=>?_)
  ·have hlz:z<x.2.length:=by simpa using ht30
   have hbd:=hx.bd
   refine Z50 ?_;refine U6 [0,1,3,3,15,31,3,67,255,511,1023] 8 Am (by kernel_rfl) ?_;refine w4 ?_
   refine Fh (h:=Ad (z) (Ac x.2[z]) (fun _=>B3 hlz)) (hr:=?_)
   refine jf ?_;refine Dq ?_;refine U7 ?_;refine A2 [3,4,5,6,7] ?_;refine Me ?_;refine A2 [3,4,5,6,7] ?_
   refine B2 (z+1) hlz (by omega) (Bz ?_)
   rw [xq hlz]
   rfl
  have hze:x.2.take z=x.2:=Dn (by simp at ht30;omega)
  refine Z52 ?_;refine Z1 ?_;refine A2 [3,4,5,44] ?_
  refine A3 (fun ht44=>?_) (fun ht44=>?_)
  ·have hadd:G7 x.2 x.1[0]=x.2++[x.1[0].text]:=if_pos (by rw [hop];rw [hze,T3] at ht44;simpa using ht44)
   rw [hadd] at hon
   refine j6 ?_;refine Z0 ?_;refine Sq ?_
   refine Gz jU Tryz.type9 ?_ ?_ ?_
   ·have:=hx.bd;simp [Tryz.t9];omega
   ·have:=hx.bd;simp [Tryz.t9];omega
   refine Jh ?_;refine A2 [3,4] ?_;refine Ix ?_
   first|refine B2 (x.1[0].kids++x.1.drop 1,x.2++[x.1[0].text]) hon (by have:=hpop.2.1;show Bp (x.1[0].kids++x.1.drop 1)<Bp x.1;omega) ?_|refine B2 (x.1[0].kids++x.1.drop 1,x.2) hon (by have:=hpop.2.1;show Bp (x.1[0].kids++x.1.drop 1)<Bp x.1;omega) ?_
   try simp only [show Tryz.t9.size=1 from rfl,Cs,Ci,Fs]
   exact Dz (own:=[]) (fun _=>.refl _) (by repeat (first|exact By|refine Bx (by first|exact D4|exact Kx|exact Q7|(rw [←Cs];exact D4)) ?_)) (by simp) (by simp)
  have hadd:G7 x.2 x.1[0]=x.2:=if_neg (by rw [hop];rw [hze,T3] at ht44;simp at ht44;simp [ht44])
  rw [hadd] at hon
  refine Di [3,4] ?_;refine ABl ?_
  first|refine B2 (x.1[0].kids++x.1.drop 1,x.2++[x.1[0].text]) hon (by have:=hpop.2.1;show Bp (x.1[0].kids++x.1.drop 1)<Bp x.1;omega) ?_|refine B2 (x.1[0].kids++x.1.drop 1,x.2) hon (by have:=hpop.2.1;show Bp (x.1[0].kids++x.1.drop 1)<Bp x.1;omega) ?_
  try simp only [show Tryz.t9.size=1 from rfl,Cs,Ci,Fs]
  exact Dz (own:=[]) (fun _=>.refl _) (by repeat (first|exact By|refine Bx (by first|exact D4|exact Kx|exact Q7|(rw [←Cs];exact D4)) ?_)) (by simp) (by simp)
 have hnil:x.1=[]:=by have:=ht13;simp at this;exact this
 refine Z52 ?_;refine fk ?_;exact A8 (Ai A7) ⟨by rw [hx.eq,hnil];rfl,rfl⟩

theorem xt {l:List Expr} {n f:Nat} (h0:l.isEmpty=false) (h:Qv l n=true):Hz f l n=true:=by
 cases f with
 | zero=>rw [Hz,h0];rfl
 | succ f=>rw [Hz,if_neg (by rw [h0];simp),if_pos h]
theorem AH7 {l:List Expr} {n y:Nat} (hy:y<l.length) (h:500<n+y+1∨Us l[y]=true):Qv l n=true:=by
 unfold Qv
 rcases h with h|h
 ·rw [decide_eq_true (by omega)];rfl
 rw [M5.2 ⟨_,Bb hy,h⟩,Fx]
theorem Ys {l:List Expr}:∀(y:Nat),y≤l.length→(∀(j:Nat) (e:Expr),j<y→l[j]? = some e→Us e=false)→((l.take y).flatMap Expr.kids).length≤100*y
 | 0,_,_=>by simp
 | y+1,hy,h=>by
  rw [Gm hy,List.flatMap_append,Aw]
  have h1:=Ys y (by omega) (fun j e hj he=>h j e (by omega) he)
  have h2:=gh (h y l[y] (by omega) (Ae _))
  simp only [X9,List.flatMap_nil,Jd]
  omega
structure WideAt (l0:List Expr) (x:List Expr×Nat×Nat):Prop where
 eq:Hz 61 l0 0=Hz x.2.2 x.1 x.2.1
 f:x.2.2≤61
 n:x.2.1≤500
theorem c35 (l0:List Expr) (Hp:List AObj):AFun Tryz.prog 35 [.slice false 6 (l0.map Ab),A5 0] Hp (At (Hz 61 l0 0)):=by
 refine Aj [.tmp 4] [0,1] Tryz.func35 Tryz.ntmps35 (fun d=>?_)
 refine Z60 ?_;refine Z2 ?_;refine Xx ?_;refine Ki ?_
 refine B9 (α:=List Expr×Nat×Nat) (fun x=>⟨67,Aa 0 (.slice false 6 (x.1.map Ab)) (Aa 1 (A5 (61-(x.2.2:Int))) (Aa 5 (A5 (x.2.1:Nat)) (fun _=>.any))),Hp,[],[],none⟩) (fun x=>WideAt l0 x) (fun x=>x.2.2) ((l0,0,61)) ⟨rfl,Ao _,Av _⟩ (Az (by simp)) rfl (fun x hx=>?_)
 refine Z31 ?_;refine A2 [0,1,5,10] ?_
 refine A3 (fun ht10=>?_) (fun ht10=>?_)
 ·have hpos:0<x.1.length:=by simpa using ht10
  have hne:x.1.isEmpty=false:=by cases hxx:x.1 with
   | nil=>rw [hxx] at hpos;simp at hpos
   | cons a r=>rfl
  have hxf:=hx.f
  refine vt ?_;refine E9 ?_;refine j3 ?_;refine A2 [0,1,5,6] ?_;refine Z25 ?_;refine A2 [0,1,5,6,7] ?_
  refine B9 (α:=Nat) (fun y=>⟨67,Aa 0 (.slice false 6 (x.1.map Ab)) (Aa 1 (A5 (61-(x.2.2:Int))) (Aa 5 (A5 ((x.2.1+y:Nat):Int)) (Aa 6 (.slice true 6 (((x.1.take y).flatMap Expr.kids).map Ab)) (Aa 7 (A5 (y:Nat)) (fun _=>.any))))),Hp,[],[],none⟩) (fun y=>y≤x.1.length∧x.2.1+y≤500∧∀(j:Nat) (e:Expr),j<y→x.1[j]? = some e→Us e=false) (fun y=>x.1.length-y) (0) ⟨Av _,hx.n,fun j e h=>by omega⟩ (Az (by simp)) rfl (fun y hy=>?_)
  refine Z46 ?_;refine A2 [0,1,5,6,7,15] ?_
  refine A3 (fun ht15=>?_) (fun ht15=>?_)
  ·have hlt:y<x.1.length:=by simpa using ht15
   have hyn:=hy.2.1
   refine jh ?_;refine A2 [0,1,5,6,7] ?_;refine Z31 ?_;refine Z5 ?_
   refine Bl (h:=Ad (y) (Ab x.1[y]) (fun _=>B3 hlt)) (hr:=?_)
   refine Z70 ?_;refine Z42 ?_
   refine Bl (h:=Ad (y) (Ab x.1[y]) (fun _=>B3 hlt)) (hr:=?_)
   refine Z5 ?_;refine Z27 ?_;refine Z42 ?_
   refine Bl (h:=Ad (y) (Ab x.1[y]) (fun _=>B3 hlt)) (hr:=?_)
   refine Z70 ?_;refine A4 ?_;refine A2 [0,1,5,6,7,49] ?_
   refine A3 (fun ht49=>?_) (fun ht49=>?_)
   ·have hm:Qv x.1 x.2.1=true:=AH7 hlt (by
     simp only [Dg,decide_eq_true_eq,B8] at ht49
     unfold Us
     simp only [Dg,decide_eq_true_eq]
     omega)
    have hw:=xt (f:=x.2.2) hne hm
    refine Z84 ?_;refine Z10 ?_;refine Z71 ?_;refine K.blR ?_;exact AOb
   have hfat:Us x.1[y]=false∧x.2.1+y+1≤500:=by
    simp only [Df,decide_eq_false_iff_not,B8] at ht49
    unfold Us
    simp only [Df,decide_eq_false_iff_not]
    omega
   have hkl:=(gh hfat.1).2.2
   have hfm:(x.1.take (y+1)).flatMap Expr.kids=(x.1.take y).flatMap Expr.kids++x.1[y].kids:=by rw [Gm hlt,List.flatMap_append];simp
   refine Z3 ?_;refine j6 ?_;refine Z0 ?_
   refine A4 (h:=Ad (y) (Ab x.1[y]) (fun _=>B3 hlt)) (hr:=?_)
   refine Z0 ?_
   refine Gz jU Tryz.type26 ?_ ?_ ?_
   ·have h1:=Ys y hy.1 hy.2.2;have h2:=hkl;have h3:=hy.2.1;simp only [B8,Tryz.t26];omega
   ·have h1:=Ys y hy.1 hy.2.2;have h2:=hkl;have h3:=hy.2.1;simp only [B8,Tryz.t26];omega
   refine Jh ?_;refine A2 [0,1,5,6,7] ?_;refine Me ?_;refine A2 [0,1,5,6,7] ?_
   refine B2 (y+1) ⟨hlt,by omega,D3 hlt hy.2.2 hfat.1⟩ (by omega) (Bz ?_)
   rw [hfm,Cs]
   rfl
  have hye:x.1.take y=x.1:=Dn (by simp at ht15;omega)
  have hyl:y=x.1.length:=by have:=hy.1;simp at ht15;omega
  have hmany:Qv x.1 x.2.1=false:=by
   unfold Qv
   rw [decide_eq_false (by have:=hy.2.1;omega),Cj,R2]
   intro e he
   obtain ⟨j,hj⟩:=Cr he
   rw [hy.2.2 j e (by have:=(Ak.1 hj).1;omega) hj]
   simp
  refine Z52 ?_;refine Z8 ?_;refine Z42 ?_;refine A4 ?_;refine A2 [1,5,6,63] ?_
  refine A3 (fun ht63=>?_) (fun ht63=>?_)
  ·have hw:Hz x.2.2 x.1 x.2.1=true:=by
    have h9:=ht63
    rw [hye] at h9
    simp only [Dg,decide_eq_true_eq,B8] at h9
    cases hf:x.2.2 with
    | zero=>rw [Hz,hne];rfl
    | succ f =>
     rw [Hz,if_neg (by rw [hne];simp),if_neg (by rw [hmany];simp),if_pos (by rw [decide_eq_true_eq];omega)]
   refine Z84 ?_;refine nz ?_;exact AOb
  have h9:=ht63
  rw [hye] at h9
  simp only [Df,decide_eq_false_iff_not,B8] at h9
  obtain ⟨f,hf⟩:∃f,x.2.2=f+1:=⟨x.2.2-1,by omega⟩
  have hw:Hz x.2.2 x.1 x.2.1=Hz f (x.1.flatMap Expr.kids) (x.2.1+x.1.length):=by
   rw [hf,Hz,if_neg (by rw [hne];simp),if_neg (by rw [hmany];simp),if_neg (by rw [decide_eq_true_eq];omega)]
  refine Z98 ?_;refine Xx ?_;refine Z22 ?_;refine Xx ?_;refine Ix ?_
  refine B2 (x.1.flatMap Expr.kids,x.2.1+x.1.length,f) ⟨hx.eq.trans hw,by show f≤61;omega,by show x.2.1+x.1.length≤500;have:=hy.2.1;omega⟩ (by show f<x.2.2;omega) (Bz ?_)
  rw [hye,hyl]
  congr 4
  simp only [AV.v.injEq,Value.int.injEq,true_and]
  omega
 have hnil:x.1=[]:=by have:=ht10;simp at this;exact this
 refine Xw ?_;refine Z33 ?_;exact A8 (Ai A7) ⟨by rw [hx.eq,hnil];cases x.2.2<;>rfl,rfl⟩

theorem c9 (e:Expr) (Hp:List AObj):AFun Tryz.prog 9 [Ab e] Hp (At (ACi e)):=by
 refine Aj [.tmp 2] [0] Tryz.func9 Tryz.ntmps9 (fun d=>?_)
 refine jl ?_;refine Sq ?_;refine A9 Tryz.call35 (c35 [e] _) ?_;refine A4 ?_;exact AFq

set_option maxRecDepth 8000
/-! What a tree comes to: eval's model. -/
abbrev Rs:=Val×Int
def D9 (e:Int):Rs:=(noV,e)
def Rq (s:Str):Val:=⟨2,0,s.take 200⟩
def Ga (x:Int×Int):Rs:=if x.2 != 0 then D9 x.2 else (⟨1,x.1,[]⟩,0)
def bb (a b:Int):Int×Int:=if decide (Vd .i64 (O3 .i64 a (IntKind.i64.wrap (a+b))) (O3 .i64 b (IntKind.i64.wrap (a+b)))<0) then (0,4) else (IntKind.i64.wrap (a+b),0)
def Pa (a b:Int):Int×Int:=if decide (Vd .i64 (O3 .i64 a b) (O3 .i64 a (IntKind.i64.wrap (a-b)))<0) then (0,4) else (IntKind.i64.wrap (a-b),0)
def Kl (a:Int):Int:=if decide (a<0) then IntKind.u64.wrap (0-IntKind.u64.wrap a) else IntKind.u64.wrap a
def Cx:List Val→List Int→Bool
 | _,[]=>true
 | [],_::_=>false
 | v::vs,k::ks=>(v.kind==k)&&Cx vs ks
def Jb (a b:Val):Rs:=if !Cx [a,b] [2,2] then D9 10 else if decide ((200:Int)<(a.s.length:Int)+(b.s.length:Int)) then D9 3 else (Rq (a.s++b.s),0)
def Ba (r:Rs):Rs:=if (r.2==0)&&(r.1.kind != 0)&&(r.1.kind != 3) then D9 10 else r
def Gb (strong:Val) (a b:Rs):Rs:=if ((Ba a).2 != 0) || ((Ba a).1==strong) then Ba a else if (((Ba b).2 != 0) || ((Ba b).1==strong)) || ((Ba a).1.kind != 0) then Ba b else ((Ba a).1,0)
def ifW:Str:=[105,102]
def Gu:Str:=[110,118,108]
def Co:Str:=[105,115,110,117,108,108]
def Ed (t:Str) (a b c:Rs):Rs:=
 if t==ifW then (if (Ba a).2 != 0 then D9 (Ba a).2 else if (Ba a).1==Bs true then b else c)
 else if a.2 != 0 then D9 a.2 else if t==Co then (Bs (a.1.kind==0),0) else if a.1.kind != 0 then (a.1,0) else b
def Ks (strict:List Val→Rs) (l:List Rs):Rs:=match l.find? (fun q=>q.2 != 0) with|some q=>D9 q.2|none=>if l.any (fun q=>q.1.kind==0) then (noV,0) else strict (l.map (·.1))
def Vx (c:List Col) (l:List Val) (t:Str):Rs:=if C6 t c<0 then D9 9 else (l.getD (C6 t c).toNat noV,0)
def orW:Str:=[111,114]
def O9:Str:=[97,110,100]
/-- A node, of what its kids come to; what a strict node comes to is a parameter. -/
def Gy (strict:Int→Str→List Val→Rs) (c:List Col) (l:List Val) (o:Int) (t:Str) (v:Val) (ks:List Rs):Rs:=
 if o==1 then (v,0) else if o==2 then Vx c l t
 else if (o==5)&&(t==orW) then Gb (Bs true) (ks.getD 0 (noV,0)) (ks.getD 1 (noV,0))
 else if (o==5)&&(t==O9) then Gb (Bs false) (ks.getD 0 (noV,0)) (ks.getD 1 (noV,0))
 else if (o==6)&&(((t==ifW) || (t==Gu)) || (t==Co)) then Ed t (ks.getD 0 (noV,0)) (ks.getD 1 (noV,0)) (ks.getD 2 (noV,0))
 else Ks (strict o t) ks
mutual
def T5 (strict:Int→Str→List Val→Rs) (c:List Col) (l:List Val):Expr→Rs
 | .mk o t v k=>Gy strict c l o t v (cv strict c l k)
def cv (strict:Int→Str→List Val→Rs) (c:List Col) (l:List Val):List Expr→List Rs
  | []=>[]
  | e::r=>T5 strict c l e::cv strict c l r
 end
theorem cw (f:Int→Str→List Val→Rs) (c:List Col) (l:List Val):∀k,cv f c l k=k.map (T5 f c l)
 | []=>rfl
 | e::r=>by rw [cv,cw f c l r];rfl
theorem I1 (f:Int→Str→List Val→Rs) (c:List Col) (l:List Val) (e:Expr):T5 f c l e=Gy f c l e.op e.text e.val (e.kids.map (T5 f c l)):=by cases e;rw [T5,cw];rfl
def T6 (c:List Col) (l:List Val):Bool:=(Sx c&&(l.length==c.length))&&(l.zip c).all fun p=>C2 p.1&&((p.1.kind==0) || (p.1.kind==p.2.kind))
/-- eval.Eval. -/
def sr (f:Int→Str→List Val→Rs) (x:Expr) (c:List Col) (l:List Val):Rs:=if (!(Ar x)) || !(T6 c l) then D9 1 else T5 f c l x
/-! A tree in a column's place comes to what its value would there. -/
/-! Who is not named plays no part. -/
/-! What a strict node comes to. -/
def T7 (a b:Int):Int×Int:=
 let p:=Kl a*Kl b
 let below:=decide (a<0) != decide (b<0)
 if decide (0<p / 18446744073709551616) || decide ((if below then 9223372036854775808 else 9223372036854775807)<p % 18446744073709551616) then (0,4)
 else if below then (IntKind.i64.wrap (IntKind.u64.wrap (0-p % 18446744073709551616)),0) else (IntKind.i64.wrap (p % 18446744073709551616),0)
def Yt (a b:Int):Int×Int:=if b==0 then (0,5) else if (a == -9223372036854775808)&&(b == -1) then (0,4) else (IntKind.i64.wrap (a.tdiv b),0)
def T8 (a b:Int):Int×Int:=if b==0 then (0,5) else if b == -1 then (0,0) else (IntKind.i64.wrap (a.tmod b),0)
def Gc (t:Str) (a b:Int):Int×Int:=if t==[43] then bb a b else if t==[45] then Pa a b else if t==[42] then T7 a b else if t==[47] then Yt a b else T8 a b
def Gd (t:Str) (c:Int):Bool×Bool:=if t==[61] then (c==0,true) else if t==[33,61] then (c != 0,true) else if t==[60] then (decide (c<0),true) else if t==[60,61] then (decide (c≤0),true) else if t==[62] then (decide (0<c),true) else if t==[62,61] then (decide (0≤c),true) else (false,false)
def Kt (a b:Int):Int:=if decide (a<b) then -1 else if decide (b<a) then 1 else 0
def orI:List Int→Int
 | []=>0
 | a::r=>if a != 0 then a else orI r
def Uy (a b:Val):Int:=if (!(C2 a)) || !(C2 b) then 0 else orI [Kt a.kind b.kind,Kt a.n b.n,Lib.compareBytes a.s b.s]
def J7 (t:Str) (a b:Val):Rs:=if (Gd t (Uy a b)).2 then (if a.kind != b.kind then D9 10 else (Bs (Gd t (Uy a b)).1,0)) else if t==[38] then Jb a b else if !Cx [a,b] [1,1] then D9 10 else Ga (Gc t a.n b.n)
def J3 (t:Str) (v:Val):Rs:=if (t==[115,116,114])&&(v.kind==1) then (Rq (Lib.itoa v.n),0) else if (t==[108,101,110])&&(v.kind==2) then (⟨1,v.s.length,[]⟩,0) else if (t==[110,117,109])&&(v.kind==2) then Ga (Cf v.s) else D9 10
def Kk (t:Str) (s:Str) (n:Int):Val:=if t==[108,101,102,116] then Rq (s.take (max 0 (min n s.length)).toNat) else Rq (s.drop (s.length-(max 0 (min n s.length)).toNat))
def Bo (o:Int) (t:Str) (l:List Val):Rs:=
 if o==5 then J7 t (l.getD 0 noV) (l.getD 1 noV) else if (o==3)&&Cx l [1] then Ga (Pa 0 (l.getD 0 noV).n) else if (o==4)&&Cx l [3] then (Bs ((l.getD 0 noV).n==0),0)
 else if o != 6 then D9 10 else if (l.length:Int)==1 then J3 t (l.getD 0 noV) else if !Cx l [2,1] then D9 10 else (Kk t (l.getD 0 noV).s (l.getD 1 noV).n,0)
abbrev Al (c:List Col) (l:List Val) (e:Expr):Rs:=T5 Bo c l e
abbrev Fe (x:Expr) (c:List Col) (l:List Val):Rs:=sr Bo x c l
/-! Values are plain, and their numbers have 64 bits. -/
structure Fine (v:Val):Prop where
 plain:C2 v=true
 lo : -9223372036854775808≤v.n
 hi:v.n≤9223372036854775807
theorem Qa:Fine noV:=⟨rfl,by decide,by decide⟩
theorem Uz (b:Bool):Fine (Bs b):=by cases b<;>exact ⟨rfl,by decide,by decide⟩
theorem l5 {n:Int} (h0 : -9223372036854775808≤n) (h1:n≤9223372036854775807):Fine ⟨1,n,[]⟩:=⟨rfl,h0,h1⟩
theorem Yu (s:Str):Fine (Rq s):=⟨by
 unfold C2 Rq
 simp only [show ((2:Int)==0)=false from rfl,show ((2:Int)==1)=false from rfl,show ((2:Int)==2)=true from rfl,An,if_false,if_true,show ((0:Int)==0)=true from rfl,Dc,decide_eq_true_eq,E7]
 omega,by show -9223372036854775808≤(0:Int);decide,by show (0:Int)≤9223372036854775807;decide⟩
theorem Fine.len {v:Val} (h:Fine v):v.s.length≤200:=by
 have h:=h.plain
 unfold C2 at h
 split at h
 ·simp only [Ah,beq_iff_eq] at h;rw [h.2];exact Av _
 split at h
 ·rw [beq_iff_eq] at h;rw [h];exact Av _
 split at h
 ·simp only [Ah,decide_eq_true_eq] at h;omega
 simp only [Ah,beq_iff_eq] at h;rw [h.1.1.2];exact Av _
theorem Rr {x:Int×Int} (h0:x.2=0 → -9223372036854775808≤x.1) (h1:x.2=0→x.1≤9223372036854775807):Fine (Ga x).1:=by
 unfold Ga
 split
 ·exact Qa
 rename_i h
 have h:x.2=0:=by simpa using h
 exact l5 (h0 h) (h1 h)
theorem Yv (e:Int):Fine (D9 e).1:=Qa
theorem Jz (n:Int) : -9223372036854775808≤IntKind.i64.wrap n∧IntKind.i64.wrap n≤9223372036854775807:=by rw [IntKind.wrap_i64];omega
theorem AD5 (a b:Int):Fine (Ga (Pa a b)).1:=by
 refine Rr (fun _=>?_) (fun _=>?_)<;>unfold Pa<;>split
 ·show -9223372036854775808≤(0:Int);decide
 ·exact (Jz _).1
 ·show (0:Int)≤9223372036854775807;decide
 exact (Jz _).2
theorem l6 (t:Str) (a b:Int) : -9223372036854775808≤(Gc t a b).1∧(Gc t a b).1≤9223372036854775807:=by
 have z : -9223372036854775808≤(0:Int)∧(0:Int)≤9223372036854775807:=by decide
 unfold Gc
 split
 ·unfold bb;split;exact z;exact Jz _
 split
 ·unfold Pa;split;exact z;exact Jz _
 split
 ·unfold T7
  simp only
  repeat' split
  all_goals first|exact z|exact Jz _
 split
 ·unfold Yt;split;exact z;split;exact z;exact Jz _
 unfold T8;split;exact z;split;exact z;exact Jz _
theorem AD6 {t:Str} {a b:Val}:Fine (J7 t a b).1:=by
 unfold J7
 split
 ·split
  ·exact au
  exact Uz _
 split
 ·unfold Jb
  split
  ·exact au
  split
  ·exact au
  exact Yu _
 split
 ·exact au
 exact Rr (fun _=>(l6 _ _ _).1) (fun _=>(l6 _ _ _).2)
theorem AD7 (s:Str) : -9223372036854775808≤(Cf s).1∧(Cf s).1≤9223372036854775807:=by
 unfold Cf
 split
 ·decide
 split
 ·rename_i v h
  have:=Lib.parseIntB_bounds h
  simp only [show ((2 ^ (64-1):Nat):Int)=9223372036854775808 by decide] at this
  show -9223372036854775808≤v∧v≤9223372036854775807
  omega
 ·decide
 decide
theorem AD8 {t:Str} {v:Val} (h:Fine v):Fine (J3 t v).1:=by
 unfold J3
 split
 ·exact Yu _
 split
 ·have:=h.len
  exact l5 (by omega) (by omega)
 split
 ·exact Rr (fun _=>(AD7 _).1) (fun _=>(AD7 _).2)
 exact au
theorem l7 {o:Int} {t:Str} {l:List Val} (h:∀v∈l,Fine v):Fine (Bo o t l).1:=by
 have h0:Fine (l.getD 0 noV):=by cases l with|nil=>exact Qa|cons a r=>exact h a Js
 unfold Bo
 split
 ·exact AD6
 split
 ·exact AD5 _ _
 split
 ·exact Uz _
 split
 ·exact au
 split
 ·exact AD8 h0
 split
 ·exact au
 unfold Kk
 split<;>exact Yu _
theorem Rt {r:Rs} (h:Fine r.1):Fine (Ba r).1:=by
 unfold Ba
 split
 ·exact au
 exact h
theorem Yw {s:Val} {a b:Rs} (ha:Fine a.1) (hb:Fine b.1):Fine (Gb s a b).1:=by
 unfold Gb
 split
 ·exact Rt ha
 split
 ·exact Rt hb
 exact Rt ha
theorem xu {t:Str} {a b c:Rs} (ha:Fine a.1) (hb:Fine b.1) (hc:Fine c.1):Fine (Ed t a b c).1:=by
 unfold Ed
 repeat' split
 all_goals first|exact Yv _|exact hb|exact hc|exact ha|exact Uz _
theorem AD9 {f:List Val→Rs} {l:List Rs} (hf:∀k:List Val,(∀v∈k,Fine v)→Fine (f k).1) (h:∀r∈l,Fine r.1):Fine (Ks f l).1:=by
 unfold Ks
 split
 ·exact au
 split
 ·exact Qa
 refine hf _ fun v hv=>?_
 obtain ⟨r,hr,rfl⟩:=Dm.1 hv
 exact h r hr
theorem xv {c:List Col} {l:List Val} (h:∀v∈l,Fine v) (t:Str):Fine (Vx c l t).1:=by
 unfold Vx
 split
 ·exact au
 show Fine (l.getD _ noV)
 rw [Cz]
 cases hg:l[(C6 t c).toNat]? with
 | none=>exact Qa
 | some v=>exact h v (Be hg)
def Qy (e:Expr):Bool := !(e.op==1) || C2 e.val
theorem Jn {k:List Rs} (h:∀r∈k,Fine r.1) (i:Nat):Fine (k.getD i (noV,0)).1:=by
 rw [Cz]
 cases hg:k[i]? with
 | none=>exact Qa
 | some r=>exact h r (Be hg)
mutual
theorem Mw {c:List Col} {l:List Val} (h:∀v∈l,Fine v):∀e:Expr,Bq Qy e=true→Bq Cw e=true→Fine (Al c l e).1
 | .mk o t v k,h1,h2=>by
  rw [Bq,Ah] at h1 h2
  have hk:=Yx (c:=c) h k h1.2 h2.2
  rw [Al,T5]
  unfold Gy
  split
  ·rename_i ho
   have p:=h1.1
   unfold Qy at p
   rw [show (Expr.mk o t v k).op=o from rfl,ho] at p
   have q:=h2.1
   unfold Cw at q
   simp only [Ah,decide_eq_true_eq] at q
   exact ⟨by show C2 (Expr.mk o t v k).val=true;simpa using p,q.1,q.2⟩
  split
  ·exact xv h t
  split
  ·exact Yw (Jn hk 0) (Jn hk 1)
  split
  ·exact Yw (Jn hk 0) (Jn hk 1)
  split
  ·exact xu (Jn hk 0) (Jn hk 1) (Jn hk 2)
  exact AD9 (fun _ hl=>l7 hl) hk
theorem Yx {c:List Col} {l:List Val} (h:∀v∈l,Fine v):∀k:List Expr,K5 Qy k=true→K5 Cw k=true→∀r∈cv Bo c l k,Fine r.1
  | [],_,_=>fun r hr=>by cases hr
  | e::k,h1,h2=>by
    rw [K5,Ah] at h1 h2
    intro r hr
    rw [cv] at hr
    rcases C0.1 hr with rfl|hr
    · exact Mw h e h1.1 h2.1
    exact Yx h k h1.2 h2.2 r hr
 end
set_option maxRecDepth 4000
abbrev Nt (r:Rs):AV:=.tup [Ca r.1,A5 r.2]
abbrev su (l:List Int):AV:=.slice false 1 (l.map A5)
abbrev Yy (c:List Col) (l:List Val):AV:=.agg [B0 c,P1 l]
theorem c43 (e:Int) (Hp:List AObj):AFun Tryz.prog 43 [A5 e] Hp (Nt (D9 e)):=by
 refine Aj [.cell 2 23,.tmp 3] [0] Tryz.func43 Tryz.ntmps43 (fun d=>?_)
 refine ji ?_;refine A2 [0,2] ?_;refine AKr ?_;refine A4 ?_;refine jd ?_;exact A8 (As (Ap jA jS) A7)

theorem AT3 (n e:Int) (Hp:List AObj):AFun Tryz.prog 175 [A5 n,A5 e] Hp (Nt (Ga (n,e))):=by
 refine Aj [.cell 4 23,.tmp 5] [0,1] Tryz.func175 Tryz.ntmps175 (fun d=>?_)
 refine ji ?_;refine A2 [0,1,4] ?_;refine Z8 ?_;refine A2 [0,1,4,7] ?_
 refine A3 (fun ht7=>?_) (fun ht7=>?_)
 ·have hw:Ga (n,e)=D9 e:=if_pos ht7
  refine Z2 ?_;refine Z63 ?_;refine Z39 ?_;exact ANr
 have hw:Ga (n,e)=(⟨1,n,[]⟩,0):=if_neg (by rw [ht7];simp)
 refine Z58 ?_;refine A9 Tryz.call221 (AL6 _ _) ?_;refine Z39 ?_;refine Fg ?_;exact AKt

theorem l8 {vs:List Val} {ks:List Int} (hl:ks.length≤vs.length) {x:Nat} (hk:x<ks.length) (hx:Cx vs ks=Cx (vs.drop x) (ks.drop x)):Cx vs ks=((vs[x].kind==ks[x])&&Cx (vs.drop (x+1)) (ks.drop (x+1))):=by
 rw [hx,H6 hk,H6 (show x<vs.length by omega),Cx]
theorem ADa (vs:List Val) (ks:List Int) (hks:ks.length≤vs.length) (hk2:ks.length≤1048576) (Hp:List AObj):AFun Tryz.prog 174 [P1 vs,su ks] Hp (At (Cx vs ks)):=by
 refine Aj [.tmp 4] [0,1] Tryz.func174 Tryz.ntmps174 (fun d=>?_)
 refine Z60 ?_;refine Z31 ?_;refine A2 [0,7,8,9] ?_
 refine B9 (α:=Nat) (fun x=>⟨22,Aa 0 (P1 vs) (Aa 7 (su ks) (Aa 8 (A5 (ks.length:Nat)) (Aa 9 (A5 (x:Nat)) (fun _=>.any)))),Hp,[],[],none⟩) (fun x=>x≤ks.length∧Cx vs ks=Cx (vs.drop x) (ks.drop x)) (fun x=>ks.length-x) (0) ⟨Av _,rfl⟩ (Az (by simp)) rfl (fun x hx=>?_)
 refine Z2 ?_;refine A2 [0,7,8,9,10] ?_
 refine Ev (fun ht10=>?_) (fun ht10=>?_)
 ·have hlt:x<ks.length:=by simpa using ht10
  have hls:x<vs.length:=by omega
  have hst:=l8 hks hlt hx.2
  refine U8 ?_
  refine A4 (h:=Ad (x) (A5 ks[x]) (fun _=>B3 hlt)) (hr:=?_)
  refine Z11 ?_;refine A2 [0,5,6,7,8,9] ?_;refine Z1 ?_
  refine A4 (h:=Ad (x) (Ca vs[x]) (fun _=>B3 hls)) (hr:=?_)
  refine Z72 ?_;refine A2 [0,7,8,9,20] ?_
  refine A3 (fun ht20=>?_) (fun ht20=>?_)
  ·have hm:Cx vs ks=false:=by rw [hst];simp only [bne_iff_ne,ne_eq] at ht20;simp [ht20]
   refine Z84 ?_;exact AKh
  have hn:Cx vs ks=Cx (vs.drop (x+1)) (ks.drop (x+1)):=by rw [hst];simp only [bne_eq_false_iff_eq] at ht20;simp [ht20]
  refine Ni ?_;refine A2 [0,7,8,9] ?_;exact ANz
 have hxe:ks.length≤x:=by simpa using ht10
 have hm:Cx vs ks=true:=by rw [hx.2,Tu hxe];cases vs.drop x<;>rfl
 refine So ?_;exact AB5

theorem AT4 (t:Str) (c:Int) (Hp:List AObj):AFun Tryz.prog 217 [Ac t,A5 c] Hp (.tup [At (Gd t c).1,At (Gd t c).2]):=by
 refine Aj [.tmp 4,.tmp 5] [0,1] Tryz.func217 Tryz.ntmps217 (fun d=>?_)
 refine j9 ?_;refine Z25 ?_;refine A2 [1,6] ?_;refine Z97 ?_;refine A2 [1,6,7] ?_
 refine A3 (fun ht7=>?_) (fun ht7=>?_)
 ·exact vn
 refine Z1 ?_;refine A2 [1,6,11] ?_
 refine A3 (fun ht11=>?_) (fun ht11=>?_)
 ·exact vn
 refine Z1 ?_;refine A2 [1,6,15] ?_
 refine A3 (fun ht15=>?_) (fun ht15=>?_)
 ·exact vn
 refine Z1 ?_;refine A2 [1,6,19] ?_
 refine A3 (fun ht19=>?_) (fun ht19=>?_)
 ·exact vn
 refine Z1 ?_;refine A2 [1,6,23] ?_
 refine A3 (fun ht23=>?_) (fun ht23=>?_)
 ·exact vn
 refine Z1 ?_;refine A2 [1,27] ?_
 refine A3 (fun ht27=>?_) (fun ht27=>?_)
 ·exact vn
 refine aq ?_;refine Z73 ?_;exact APa

theorem AQ7 (a b:Int) (Hp:List AObj):AFun Tryz.prog 222 [A5 a,A5 b] Hp (.tup [A5 (Pa a b).1,A5 (Pa a b).2]):=by
 refine Aj [.tmp 4,.tmp 5] [0,1] Tryz.func222 Tryz.ntmps222 (fun d=>?_)
 refine j9 ?_;refine Z1 ?_
 refine A4 (h:=Kg) (hr:=?_)
 refine A4 ?_;refine A2 [0,1,6] ?_;refine Z8 ?_;refine R.xor ?_;refine Z0 ?_;refine R.xor ?_;refine R.and ?_;refine A4 ?_;refine A2 [6,17] ?_
 refine A3 (fun ht17=>?_) (fun ht17=>?_)
 ·have hm:Pa a b=(0,4):=if_pos ht17
  exact AOg
 have hm:Pa a b=(IntKind.i64.wrap (a-b),0):=if_neg (by rw [ht17];simp)
 refine Nl ?_;exact AKg

theorem AT5 (a b:Int) (Hp:List AObj):AFun Tryz.prog 273 [A5 a,A5 b] Hp (.tup [A5 (bb a b).1,A5 (bb a b).2]):=by
 refine Aj [.tmp 4,.tmp 5] [0,1] Tryz.func273 Tryz.ntmps273 (fun d=>?_)
 refine j9 ?_;refine Z1 ?_
 refine A4 (h:=Fz) (hr:=?_)
 refine A4 ?_;refine A2 [0,1,6] ?_;refine Z8 ?_;refine R.xor ?_;refine Z0 ?_;refine R.xor ?_;refine R.and ?_;refine A4 ?_;refine A2 [6,17] ?_
 refine A3 (fun ht17=>?_) (fun ht17=>?_)
 ·have hm:bb a b=(0,4):=if_pos ht17
  exact AOg
 have hm:bb a b=(IntKind.i64.wrap (a+b),0):=if_neg (by rw [ht17];simp)
 refine Nl ?_;exact AKg

theorem AT6 (a:Int) (Hp:List AObj):AFun Tryz.prog 176 [A5 a] Hp (.tup [A5 (Pa 0 a).1,A5 (Pa 0 a).2]):=by
 refine Aj [.tmp 2,.tmp 3] [0] Tryz.func176 Tryz.ntmps176 (fun d=>?_)
 refine Z1 ?_;refine A2 [0] ?_;refine Z2 ?_;refine A9 Tryz.call222 (AQ7 _ _ _) ?_;refine Z72 ?_;refine nu ?_;exact A8 (As A7 A7)

theorem AQ8 (a:Int) (Hp:List AObj):AFun Tryz.prog 305 [A5 a] Hp (Bw (Kl a)):=by
 refine Aj [.tmp 2] [0] Tryz.func305 Tryz.ntmps305 (fun d=>?_)
 refine Z56 ?_;refine Z8 ?_;refine A2 [0,4] ?_
 refine A3 (fun ht4=>?_) (fun ht4=>?_)
 ·have hm:Kl a=IntKind.u64.wrap (0-IntKind.u64.wrap a):=if_pos ht4
  refine Z21 ?_;refine Z4 ?_;exact AFk
 have hm:Kl a=IntKind.u64.wrap a:=if_neg (by rw [ht4];simp)
 refine Nl ?_;refine Z4 ?_;exact fp

theorem ALl (n:Int):0≤IntKind.u64.wrap n∧IntKind.u64.wrap n<18446744073709551616:=by rw [IntKind.wrap_u64];omega
theorem ADb (a:Int):0≤Kl a∧Kl a<18446744073709551616:=by
 unfold Kl
 split<;>exact ALl _
theorem AT7 (x y:Int) (hx:0≤x∧x<18446744073709551616) (hy:0≤y∧y<18446744073709551616) (Hp:List AObj):AFun Tryz.prog 304 [Bw x,Bw y] Hp (.tup [Bw (x*y / 18446744073709551616),Bw (x*y % 18446744073709551616)]):=by
 obtain ⟨m,rfl⟩:=mr hx.1
 obtain ⟨n,rfl⟩:=mr hy.1
 refine Lx (xs:=[.int .u64 m,.int .u64 n]) (v:=.tuple #[.int .u64 ((m*n / 18446744073709551616:Nat):Int),.int .u64 ((m*n % 18446744073709551616:Nat):Int)]) (fun G w=>N9 rfl (fun i y u hy hu=>?_)) (fun w hg=>?_)
 ·match i with
  | 0=>simp at hy hu;subst hy;subst hu;exact .v _ _
  | 1=>simp at hy hu;subst hy;subst hu;exact .v _ _
  | i+2=>simp at hy
 refine (Any.bits_Mul64 Tryz.lays264 m n (by omega) (by omega) w).mono ?_
 rintro e w' ⟨rfl,rfl⟩
 exact ⟨rfl,Go.RowKit.Below.refl _ _⟩
theorem AT8 (s t:Str) (Hp:List AObj):AFun Tryz.prog 272 [Ac s,Ac t] Hp (A5 (Lib.compareBytes s t)):=by
 refine Lx (xs:=[sv s,sv t]) (v:=.int .i64 (Lib.compareBytes s t)) (fun G w=>.v _ _) (fun w hg=>?_)
 refine (Any.strings_Compare Tryz.lays106 ⟨s.toArray⟩ ⟨t.toArray⟩ w).mono ?_
 rintro e w' ⟨rfl,rfl⟩
 exact ⟨rfl,Go.RowKit.Below.refl _ _⟩
theorem AT9 (a b:Int) (Hp:List AObj):AFun Tryz.prog 274 [A5 a,A5 b] Hp (.tup [A5 (T7 a b).1,A5 (T7 a b).2]):=by
 refine Aj [.tmp 4,.tmp 5] [0,1] Tryz.func274 Tryz.ntmps274 (fun d=>?_)
 refine j9 ?_;refine Z2 ?_;refine A9 Tryz.call305 (AQ8 _ _) ?_;refine A4 ?_;refine A9 Tryz.call305 (AQ8 _ _) ?_;refine A9 Tryz.call304 (AT7 _ _ (ADb a) (ADb b) _) ?_;refine L9 ?_;refine A2 [0,1,6,7] ?_;refine Z21 ?_;refine Z0 ?_;refine A2 [6,7,8] ?_;refine Z2 ?_;refine A2 [6,7,8,9] ?_;refine Z25 ?_;refine A2 [6,7,8,9,23] ?_
 refine A3 (fun ht23=>?_) (fun ht23=>?_)
 ·refine Z48 ?_
  refine A4 (h:=Fz) (hr:=?_)
  refine A4 ?_;refine A2 [6,7,8,9] ?_;refine Fl ?_;refine jk ?_;refine Z67 ?_;refine A2 [7,8,26] ?_
  refine A3 (fun ht26=>?_) (fun ht26=>?_)
  ·refine Z1 ?_;refine Z74 ?_
   exact A8 (As A7 A7) ⟨by
    have w1:IntKind.u64.wrap 9223372036854775808=9223372036854775808:=rfl
    simp_all [T7]
    try first|(rw [if_pos ht26];simp;done)|(rw [if_neg (by omega)];simp;done),rfl⟩
  refine Z1 ?_;refine A2 [7,34] ?_
  refine A3 (fun ht34=>?_) (fun ht34=>?_)
  ·refine fh ?_;refine Z74 ?_
   exact A8 (As A7 A7) ⟨by
    have w1:IntKind.u64.wrap 9223372036854775808=9223372036854775808:=rfl
    simp_all [T7]
    try first|(rw [if_pos ht26];simp;done)|(rw [if_neg (by omega)];simp;done),rfl⟩
  refine Z18 ?_;refine Z21 ?_;refine Z73 ?_
  exact A8 (As A7 A7) ⟨by
   have w1:IntKind.u64.wrap 9223372036854775808=9223372036854775808:=rfl
   simp_all [T7]
   try first|(rw [if_pos ht26];simp;done)|(rw [if_neg (by omega)];simp;done),rfl⟩
 refine jh ?_;refine Z67 ?_;refine A2 [7,8,26] ?_
 refine A3 (fun ht26=>?_) (fun ht26=>?_)
 ·refine Z1 ?_;refine Z74 ?_
  exact A8 (As A7 A7) ⟨by
   have w1:IntKind.u64.wrap 9223372036854775808=9223372036854775808:=rfl
   simp_all [T7]
   try first|(rw [if_pos ht26];simp;done)|(rw [if_neg (by omega)];simp;done),rfl⟩
 refine Z1 ?_;refine A2 [7,34] ?_
 refine A3 (fun ht34=>?_) (fun ht34=>?_)
 ·refine fh ?_;refine Z74 ?_
  exact A8 (As A7 A7) ⟨by
   have w1:IntKind.u64.wrap 9223372036854775808=9223372036854775808:=rfl
   simp_all [T7]
   try first|(rw [if_pos ht26];simp;done)|(rw [if_neg (by omega)];simp;done),rfl⟩
 refine Z18 ?_;refine Z21 ?_;refine Z73 ?_
 exact A8 (As A7 A7) ⟨by
  have w1:IntKind.u64.wrap 9223372036854775808=9223372036854775808:=rfl
  simp_all [T7]
  try first|(rw [if_pos ht26];simp;done)|(rw [if_neg (by omega)];simp;done),rfl⟩

theorem ATa (a b:Int) (Hp:List AObj):AFun Tryz.prog 275 [A5 a,A5 b] Hp (.tup [A5 (Yt a b).1,A5 (Yt a b).2]):=by
 refine Aj [.tmp 4,.tmp 5] [0,1] Tryz.func275 Tryz.ntmps275 (fun d=>?_)
 refine j9 ?_;refine jk ?_;refine A2 [0,1,6] ?_
 refine A3 (fun ht6=>?_) (fun ht6=>?_)
 ·refine Z1 ?_;exact AO3
 refine Xv ?_;refine Z0 ?_;refine A2 [0,1,9] ?_
 refine A3 (fun ht9=>?_) (fun ht9=>?_)
 ·refine Z1 ?_;exact AO3
 refine aq ?_
 refine A4 (h:=Q.quo (h0:=fun _=>by simpa using ht6)) (hr:=?_)
 refine Z0 ?_;refine Z73 ?_;exact A8 (As A7 A7) ⟨by simp_all [Yt]<;>(rw [if_neg (by rintro ⟨rfl,rfl⟩;simp_all)];exact ⟨rfl,rfl⟩),rfl⟩

theorem xw {a b:Int} (ha : -9223372036854775808≤a∧a≤9223372036854775807):IntKind.i64.wrap (a.tmod b)=a.tmod b:=by
 have h1:(a.tmod b).natAbs≤a.natAbs:=by rw [Int.natAbs_tmod];exact Se _ _
 rw [IntKind.wrap_i64]
 rcases Int.le_total 0 a with h|h
 ·have:=Int.tmod_nonneg b h
  omega
 have h2:=Int.tmod_nonneg b (show 0 ≤ -a by omega)
 rw [mt] at h2
 omega
theorem ATb (a b:Int) (ha : -9223372036854775808≤a∧a≤9223372036854775807) (Hp:List AObj):AFun Tryz.prog 276 [A5 a,A5 b] Hp (.tup [A5 (T8 a b).1,A5 (T8 a b).2]):=by
 refine Aj [.tmp 4,.tmp 5] [0,1] Tryz.func276 Tryz.ntmps276 (fun d=>?_)
 refine j9 ?_;refine Z25 ?_;refine A2 [0,1,6] ?_;refine Z97 ?_;refine A2 [0,1,6,7] ?_
 refine A3 (fun ht7=>?_) (fun ht7=>?_)
 ·have hm:T8 a b=(0,5):=if_pos ht7
  refine Z1 ?_;exact AOh
 refine Z1 ?_;refine A2 [0,1,9] ?_
 refine A3 (fun ht9=>?_) (fun ht9=>?_)
 ·have hm:T8 a b=(0,0):=by unfold T8;rw [if_neg (by rw [ht7];simp),if_pos ht9]
  refine Z1 ?_;exact AOh
 have hm:T8 a b=(a.tmod b,0):=by unfold T8;rw [if_neg (by rw [ht7];simp),if_neg (by rw [ht9];simp),xw ha]
 refine aq ?_
 refine A4 (h:=Q.rem (h0:=fun _=>by simpa using ht7)) (hr:=?_)
 refine Z0 ?_;exact AKg

theorem AQ9 (a:Int) (Hp:List AObj):AFun Tryz.prog 301 [A5 a] Hp (At false):=by
 refine Aj [.tmp 2] [0] Tryz.func301 Tryz.ntmps301 (fun d=>?_)
 refine Z56 ?_;refine Z21 ?_;exact AOz

theorem AQa (a:Int) (Hp:List AObj):AFun Tryz.prog 302 [A5 a] Hp (At false):=by
 refine Aj [.tmp 2] [0] Tryz.func302 Tryz.ntmps302 (fun d=>?_)
 refine Z56 ?_;refine Z21 ?_;exact AOz

theorem ATc (a b:Int) (Hp:List AObj):AFun Tryz.prog 270 [A5 a,A5 b] Hp (A5 (Kt a b)):=by
 refine Aj [.tmp 4] [0,1] Tryz.func270 Tryz.ntmps270 (fun d=>?_)
 refine Z60 ?_;refine Z2 ?_;refine A9 Tryz.call301 (AQ9 _ _) ?_;refine A4 ?_;refine Xx ?_;refine Z2 ?_;refine A9 Tryz.call301 (AQ9 _ _) ?_;refine A4 ?_;refine A2 [0,1,5,6] ?_;refine Z25 ?_;refine A2 [0,1,6,11] ?_
 refine A3 (fun ht11=>?_) (fun ht11=>?_)
 ·cases ht11
 refine Nk ?_;refine A2 [0,1,13] ?_
 refine A3 (fun ht13=>?_) (fun ht13=>?_)
 ·cases ht13
 refine Nm ?_;refine A2 [0,1,16] ?_
 refine A3 (fun ht16=>?_) (fun ht16=>?_)
 ·have hm:Kt a b = -1:=if_pos ht16
  exact vo
 refine Nm ?_;refine A2 [19] ?_
 refine A3 (fun ht19=>?_) (fun ht19=>?_)
 ·have hm:Kt a b=1:=by unfold Kt;rw [if_neg (by rw [ht16];simp),if_pos ht19]
  exact vo
 have hm:Kt a b=0:=by unfold Kt;rw [if_neg (by rw [ht16];simp),if_neg (by rw [ht19];simp)]
 refine Z58 ?_;exact AB5

theorem ATd (a b:Int) (Hp:List AObj):AFun Tryz.prog 271 [A5 a,A5 b] Hp (A5 (Kt a b)):=by
 refine Aj [.tmp 4] [0,1] Tryz.func271 Tryz.ntmps271 (fun d=>?_)
 refine Z60 ?_;refine Z2 ?_;refine A9 Tryz.call302 (AQa _ _) ?_;refine A4 ?_;refine Xx ?_;refine Z2 ?_;refine A9 Tryz.call302 (AQa _ _) ?_;refine A4 ?_;refine A2 [0,1,5,6] ?_;refine Z25 ?_;refine A2 [0,1,6,11] ?_
 refine A3 (fun ht11=>?_) (fun ht11=>?_)
 ·cases ht11
 refine Nk ?_;refine A2 [0,1,13] ?_
 refine A3 (fun ht13=>?_) (fun ht13=>?_)
 ·cases ht13
 refine Nm ?_;refine A2 [0,1,16] ?_
 refine A3 (fun ht16=>?_) (fun ht16=>?_)
 ·have hm:Kt a b = -1:=if_pos ht16
  exact vo
 refine Nm ?_;refine A2 [19] ?_
 refine A3 (fun ht19=>?_) (fun ht19=>?_)
 ·have hm:Kt a b=1:=by unfold Kt;rw [if_neg (by rw [ht16];simp),if_pos ht19]
  exact vo
 have hm:Kt a b=0:=by unfold Kt;rw [if_neg (by rw [ht16];simp),if_neg (by rw [ht19];simp)]
 refine Z58 ?_;exact AB5

theorem ADc {l:List Int} {x:Nat} (h:x<l.length) (hx:orI l=orI (l.drop x)):orI l=if l[x] != 0 then l[x] else orI (l.drop (x+1)):=by rw [hx,H6 h,orI]
theorem ATe (l:List Int) (hl:l.length≤1048576) (Hp:List AObj):AFun Tryz.prog 269 [su l] Hp (A5 (orI l)):=by
 refine Aj [.tmp 2] [0] Tryz.func269 Tryz.ntmps269 (fun d=>?_)
 refine Z56 ?_;refine Z2 ?_;refine Lr ?_;refine Z31 ?_;refine A2 [3,6,7,8] ?_
 refine B9 (α:=Nat) (fun x=>⟨18,Aa 3 (A5 0) (Aa 6 (su l) (Aa 7 (A5 (l.length:Nat)) (Aa 8 (A5 (x:Nat)) (fun _=>.any)))),Hp,[],[],none⟩) (fun x=>x≤l.length∧orI l=orI (l.drop x)) (fun x=>l.length-x) (0) ⟨Av _,rfl⟩ (Az (by simp)) rfl (fun x hx=>?_)
 refine Z2 ?_;refine A2 [3,6,7,8,9] ?_
 refine Ev (fun ht9=>?_) (fun ht9=>?_)
 ·have hlt:x<l.length:=by simpa using ht9
  have hst:=ADc hlt hx.2
  refine Wc ?_
  refine A4 (h:=Ad (x) (A5 l[x]) (fun _=>B3 hlt)) (hr:=?_)
  refine Z0 ?_;refine A2 [3,5,6,7,8] ?_;refine Z14 ?_;refine A2 [3,5,6,7,8,14] ?_
  refine A3 (fun ht14=>?_) (fun ht14=>?_)
  ·have hm:orI l=l[x]:=by rw [hst,if_pos ht14]
   refine fk ?_;exact AB3
  have hn:orI l=orI (l.drop (x+1)):=by rw [hst,if_neg (by rw [ht14];simp)]
  refine Ni ?_;refine A2 [3,6,7,8] ?_;exact ANz
 have hxe:l.length≤x:=by simpa using ht9
 have hm:orI l=0:=by rw [hx.2,Tu hxe];rfl
 refine Z30 ?_;refine fk ?_;exact fp

theorem ATf (a b:Val) (Hp:List AObj):AFun Tryz.prog 218 [Ca a,Ca b] Hp (A5 (Uy a b)):=by
 refine Aj [.tmp 4] [0,1] Tryz.func218 Tryz.ntmps218 (fun d=>?_)
 refine vl ?_;refine Z25 ?_;refine A9 Tryz.call37 (c37 a _) ?_;refine Wf ?_;refine Bk Tryz.call37 (fun hB=>c37 b _) ?_;refine Z92 ?_;refine A2 [2,3,12] ?_
 refine A3 (fun ht12=>?_) (fun ht12=>?_)
 ·have hm:Uy a b=0:=if_pos ht12
  exact vo
 have hm:Uy a b=orI [Kt a.kind b.kind,Kt a.n b.n,Lib.compareBytes a.s b.s]:=if_neg (by rw [ht12];simp)
 refine Z3 ?_;refine C3 [0,1,0,4,15,0,32,0,128,511,0,1024,0,4096,16383,32767,65535,131071] 14 Am (by kernel_rfl) ?_;refine O6 ?_;refine Cd Tryz.call270 (ATc _ _ _) ?_;refine O6 ?_;refine Cd Tryz.call271 (ATd _ _ _) ?_;refine Z9 ?_;refine Z85 ?_;refine A9 Tryz.call272 (AT8 _ _ _) ?_;refine Sq ?_;refine A9 Tryz.call269 (ATe [Kt a.kind b.kind,Kt a.n b.n,Lib.compareBytes a.s b.s] (by simp) _) ?_;refine A4 ?_;exact AB5

theorem ATg (t:Str) (a b:Int) (ha : -9223372036854775808≤a∧a≤9223372036854775807) (Hp:List AObj):AFun Tryz.prog 220 [Ac t,A5 a,A5 b] Hp (Nt (Ga (Gc t a b))):=by
 refine Aj [.cell 6 23,.tmp 7] [0,1,2] Tryz.func220 Tryz.ntmps220 (fun d=>?_)
 refine ji ?_;refine A2 [0,1,2,6] ?_;refine Z25 ?_;refine A2 [1,2,6,8] ?_;refine Z97 ?_;refine A2 [1,2,6,8,9] ?_
 refine A3 (fun ht9=>?_) (fun ht9=>?_)
 ·refine Z1 ?_;refine A9 Tryz.call273 (AT5 _ _ _) ?_;exact AFy
 refine Z1 ?_;refine A2 [1,2,6,8,19] ?_
 refine A3 (fun ht19=>?_) (fun ht19=>?_)
 ·refine Z1 ?_;refine A9 Tryz.call222 (AQ7 _ _ _) ?_;exact AFy
 refine Z1 ?_;refine A2 [1,2,6,8,29] ?_
 refine A3 (fun ht29=>?_) (fun ht29=>?_)
 ·refine Z1 ?_;refine A9 Tryz.call274 (AT9 _ _ _) ?_;exact AFy
 refine Z1 ?_;refine A2 [1,2,6,39] ?_
 refine A3 (fun ht39=>?_) (fun ht39=>?_)
 ·refine Z1 ?_;refine A9 Tryz.call275 (ATa _ _ _) ?_;exact AFy
 refine aq ?_;refine A9 Tryz.call276 (ATb _ _ ha _) ?_;refine AFv ?_;refine jb ?_;exact APb

theorem ATh (a b:Val) (fa:Fine a) (fb:Fine b) (Hp:List AObj):AFun Tryz.prog 219 [.slice false 3 [Ca a,Ca b]] Hp (Nt (Jb a b)):=by
 refine Aj [.cell 2 23,.tmp 3] [0] Tryz.func219 Tryz.ntmps219 (fun d=>?_)
 refine ji ?_;refine A2 [0,2] ?_;refine U8 ?_;refine Wi ?_;refine A9 Tryz.call174 (ADa [a,b] [2,2] (by simp) (by simp) _) ?_;refine Z0 ?_;refine A2 [0,2,4] ?_
 refine A3 (fun ht4=>?_) (fun ht4=>?_)
 ·have hm:Jb a b=D9 10:=if_pos ht4
  refine an ?_;refine Z47 ?_;exact Z23
 have hla:=fa.len
 have hlb:=fb.len
 refine C3 [0,1,3,7,15,0,32,96,224,480,1023,2047,4095] 10 Am (by kernel_rfl) ?_;refine Aq ?_
 refine Aq (h:=Ad (0) (Ca a) (fun _=>show ([Ca a,Ca b]:List AV)[0]? = some (Ca a) from rfl)) (hr:=?_)
 refine O6 ?_
 refine Aq (h:=Ad (1) (Ca b) (fun _=>show ([Ca a,Ca b]:List AV)[1]? = some (Ca b) from rfl)) (hr:=?_)
 refine Z37 ?_;refine Dq ?_
 refine A4 (h:=Q.add64 (h1:=fun _=>by omega) (h2:=fun _=>by omega)) (hr:=?_)
 refine Z0 ?_;refine A2 [0,2,12] ?_
 refine A3 (fun ht12=>?_) (fun ht12=>?_)
 ·have hm:Jb a b=D9 3:=by unfold Jb;rw [if_neg (by rw [ht4];simp),if_pos ht12]
  refine an ?_;refine Z47 ?_;exact Z23
 have hm:Jb a b=(Rq (a.s++b.s),0):=by unfold Jb;rw [if_neg (by rw [ht4];simp),if_neg (by rw [ht12];simp)]
 refine Z18 ?_;refine C3 [0,1,3,7,0,16,48,112,255,511,1023,2047] 8 Am (by kernel_rfl) ?_;refine Aq ?_
 refine Aq (h:=Ad (0) (Ca a) (fun _=>show ([Ca a,Ca b]:List AV)[0]? = some (Ca a) from rfl)) (hr:=?_)
 refine Z37 ?_
 refine Aq (h:=Ad (1) (Ca b) (fun _=>show ([Ca a,Ca b]:List AV)[1]? = some (Ca b) from rfl)) (hr:=?_)
 refine Z85 ?_
 refine A4 (h:=Nc (hl:=fun _=>by omega)) (hr:=?_)
 refine A9 Tryz.call223 (wy _ _) ?_;refine Z47 ?_;exact Z41

theorem ATi (t:Str) (a b:Val) (fa:Fine a) (fb:Fine b) (Hp:List AObj):AFun Tryz.prog 173 [Ac t,.slice false 3 [Ca a,Ca b]] Hp (Nt (J7 t a b)):=by
 refine Aj [.cell 4 23,.tmp 5] [0,1] Tryz.func173 Tryz.ntmps173 (fun d=>?_)
 refine ji ?_;refine A2 [0,1,4] ?_;refine Ki ?_;refine C3 [0,0,2,6,0,16,48,126,255,511,1023,1023,2047,8191] 13 Am (by kernel_rfl) ?_;refine Z9 ?_
 refine Aq (h:=Ad (0) (Ca a) (fun _=>show ([Ca a,Ca b]:List AV)[0]? = some (Ca a) from rfl)) (hr:=?_)
 refine Z9 ?_
 refine Aq (h:=Ad (1) (Ca b) (fun _=>show ([Ca a,Ca b]:List AV)[1]? = some (Ca b) from rfl)) (hr:=?_)
 refine Aq ?_;refine Cd Tryz.call218 (ATf _ _ _) ?_;refine Cd Tryz.call217 (AT4 _ _ _) ?_;refine Z9 ?_;refine Z85 ?_;refine A4 ?_;refine A2 [0,1,4,6,7] ?_;refine Z2 ?_;refine A2 [0,1,4,6,20] ?_
 refine A3 (fun ht20=>?_) (fun ht20=>?_)
 ·refine Ki ?_;refine C3 [0,1,3,7,0,16,48,112,255] 8 Am (by kernel_rfl) ?_;refine Aq ?_
  refine Aq (h:=Ad (0) (Ca a) (fun _=>show ([Ca a,Ca b]:List AV)[0]? = some (Ca a) from rfl)) (hr:=?_)
  refine Z37 ?_
  refine Aq (h:=Ad (1) (Ca b) (fun _=>show ([Ca a,Ca b]:List AV)[1]? = some (Ca b) from rfl)) (hr:=?_)
  refine Z85 ?_;refine A4 ?_;refine A2 [4,6,29] ?_
  refine A3 (fun ht29=>?_) (fun ht29=>?_)
  ·have hm:J7 t a b=D9 10:=by unfold J7;rw [if_pos ht20,if_pos ht29]
   refine an ?_;refine Z39 ?_;refine Z10 ?_;exact AJz
  have hm:J7 t a b=(Bs (Gd t (Uy a b)).1,0):=by unfold J7;rw [if_pos ht20,if_neg (by rw [ht29];simp)]
  refine Z58 ?_;refine A9 Tryz.call88 (c88 _ _) ?_;exact vp
 refine Re ?_;refine A2 [0,1,4,36] ?_
 refine A3 (fun ht36=>?_) (fun ht36=>?_)
 ·have hm:J7 t a b=Jb a b:=by unfold J7;rw [if_neg (by rw [ht20];simp),if_pos ht36]
  refine Z2 ?_;refine A9 Tryz.call219 (ATh a b fa fb _) ?_;refine Z0 ?_;exact vp
 refine Nk ?_;refine Wi ?_;refine A9 Tryz.call174 (ADa [a,b] [1,1] (by simp) (by simp) _) ?_;refine A4 ?_;refine A2 [0,1,4,44] ?_
 refine A3 (fun ht44=>?_) (fun ht44=>?_)
 ·have hm:J7 t a b=D9 10:=by unfold J7;rw [if_neg (by rw [ht20];simp),if_neg (by rw [ht36];simp),if_pos ht44]
  refine an ?_;exact vp
 have hm:J7 t a b=Ga (Gc t a.n b.n):=by unfold J7;rw [if_neg (by rw [ht20];simp),if_neg (by rw [ht36];simp),if_neg (by rw [ht44];simp)]
 refine Z3 ?_;refine C3 [0,0,2,6,14,0,32,96,224,511,1023,1023,4095,8191] 12 Am (by kernel_rfl) ?_;refine Z9 ?_
 refine Aq (h:=Ad (0) (Ca a) (fun _=>show ([Ca a,Ca b]:List AV)[0]? = some (Ca a) from rfl)) (hr:=?_)
 refine Z37 ?_
 refine Aq (h:=Ad (1) (Ca b) (fun _=>show ([Ca a,Ca b]:List AV)[1]? = some (Ca b) from rfl)) (hr:=?_)
 refine Z9 ?_;refine Cd Tryz.call220 (ATg _ _ _ ⟨fa.lo,fa.hi⟩ _) ?_;refine Z85 ?_;exact ny

theorem ALm (s:Str) (n:Int):∃k:Nat,(if (0:Int)<(if (s.length:Int)<n then (s.length:Int) else n) then (if (s.length:Int)<n then (s.length:Int) else n) else 0)=(k:Int)∧k≤s.length∧k=(max 0 (min n s.length)).toNat:=by
 refine ⟨(max 0 (min n s.length)).toNat,?_,?_,rfl⟩<;>repeat' split
 all_goals omega
theorem ATj (t s:Str) (n:Int) (hs:s.length≤1048576) (Hp:List AObj):AFun Tryz.prog 178 [Ac t,Ac s,A5 n] Hp (Ca (Kk t s n)):=by
 refine Aj [.cell 6 23] [0,1,2] Tryz.func178 Tryz.ntmps178 (fun d=>?_)
 refine AFx ?_;refine Z14 ?_;refine R.minI ?_;refine R.maxI ?_
 obtain ⟨k,hk,hks,hke⟩:=ALm s n
 simp only [hk]
 refine A4 ?_;refine A2 [0,1,6,7] ?_;refine Z8 ?_;refine A2 [1,6,7,14] ?_
 refine A3 (fun ht14=>?_) (fun ht14=>?_)
 ·have hm:Kk t s n=Rq (s.take k):=by unfold Kk;rw [if_pos ht14,←hke]
  refine Z1 ?_
  refine A4 (h:=Kf k (fun _=>Av _) (fun _=>hks)) (hr:=?_)
  refine A9 Tryz.call223 (wy _ _) ?_;refine G4 ?_;refine A2 [6] ?_;refine Z10 ?_;exact APc
 have hm:Kk t s n=Rq (s.drop (s.length-k)):=by unfold Kk;rw [if_neg (by rw [ht14];simp),←hke]
 refine U9 ?_
 refine A4 (h:=Q.sub64 (h1:=fun _=>by omega) (h2:=fun _=>by omega)) (hr:=?_)
 refine A4 (h:=R9 (s.length-k) (fun _=>show s.length-k≤s.length by omega) (fun _=>Ao _)) (hr:=?_)
 refine A9 Tryz.call223 (wy _ _) ?_;refine nw ?_;exact APc

theorem ATk (t:Str) (v:Val) (h:Fine v) (Hp:List AObj):AFun Tryz.prog 177 [Ac t,Ca v] Hp (Nt (J3 t v)):=by
 have hlen:=h.len
 refine Aj [.cell 4 23,.tmp 5] [0,1] Tryz.func177 Tryz.ntmps177 (fun d=>?_)
 refine j8 ?_;refine fl ?_;refine jk ?_;refine Z67 ?_;refine A2 [0,3,4,6] ?_
 refine A3 (fun ht6=>?_) (fun ht6=>?_)
 ·have hm:J3 t v=(Rq (Lib.itoa v.n),0):=if_pos ht6
  refine Z1 ?_;refine A9 Tryz.call160 (AQ1 _ h.lo h.hi _) ?_;refine A9 Tryz.call223 (wy _ _) ?_;exact P0
 refine Z14 ?_;refine Z67 ?_;refine A2 [0,3,4,18] ?_
 refine A3 (fun ht18=>?_) (fun ht18=>?_)
 ·have hm:J3 t v=(⟨1,v.s.length,[]⟩,0):=by unfold J3;rw [if_neg (by rw [ht6];simp),if_pos ht18]
  refine Z14 ?_;refine A9 Tryz.call221 (AL6 _ _) ?_;exact P0
 refine Z14 ?_;refine Z67 ?_;refine A2 [3,4,30] ?_
 refine A3 (fun ht30=>?_) (fun ht30=>?_)
 ·have hm:J3 t v=Ga (Cf v.s):=by unfold J3;rw [if_neg (by rw [ht6];simp),if_neg (by rw [ht18];simp),if_pos ht30]
  refine Z1 ?_;refine A9 Tryz.call224 (AQ0 v.s (by omega) _) ?_;refine AFv ?_;exact P0
 have hm:J3 t v=D9 10:=by unfold J3;rw [if_neg (by rw [ht6];simp),if_neg (by rw [ht18];simp),if_neg (by rw [ht30];simp)]
 refine Z18 ?_;refine an ?_;exact ny

theorem AH8 {vs:List Val} (h:0<vs.length):vs.getD 0 noV=vs[0]:=by rw [Cz,Ae h];rfl
/-- As many values as a node asks for. -/
structure ArgsOk (o:Int) (vs:List Val):Prop where
 two:o=5→∃a b,vs=[a,b]
 one:o=3∨o=4→vs.length=1
 call:o=6→vs.length=1∨∃a b,vs=[a,b]
 fine:∀v∈vs,Fine v
theorem ATl (e:Expr) (vs:List Val) (h:ArgsOk e.op vs) (Hp:List AObj):AFun Tryz.prog 137 [Ab e,P1 vs] Hp (Nt (Bo e.op e.text vs)):=by
 refine Aj [.cell 4 23,.tmp 5] [0,1] Tryz.func137 Tryz.ntmps137 (fun d=>?_)
 refine j8 ?_;refine A2 [1,2,4] ?_;refine Z16 ?_;refine Z21 ?_;refine A2 [1,2,4,6] ?_
 refine A3 (fun ht6=>?_) (fun ht6=>?_)
 ·obtain ⟨a,b,rfl⟩:=h.two (by simpa using ht6)
  have hm:Bo e.op e.text [a,b]=J7 e.text a b:=if_pos ht6
  refine Z14 ?_;refine A9 Tryz.call173 (ATi e.text a b (h.fine a (by simp)) (h.fine b (by simp)) _) ?_;refine Z0 ?_;exact P0
 refine fg ?_;refine U5 jU jS jZ ?_
 refine Bk Tryz.call174 (C:=((e.op==3)==true)) (fun hB=>ADa vs [1] (by have:=h.one (.inl (by simpa using hB));simp [this]) (by simp) _) ?_
 refine Z0 ?_;refine A2 [1,2,4,16] ?_
 refine A3 (fun ht16=>?_) (fun ht16=>?_)
 ·have hm0:((e.op==3)&&Cx vs [1])=true:=ht16
  have hop:e.op=3:=by simp only [Ah,beq_iff_eq] at hm0;exact hm0.1
  have hln:=h.one (.inl hop)
  have hg0:(vs.map Ca)[0]? = some (Ca (vs.getD 0 noV)):=by rw [AH8 (by omega)];exact B3 (by omega)
  have hm:Bo e.op e.text vs=Ga (Pa 0 (vs.getD 0 noV).n):=by unfold Bo;rw [if_neg (by rw [ht6];simp),if_pos ht16]
  refine Z2 ?_
  refine A4 (h:=Ad (0) (Ca (vs.getD 0 noV)) (fun _=>hg0)) (hr:=?_)
  refine Z0 ?_;refine A9 Tryz.call176 (AT6 _ _) ?_;refine AFv ?_;exact P0
 refine fg ?_;refine U5 jU jS jZ ?_
 refine Bk Tryz.call174 (C:=((e.op==4)==true)) (fun hB=>ADa vs [3] (by have:=h.one (.inr (by simpa using hB));simp [this]) (by simp) _) ?_
 refine Z0 ?_;refine A2 [1,2,4,35] ?_
 refine A3 (fun ht35=>?_) (fun ht35=>?_)
 ·have hm0:((e.op==4)&&Cx vs [3])=true:=ht35
  have hop:e.op=4:=by simp only [Ah,beq_iff_eq] at hm0;exact hm0.1
  have hln:=h.one (.inr hop)
  have hg0:(vs.map Ca)[0]? = some (Ca (vs.getD 0 noV)):=by rw [AH8 (by omega)];exact B3 (by omega)
  have hm:Bo e.op e.text vs=(Bs ((vs.getD 0 noV).n==0),0):=by unfold Bo;rw [if_neg (by rw [ht6];simp),if_neg (by rw [ht16];simp),if_pos ht35]
  refine Z2 ?_
  refine A4 (h:=Ad (0) (Ca (vs.getD 0 noV)) (fun _=>hg0)) (hr:=?_)
  refine Z11 ?_;refine A9 Tryz.call88 (c88 _ _) ?_;exact P0
 refine Z21 ?_;refine A2 [1,2,4,50] ?_
 refine A3 (fun ht50=>?_) (fun ht50=>?_)
 ·have hm:Bo e.op e.text vs=D9 10:=by unfold Bo;rw [if_neg (by rw [ht6];simp),if_neg (by rw [ht16];simp),if_neg (by rw [ht35];simp),if_pos ht50]
  refine an ?_;exact P0
 have hop:e.op=6:=by simpa using ht50
 have hcl:=h.call hop
 refine Z21 ?_;refine A2 [1,2,4,57] ?_
 refine A3 (fun ht57=>?_) (fun ht57=>?_)
 ·rw [B8] at ht57
  have hln:vs.length=1:=by have:=ht57;simp only [beq_iff_eq] at this;omega
  have hg0:(vs.map Ca)[0]? = some (Ca (vs.getD 0 noV)):=by rw [AH8 (by omega)];exact B3 (by omega)
  have hf0:Fine (vs.getD 0 noV):=by rw [AH8 (by omega)];exact h.fine _ (Bb _)
  have hm:Bo e.op e.text vs=J3 e.text (vs.getD 0 noV):=by unfold Bo;rw [if_neg (by rw [ht6];simp),if_neg (by rw [ht16];simp),if_neg (by rw [ht35];simp),if_neg (by rw [ht50];simp),if_pos ht57]
  refine C3 [0,1,0,4,12,31,63,63,255,511] 8 Am (by kernel_rfl) ?_;refine Z37 ?_
  refine Aq (h:=Ad (0) (Ca (vs.getD 0 noV)) (fun _=>hg0)) (hr:=?_)
  refine Aq ?_;refine Cd Tryz.call177 (ATk _ _ hf0 _) ?_;refine Z85 ?_;exact P0
 rw [B8] at ht57
 obtain ⟨a,b,rfl⟩:∃a b,vs=[a,b]:=by
  rcases hcl with h1|h1
  ·exfalso
   have:=ht57
   rw [h1] at this
   simp at this
  exact h1
 refine Z2 ?_;refine Wi ?_;refine A9 Tryz.call174 (ADa [a,b] [2,1] (by simp) (by simp) _) ?_;refine Z0 ?_;refine A2 [1,2,4,69] ?_
 refine A3 (fun ht69=>?_) (fun ht69=>?_)
 ·have hm:Bo e.op e.text [a,b]=D9 10:=by unfold Bo;rw [if_neg (by rw [ht6];simp),if_neg (by rw [ht16];simp),if_neg (by rw [ht35];simp),if_neg (by rw [ht50];simp),if_neg (by rw [ht57];simp),if_pos ht69]
  refine an ?_;exact P0
 have hm:Bo e.op e.text [a,b]=(Kk e.text a.s b.n,0):=by unfold Bo;rw [if_neg (by rw [ht6];simp),if_neg (by rw [ht16];simp),if_neg (by rw [ht35];simp),if_neg (by rw [ht50];simp),if_neg (by rw [ht57];simp),if_neg (by rw [ht69];simp)];rfl
 refine Z18 ?_;refine C3 [0,1,0,4,12,28,0,64,192,448,1023,2047,4095] 10 Am (by kernel_rfl) ?_;refine Z37 ?_
 refine Aq (h:=Ad (0) (Ca a) (fun _=>show ([Ca a,Ca b]:List AV)[0]? = some (Ca a) from rfl)) (hr:=?_)
 refine Z37 ?_
 refine Aq (h:=Ad (1) (Ca b) (fun _=>show ([Ca a,Ca b]:List AV)[1]? = some (Ca b) from rfl)) (hr:=?_)
 refine Z85 ?_
 refine A9 Tryz.call178 (ATj e.text a.s b.n (by have:=(h.fine a (by simp)).len;omega) _) ?_
 exact ny

theorem Qb (a b:Val):((a.kind==b.kind&&a.n==b.n)&&a.s==b.s)=(a==b):=by
 obtain ⟨k,n,s⟩:=a
 obtain ⟨k',n',s'⟩:=b
 by_cases h:(⟨k,n,s⟩:Val)=⟨k',n',s'⟩
 ·injection h with h1 h2 h3
  subst h1;subst h2;subst h3
  simp
 have:((⟨k,n,s⟩:Val)==⟨k',n',s'⟩)=false:=by simpa using h
 rw [this]
 simp only [dq,beq_eq_false_iff_ne]
 by_cases h1:k=k'
 ·by_cases h2:n=n'
  ·right
   rintro rfl
   exact h (by rw [h1,h2])
  exact .inl (.inr h2)
 exact .inl (.inl h1)
/-- What eval answers for a tree, over any heap. -/
abbrev Ku (c:List Col) (l:List Val) (e:Expr) (r:Rs):Prop:=∀Hp,AFun Tryz.prog 44 [Yy c l,Ab e] Hp (Nt r)
theorem AQb (c:List Col) (l:List Val) (x:Expr) (r:Rs) (h:Ku c l x r) (Hp:List AObj):AFun Tryz.prog 136 [Yy c l,Ab x] Hp (Nt (Ba r)):=by
 refine Aj [.cell 4 23,.tmp 5] [0,1] Tryz.func136 Tryz.ntmps136 (fun d=>?_)
 refine ABd ?_;refine Z1 ?_;refine A9 Tryz.call44 (h _) ?_;refine Z94 ?_;refine A2 [4,6,7] ?_;refine Z31 ?_;refine Z67 ?_;refine Mf ?_;refine A2 [4,6,7,25] ?_
 refine A3 (fun ht25=>?_) (fun ht25=>?_)
 ·have hm:Ba r=D9 10:=if_pos ht25
  refine an ?_;exact vp
 have hm:Ba r=r:=if_neg (by rw [ht25];simp)
 refine Z98 ?_;exact ny

theorem c87 (c:List Col) (l:List Val) (x k0 k1:Expr) (s:Val) (ra rb:Rs) (h0:(x.kids.map Ab)[0]? = some (Ab k0)) (h1:(x.kids.map Ab)[1]? = some (Ab k1)) (ha:Ku c l k0 ra) (hb:Ku c l k1 rb) (Hp:List AObj):AFun Tryz.prog 87 [Yy c l,Ab x,Ca s] Hp (Nt (Gb s ra rb)):=by
 refine Aj [.cell 6 23,.tmp 7] [0,1,2] Tryz.func87 Tryz.ntmps87 (fun d=>?_)
 refine Z14 ?_;refine Z49 ?_;refine A2 [3,4,5,6] ?_;refine Hc [0,0,2,6,14,31,63,127,127,0,767,2047] [9,10] [.q 9 [] [],.s [8] (some 0) [] [1],.s [] (some 1) [0] []] (fun _=>Hp) (fun B=>if B 0=true then [.cells 23 [A5 0,A5 0,Ac []],(if B 1=true then .cells 23 [A5 (Ba ra).1.kind,A5 (Ba ra).1.n,Ac (Ba ra).1.s] else .cells 23 [A5 0,A5 0,Ac []]:AObj)] else [.cells 23 [A5 0,A5 0,Ac []]]) Am (by kernel_rfl) rfl rfl (fun _=>rfl) ?_
 apply Y.q
 ·intro B hT hF
  refine Z37 ?_
  refine Aq (h:=Ad (0) (Ab k0) (fun _=>h0)) (hr:=?_)
  refine Aq ?_;exact AOm
 case hTF=>decide
 refine Z78 ?_;refine ANa ?_;refine A2 [3,4,5,6,8,9] ?_;refine Z31 ?_;refine Z5 ?_
 refine Bl (h:=M8 Ud (fun w=>Ho (Ba ra).1.kind (Ba ra).1.n s.kind s.n (Ba ra).1.s s.s w)) (hr:=?_)
 refine A4 ?_;refine A2 [3,4,5,6,8,9,26] ?_
 refine A3 (fun ht26=>?_) (fun ht26=>?_)
 ·rw [Qb] at ht26
  have hm:Gb s ra rb=Ba ra:=if_pos ht26
  refine Z1 ?_;refine Z15 ?_;exact Z44
 rw [Qb] at ht26
 refine Z3 ?_;refine Hc [0,0,2,6,14,31,63,127,127,0,767,2047] [9,10] [.q 9 [] [],.s [10] (some 0) [] [1],.s [] (some 1) [0] []] (fun _=>Hp) (fun B=>if B 0=true then [.cells 23 [A5 0,A5 0,Ac []],.cells 23 [A5 (Ba ra).1.kind,A5 (Ba ra).1.n,Ac (Ba ra).1.s],(if B 1=true then .cells 23 [A5 (Ba rb).1.kind,A5 (Ba rb).1.n,Ac (Ba rb).1.s] else .cells 23 [A5 0,A5 0,Ac []]:AObj)] else [.cells 23 [A5 0,A5 0,Ac []],.cells 23 [A5 (Ba ra).1.kind,A5 (Ba ra).1.n,Ac (Ba ra).1.s]]) Am (by kernel_rfl) rfl rfl (fun _=>rfl) ?_
 apply Y.q
 ·intro B hT hF
  refine Z37 ?_
  refine Aq (h:=Ad (1) (Ab k1) (fun _=>h1)) (hr:=?_)
  refine Aq ?_;refine Cd Tryz.call136 (AQb c l k1 rb hb _) ?_;exact AKm
 case hTF=>decide
 refine Y.alloc (zs:=[A5 0,A5 0,Ac []]) (n:=2) (u:=Hp.length) Tryz.zeroValue23 (fun B hT hF hB=>⟨rfl,by simp [hB],by simp [upd,hB,hF 1 (by simp)],rfl⟩) ?_;refine f7 (u:=Hp.length) (n:=2) (t':=23) (cs:=[A5 0,A5 0,Ac []]) (cs':=[A5 (Ba rb).1.kind,A5 (Ba rb).1.n,Ac (Ba rb).1.s]) Tryz.sizeOf23 (fun B hT hF hB=>⟨rfl,by simp [hT 0 (by simp),hB],by simp [upd,hT 0 (by simp),hB],rfl⟩) ?_;refine Hd (tn:=[9,10]) (O:=[.cells 23 [A5 0,A5 0,Ac []],.cells 23 [A5 (Ba ra).1.kind,A5 (Ba ra).1.n,Ac (Ba ra).1.s],.cells 23 [A5 (Ba rb).1.kind,A5 (Ba rb).1.n,Ac (Ba rb).1.s]]) ?_;refine A4 ?_;refine A2 [5,6,8,9,10] ?_;refine Z31 ?_;refine Z5 ?_
 refine Bl (h:=M8 Ud (fun w=>Ho (Ba rb).1.kind (Ba rb).1.n s.kind s.n (Ba rb).1.s s.s w)) (hr:=?_)
 refine Z0 ?_;refine Mf ?_;refine A2 [6,8,9,10,49] ?_
 refine A3 (fun ht49=>?_) (fun ht49=>?_)
 ·rw [Qb] at ht49
  have hm:Gb s ra rb=Ba rb:=by unfold Gb;rw [if_neg (by rw [ht26];simp),if_pos ht49]
  refine Z1 ?_;refine Z15 ?_;exact Z44
 rw [Qb] at ht49
 have hm:Gb s ra rb=((Ba ra).1,0):=by unfold Gb;rw [if_neg (by rw [ht26];simp),if_neg (by rw [ht49];simp)]
 refine Z58 ?_;refine Z15 ?_;exact Z41

theorem c89 (c:List Col) (l:List Val) (x k0 k1 k2:Expr) (ra rb d2:Rs) (h0:(x.kids.map Ab)[0]? = some (Ab k0)) (h1:(x.text==Co)=false→(x.kids.map Ab)[1]? = some (Ab k1)) (h2:(x.text==ifW)=true→(x.kids.map Ab)[2]? = some (Ab k2)) (ha:Ku c l k0 ra) (hb:(x.text==Co)=false→Ku c l k1 rb) (hd:(x.text==ifW)=true→Ku c l k2 d2) (Hp:List AObj):AFun Tryz.prog 89 [Yy c l,Ab x] Hp (Nt (Ed x.text ra rb d2)):=by
 refine Aj [.cell 4 23,.tmp 5] [0,1] Tryz.func89 Tryz.ntmps89 (fun d=>?_)
 refine ABd ?_;refine Z31 ?_;refine A2 [2,3,4,12] ?_
 refine A3 (fun ht12=>?_) (fun ht12=>?_)
 ·have hni:(x.text==Co)=false:=by
   have e:x.text=ifW:=by simpa [ifW] using ht12
   rw [e];rfl
  have hc:Ed x.text ra rb d2=(if (Ba ra).2 != 0 then D9 (Ba ra).2 else if (Ba ra).1==Bs true then rb else d2):=if_pos ht12
  refine Hc [0,0,2,6,14,31,63,127,127,0,767,2047] [9,10] [.q 9 [] [],.s [6] (some 0) [] [1],.s [] (some 1) [0] []] (fun _=>Hp) (fun B=>if B 0=true then [.cells 23 [A5 0,A5 0,Ac []],(if B 1=true then .cells 23 [A5 (Ba ra).1.kind,A5 (Ba ra).1.n,Ac (Ba ra).1.s] else .cells 23 [A5 0,A5 0,Ac []]:AObj)] else [.cells 23 [A5 0,A5 0,Ac []]]) Am (by kernel_rfl) rfl rfl (fun _=>rfl) ?_
  apply Y.q
  ·intro B hT hF
   refine Z37 ?_
   refine Aq (h:=Ad (0) (Ab k0) (fun _=>h0)) (hr:=?_)
   refine Aq ?_;exact AOm
  case hTF=>decide
  refine Z78 ?_;refine ANa ?_;refine A2 [2,3,4,6,7] ?_;refine jk ?_;refine A2 [2,3,4,6,7,22] ?_
  refine A3 (fun ht22=>?_) (fun ht22=>?_)
  ·have hm:Ed x.text ra rb d2=D9 (Ba ra).2:=by rw [hc,if_pos ht22]
   refine Z2 ?_;refine Z63 ?_;refine Z39 ?_;refine Z13 ?_;exact AJz
  refine AFl ?_;refine Cd Tryz.call88 (c88 true _) ?_;refine Dq ?_
  refine A4 (h:=M8 Ud (fun w=>Ho (Ba ra).1.kind (Ba ra).1.n 3 1 (Ba ra).1.s [] w)) (hr:=?_)
  refine A4 ?_;refine A2 [2,3,4,29] ?_
  refine A3 (fun ht29=>?_) (fun ht29=>?_)
  ·rw [Qb (Ba ra).1 ⟨3,1,[]⟩] at ht29
   have ht29b:((Ba ra).1==Bs true)=true:=ht29
   have hm:Ed x.text ra rb d2=rb:=by rw [hc,if_neg (by rw [ht22];simp),if_pos ht29b]
   refine AK8 ?_
   refine Aq (h:=Ad (1) (Ab k1) (fun _=>h1 hni)) (hr:=?_)
   refine Aq ?_;refine Cd Tryz.call44 (hb hni _) ?_;refine Z85 ?_;refine Z39 ?_;refine Z13 ?_;exact AJz
  rw [Qb (Ba ra).1 ⟨3,1,[]⟩] at ht29
  have hm:Ed x.text ra rb d2=d2:=by rw [hc,if_neg (by rw [ht22];simp),if_neg (by show ¬((Ba ra).1==⟨3,1,[]⟩)=true;rw [ht29];simp)]
  refine Z18 ?_;refine AK8 ?_
  refine Aq (h:=Ad (2) (Ab k2) (fun _=>h2 ht12)) (hr:=?_)
  refine Aq ?_;refine Cd Tryz.call44 (hd ht12 _) ?_;refine Z85 ?_;exact vp
 have hc:Ed x.text ra rb d2=(if ra.2 != 0 then D9 ra.2 else if x.text==Co then (Bs (ra.1.kind==0),0) else if ra.1.kind != 0 then (ra.1,0) else rb):=if_neg (by show ¬(x.text==ifW)=true;rw [show (x.text==ifW)=false from ht12];simp)
 refine Z3 ?_;refine Hc [0,0,2,6,14,31,63,127,127,0,767,2047] [9,10] [.q 9 [] [],.s [8] (some 0) [] [1],.s [] (some 1) [0] []] (fun _=>Hp) (fun B=>if B 0=true then [.cells 23 [A5 0,A5 0,Ac []],(if B 1=true then .cells 23 [A5 ra.1.kind,A5 ra.1.n,Ac ra.1.s] else .cells 23 [A5 0,A5 0,Ac []]:AObj)] else [.cells 23 [A5 0,A5 0,Ac []]]) Am (by kernel_rfl) rfl rfl (fun _=>rfl) ?_
 apply Y.q
 ·intro B hT hF
  refine Z37 ?_
  refine Aq (h:=Ad (0) (Ab k0) (fun _=>h0)) (hr:=?_)
  refine Aq ?_;refine Cd Tryz.call44 (ha _) ?_;exact AKm
 case hTF=>decide
 refine APd ?_;refine f7 (u:=Hp.length) (n:=1) (t':=23) (cs:=[A5 0,A5 0,Ac []]) (cs':=[A5 ra.1.kind,A5 ra.1.n,Ac ra.1.s]) Tryz.sizeOf23 (fun B hT hF hB=>⟨rfl,by simp [hT 0 (by simp),hB],by simp [upd,hT 0 (by simp),hB],rfl⟩) ?_;refine Hd (tn:=[9,10]) (O:=[.cells 23 [A5 0,A5 0,Ac []],.cells 23 [A5 ra.1.kind,A5 ra.1.n,Ac ra.1.s]]) ?_;refine A4 ?_;refine A2 [2,3,4,8,9] ?_;refine jk ?_;refine A2 [2,3,4,8,9,58] ?_
 refine A3 (fun ht58=>?_) (fun ht58=>?_)
 ·have hm:Ed x.text ra rb d2=D9 ra.2:=by rw [hc,if_pos ht58]
  refine Z2 ?_;refine Z63 ?_;exact P0
 refine Z21 ?_;refine A2 [2,3,4,8,65] ?_
 refine A3 (fun ht65=>?_) (fun ht65=>?_)
 ·have hm:Ed x.text ra rb d2=(Bs (ra.1.kind==0),0):=by rw [hc,if_neg (by rw [ht58];simp),if_pos (show (x.text==Co)=true from ht65)]
  refine Z14 ?_;refine A9 Tryz.call88 (c88 _ _) ?_;exact P0
 refine Z21 ?_;refine A2 [2,3,4,8,73] ?_
 refine A3 (fun ht73=>?_) (fun ht73=>?_)
 ·have hm:Ed x.text ra rb d2=(ra.1,0):=by rw [hc,if_neg (by rw [ht58];simp),if_neg (by show ¬(x.text==Co)=true;rw [show (x.text==Co)=false from ht65];simp),if_pos ht73]
  refine Z2 ?_;exact P0
 have hm:Ed x.text ra rb d2=rb:=by rw [hc,if_neg (by rw [ht58];simp),if_neg (by show ¬(x.text==Co)=true;rw [show (x.text==Co)=false from ht65];simp),if_neg (by rw [ht73];simp)]
 refine Z18 ?_;refine AK8 ?_
 refine Aq (h:=Ad (1) (Ab k1) (fun _=>h1 ht65)) (hr:=?_)
 refine Aq ?_;refine Cd Tryz.call44 (hb ht65 _) ?_;refine Z85 ?_;exact ny

abbrev Yz (s:Sign):AV:=.agg [.slice false 1 (s.kids.map A5),A5 s.own]
theorem ADd {m:Sign} {a o:Int} (h:m=⟨[a],o⟩):AV.agg [.slice false 1 [A5 a],A5 o]=Yz m:=by rw [h];rfl
theorem ADe {m:Sign} {a b o:Int} (h:m=⟨[a,b],o⟩):AV.agg [.slice false 1 [A5 a,A5 b],A5 o]=Yz m:=by rw [h];rfl
theorem ADf {m:Sign} {a b c o:Int} (h:m=⟨[a,b,c],o⟩):AV.agg [.slice false 1 [A5 a,A5 b,A5 c],A5 o]=Yz m:=by rw [h];rfl
theorem ATm (s:Str) (Hp:List AObj):AFun Tryz.prog 127 [Ac s] Hp (Yz (Hr s)):=by
 refine Aj [.cell 2 130] [0] Tryz.func127 Tryz.ntmps127 (fun d=>?_)
 refine Z77 ?_;refine Z25 ?_;refine Ua ?_;refine J6 ?_
 refine Hw ⟨24,Aa 2 (.ptr (oid Hp.length 0) 0) (Aa 3 (Ac s) (Aa 4 (At ((s==[111,114]) || (s==[97,110,100]))) (fun _=>.any))),Hp,[.cells 130 [.nil,A5 0]],[],none⟩ ?_ ?_
 ·refine Z1 ?_;refine Wj ?_
  refine A3 (fun ht4=>?_) (fun ht4=>?_)
  ·refine Di [2,3,4] ?_;exact Z95
  refine Z29 ?_;refine Wj ?_;exact Z38
 refine A3 (fun ht4=>?_) (fun ht4=>?_)
 ·refine j7 ?_;exact Z75
 refine Hw ⟨24,Aa 2 (.ptr (oid Hp.length 0) 0) (Aa 3 (Ac s) (Aa 9 (At ((((((s==[61]) || (s==[33,61])) || (s==[60])) || (s==[60,61])) || (s==[62])) || (s==[62,61]))) (fun _=>.any))),Hp,[.cells 130 [.nil,A5 0]],[],none⟩ ?_ ?_
 ·refine vj ?_
  refine A3 (fun ht9=>?_) (fun ht9=>?_)
  ·exact AB7
  refine vj ?_
  refine A3 (fun ht9=>?_) (fun ht9=>?_)
  ·exact AB7
  refine vj ?_
  refine A3 (fun ht9=>?_) (fun ht9=>?_)
  ·exact AB7
  refine vj ?_
  refine A3 (fun ht9=>?_) (fun ht9=>?_)
  ·exact AB7
  refine vj ?_
  refine A3 (fun ht9=>?_) (fun ht9=>?_)
  ·exact AB7
  refine Z29 ?_;refine A2 [2,3,9] ?_;exact Z38
 refine A3 (fun ht9=>?_) (fun ht9=>?_)
 ·refine j7 ?_;exact Z75
 refine Z1 ?_;refine A2 [2,18] ?_
 refine A3 (fun ht18=>?_) (fun ht18=>?_)
 ·refine j7 ?_;exact Z75
 refine Z18 ?_;refine j7 ?_;exact APe
theorem ATn (s:Str) (Hp:List AObj):AFun Tryz.prog 128 [Ac s] Hp (Yz (G8 s)):=by
 refine Aj [.cell 2 130] [0] Tryz.func128 Tryz.ntmps128 (fun d=>?_)
 refine Z77 ?_;refine Z25 ?_;refine Ua ?_;refine J6 ?_
 refine Hw ⟨28,Aa 2 (.ptr (oid Hp.length 0) 0) (Aa 3 (Ac s) (Aa 4 (At ((s==[108,101,110]) || (s==[110,117,109]))) (fun _=>.any))),Hp,[.cells 130 [.nil,A5 0]],[],none⟩ ?_ ?_
 ·refine Z1 ?_;refine Wj ?_
  refine A3 (fun ht4=>?_) (fun ht4=>?_)
  ·refine Di [2,3,4] ?_;exact Z95
  refine Z29 ?_;refine Wj ?_;exact Z38
 refine A3 (fun ht4=>?_) (fun ht4=>?_)
 ·exact ABe
 refine vj ?_
 refine A3 (fun ht9=>?_) (fun ht9=>?_)
 ·exact ABe
 refine Hw ⟨28,Aa 2 (.ptr (oid Hp.length 0) 0) (Aa 3 (Ac s) (Aa 13 (At ((s==[108,101,102,116]) || (s==[114,105,103,104,116]))) (fun _=>.any))),Hp,[.cells 130 [.nil,A5 0]],[],none⟩ ?_ ?_
 ·refine Z1 ?_;refine A2 [2,3,13] ?_
  refine A3 (fun ht13=>?_) (fun ht13=>?_)
  ·refine Di [2,3,13] ?_;exact Z95
  refine Z29 ?_;refine A2 [2,3,13] ?_;exact Z38
 refine A3 (fun ht13=>?_) (fun ht13=>?_)
 ·exact ABe
 refine Z1 ?_;refine A2 [2,3,18] ?_
 refine A3 (fun ht18=>?_) (fun ht18=>?_)
 ·exact ABe
 refine Z1 ?_;refine A2 [2,22] ?_
 refine A3 (fun ht22=>?_) (fun ht22=>?_)
 ·exact ABe
 refine Z18 ?_;refine j7 ?_;exact APf
theorem c79 (e:Expr) (Hp:List AObj):AFun Tryz.prog 79 [Ab e] Hp (Yz (Qw e.op e.text)):=by
 refine Aj [.cell 2 130] [0] Tryz.func79 Tryz.ntmps79 (fun d=>?_)
 refine Z2 ?_;refine ABb ?_;refine Z8 ?_;refine A2 [1,2,4] ?_;refine Z97 ?_;refine A2 [1,2,4,5] ?_
 refine A3 (fun ht5=>?_) (fun ht5=>?_)
 ·refine j7 ?_;exact AK6
 refine Z1 ?_;refine A2 [1,2,4,9] ?_
 refine A3 (fun ht9=>?_) (fun ht9=>?_)
 ·refine j7 ?_;exact AK6
 refine Z1 ?_;refine A2 [1,2,13] ?_
 refine A3 (fun ht13=>?_) (fun ht13=>?_)
 ·refine Z1 ?_;refine A9 Tryz.call127 (ATm e.text _) ?_;refine Z24 ?_;exact AK6
 refine aq ?_;refine A9 Tryz.call128 (ATn e.text _) ?_;refine Z24 ?_;exact APg

theorem AQc (a b:Int) (Hp:List AObj):AFun Tryz.prog 129 [A5 a,A5 b] Hp (.tup [A5 (H3 a b).1,At (H3 a b).2]):=by
 refine Aj [.tmp 4,.tmp 5] [0,1] Tryz.func129 Tryz.ntmps129 (fun d=>?_)
 refine j9 ?_;refine jk ?_;refine A2 [0,1,6] ?_
 refine A3 (fun ht6=>?_) (fun ht6=>?_)
 ·refine Z14 ?_;exact AO0
 refine Z14 ?_;refine Z67 ?_;refine A2 [0,10] ?_
 refine A3 (fun ht10=>?_) (fun ht10=>?_)
 ·refine Z14 ?_;exact AO0
 refine aq ?_;refine Z73 ?_;exact APh

structure FitAt (s:Sign) (ks:List Int) (x:Nat×Int):Prop where
 le:x.1≤ks.length
 eq:Qk s.kids ks 0=Qk (s.kids.drop x.1) (ks.drop x.1) x.2
theorem FitAt.step {s:Sign} {ks:List Int} {x:Nat×Int} (h:FitAt s ks x) (hk:x.1<ks.length) (hs:x.1<s.kids.length):Qk s.kids ks 0=(if s.kids[x.1] == -2 then Qk (s.kids.drop (x.1+1)) (ks.drop (x.1+1)) x.2 else if s.kids[x.1] == -1 then (if (H3 x.2 ks[x.1]).2 then Qk (s.kids.drop (x.1+1)) (ks.drop (x.1+1)) (H3 x.2 ks[x.1]).1 else none) else if (H3 s.kids[x.1] ks[x.1]).2 then Qk (s.kids.drop (x.1+1)) (ks.drop (x.1+1)) x.2 else none):=by
 rw [h.eq,H6 hk,H6 hs,Qk]
theorem FitAt.skip {s:Sign} {ks:List Int} {x:Nat×Int} (h:FitAt s ks x) (hk:x.1<ks.length) (hs:x.1<s.kids.length) (h2:(s.kids[x.1] == -2)=true):FitAt s ks (x.1+1,x.2):=⟨hk,by rw [h.step hk hs,if_pos h2]⟩
theorem FitAt.same {s:Sign} {ks:List Int} {x:Nat×Int} (h:FitAt s ks x) (hk:x.1<ks.length) (hs:x.1<s.kids.length) (h2:(s.kids[x.1] == -2)=false) (h1:(s.kids[x.1] == -1)=true) (hm:(H3 x.2 ks[x.1]).2=true):FitAt s ks (x.1+1,(H3 x.2 ks[x.1]).1):=⟨hk,by rw [h.step hk hs,if_neg (by rw [h2];simp),if_pos h1,if_pos hm]⟩
theorem FitAt.want {s:Sign} {ks:List Int} {x:Nat×Int} (h:FitAt s ks x) (hk:x.1<ks.length) (hs:x.1<s.kids.length) (h2:(s.kids[x.1] == -2)=false) (h1:(s.kids[x.1] == -1)=false) (hm:(H3 s.kids[x.1] ks[x.1]).2=true):FitAt s ks (x.1+1,x.2):=⟨hk,by rw [h.step hk hs,if_neg (by rw [h2];simp),if_neg (by rw [h1];simp),if_pos hm]⟩
theorem FitAt.bad {s:Sign} {ks:List Int} {x:Nat×Int} (h:FitAt s ks x) (hk:x.1<ks.length) (hs:x.1<s.kids.length) (h2:(s.kids[x.1] == -2)=false) (hm:(if s.kids[x.1] == -1 then (H3 x.2 ks[x.1]).2 else (H3 s.kids[x.1] ks[x.1]).2)=false):Mi s ks=(0,10):=by
 unfold Mi
 rw [h.step hk hs,if_neg (by rw [h2];simp)]
 split at hm
 ·rename_i h1
  rw [if_pos h1,if_neg (by rw [hm];simp)]
 rename_i h1
 rw [if_neg h1,if_neg (by rw [hm];simp)]
theorem FitAt.out {s:Sign} {ks:List Int} {x:Nat×Int} (h:FitAt s ks x) (hk:ks.length≤x.1):Mi s ks=if s.own == -1 then (x.2,0) else (s.own,0):=by
 unfold Mi
 rw [h.eq,Tu hk]
 cases s.kids.drop x.1<;>rfl
theorem c80 (s:Sign) (ks:List Int) (hks:ks.length≤s.kids.length) (hk2:ks.length≤1048576) (Hp:List AObj):AFun Tryz.prog 80 [Yz s,.slice false 1 (ks.map A5)] Hp (.tup [A5 (Mi s ks).1,A5 (Mi s ks).2]):=by
 refine Aj [.tmp 4,.tmp 5] [0,1] Tryz.func80 Tryz.ntmps80 (fun d=>?_)
 refine ABj ?_;refine vu ?_;refine A2 [1,2,6] ?_;refine Z31 ?_;refine wn ?_
 refine B9 (α:=Nat×Int) (fun x=>⟨49,Aa 2 (.ro [.slice false 1 (s.kids.map A5),A5 s.own]) (Aa 6 (.ptr (oid Hp.length 0) 0) (Aa 13 (.slice false 1 (ks.map A5)) (Aa 14 (A5 (ks.length:Nat)) (Aa 15 (A5 (x.1:Nat)) (fun _=>.any))))),Hp,[.cells 3 [A5 x.2]],[],none⟩) (fun x=>FitAt s ks x) (fun x=>ks.length-x.1) ((0,0)) ⟨Av _,rfl⟩ (Az (by simp)) rfl (fun x hx=>?_)
 refine Z2 ?_;refine A2 [2,6,13,14,15,16] ?_
 refine Ev (fun ht16=>?_) (fun ht16=>?_)
 ·have hlt:x.1<ks.length:=by simpa using ht16
  have hls:x.1<s.kids.length:=by omega
  refine U8 ?_
  refine A4 (h:=Ad (x.1) (A5 ks[x.1]) (fun _=>B3 hlt)) (hr:=?_)
  refine Z11 ?_;refine A2 [2,6,7,8,13,14,15] ?_;refine Z14 ?_
  refine A4 (h:=Ad (x.1) (A5 s.kids[x.1]) (fun _=>B3 hls)) (hr:=?_)
  refine We ?_;refine A2 [2,6,8,9,13,14,15] ?_;refine Z8 ?_;refine A2 [2,6,8,9,13,14,15,26] ?_
  refine A3 (fun ht26=>?_) (fun ht26=>?_)
  ·refine Di [2,6,13,14,15] ?_;refine Z35 ?_;refine K.blE ?_;refine Fl ?_;refine Z29 ?_;refine wn ?_
   first|(refine B2 (x.1+1,x.2) (hx.skip hlt hls ht26) (by show ks.length-(x.1+1)<ks.length-x.1;omega) ?_;exact Dz (own:=[.cells 3 [A5 x.2]]) (fun _=>.refl _) (by repeat (first|exact By|refine Bx (by first|(simp [or_imp,forall_and];done)|(simp [oid]<;>omega)) ?_)) (by intro y hy;rw [Br.1 hy];intro z hz;rw [Br.1 hz];simp) (by simp))|(refine B2 (x.1+1,(H3 x.2 ks[x.1]).1) (hx.same hlt hls ht26 ht28 (by simpa using ht38)) (by show ks.length-(x.1+1)<ks.length-x.1;omega) ?_;exact Dz (own:=[.cells 3 [A5 (H3 x.2 ks[x.1]).1]]) (fun _=>.refl _) (by repeat (first|exact By|refine Bx (by first|(simp [or_imp,forall_and];done)|(simp [oid]<;>omega)) ?_)) (by intro y hy;rw [Br.1 hy];intro z hz;rw [Br.1 hz];simp) (by simp))|(refine B2 (x.1+1,x.2) (hx.want hlt hls ht26 ht28 (by simpa using ht38)) (by show ks.length-(x.1+1)<ks.length-x.1;omega) ?_;exact Dz (own:=[.cells 3 [A5 x.2]]) (fun _=>.refl _) (by repeat (first|exact By|refine Bx (by first|(simp [or_imp,forall_and];done)|(simp [oid]<;>omega)) ?_)) (by intro y hy;rw [Br.1 hy];intro z hz;rw [Br.1 hz];simp) (by simp))
  refine Z58 ?_;refine A2 [2,6,8,9,10,13,14,15] ?_;refine Z8 ?_;refine A2 [2,6,8,10,13,14,15,28] ?_
  refine A3 (fun ht28=>?_) (fun ht28=>?_)
  ·refine Z48 ?_;refine A2 [2,6,8,10,13,14,15] ?_;refine Fl ?_;refine Z21 ?_;refine A9 Tryz.call129 (AQc _ _ _) ?_;refine L9 ?_;refine A2 [2,6,10,11,12,13,14,15] ?_;refine Z8 ?_;refine A2 [2,6,10,11,13,14,15,38] ?_
   refine A3 (fun ht38=>?_) (fun ht38=>?_)
   ·have hbad:=hx.bad hlt hls ht26 (by first|(rw [if_pos ht28];simpa using ht38)|(rw [if_neg (by rw [ht28];simp)];simpa using ht38))
    refine vz ?_;exact AO9
   refine Z3 ?_;refine Z22 ?_;refine G4 ?_;refine wn ?_;refine jg ?_;refine wn ?_
   first|(refine B2 (x.1+1,x.2) (hx.skip hlt hls ht26) (by show ks.length-(x.1+1)<ks.length-x.1;omega) ?_;exact Dz (own:=[.cells 3 [A5 x.2]]) (fun _=>.refl _) (by repeat (first|exact By|refine Bx (by first|(simp [or_imp,forall_and];done)|(simp [oid]<;>omega)) ?_)) (by intro y hy;rw [Br.1 hy];intro z hz;rw [Br.1 hz];simp) (by simp))|(refine B2 (x.1+1,(H3 x.2 ks[x.1]).1) (hx.same hlt hls ht26 ht28 (by simpa using ht38)) (by show ks.length-(x.1+1)<ks.length-x.1;omega) ?_;exact Dz (own:=[.cells 3 [A5 (H3 x.2 ks[x.1]).1]]) (fun _=>.refl _) (by repeat (first|exact By|refine Bx (by first|(simp [or_imp,forall_and];done)|(simp [oid]<;>omega)) ?_)) (by intro y hy;rw [Br.1 hy];intro z hz;rw [Br.1 hz];simp) (by simp))|(refine B2 (x.1+1,x.2) (hx.want hlt hls ht26 ht28 (by simpa using ht38)) (by show ks.length-(x.1+1)<ks.length-x.1;omega) ?_;exact Dz (own:=[.cells 3 [A5 x.2]]) (fun _=>.refl _) (by repeat (first|exact By|refine Bx (by first|(simp [or_imp,forall_and];done)|(simp [oid]<;>omega)) ?_)) (by intro y hy;rw [Br.1 hy];intro z hz;rw [Br.1 hz];simp) (by simp))
  refine U9 ?_;refine A9 Tryz.call129 (AQc _ _ _) ?_;refine L9 ?_;refine A2 [2,6,10,11,12,13,14,15] ?_;refine Z8 ?_;refine A2 [2,6,10,11,13,14,15,38] ?_
  refine A3 (fun ht38=>?_) (fun ht38=>?_)
  ·have hbad:=hx.bad hlt hls ht26 (by first|(rw [if_pos ht28];simpa using ht38)|(rw [if_neg (by rw [ht28];simp)];simpa using ht38))
   refine vz ?_;exact AO9
  refine Z3 ?_;refine Z22 ?_;refine G4 ?_;refine wn ?_;refine jg ?_;refine wn ?_
  first|(refine B2 (x.1+1,x.2) (hx.skip hlt hls ht26) (by show ks.length-(x.1+1)<ks.length-x.1;omega) ?_;exact Dz (own:=[.cells 3 [A5 x.2]]) (fun _=>.refl _) (by repeat (first|exact By|refine Bx (by first|(simp [or_imp,forall_and];done)|(simp [oid]<;>omega)) ?_)) (by intro y hy;rw [Br.1 hy];intro z hz;rw [Br.1 hz];simp) (by simp))|(refine B2 (x.1+1,(H3 x.2 ks[x.1]).1) (hx.same hlt hls ht26 ht28 (by simpa using ht38)) (by show ks.length-(x.1+1)<ks.length-x.1;omega) ?_;exact Dz (own:=[.cells 3 [A5 (H3 x.2 ks[x.1]).1]]) (fun _=>.refl _) (by repeat (first|exact By|refine Bx (by first|(simp [or_imp,forall_and];done)|(simp [oid]<;>omega)) ?_)) (by intro y hy;rw [Br.1 hy];intro z hz;rw [Br.1 hz];simp) (by simp))|(refine B2 (x.1+1,x.2) (hx.want hlt hls ht26 ht28 (by simpa using ht38)) (by show ks.length-(x.1+1)<ks.length-x.1;omega) ?_;exact Dz (own:=[.cells 3 [A5 x.2]]) (fun _=>.refl _) (by repeat (first|exact By|refine Bx (by first|(simp [or_imp,forall_and];done)|(simp [oid]<;>omega)) ?_)) (by intro y hy;rw [Br.1 hy];intro z hz;rw [Br.1 hz];simp) (by simp))
 have hxe:ks.length≤x.1:=by simpa using ht16
 have hout:=hx.out hxe
 refine Z30 ?_;refine Z31 ?_;refine A2 [2,6,45] ?_
 refine A3 (fun ht45=>?_) (fun ht45=>?_)
 ·refine Z14 ?_;refine Z68 ?_;exact A8 (As A7 A7) ⟨by rw [hout,if_pos ht45],rfl⟩
 refine U9 ?_;refine Z73 ?_;exact A8 (As A7 A7) ⟨by rw [hout,if_neg (by rw [ht45];simp)],rfl⟩

theorem ADg {n k:Nat} {own:Bool} {l:List Int}:Low n (.slice own k (l.map A5)):=low_slice.2 fun y hy=>by
 obtain ⟨z,_,rfl⟩:=Dm.1 hy
 simp
theorem T9 {n:Nat} {e:Expr}:Low n (.ro (B7 e)):=by have:=Ag n e;rw [Af] at this;simpa using this
theorem J4 {c:List Col} {t:Str} (h:¬(C6 t c<0)):∃(j:Nat),C6 t c=(j:Int)∧j<c.length:=by
 obtain ⟨j,y,h2,_,h3⟩:=find_mem.1 h
 exact ⟨j,h3,(Ak.1 h2).1⟩
theorem l9 {c:List Col} {e:Expr} (h:(e.op==1)=true):F4 c e=(e.val.kind,0):=by rw [Sz];unfold cj;rw [if_pos h]
theorem cx {c:List Col} {e:Expr} (h1:(e.op==1)=false) (h:(e.op==2)=true):F4 c e=Vu c e.text:=by rw [Sz];unfold cj;rw [h1,if_pos h];rfl
theorem la {c:List Col} {e:Expr} (h1:(e.op==1)=false) (h2:(e.op==2)=false) {x:Nat} (hx:x<e.kids.length) (h0:∀(j:Nat) (y:Expr),j<x→e.kids[j]? = some y→((F4 c y).2 != 0)=false) (hb:((F4 c e.kids[x]).2 != 0)=true):F4 c e=(0,(F4 c e.kids[x]).2):=by
 rw [Sz]
 unfold cj
 rw [h1,h2]
 have:(e.kids.map (F4 c)).find? (fun q=>q.2 != 0)=some ((e.kids.map (F4 c))[x]'(by simpa using hx)):=fu (by simpa using hx) (by simpa using hb) (fun j y hj hy=>by
  rw [Cp,Ez] at hy
  obtain ⟨z,hz,rfl⟩:=hy
  exact h0 j z hj hz)
 rw [this]
 simp
theorem lb {c:List Col} {e:Expr} (h1:(e.op==1)=false) (h2:(e.op==2)=false) (h0:∀(j:Nat) (y:Expr),j<e.kids.length→e.kids[j]? = some y→((F4 c y).2 != 0)=false):F4 c e=Mi (Qw e.op e.text) (e.kids.map fun y=>(F4 c y).1):=by
 rw [Sz]
 unfold cj
 rw [h1,h2]
 have:(e.kids.map (F4 c)).find? (fun q=>q.2 != 0)=none:=Uh (fun j y hy=>by
  rw [Cp,Ez] at hy
  obtain ⟨z,hz,rfl⟩:=hy
  exact h0 j z (Ak.1 hz).1 hz)
 rw [this]
 simp only [Lt]
 rfl
theorem cy (f:Expr→Int) (l:List Expr) {x:Nat} (h:x<l.length):((l.take x).map f).map A5++[A5 (f l[x])]=((l.take (x+1)).map f).map A5:=by rw [Gm h,Cs,Cs];rfl
theorem c39 (c:List Col) (hc:OkCols c):∀(n:Nat) (e:Expr),okE n e→Bq Ch e=true→∀Hp:List AObj,AFun Tryz.prog 39 [Ab e,B0 c] Hp (.tup [A5 (F4 c e).1,A5 (F4 c e).2]):=by
 intro n
 induction n with
 | zero=>exact fun e h=>h.elim
 | succ n ih =>
 intro e hok hnd Hp
 have hnd0:=hnd
 rw [Cb,Ah] at hnd0
 refine Aj [.tmp 4,.tmp 5] [0,1] Tryz.func39 Tryz.ntmps39 (fun d=>?_)
 refine ABj ?_;refine Z8 ?_;refine A2 [1,2,13] ?_;refine Z97 ?_;refine A2 [1,2,13,14] ?_
 refine A3 (fun ht14=>?_) (fun ht14=>?_)
 ·have hk:=l9 (c:=c) ht14
  refine fh ?_;refine Z74 ?_;exact AKu
 refine Z1 ?_;refine A2 [1,2,19] ?_
 refine A3 (fun ht19=>?_) (fun ht19=>?_)
 ·have hk:=cx (c:=c) ht14 ht19
  refine Z14 ?_;refine A9 Tryz.call58 (c58 c hc e.text _) ?_;refine A4 ?_;refine A2 [1,6] ?_;refine Z8 ?_;refine A2 [1,6,26] ?_
  refine A3 (fun ht26=>?_) (fun ht26=>?_)
  ·have hk2:Vu c e.text=(0,9):=if_pos (by simpa using ht26)
   refine vz ?_;refine Z7 ?_;exact AGa
  have hneg:¬(C6 e.text c<0):=by simpa using ht26
  obtain ⟨j,hj,hjl⟩:=J4 hneg
  have hk2:Vu c e.text=(c[j].kind,0):=by
   unfold Vu
   rw [if_neg hneg,hj,Int.toNat_natCast,Cz,Ae hjl]
   rfl
  rw [hj]
  refine Z98 ?_
  refine A4 (h:=Ad (j) (D8 c[j]) (fun _=>B3 hjl)) (hr:=?_)
  refine Z72 ?_;refine Z74 ?_;exact AGa
 refine Z18 ?_;refine Z2 ?_;refine A2 [1,2,7] ?_;refine Z89 ?_;refine R.nilSl 7 1 ?_;refine Z72 ?_;refine A2 [1,2,7,33,34,35] ?_
 refine B9 (α:=Nat) (fun x=>⟨59,Aa 1 (B0 c) (Aa 2 (.ro (B7 e)) (Aa 7 (.slice true 1 (((e.kids.take x).map fun y=>(F4 c y).1).map A5)) (Aa 33 (.slice false 6 (e.kids.map Ab)) (Aa 34 (A5 (e.kids.length:Nat)) (Aa 35 (A5 (x:Nat)) (fun _=>.any)))))),Hp,[],[],none⟩) (fun x=>x≤e.kids.length∧∀(j:Nat) (y:Expr),j<x→e.kids[j]? = some y→((F4 c y).2 != 0)=false) (fun x=>e.kids.length-x) (0) ⟨Av _,fun j y h=>by omega⟩ (Az (by simp)) rfl (fun x hx=>?_)
 refine Z2 ?_;refine A2 [1,2,7,33,34,35,36] ?_
 refine Ev (fun ht36=>?_) (fun ht36=>?_)
 ·have hlt:x<e.kids.length:=by simpa using ht36
  have hkl:=hok.2.1
  refine Wc ?_
  refine A4 (h:=Ad (x) (Ab e.kids[x]) (fun _=>B3 hlt)) (hr:=?_)
  refine We ?_;refine A2 [1,2,7,9,33,34,35] ?_;refine Z1 ?_;refine A9 Tryz.call39 (ih e.kids[x] (hok.2.2 _ (Bb hlt)) ((Bd _ _).1 hnd0.2 _ (Bb hlt)) _) ?_;refine L9 ?_;refine A2 [1,2,7,10,11,33,34,35] ?_;refine Z8 ?_;refine A2 [1,2,7,10,11,33,34,35,46] ?_
  refine A3 (fun ht46=>?_) (fun ht46=>?_)
  ·have hkb:=la (c:=c) ht14 ht19 hlt hx.2 ht46
   refine Z14 ?_;refine Z68 ?_;exact AOd
  refine Z3 ?_;refine j6 ?_;refine fc ?_
  refine Gz jU Tryz.type3 ?_ ?_ ?_
  ·simp only [B8,E7,B6,Bc,Tryz.t3];omega
  ·simp only [B8,E7,B6,Bc,Tryz.t3];omega
  refine Jh ?_;refine A2 [1,2,7,33,34,35] ?_;refine jg ?_;refine A2 [1,2,7,33,34,35] ?_;refine B2 (x+1) ⟨hlt,D3 hlt hx.2 ht46⟩ (by omega) ?_
  simp only [show Tryz.t3.size=1 from rfl,cy]
  exact Dz (own:=[]) (fun _=>.refl _) (by repeat (first|exact By|refine Bx (by first|exact ADg|exact T9|exact D4|(simp [or_imp,forall_and];done)) ?_)) (by simp) (by simp)
 have hxe:e.kids.take x=e.kids:=Dn (by simp at ht36;omega)
 have hxl:e.kids.length≤x:=by simp at ht36;omega
 have hka:=lb (c:=c) ht14 ht19 (fun j y hj hy=>hx.2 j y (by omega) hy)
 rw [hxe]
 refine So ?_;refine A9 Tryz.call79 (c79 e _) ?_;refine A4 ?_
 refine A9 Tryz.call80 (c80 (Qw e.op e.text) (e.kids.map fun y=>(F4 c y).1) (by rw [Mv hnd0.1 ht14 ht19];simp) (by simpa using hok.2.1) _) ?_
 refine Z72 ?_;refine Z73 ?_;exact A8 (As A7 A7) ⟨by rw [hka],rfl⟩

theorem K7 {e:Expr} (h:Ar e=true):Bq Ch e=true:=by
 rw [C4] at h
 unfold Ax at h
 rw [Ah] at h
 exact h.2
theorem c13 (n:Nat) (e:Expr) (hok:okE n e) (hn:n≤1048576) (c:List Col) (hc:OkCols c) (Hp:List AObj):AFun Tryz.prog 13 [Ab e,B0 c] Hp (.tup [A5 (G5 e c).1,A5 (G5 e c).2]):=by
 refine Aj [.tmp 4,.tmp 5] [0,1] Tryz.func13 Tryz.ntmps13 (fun d=>?_)
 refine ABj ?_;refine Z25 ?_;refine A9 Tryz.call38 (c38 n e hok hn _) ?_;refine Wf ?_;refine Bk Tryz.call36 (fun hB=>c36 c hc _) ?_;refine Z92 ?_;refine A2 [1,2,13] ?_
 refine A3 (fun ht13=>?_) (fun ht13=>?_)
 ·have hk:G5 e c=(0,1):=if_pos ht13
  refine Z1 ?_;exact AKe
 have hk:G5 e c=F4 c e:=if_neg (by rw [ht13];simp)
 have hr:Ar e=true:=by simp only [Df,Ka] at ht13;exact ht13.1
 refine Z98 ?_;refine A9 Tryz.call39 (c39 c hc n e hok (K7 hr) _) ?_;refine Z72 ?_;exact AOj

/-- The first fault of those that were asked. -/
structure AllAt (f:Expr→Rs) (k:List Expr) (x:Nat):Prop where
 le:x≤k.length
 ok:∀(j:Nat) (y:Expr),j<x→k[j]? = some y→((f y).2 != 0)=false
theorem AllAt.bad {f:Expr→Rs} {k:List Expr} {x:Nat} (h:AllAt f k x) (hx:x<k.length) (hb:((f k[x]).2 != 0)=true) (g:List Val→Rs):Ks g (k.map f)=D9 (f k[x]).2:=by
 unfold Ks
 have:(k.map f).find? (fun q=>q.2 != 0)=some ((k.map f)[x]'(by simpa using hx)):=fu (by simpa using hx) (by simpa using hb) (fun j y hj hy=>by
  rw [Cp,Ez] at hy
  obtain ⟨z,hz,rfl⟩:=hy
  exact h.ok j z hj hz)
 rw [this]
 simp
theorem AllAt.all {f:Expr→Rs} {k:List Expr} {x:Nat} (h:AllAt f k x) (hx:k.length≤x) (g:List Val→Rs):Ks g (k.map f)=if (k.take x).any (fun y=>(f y).1.kind==0) then (noV,0) else g ((k.take x).map fun y=>(f y).1):=by
 unfold Ks
 have:(k.map f).find? (fun q=>q.2 != 0)=none:=Uh (fun j y hy=>by
  rw [Cp,Ez] at hy
  obtain ⟨z,hz,rfl⟩:=hy
  exact h.ok j z (by have:=(Ak.1 hz).1;omega) hz)
 rw [this,Dn hx]
 simp only [List.any_map,Lt]
 rfl
theorem AllAt.next {f:Expr→Rs} {k:List Expr} {x:Nat} (h:AllAt f k x) (hx:x<k.length) (hb:((f k[x]).2 != 0)=false):AllAt f k (x+1):=⟨hx,D3 hx h.ok hb⟩
theorem ADh (f:Expr→Bool) (k:List Expr) {x:Nat} (h:x<k.length):(k.take (x+1)).any f=((k.take x).any f || f k[x]):=by rw [Gm h,List.any_append];simp
theorem xy (f:Expr→Val) (l:List Expr) {x:Nat} (h:x<l.length):((l.take x).map f).map Ca++[Ca (f l[x])]=((l.take (x+1)).map f).map Ca:=by rw [Gm h,Cs,Cs];rfl
theorem lc {n k:Nat} {own:Bool} {l:List Val}:Low n (.slice own k (l.map Ca)):=low_slice.2 fun y hy=>by
 obtain ⟨z,_,rfl⟩:=Dm.1 hy
 simp [or_imp,forall_and]
theorem c90 (c:List Col) (l:List Val) (e:Expr) (hk:e.kids.length≤1048576) (hev:∀y∈e.kids,Ku c l y (Al c l y)) (hargs:((∀y∈e.kids,(Al c l y).2=0)→ArgsOk e.op (e.kids.map fun y=>(Al c l y).1))) (Hp:List AObj):AFun Tryz.prog 90 [Yy c l,Ab e] Hp (Nt (Ks (Bo e.op e.text) (e.kids.map (Al c l)))):=by
 refine Aj [.cell 4 23,.tmp 5] [0,1] Tryz.func90 Tryz.ntmps90 (fun d=>?_)
 refine ABd ?_;refine Z2 ?_;refine A2 [2,3,4,6] ?_;refine E9 ?_;refine R.nilSl 6 3 ?_;refine A4 ?_;refine A2 [2,3,4,6,7] ?_;refine Z46 ?_;refine A2 [2,3,4,6,7,13,14,15] ?_
 refine B9 (α:=Nat) (fun x=>⟨49,Aa 2 (.ro [B0 c,P1 l]) (Aa 3 (.ro (B7 e)) (Aa 4 (.ptr (oid Hp.length 0) 0) (Aa 6 (.slice true 3 (((e.kids.take x).map fun y=>(Al c l y).1).map Ca)) (Aa 7 (At ((e.kids.take x).any fun y=>(Al c l y).1.kind==0)) (Aa 13 (.slice false 6 (e.kids.map Ab)) (Aa 14 (A5 (e.kids.length:Nat)) (Aa 15 (A5 (x:Nat)) (fun _=>.any)))))))),Hp,[.cells 23 [A5 0,A5 0,Ac []]],[],none⟩) (fun x=>AllAt (Al c l) e.kids x) (fun x=>e.kids.length-x) (0) ⟨Av _,fun j y h=>by omega⟩ (Az (by simp)) rfl (fun x hx=>?_)
 refine Z2 ?_;refine A2 [2,3,4,6,7,13,14,15,16] ?_
 refine Ev (fun ht16=>?_) (fun ht16=>?_)
 ·have hlt:x<e.kids.length:=by simpa using ht16
  refine Wc ?_
  refine A4 (h:=Ad (x) (Ab e.kids[x]) (fun _=>B3 hlt)) (hr:=?_)
  refine We ?_;refine A2 [2,3,4,6,7,9,13,14,15] ?_;refine Z1 ?_;refine A9 Tryz.call44 (hev _ (Bb hlt) _) ?_;refine Z94 ?_;refine A2 [2,3,4,6,7,10,11,13,14,15] ?_;refine Z8 ?_;refine A2 [2,3,4,6,7,10,11,13,14,15,26] ?_
  refine A3 (fun ht26=>?_) (fun ht26=>?_)
  ·have hm:=hx.bad hlt ht26 (Bo e.op e.text)
   refine Z2 ?_;refine Z63 ?_;refine Z39 ?_;refine Z10 ?_;refine Z71 ?_;exact wo
  refine Z98 ?_;refine Z67 ?_;refine A2 [2,3,4,6,7,10,13,14,15] ?_;refine j6 ?_;refine fc ?_
  refine Gz jU Tryz.type23 ?_ ?_ ?_
  ·simp only [B8,E7,B6,Bc,Tryz.t23];omega
  ·simp only [B8,E7,B6,Bc,Tryz.t23];omega
  refine Jh ?_;refine A2 [2,3,4,6,7,13,14,15] ?_;refine jg ?_;refine A2 [2,3,4,6,7,13,14,15] ?_;refine B2 (x+1) (hx.next hlt ht26) (by omega) ?_
  simp only [show Tryz.t23.size=3 from rfl,ADh _ _ hlt]
  have hvs:((e.kids.take x).map fun y=>(Al c l y).1).map Ca++[.agg [.v (.int .i64 (Al c l e.kids[x]).1.kind),.v (.int .i64 (Al c l e.kids[x]).1.n),.v (sv (Al c l e.kids[x]).1.s)]]=((e.kids.take (x+1)).map fun y=>(Al c l y).1).map Ca:=xy _ _ hlt
  simp only [hvs]
  exact Dz (own:=[.cells 23 [A5 0,A5 0,Ac []]]) (fun _=>.refl _) (by repeat (first|exact By|refine Bx (by first|exact D4|exact lc|exact T9|(simp [or_imp,forall_and,oid]<;>omega)) ?_)) (by intro y hy;rw [Br.1 hy];intro z hz;simp only [C0,I6,or_false] at hz;rcases hz with rfl|rfl|rfl<;>simp) (by simp)
 have hxe:e.kids.length≤x:=by simpa using ht16
 have ha:=hx.all hxe (Bo e.op e.text)
 have htk:e.kids.take x=e.kids:=Dn hxe
 have h00:∀y∈e.kids,(Al c l y).2=0:=fun y hy=>by
  obtain ⟨j,hj⟩:=Cr hy
  have:=hx.ok j y (by have:=(Ak.1 hj).1;omega) hj
  simpa using this
 have hao:=hargs h00
 rw [←htk] at hao
 refine Z30 ?_;refine Z25 ?_;refine A2 [3,4,6,42] ?_
 refine A3 (fun ht42=>?_) (fun ht42=>?_)
 ·have hm:Ks (Bo e.op e.text) (e.kids.map (Al c l))=(noV,0):=by rw [ha,if_pos ht42]
  refine AKr ?_;exact vp
 have hm:Ks (Bo e.op e.text) (e.kids.map (Al c l))=Bo e.op e.text ((e.kids.take x).map fun y=>(Al c l y).1):=by rw [ha,if_neg (by rw [ht42];simp)]
 refine Z98 ?_;refine A9 Tryz.call137 (ATl e _ hao _) ?_;refine Z0 ?_;exact ny

set_option maxRecDepth 8000
set_option maxRecDepth 4000
theorem Ta {a b:List Expr} (hl:a.length=b.length) (h:∀(j:Nat) (y z:Expr),j<a.length→a[j]? = some y→b[j]? = some z→eqE y z=true):eqL a b=true:=by
 rw [M0]
 refine Mk hl fun j y hj hy=>?_
 have hjb:j<b.length:=by omega
 have:=h j y b[j] hj hy (Ae hjb)
 rw [Ae hjb,(ge _ _).1 this]
theorem ALn {a b:List Expr} (h:eqL a b=true) {j:Nat} (hj:j<a.length) (hb:j<b.length):eqE a[j] b[j]=true:=by
 have e:=(M0 _ _).1 h
 subst e
 exact kg _
theorem gr {a b:List Expr} {j:Nat} (hj:j<a.length) (hb:j<b.length) (h:eqE a[j] b[j]=false):eqL a b=false:=by
 rw [D6]
 intro h2
 rw [ALn h2 hj hb] at h
 cases h
theorem sw {a b:List Expr} (h:a.length≠b.length):eqL a b=false:=by
 rw [D6]
 exact fun h2=>h (AGq h2)
theorem sx {a b:List Expr} {x:Nat} (hx:x<a.length) (hb:x<b.length) (h:∀(j:Nat) (y z:Expr),j<x→a[j]? = some y→b[j]? = some z→eqE y z=true) (he:eqE a[x] b[x]=true):∀(j:Nat) (y z:Expr),j<x+1→a[j]? = some y→b[j]? = some z→eqE y z=true:=by
 intro j y z hj h1 h2
 rcases Bn j x with h3|h3
 ·exact h j y z h3 h1 h2
 have:j=x:=by omega
 subst this
 rw [Ae hx] at h1
 rw [Ae hb] at h2
 injection h1 with h1
 injection h2 with h2
 rw [←h1,←h2]
 exact he
def ld (x y:Expr):Bool:=((x.op==y.op)&&(x.text==y.text))&&((x.val.kind==y.val.kind&&x.val.n==y.val.n)&&x.val.s==y.val.s)
theorem gu (x y:Expr):eqE x y=(ld x y&&eqL x.kids y.kids):=ACh x y
theorem c20:∀(n:Nat) (x:Expr),okE n x→∀(y:Expr) (Hp:List AObj),AFun Tryz.prog 20 [Ab x,Ab y] Hp (At (eqE x y)):=by
 intro n
 induction n with
 | zero=>exact fun x h=>h.elim
 | succ n ih =>
 intro x hok y Hp
 refine Aj [.tmp 4] [0,1] Tryz.func20 Tryz.ntmps20 (fun d=>?_)
 refine vl ?_;refine Z46 ?_;refine Z42 ?_;refine ff ?_
 refine Bl (h:=Q.neqAgg Ud (fun w=>Ho x.val.kind x.val.n y.val.kind y.val.n x.val.s y.val.s w)) (hr:=?_)
 refine am ?_;refine Mf ?_;refine A2 [2,3,33] ?_
 refine A3 (fun ht33=>?_) (fun ht33=>?_)
 ·have hf:eqE x y=false:=by
   rw [gu]
   simp only [Dg,bne_iff_ne,ne_eq,B8,R1] at ht33
   by_cases hh:ld x y=true
   ·rw [hh,Dc]
    refine sw ?_
    unfold ld at hh
    simp only [Ah,beq_iff_eq] at hh
    obtain ⟨⟨h1,h2⟩,⟨h3,h4⟩,h5⟩:=hh
    rcases ht33 with ((h|h)|h)|h
    ·exact absurd h1 h
    ·simp [h2] at h
    ·simp [h3,h4,h5] at h
    intro e;exact h (by rw [e])
   rw [dt] at hh
   rw [hh,Es]
  refine Z84 ?_;exact AOq
 have hh:ld x y=true∧x.kids.length=y.kids.length:=by
  simp only [Df,bne_eq_false_iff_eq,B8,Ka] at ht33
  obtain ⟨⟨⟨h1,h2⟩,h3⟩,h4⟩:=ht33
  unfold ld
  refine ⟨?_,by omega⟩
  simp only [beq_iff_eq,Ah] at h1 h2 h3 ⊢
  exact ⟨⟨h1,h2⟩,h3⟩
 obtain ⟨hh,hlen⟩:=hh
 have hkl:=hok.2.1
 refine Nk ?_;refine A2 [2,3,5] ?_
 refine B9 (α:=Nat) (fun i=>⟨53,Aa 2 (.ro (B7 x)) (Aa 3 (.ro (B7 y)) (Aa 5 (A5 (i:Nat)) (fun _=>.any))),Hp,[],[],none⟩) (fun i=>i≤x.kids.length∧∀(j:Nat) (a b:Expr),j<i→x.kids[j]? = some a→y.kids[j]? = some b→eqE a b=true) (fun i=>x.kids.length-i) (0) ⟨Av _,fun j a b h=>by omega⟩ (F1 _) rfl (fun i hi=>?_)
 refine O8 ?_;refine A2 [2,3,5,38] ?_
 refine A3 (fun ht38=>?_) (fun ht38=>?_)
 ·have hlt:i<x.kids.length:=by simpa using ht38
  have hly:i<y.kids.length:=by omega
  refine AK0 ?_;refine Z37 ?_
  refine Aq (h:=Ad (i) (Ab x.kids[i]) (fun _=>B3 hlt)) (hr:=?_)
  refine O6 ?_
  refine Aq (h:=Ad (i) (Ab y.kids[i]) (fun _=>B3 hly)) (hr:=?_)
  refine Z86 ?_;refine A9 Tryz.call20 (ih x.kids[i] (hok.2.2 _ (Bb hlt)) y.kids[i] _) ?_;refine A4 ?_;refine A2 [2,3,5,52] ?_
  refine A3 (fun ht52=>?_) (fun ht52=>?_)
  ·have hf:eqE x y=false:=by rw [gu,gr hlt hly (by simpa using ht52),dr]
   refine Z84 ?_;exact AOn
  have he:eqE x.kids[i] y.kids[i]=true:=by simpa using ht52
  refine Z87 ?_;refine A2 [2,3,5] ?_;exact B2 (i+1) ⟨hlt,sx hlt hly hi.2 he⟩ (by omega) (Bz rfl)
 have hxe:x.kids.length≤i:=by simpa using ht38
 refine Xw ?_;refine Z33 ?_;exact A8 (Ai A7) ⟨by rw [gu,hh,Ta hlen (fun j a b hj=>hi.2 j a b (by omega))];rfl,rfl⟩

theorem ATo (n:Nat) (a b:List Expr) (ha:a.length≤1048576) (hok:∀y∈a,okE n y) (ih:∀(x:Expr),okE n x→∀(y:Expr) (Hp:List AObj),AFun Tryz.prog 239 [Ab x,Ab y] Hp (At (eqE x y))) (Hp:List AObj):AFun Tryz.prog 285 [.slice false 6 (a.map Ab),.slice false 6 (b.map Ab),.fn (.func 239) [] []] Hp (At (eqL a b)):=by
 refine Aj [.tmp 6] [0,1,2] Tryz.func285 Tryz.ntmps285 (fun d=>?_)
 refine Z2 ?_;refine A2 [0,1,2] ?_;refine O8 ?_;refine A2 [0,1,2,14] ?_
 refine A3 (fun ht14=>?_) (fun ht14=>?_)
 ·have hf:eqL a b=false:=sw (by have:=ht14;simp at this;omega)
  refine vq ?_;exact AOq
 have hlen:a.length=b.length:=by have:=ht14;simp at this;omega
 refine Nm ?_;refine A2 [1,2,15,16,17] ?_
 refine B9 (α:=Nat) (fun i=>⟨32,Aa 1 (.slice false 6 (b.map Ab)) (Aa 2 (.fn (.func 239) [] []) (Aa 15 (.slice false 6 (a.map Ab)) (Aa 16 (A5 (a.length:Nat)) (Aa 17 (A5 (i:Nat)) (fun _=>.any))))),Hp,[],[],none⟩) (fun i=>i≤a.length∧∀(j:Nat) (y z:Expr),j<i→a[j]? = some y→b[j]? = some z→eqE y z=true) (fun i=>a.length-i) (0) ⟨Av _,fun j y z h=>by omega⟩ (Az (by simp)) rfl (fun i hi=>?_)
 refine Z2 ?_;refine A2 [1,2,15,16,17,18] ?_
 refine Ev (fun ht18=>?_) (fun ht18=>?_)
 ·have hlt:i<a.length:=by simpa using ht18
  have hlb:i<b.length:=by omega
  refine U8 ?_
  refine A4 (h:=Ad (i) (Ab a[i]) (fun _=>B3 hlt)) (hr:=?_)
  refine w5 ?_;refine A2 [1,2,7,8,15,16,17] ?_;refine Z1 ?_
  refine A4 (h:=Ad (i) (Ab b[i]) (fun _=>B3 hlb)) (hr:=?_)
  refine We ?_;refine A2 [1,2,8,9,15,16,17] ?_;refine Z14 ?_;refine U3 Tryz.call239 (ih a[i] (hok _ (Bb hlt)) b[i] _) ?_;refine A4 ?_;refine A2 [1,2,15,16,17,30] ?_
  refine A3 (fun ht30=>?_) (fun ht30=>?_)
  ·have hf:eqL a b=false:=gr hlt hlb (by simpa using ht30)
   refine vq ?_;exact AOn
  have he:eqE a[i] b[i]=true:=by simpa using ht30
  refine Ni ?_;refine A2 [1,2,15,16,17] ?_;refine B2 (i+1) ⟨hlt,sx hlt hlb hi.2 he⟩ (by omega) ?_
  exact Dz (own:=[]) (fun _=>.refl _) (by repeat (first|exact By|refine Bx (by first|exact D4|(simp;done)) ?_)) (by simp) (by simp)
 have hxe:a.length≤i:=by simpa using ht18
 refine So ?_;refine AB2 ?_;exact A8 (Ai A7) ⟨by rw [Ta hlen (fun j y z hj=>hi.2 j y z (by omega))],rfl⟩

theorem AQd:∀(n:Nat) (x:Expr),okE n x→∀(y:Expr) (Hp:List AObj),AFun Tryz.prog 239 [Ab x,Ab y] Hp (At (eqE x y)):=by
 intro n
 induction n with
 | zero=>exact fun x h=>h.elim
 | succ n ih =>
 intro x hok y Hp
 refine Aj [.tmp 4] [0,1] Tryz.func239 Tryz.ntmps239 (fun d=>?_)
 refine vl ?_;refine Z21 ?_;refine Z42 ?_;refine ff ?_
 refine Bl (h:=M8 Ud (fun w=>Ho x.val.kind x.val.n y.val.kind y.val.n x.val.s y.val.s w)) (hr:=?_)
 refine am ?_;refine Bk Tryz.call285 (fun hB=>ATo n x.kids y.kids hok.2.1 hok.2.2 ih _) ?_;refine Z0 ?_;refine Z33 ?_;exact A8 (Ai A7) ⟨by rw [ACh],rfl⟩

theorem Za (o:Int) (t:Str) (v:Val) (k:List Expr):Ab (.mk o t v k)=.agg [A5 o,.v (sv t),A5 v.kind,A5 v.n,.v (sv v.s),.slice false 6 (k.map Ab)]:=by rw [Af];rfl
theorem lf {α β:Type} {f:α→β} {l:List α} {x:Nat} (h:x<l.length):(l.take (x+1)).map f=(l.take x).map f++[f l[x]]:=by rw [Gm h,Cs];rfl
theorem ATp {α:Type} {P:α→Prop} {a b:α} (h1:P a) (h2:P b):∀x∈[a,b],P x:=by
 intro x hx
 simp only [C0,I6,or_false] at hx
 rcases hx with rfl|rfl
 ·exact h1
 exact h2
set_option maxRecDepth 8000
/-! Who decides decides: the law's sources, columns and truths. -/
/-! Rows. -/
theorem row_iff {c:List Col} {l:List Val}:T6 c l=true↔J8 c=true∧l.length=c.length∧∀(i:Nat) (v:Val) (y:Col),l[i]? = some v→c[i]? = some y→C2 v=true∧(v.kind=0∨v.kind=y.kind):=by
 unfold T6
 rw [Ah,Ah,Nr,beq_iff_eq,Bj,and_assoc]
 refine and_congr_right fun _=>and_congr_right fun hl=>⟨fun h i v y hv hy=>?_,fun h p hp=>?_⟩
 ·have:=h (v,y) (Be (i:=i) (by rw [Tx];exact ⟨hv,hy⟩))
  simpa using this
 obtain ⟨i,hi⟩:=Cr hp
 rw [Tx] at hi
 have:=h i p.1 p.2 hi.1 hi.2
 simpa using this
theorem Tb {x:Expr} {c:List Col} {l:List Val} (h1:Ar x=true) (h2:T6 c l=true):Fe x c l=Al c l x:=by
 unfold Fe sr
 rw [h1,h2]
 rfl
/-! Rows that differ in what is not named. -/
/-! Who has a kind comes to it. -/
theorem Eb {t:Str} {n:Nat} (h:Cc t=(n:Int)):(t=[108,101,110]∧n=1)∨(t=[115,116,114]∧n=1)∨(t=[110,117,109]∧n=1)∨(t=Co∧n=1)∨(t=Gu∧n=2)∨(t=[108,101,102,116]∧n=2)∨(t=[114,105,103,104,116]∧n=2)∨(t=ifW∧n=3):=by
 by_cases hm:t∈arityList.map (·.1)
 ·have ha:∀s∈arityList.map (·.1),(s=[108,101,110]∧Cc s=1)∨(s=[115,116,114]∧Cc s=1)∨(s=[110,117,109]∧Cc s=1)∨(s=Co∧Cc s=1)∨(s=Gu∧Cc s=2)∨(s=[108,101,102,116]∧Cc s=2)∨(s=[114,105,103,104,116]∧Cc s=2)∨(s=ifW∧Cc s=3):=by
   have:((arityList.map (·.1)).all fun s=>decide ((s=[108,101,110]∧Cc s=1)∨(s=[115,116,114]∧Cc s=1)∨(s=[110,117,109]∧Cc s=1)∨(s=Co∧Cc s=1)∨(s=Gu∧Cc s=2)∨(s=[108,101,102,116]∧Cc s=2)∨(s=[114,105,103,104,116]∧Cc s=2)∨(s=ifW∧Cc s=3)))=true:=by kernel_rfl
   exact fun s hs=>of_decide_eq_true (Bj.1 this s hs)
  have:=ha t hm
  rw [h] at this
  rcases this with ⟨e,h2⟩|⟨e,h2⟩|⟨e,h2⟩|⟨e,h2⟩|⟨e,h2⟩|⟨e,h2⟩|⟨e,h2⟩|⟨e,h2⟩
  ·exact .inl ⟨e,by omega⟩
  ·exact .inr (.inl ⟨e,by omega⟩)
  ·exact .inr (.inr (.inl ⟨e,by omega⟩))
  ·exact .inr (.inr (.inr (.inl ⟨e,by omega⟩)))
  ·exact .inr (.inr (.inr (.inr (.inl ⟨e,by omega⟩))))
  ·exact .inr (.inr (.inr (.inr (.inr (.inl ⟨e,by omega⟩)))))
  ·exact .inr (.inr (.inr (.inr (.inr (.inr (.inl ⟨e,by omega⟩))))))
  exact .inr (.inr (.inr (.inr (.inr (.inr (.inr ⟨e,by omega⟩))))))
 have h1:Cc t = -1:=by
  unfold Cc
  rw [R4.2 fun p hp=>by
   simp only [beq_iff_eq]
   rintro rfl
   exact hm (Dm.2 ⟨p,hp,rfl⟩)]
 omega
theorem gw {k:List Expr} (h:k.length=2):∃a b,k=[a,b]:=by match k,h with|[a,b],_=>exact ⟨a,b,rfl⟩
end Go.SX.Nb
