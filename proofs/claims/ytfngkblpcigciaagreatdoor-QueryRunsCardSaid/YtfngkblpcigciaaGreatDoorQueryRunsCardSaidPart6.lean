/- On the way (part 6). -/
import Derived.ReadAgain
import Derived.ChangeSame
import Derived.ChangeArms
import Derived.ChangeOld
import Derived.ChangeFn
import Derived.MapPlaces
import Derived.DataReads
import Derived.OpenShut
import Derived.RowKit
import Derived.Deep.DeepHandedRow
import Derived.Test.YtfngkblpcigciaaGreatDoorCards
import Derived.Test.YtfngkblpcigciaaGreatDoorTie
import Derived.Lay
import Derived.Lib.LaidTab
import Derived.Stop.LaidErr
import Derived.Shelf.Vars
import Derived.ChangeBears
import Derived.Lib.ParseIntBTie
import Derived.Lib.AtoiAllCases
import Derived.Lib.AtoiTie
import Derived.Lib.SliceRun
import Derived.Test.YtfngkblpcigciaaGreatDoorQueryRunsCardSaidPart5
set_option linter.all false
namespace Go.SX
variable [GI:GlobInv]
open Classical Go.RowKit Go.ChangeShapes
section
variable {P:Program} {H:Type} {enc:TypeId×Value→H}

/-- The first ghost: whatever lies there is read for good. -/
noncomputable def G0 (W:World):Gh:=⟨fun b o=>if (W.cell? ⟨b,o,none⟩).isSome then .fix else .free,fun _=>0,0⟩
theorem AFu {W:World} {b o:Nat} {u:Value} (h:W.cell? ⟨b,o,none⟩=some u):(G0 W).tag b o=.fix:=by simp [G0,h]
theorem Ry {W:World} {b:Nat} (h:b<W.heap.size):It (G0 W) W b:=⟨h,fun o=>by simp only [G0];split<;>simp,fun i hi=>absurd hi (Nat.not_lt_zero _)⟩
theorem ABb (W:World):HeapRel (G0 W) [] W:=⟨fun i x h=>by simp at h,rfl,fun i j hi=>absurd hi (Nat.not_lt_zero _)⟩
theorem ABc {W:World} (h:Hu W):TagOK (G0 W) W:=by
 refine ⟨fun b o hb=>?_,fun b o i hb=>?_,fun b o L hb=>?_,fun x hx=>?_⟩
 ·simp only [G0] at hb
  split at hb
  ·rename_i hs;exact Option.isSome_iff_exists.1 hs
  exact absurd rfl hb
 ·simp only [G0] at hb;split at hb<;>cases hb
 ·simp only [G0] at hb;split at hb<;>cases hb
 obtain ⟨v,h1,h2⟩:=h x hx
 exact ⟨Ry (Mh.1 h1).1,v,h1,h2⟩

/-- What a datum of a plain type AL3 as. -/
inductive DRep (P:Program):TypeId→DataW H→AV→Prop
 | int {t:TypeId} {k:IntKind} {n:Int} (hu:P.underlying t=some (.int k)) (wf:(Lit.int k n).wf=true):DRep P t (.lit (.int k n)) (.v (.int k n))
 | bool {t:TypeId} {b:Bool} (hu:P.underlying t=some .bool):DRep P t (.lit (.bool b)) (.v (.bool b))
 | str {t:TypeId} {bs:List UInt8} (hu:P.underlying t=some .string):DRep P t (.lit (.string bs)) (.v (sv bs))
 | nil {t e:TypeId} (hu:P.underlying t=some (.slice e)):DRep P t .nil (.slice false (P.cellsOf e) [])
 | slice {t e:TypeId} {elems spare:List (DataW H)} {ys:List AV} (hu:P.underlying t=some (.slice e)) (hn:ys.length=elems.length)
   (h:∀(i:Nat) (d:DataW H) (y:AV),elems[i]? = some d→ys[i]? = some y→DRep P e d y):DRep P t (.slice elems spare) (.slice false (P.cellsOf e) ys)
 | struct {t:TypeId} {fs:Array Field} {parts:List (DataW H)} {ys:List AV} (hu:P.underlying t=some (.struct fs)) (hn:parts.length=fs.size) (hn':ys.length=fs.size)
   (h:∀(i:Nat) (f:Field) (d:DataW H) (y:AV),fs[i]? = some f→parts[i]? = some d→ys[i]? = some y→DRep P f.type d y):DRep P t (.agg parts) (.agg (ys.flatMap AV.cells))

/-- Types that are made of numbers, texts, bools, slices and structs alone. -/
structure PlainT (P:Program) (T:TypeId→Prop):Prop where
 look:∀t,T t→(P.cellsOf t=1∧((∃k,P.underlying t=some (.int k))∨P.underlying t=some .bool∨P.underlying t=some .string∨(∃e,P.underlying t=some (.slice e)∧T e∧0<P.cellsOf e))) ∨
  (∃fs,P.underlying t=some (.struct fs)∧(∀f∈fs.toList,T f.type)∧P.cellsOf t=(fs.toList.map fun f=>P.cellsOf f.type).sum ∧
   ∀(j:Nat) (f:Field),fs.toList[j]? = some f→f.offset=((fs.toList.take j).map fun f=>P.cellsOf f.type).sum)

/-- The reading of a row of cells. -/
def CRep (W:World) (y:AV) (cs:List Value):Prop:=
 y.cells.length=cs.length∧(∀c∈y.cells,c.one=true)∧∀(j:Nat) (c:AV) (v:Value),y.cells[j]? = some c→cs[j]? = some v→Rep (G0 W) W none c v

theorem CRep.v1 {W:World} {x:Value} (h:x.oneCell'=true):CRep W (.v x) [x]:=
 ⟨rfl,by simp [AV.cells,AV.one,h],fun j c v h1 h2=>by
  match j with
  | 0=>simp [AV.cells] at h1 h2;subst h1;subst h2;exact .v _ _
  | j+1=>simp [AV.cells] at h1⟩

theorem fk {f:AV→List AV}:∀(ys:List AV) (j:Nat) (c:AV),(ys.flatMap f)[j]? = some c→∃(i:Nat) (y:AV) (q:Nat),ys[i]? = some y∧(f y)[q]? = some c∧j=((ys.take i).map fun y=>(f y).length).sum+q
 | [],j,c,h=>by simp at h
 | y::r,j,c,h=>by
  rw [Uw] at h
  rcases Bf j (f y).length with h'|h'
  ·rw [Ec h'] at h
   exact ⟨0,y,j,rfl,h,by simp⟩
  rw [Ed h'] at h
  obtain ⟨i,z,q,h1,h2,h3⟩:=fk r _ c h
  exact ⟨i+1,z,q,h1,h2,by simp only [List.take_succ_cons,Dl,List.sum_cons];omega⟩
theorem Nc {α:Type} {R:Nat→α→Prop}:∀(n:Nat),(∀i,i<n→∃y,R i y)→∃ys:List α,ys.length=n∧∀(i:Nat) (y:α),ys[i]? = some y→R i y
 | 0,_=>⟨[],rfl,fun i y h=>by simp at h⟩
 | n+1,h=>by
  obtain ⟨ys,h1,h2⟩:=Nc n (fun i hi=>h i (by omega))
  obtain ⟨y,hy⟩:=h n (by omega)
  refine ⟨ys++[y],by simp [h1],fun i z hz=>?_⟩
  rcases Bf i n with h'|h'
  ·rw [Ec (by omega)] at hz;exact h2 i z hz
  rw [Ed (by omega)] at hz
  have:i=n:=by
   have:=(Ad.1 hz).1
   simp at this;omega
  subst this
  rw [h1] at hz
  simp at hz
  exact hz ▸ hy
theorem Pg {α β:Type} {f:α→Nat} {g:β→Nat}:∀(l:List α) (m:List β),l.length=m.length→(∀(i:Nat) (a:α) (b:β),l[i]? = some a→m[i]? = some b→f a=g b)→(l.map f).sum=(m.map g).sum
 | [],[],_,_=>rfl
 | [],b::m,h,_=>by simp at h
 | a::l,[],h,_=>by simp at h
 | a::l,b::m,h,hh=>by
  simp only [Dl,List.sum_cons]
  rw [hh 0 a b rfl rfl,Pg l m (by simpa using h) (fun i a b h1 h2=>hh (i+1) a b h1 h2)]

theorem xb {T:TypeId→Prop} (PT:PlainT P T) {W:World}:∀(n:Nat) (t:TypeId) (cs:List Value) (x:DataW H×List MemPlace),T t→DataW.trod enc P W 0 (fun _=>true) true n t cs=some x →
  ∃y,DRep P t x.1 y∧CRep W y cs∧cs.length=P.cellsOf t:=by
 intro n
 induction n with
 | zero=>intro t cs x _ h;simp [DataW.trod] at h
 | succ n ih =>
  intro t cs x hT h
  rcases PT.look t hT with ⟨hc1,⟨k,hu⟩|hu|hu|⟨e,hu,he,hz⟩⟩|⟨fs,hu,hf,hsum,hoff⟩
  ·obtain ⟨m,rfl,rfl,hw⟩:=DataW.trod_int hu h
   exact ⟨_,.int hu hw,.v1 rfl,hc1.symm⟩
  ·obtain ⟨b,rfl,rfl⟩:=DataW.trod_bool hu h
   exact ⟨_,.bool hu,.v1 rfl,hc1.symm⟩
  ·obtain ⟨s,rfl,rfl,_⟩:=DataW.trod_string hu h
   exact ⟨_,.str hu,.v1 rfl,hc1.symm⟩
  ·rcases DataW.trod_slice hu h with ⟨rfl,rfl⟩|⟨a,len,cap,elems,rest,m,hm,rfl,rfl,hb,hlc,hcm,hel,hE,_,_⟩
   ·refine ⟨_,.nil hu,⟨rfl,by simp [AV.cells,AV.one],fun j c v h1 h2=>?_⟩,hc1.symm⟩
    match j with
    | 0=>simp [AV.cells] at h1 h2;subst h1;subst h2;exact .slice0 _ _ _
    | j+1=>simp [AV.cells] at h1
   injection hm with hm
   subst hm
   subst hel
   have hEi:∀i,i<elems.length→∃y,(∀d,elems[i]? = some d→DRep P e d.1 y)∧∃ci,W.cells? 0 (a.add (i*P.cellsOf e)) (P.cellsOf e)=some ci∧CRep W y ci:=fun i hi=>by
    have h1:=hE i hi
    rw [Aa hi,Option.bind_eq_some_iff] at h1
    obtain ⟨ci,h2,h3⟩:=h1
    obtain ⟨y,h4,h5,_⟩:=ih e ci _ he h3
    exact ⟨y,fun d hd=>by rw [Aa hi] at hd;injection hd with hd;subst hd;exact h4,ci,h2,h5⟩
   obtain ⟨ys,hyl,hys⟩:=Nc elems.length hEi
   refine ⟨.slice false (P.cellsOf e) ys,.slice hu (by simp [hyl]) (fun i d y hd hy=>?_),⟨rfl,by simp [AV.cells,AV.one],fun j c v h1 h2=>?_⟩,hc1.symm⟩
   ·rw [C8,Dw] at hd
    obtain ⟨d',hd',rfl⟩:=hd
    exact (hys i y hy).1 d' hd'
   match j with
   | j+1=>simp [AV.cells] at h1
   | 0 =>
    simp [AV.cells] at h1 h2
    subst h1;subst h2
    by_cases h0:elems.length=0
    ·have:ys=[]:=Zr (by omega)
     subst this
     rw [h0]
     exact .sliceE _ _ _ _
    have hspot:a.spot=none:=by
     obtain ⟨ci,hci,_⟩:=(hys 0 ys[0] (Aa (by omega))).2
     obtain ⟨_,g1,g2⟩:=World.cells?_some hci
     have g3:=g2 0 hz
     rw [Aa (by omega)] at g3
     simp only [Ud,Addr.add,if_true] at g3
     unfold World.cell? at g3
     split at g3
     ·split at g3
      ·cases g3
      rename_i hs;simpa using hs
     cases g3
    refine .slice _ false _ ys a _ cap (fun i j=>(W.cell? ⟨a.block,a.off+i*P.cellsOf e+j,none⟩).getD undef) hspot hyl.symm hlc (fun x hx=>?_) (fun x hx=>?_) (fun i x j y hx hy=>?_) (fun i x j y hx hy=>?_) (fun h=>by cases h)
    ·obtain ⟨i,hi⟩:=Cg hx
     obtain ⟨ci,hci,hcr⟩:=(hys i x hi).2
     rw [hcr.1]
     exact (World.cells?_some hci).2.1
    ·obtain ⟨i,hi⟩:=Cg hx
     obtain ⟨ci,hci,hcr⟩:=(hys i x hi).2
     exact hcr.2.1
    ·obtain ⟨ci,hci,hcr⟩:=(hys i x hx).2
     obtain ⟨_,g1,g2⟩:=World.cells?_some hci
     have hj:j<P.cellsOf e:=by
      have:=(Ad.1 hy).1
      rw [hcr.1] at this;omega
     have g3:=g2 j hj
     rw [Aa (by omega),Ci hspot,Ci rfl] at g3
     exact ⟨AFu g3,by rw [g3];rfl⟩
    obtain ⟨ci,hci,hcr⟩:=(hys i x hx).2
    obtain ⟨_,g1,g2⟩:=World.cells?_some hci
    have hj:j<P.cellsOf e:=by
     have:=(Ad.1 hy).1
     rw [hcr.1] at this;omega
    have g3:=g2 j hj
    rw [Aa (by omega),Ci hspot,Ci rfl] at g3
    simp only at g3
    rw [g3]
    exact hcr.2.2 j y _ hy (Aa (by omega))
  obtain ⟨xs,m,hm,rfl,hcl,hxl,hX⟩:=DataW.trod_struct hu h
  injection hm with hm
  subst hm
  have hXi:∀i,i<fs.size→∃y,∀(f:Field),fs[i]? = some f→(∀d,xs[i]? = some d→DRep P f.type d.1 y)∧CRep W y ((cs.drop f.offset).take (P.cellsOf f.type))∧y.cells.length=P.cellsOf f.type:=fun i hi=>by
   have h1:=hX i fs[i] (Eb hi)
   rw [Aa (by omega)] at h1
   obtain ⟨y,h2,h3,h4⟩:=ih _ _ _ (hf _ (by simp)) h1
   refine ⟨y,fun f hf'=>?_⟩
   rw [Eb hi] at hf'
   injection hf' with hf'
   subst hf'
   exact ⟨fun d hd=>by rw [Aa (by omega)] at hd;injection hd with hd;subst hd;exact h2,h3,by rw [h3.1,h4]⟩
  obtain ⟨ys,hyl,hys⟩:=Nc fs.size hXi
  have hlenI:∀(i:Nat),((ys.take i).map fun y=>y.cells.length).sum=((fs.toList.take i).map fun f=>P.cellsOf f.type).sum:=fun i=>by
   refine Pg _ _ (by simp [hyl]) (fun j y f h1 h2=>?_)
   rw [Gy] at h1 h2
   split at h1
   ·rename_i hj
    rw [if_pos hj] at h2
    exact (hys j y h1 f (by simpa using h2)).2.2
   cases h1
  have htot:(ys.flatMap AV.cells).length=cs.length:=by
   rw [List.length_flatMap,hcl,hsum]
   refine Pg _ _ (by simp [hyl]) (fun j y f h1 h2=>(hys j y h1 f (by simpa using h2)).2.2)
  refine ⟨.agg (ys.flatMap AV.cells),.struct hu (by simp [hxl]) hyl (fun i f d y hf' hd hy=>?_),⟨htot,fun c hc=>?_,fun j c v h1 h2=>?_⟩,hcl⟩
  ·rw [C8,Dw] at hd
   obtain ⟨d',hd',rfl⟩:=hd
   exact (hys i y hy f hf').1 d' hd'
  ·obtain ⟨y,hy,hcy⟩:=List.mem_flatMap.1 hc
   obtain ⟨i,hi⟩:=Cg hy
   have hlt:i<fs.size:=by rw [←hyl];exact (Ad.1 hi).1
   exact ((hys i y hi fs[i] (Eb hlt)).2.1).2.1 c hcy
  obtain ⟨i,y,q,g1,g2,rfl⟩:=fk ys j c h1
  have hlt:i<fs.size:=by rw [←hyl];exact (Ad.1 g1).1
  obtain ⟨_,k2,k3⟩:=hys i y g1 fs[i] (Eb hlt)
  have hq:q<P.cellsOf (fs[i]).type:=by have:=(Ad.1 g2).1;omega
  refine k2.2.2 q c v g2 ?_
  rw [Gy,if_pos hq,F4,hoff i fs[i] (by simp [hlt]),←hlenI i]
  exact h2

/-- A measure of data. -/
structure Bulk (B:DataW H→Nat):Prop where
 str:∀bs,bs.length≤B (.lit (.string bs))
 slice:∀elems spare,elems.length≤B (.slice elems spare)∧∀d∈elems,B d≤B (.slice elems spare)
 agg:∀parts,∀d∈parts,B d≤B (.agg parts)
theorem DRep.int' {t:TypeId} {k:IntKind} {d:DataW H} {y:AV} (hu:P.underlying t=some (.int k)) (h:DRep P t d y):∃n,d=.lit (.int k n)∧y=.v (.int k n)∧k.min≤n∧n≤k.max:=by
 cases h with
 | int hu' wf=>rw [hu] at hu';injection hu' with e;injection e with e;subst e;exact ⟨_,rfl,rfl,by simpa [Lit.wf] using wf⟩
 | _ hu'=>rw [hu] at hu';cases hu'
theorem DRep.bool' {t:TypeId} {d:DataW H} {y:AV} (hu:P.underlying t=some .bool) (h:DRep P t d y):∃b,d=.lit (.bool b)∧y=.v (.bool b):=by
 cases h with
 | bool hu'=>exact ⟨_,rfl,rfl⟩
 | _ hu'=>rw [hu] at hu';cases hu'
theorem DRep.str' {t:TypeId} {d:DataW H} {y:AV} (hu:P.underlying t=some .string) (h:DRep P t d y):∃s,d=.lit (.string s)∧y=.v (sv s):=by
 cases h with
 | str hu'=>exact ⟨_,rfl,rfl⟩
 | _ hu'=>rw [hu] at hu';cases hu'
theorem DRep.slice' {t e:TypeId} {d:DataW H} {y:AV} {B:DataW H→Nat} (hB:Bulk B) {α:Type} (A:α→AV) (R:α→Prop) {b:Nat} (hu:P.underlying t=some (.slice e)) (h:DRep P t d y) (hb:B d≤b)
  (hE:∀d y,B d≤b→DRep P e d y→∃x,y=A x∧R x):∃l:List α,y=.slice false (P.cellsOf e) (l.map A)∧l.length≤b∧∀x∈l,R x:=by
 cases h with
 | nil hu'=>rw [hu] at hu';injection hu' with e';injection e' with e';subst e';exact ⟨[],rfl,Av _,fun x hx=>by cases hx⟩
 | slice hu' hn hh =>
  rw [hu] at hu';injection hu' with e';injection e' with e';subst e'
  rename_i elems spare ys
  obtain ⟨h1,h2⟩:=hB.slice elems spare
  have key:∀(ys:List AV) (es:List (DataW H)),ys.length=es.length→(∀d∈es,B d≤b)→(∀(i:Nat) (d:DataW H) (y:AV),es[i]? = some d→ys[i]? = some y→DRep P e d y)→∃l:List α,ys=l.map A∧∀x∈l,R x:=by
   intro ys
   induction ys with
   | nil=>exact fun es _ _ _=>⟨[],rfl,fun x hx=>by cases hx⟩
   | cons y ys ih =>
    intro es hl hb2 hr
    cases es with
    | nil=>simp at hl
    | cons d es =>
     obtain ⟨x,rfl,hx⟩:=hE d y (hb2 d (by simp)) (hr 0 d y rfl rfl)
     obtain ⟨l,rfl,hR⟩:=ih es (by simpa using hl) (fun d hd=>hb2 d (by simp [hd])) (fun i d y a c=>hr (i+1) d y a c)
     exact ⟨x::l,rfl,fun z hz=>by
      rcases By.1 hz with rfl|hz
      ·exact hx
      exact hR z hz⟩
  obtain ⟨l,rfl,hR⟩:=key ys elems hn (fun d hd=>Nu (h2 d hd) hb) hh
  exact ⟨l,rfl,by simp at hn;omega,hR⟩
 | _ hu'=>rw [hu] at hu';cases hu'
theorem DRep.struct' {t:TypeId} {fs:Array Field} {d:DataW H} {y:AV} {B:DataW H→Nat} (hB:Bulk B) (hu:P.underlying t=some (.struct fs)) (h:DRep P t d y):
  ∃ys:List AV,ys.length=fs.size∧y=.agg (ys.flatMap AV.cells)∧∀(i:Nat) (f:Field) (z:AV),fs[i]? = some f→ys[i]? = some z→∃d',B d'≤B d∧DRep P f.type d' z:=by
 cases h with
 | struct hu' hn hn' hh =>
  rw [hu] at hu';injection hu' with e';injection e' with e';subst e'
  rename_i parts ys
  refine ⟨ys,hn',rfl,fun i f z h1 h2=>?_⟩
  have hlt:i<parts.length:=by rw [hn];exact (Mh.1 h1).1
  exact ⟨parts[i],hB.agg parts _ (Br hlt),hh i f parts[i] z h1 (Aa hlt) h2⟩
 | _ hu'=>rw [hu] at hu';cases hu'

/-- An argument's reading. -/
theorem ABd {T:TypeId→Prop} (PT:PlainT P T) {W:World} {t:TypeId} {v:Value} {d:DataW H} {ps:List MemPlace} {b0:Nat} (hT:T t) (hok:Value.okWide P W .any b0 t v) (h:DataW.Trod enc P W 0 (fun _=>true) true t v d ps):
  ∃y,DRep P t d y∧Rep (G0 W) W none y v:=by
 obtain ⟨n,hn⟩:=h
 obtain ⟨y,h1,h2,h3⟩:=xb PT n t _ _ hT hn
 refine ⟨y,h1,?_⟩
 rcases PT.look t hT with ⟨hc1,hone⟩|⟨fs,hu,_⟩
 ·have hva:∀cs,v≠.agg cs:=fun cs e=>by
   subst e
   rcases hone with ⟨k,hu⟩|hu|hu|⟨e,hu,he,hz⟩<;>simp [Value.okWide,hu,Cell.okWide,Cell.ok] at hok
  have hvc:v.cells=#[v]:=by cases v<;>first|rfl|exact absurd rfl (hva _)
  have hyc:y.cells=[y]:=by
   cases h1 with
   | struct hu=>rcases hone with ⟨k,hu'⟩|hu'|hu'|⟨e,hu',he,hz⟩<;>rw [hu] at hu'<;>cases hu'
   | _=>rfl
  have:=h2.2.2 0 y v (by rw [hyc];rfl) (by rw [hvc];rfl)
  exact this
 obtain ⟨cs,rfl,hsz,_⟩:∃cs,v=.agg cs∧cs.size=P.cellsOf t∧Row.okWide P W .any b0 t cs:=by
  simp only [Value.okWide,hu] at hok
  exact hok
 cases h1 with
 | struct hu' hn1 hn2 hh =>
  refine .agg _ _ _ (by have:=h2.1;simp only [AV.cells,Value.cells,Array.length_toList] at this;exact this.symm) h2.2.1 (fun i c u a b=>h2.2.2 i c u a (by simpa [Value.cells] using b))
 | int hu'=>rw [hu] at hu';cases hu'
 | bool hu'=>rw [hu] at hu';cases hu'
 | str hu'=>rw [hu] at hu';cases hu'
 | nil hu'=>rw [hu] at hu';cases hu'
 | slice hu'=>rw [hu] at hu';cases hu'

def DReps (P:Program):List TypeId→List (DataW H)→List AV→Prop
 | [],[],[]=>True
 | t::ts,d::ds,y::ys=>DRep P t d y∧DReps P ts ds ys
 | _,_,_=>False

theorem DReps.cons' {t:TypeId} {ts:List TypeId} {ds:List (DataW H)} {ys:List AV} (h:DReps P (t::ts) ds ys):∃d ds' y ys',ds=d::ds'∧ys=y::ys'∧DRep P t d y∧DReps P ts ds' ys':=by
 match ds,ys,h with
 | d::ds',y::ys',⟨h1,h2⟩=>exact ⟨d,ds',y,ys',rfl,rfl,h1,h2⟩
 | [],_,h=>simp [DReps] at h
 | _::_,[],h=>simp [DReps] at h
theorem DReps.nil' {ds:List (DataW H)} {ys:List AV} (h:DReps P [] ds ys):ds=[]∧ys=[]:=by
 match ds,ys,h with
 | [],[],_=>exact ⟨rfl,rfl⟩
 | [],_::_,h=>simp [DReps] at h
 | _::_,_,h=>simp [DReps] at h
theorem Yk {T:TypeId→Prop} (PT:PlainT P T) {W:World} {b0:Nat}:∀(ts:List TypeId) (vs:List Value) (ds:List (DataW H)) (ps:List MemPlace),(∀t∈ts,T t) →
  (∀(j:Nat) t v,ts[j]? = some t→vs[j]? = some v→Value.okWide P W .any b0 t v)→DataW.TrodAll enc P W 0 (fun _=>true) true ts vs ds ps →
  ∃ys,DReps P ts ds ys∧ys.length=vs.length∧∀(i:Nat) (y:AV) (u:Value),ys[i]? = some y→vs[i]? = some u→Rep (G0 W) W none y u
 | [],[],[],_,_,_,_=>⟨[],trivial,rfl,fun i y u h=>by simp at h⟩
 | t::ts,v::vs,d::ds,ps,hT,hok,⟨p,q,h1,h2,_⟩=>by
  obtain ⟨y,k1,k2⟩:=ABd PT (hT t (by simp)) (hok 0 t v rfl rfl) h1
  obtain ⟨ys,k3,k4,k5⟩:=Yk PT ts vs ds q (fun t ht=>hT t (by simp [ht])) (fun j t v a b=>hok (j+1) t v a b) h2
  refine ⟨y::ys,⟨k1,k3⟩,by simp [k4],fun i z u a b=>?_⟩
  match i with
  | 0=>simp at a b;subst a;subst b;exact k2
  | i+1=>exact k5 i z u a b
 | [],_::_,_,_,_,_,h=>by simp [DataW.TrodAll] at h
 | [],[],_::_,_,_,_,h=>by simp [DataW.TrodAll] at h
 | _::_,[],_,_,_,_,h=>by simp [DataW.TrodAll] at h
 | _::_,_::_,[],_,_,_,h=>by simp [DataW.TrodAll] at h

theorem T3 {W:World} {sp:Nat→Bool} {hd:Bool}:∀{ts:List TypeId} {vs:List Value} {ds:List (DataW H)} {ps:List MemPlace},DataW.TrodAll enc P W 0 sp hd ts vs ds ps→ds.length=ts.length
 | [],[],[],_,_=>rfl
 | _::_,_::_,_::_,_,⟨_,_,_,h,_⟩=>by rw [Aw,Aw,T3 h]
 | [],_::_,_,_,h=>by simp [DataW.TrodAll] at h
 | [],[],_::_,_,h=>by simp [DataW.TrodAll] at h
 | _::_,[],_,_,h=>by simp [DataW.TrodAll] at h
 | _::_,_::_,[],_,h=>by simp [DataW.TrodAll] at h
theorem Nd {W W':World} {sp:Nat→Bool}:∀{ts:List TypeId} {vs:List Value} {ds:List (DataW H)} {ps:List MemPlace},DataW.TrodAll enc P W 0 sp true ts vs ds ps→(∀p∈ps,W.sameAt W' p)→DataW.TrodAll enc P W' 0 sp true ts vs ds ps
 | [],[],[],_,h,_=>h
 | _::_,_::_,_::_,_,⟨p,q,⟨n,hn⟩,h2,e⟩,hs=>⟨p,q,⟨n,DataW.trod_carry n _ _ _ hn (fun x hx=>hs x (by rw [e];exact m3 _ hx))⟩,Nd h2 (fun x hx=>hs x (by rw [e];exact Pu _ hx)),e⟩
 | [],_::_,_,_,h,_=>by simp [DataW.TrodAll] at h
 | [],[],_::_,_,h,_=>by simp [DataW.TrodAll] at h
 | _::_,[],_,_,h,_=>by simp [DataW.TrodAll] at h
 | _::_,_::_,[],_,h,_=>by simp [DataW.TrodAll] at h

/-- **A law that answers true, for whatever can be read.** -/
theorem qw {f:FuncId} {fn:Func} {s:ChangeSpec} {T:TypeId→Prop} {tb:TypeId} {W:World} {base:Nat} {args:Array Value} {ds gs:List (DataW H)} {before:List MemPlace} (K:Kids P (·<P.types.size)) (hz:∀t e,t<P.types.size→P.underlying t=some (.slice e)→0<P.cellsOf e)
  (PT:PlainT P T) (hT:∀t∈fn.params.toList,T t∧t<P.types.size) (hb:P.underlying tb=some .bool) (hres:fn.resultTypes=#[tb]) (hvars:s.vars=[])
  (hspec:∀ds:List (DataW H),ds.length=fn.params.size→s.fn H ds={ results:=[.lit (.bool true)],args:=ds })
  (hval:∀(j:Nat) t v,fn.params[j]? = some t→args[j]? = some v→Value.okWide P W .any base t v) (hW:DataW.Whole enc P fn.params.toList s.vars false W args.toList ds gs before)
  (hglob:Hu W)
  (main:∀ys:List AV,DReps P fn.params.toList ds ys→AFun P f ys [] (.v (.bool true))) (hbd:GI.bd≤0:=by exact Ap 0):
  Calls P f args W (fun e W'=>∃v,e=.returned v∧s.post enc P fn false true false false W args v W'):=by
 have hW0:=hW
 obtain ⟨p,q,hA,hV,hpq,hfz,hnd⟩:=hW
 rw [hvars] at hV
 obtain ⟨rfl,rfl⟩:=trodVars_none hV
 rw [Fz] at hpq
 subst hpq
 obtain ⟨ys,h1,h2,h3⟩:=Yk PT _ _ _ _ (fun t ht=>(hT t ht).1) (fun j t v a b=>hval j t v (by simpa using a) (by simpa using b)) hA
 have hlen:=T3 hA
 have hc:=main ys h1 0 (G0 W) W args (by simpa using h2.symm) (fun i y u a b=>(h3 i y u a (by simpa using b)).lift) (ABb W) (ABc hglob)
 refine (callsIn_wide.1 (hc hbd)).mono ?_
 rintro e W' ⟨v,G',r,H',rfl,hr,hH,hTg,hk,hl,rfl,rfl⟩
 have hv:=Kh hr
 subst hv
 refine ⟨_,rfl,ds,[],before,[],before,[],hW0,?_,?_,?_,?_,fun h=>by cases h⟩
 ·rw [hres,Fz,hspec ds (by simpa using hlen)]
  exact trodAll_cons_mk (p:=[]) (shut_bool hb true) trodAll_mk0
 ·rw [Fz,hspec ds (by simpa using hlen)]
  refine Nd (DataW.TrodAll.respare K hz (fun t ht=>(hT t ht).2) hA (fun p hp=>by simpa using hW0.lt p hp)) (fun p hp=>?_)
  have hlt:=hW0.lt p hp
  have hb:=(hk.old _ (Ry hlt)).1
  cases p with
  | cell b o=>exact E8 hb
  | map b=>exact hb
 ·rw [hvars,Fz,hspec ds (by simpa using hlen)]
  rfl
 refine ⟨hk.os,hk.output,fun i hi=>?_⟩
 have hb:=(hk.old i (Ry hi)).1
 rw [hb]
 cases ho:W.heap[i]? with
 | none=>simp
 | some o=>cases o<;>simp
end
end Go.SX
namespace Go.Proofs.YtfngkblpcigciaaGreatDoor
open Go Go.SX Go.SX.Nb Go.ChangeShapes Go.RowKit
set_option maxRecDepth 100000

theorem own:ownKnob Tryz.prog.godebug=none:=by kernel_rfl
theorem kids:Kids Tryz.prog (·<Tryz.prog.types.size):=kids_rows (by kernel_rfl) (by kernel_rfl)
theorem full:∀t e,t<Tryz.prog.types.size→Tryz.prog.underlying t=some (.slice e)→0<Tryz.prog.cellsOf e:=slices_full_of Tryz.prog (by kernel_rfl)
theorem xc {H:Type}:∀d:DataW H,1≤Rows.uptoBulk d
 | .lit (.string b)=>by rw [Rows.uptoBulk];omega
 | .lit (.bool _)=>by simp [Rows.uptoBulk]
 | .lit (.int _ _)=>by simp [Rows.uptoBulk]
 | .lit (.float _ _)=>by simp [Rows.uptoBulk]
 | .lit .nil=>by simp [Rows.uptoBulk]
 | .nil=>by simp [Rows.uptoBulk]
 | .ptr d=>by rw [Rows.uptoBulk];omega
 | .slice a b=>by rw [Rows.uptoBulk];omega
 | .agg a=>by rw [Rows.uptoBulk];omega
 | .iface _ d=>by rw [Rows.uptoBulk];omega
 | .map a=>by rw [Rows.uptoBulk];omega
 | .held _=>by simp [Rows.uptoBulk]
theorem W3 {H:Type}:∀l:List (DataW H),l.length≤Rows.uptoBulkAll l∧∀d∈l,Rows.uptoBulk d≤Rows.uptoBulkAll l
 | []=>⟨Nat.zero_le _,fun d h=>by cases h⟩
 | d::r=>by
  obtain ⟨h1,h2⟩:=W3 r
  have:=xc d
  rw [Rows.uptoBulkAll,List.length_cons]
  refine ⟨by omega,fun x hx=>?_⟩
  rcases List.mem_cons.1 hx with rfl|hx
  ·omega
  have:=h2 x hx;omega
theorem fl {H:Type}:Bulk (Rows.uptoBulk (H:=H)) where
 str:=fun bs=>by rw [Rows.uptoBulk];omega
 slice:=fun elems spare=>by
  obtain ⟨h1,h2⟩:=W3 elems
  rw [Rows.uptoBulk]
  exact ⟨by omega,fun d hd=>by have:=h2 d hd;omega⟩
 agg:=fun parts d hd=>by
  have:=(W3 parts).2 d hd
  rw [Rows.uptoBulk]
  omega

/-- What the rows of this seat list. -/
def mn:List (String×DataW Unit):=Rows.queryLimitsUptoRow.laid
theorem Yl:∀u,Tryz.prog.typeName? 3 u=some "*errors.errorString" → u=229:=by
 intro u hu
 exact typeName_ptr_named (nm := "errors.errorString") (by kernel_rfl) (by kernel_rfl) (by decide) u hu
theorem ABe {W:World} (h:laidMet Tryz.prog mn W):∃a:Addr,W.var? Tryz.prog "strconv.ErrRange" = some #[.iface 229 (.pointer (some a))]:=by
 have h':=h.tail.tail.tail.tail
 obtain ⟨a,s,h1,_⟩:=laid_sentinel (g:=1) (ti:=115) (tp:=229) (te:=231) (ts:=9) h' (by kernel_rfl) (by kernel_rfl) Tryz.underlying115 Yl Tryz.underlying229 Tryz.underlying231 rfl rfl Tryz.underlying9 (by kernel_rfl) (by kernel_rfl)
 exact ⟨a,h1⟩
theorem xd {W:World} (h:laidMet Tryz.prog mn W):∃a:Addr,W.var? Tryz.prog "strconv.ErrSyntax" = some #[.iface 229 (.pointer (some a))]:=by
 have h':=h.tail.tail.tail.tail.tail
 obtain ⟨a,s,h1,_⟩:=laid_sentinel (g:=0) (ti:=115) (tp:=229) (te:=231) (ts:=9) h' (by kernel_rfl) (by kernel_rfl) Tryz.underlying115 Yl Tryz.underlying229 Tryz.underlying231 rfl rfl Tryz.underlying9 (by kernel_rfl) (by kernel_rfl)
 exact ⟨a,h1⟩
theorem ABf {W:World} (h:laidMet Tryz.prog mn W):Lib.TabIs Tryz.prog W "internal/strconv.uint64pow10" .u64 Lib.pow10Tab:=
 Lib.tabIs_of_head (g:=3) (t:=216) (e:=97) (n:=20) (by kernel_rfl) (by kernel_rfl) (by kernel_rfl) (by kernel_rfl) (by kernel_rfl) (by kernel_rfl) h.tail.tail
theorem Rz {P:Program} {W:World} {n:String} {g:Nat} {cs:Array Value} (hg:P.globalNamed n=some g) (h:W.var? P n=some cs):∃t f,W.heap[g]? = some (.cells cs t f):=by
 unfold World.var? at h
 rw [hg] at h
 simp only [Option.bind_some] at h
 split at h
 ·rename_i cs' t f e
  injection h with h
  subst h
  exact ⟨t,f,e⟩
 cases h
theorem glob {W:World} [E:ErrAt] (h:W.ShapedOpen Tryz.prog) (hl:laidMet Tryz.prog mn W) (he:W.var? Tryz.prog "strconv.ErrRange" = some #[.iface 229 (.pointer (some E.b))]) (he2:W.var? Tryz.prog "strconv.ErrSyntax" = some #[.iface 229 (.pointer (some E.bs))]):Hu W:=by
 intro x hx
 have hx':x∈Vi:=hx
 unfold Vi at hx'
 simp only [List.mem_cons,List.mem_nil_iff,or_false] at hx'
 rcases hx' with rfl|rfl|rfl|rfl
 ·obtain ⟨m,hm⟩:=cell_of_shapedOpen_int (g:=2) (t:=3) (zero:=#[.int .i64 0]) (k:=.i64) h (of_decide_eq_true (by kernel_rfl)) (by kernel_rfl) rfl (by kernel_rfl) (by kernel_rfl) Tryz.underlying3
  obtain ⟨cs,hh,hs,_⟩:=h.1 2 #[.int .i64 0] 3 (of_decide_eq_true (by kernel_rfl)) (by kernel_rfl)
  have hs':cs.size=1:=hs
  have h1:0<cs.size:=by omega
  have hc:cs[0]=.int .i64 m:=by
   simp [World.cell?,hh,h1] at hm
   exact hm
  have:cs=#[.int .i64 m]:=by
   apply Array.ext
   ·simpa using hs'
   intro i h1 h2
   have:i=0:=by omega
   subst this
   simpa using hc
  rw [this] at hh
  exact ⟨_,hh,m,3,_,rfl⟩
 ·obtain ⟨t,f,e⟩:=Rz (g:=1) (by kernel_rfl) he
  exact ⟨_,e,t,f,rfl⟩
 ·obtain ⟨t,f,e⟩:=Rz (g:=0) (by kernel_rfl) he2
  exact ⟨_,e,t,f,rfl⟩
 obtain ⟨t,f,e⟩:=Rz (g:=3) (by kernel_rfl) (ABf hl)
 exact ⟨_,e,t,f,rfl⟩
end Go.Proofs.YtfngkblpcigciaaGreatDoor
namespace Go.SX.Nb
open Go Go.SX Go.Proofs
variable [ErrAt]
set_option maxRecDepth 4000
mutual
def depthE:Expr→Nat
 | .mk _ _ _ k=>E0 k+1
def E0:List Expr→Nat
  | []=>0
  | e::r=>max (depthE e) (E0 r)
 end
mutual
def Dk (p:Expr→Bool):Expr→Bool
 | .mk o t v k=>p (.mk o t v k)&&Hw p k
def Hw (p:Expr→Bool):List Expr→Bool
  | []=>true
  | e::r=>Dk p e&&Hw p r
 end
mutual
def W4:Expr→List Expr
 | .mk o t v k=>.mk o t v k::S1 k
def S1:List Expr→List Expr
  | []=>[]
  | e::r=>W4 e++S1 r
 end
theorem O5 (e:Expr):depthE e=E0 e.kids+1:=by cases e;rfl
theorem Ff (p:Expr→Bool) (e:Expr):Dk p e=(p e&&Hw p e.kids):=by cases e;rfl
theorem Ov:∀a b,E0 (a++b)=max (E0 a) (E0 b)
 | [],b=>by rw [Dr,E0,Nat.zero_max]
 | e::r,b=>by rw [Dz,E0,E0,Ov r b,Nat.max_assoc]
theorem M1:∀a b,C6 (a++b)=C6 a+C6 b
 | [],b=>by rw [Dr,C6,Bm]
 | e::r,b=>by rw [Dz,C6,C6,M1 r b,J9]
theorem T5 (p:Expr→Bool):∀a b,Hw p (a++b)=(Hw p a&&Hw p b)
 | [],b=>by rw [Dr,Hw,Cw]
 | e::r,b=>by rw [Dz,Hw,Hw,T5 p r b,Bool.and_assoc]
theorem T6 (l:List Expr) {x:Nat} (h:x<l.length):E0 (l.take (x+1))=max (E0 (l.take x)) (depthE l[x]):=by
 rw [Fw h,Ov,E0,E0,Nat.max_zero]
theorem l5 (l:List Expr) {x:Nat} (h:x<l.length):C6 (l.take (x+1))=C6 (l.take x)+sizeE l[x]:=by
 rw [Fw h,M1,C6,C6,Nat.add_zero]
theorem D3 (p:Expr→Bool):∀l:List Expr,Hw p l=true↔∀y∈l,Dk p y=true
 | []=>by simp [Hw]
 | e::r=>by rw [Hw,Al,D3 p r];simp
mutual
theorem Gd:∀(d:Int) (e:Expr),(Bs d e).length=sizeE e
 | d,.mk o t v k=>by rw [Bs,sizeE,Aw,W5 (d+1) k,U7]
theorem W5:∀(d:Int) (l:List Expr),(Bo d l).length=C6 l
  | d,[]=>rfl
  | d,e::r=>by rw [Bo,C6,Aq,Gd d e,W5 d r]
 end
mutual
theorem W6:∀(d:Int) (e:Expr),(Bs d e).map (·.2)=W4 e
 | d,.mk o t v k=>by rw [Bs,W4,Dl,W7 (d+1) k]
theorem W7:∀(d:Int) (l:List Expr),(Bo d l).map (·.2)=S1 l
  | d,[]=>rfl
  | d,e::r=>by rw [Bo,S1,Cs,W6 d e,W7 d r]
 end
mutual
theorem Ym (p:Expr→Bool):∀e:Expr,(W4 e).all p=Dk p e
 | .mk o t v k=>by rw [W4,Dk,List.all_cons,W8 p k]
theorem W8 (p:Expr→Bool):∀l:List Expr,(S1 l).all p=Hw p l
  | []=>rfl
  | e::r=>by rw [S1,Hw,List.all_append,Ym p e,W8 p r]
 end
theorem qx (p:Expr→Bool) (d:Int) (e:Expr):((Bs d e).all fun it=>p it.2)=Dk p e:=by
 rw [←Ym p e,←W6 d e,List.all_map]
 rfl
def Fc (m:Int) (L:List (Int×Expr)):Int:=L.foldl (fun m it=>max m it.1) m
mutual
theorem W9:∀(d m:Int) (e:Expr),Fc m (Bs d e)=max m (d-1+depthE e)
 | d,m,.mk o t v k=>by
  rw [Bs,depthE]
  show Fc (max m d) (Bo (d+1) k)=_
  rw [Wa (d+1) (max m d) k (by omega)]
  omega
theorem Wa:∀(d m:Int) (l:List Expr),d-1≤m→Fc m (Bo d l)=max m (d-1+E0 l)
  | d,m,[],h=>by
    rw [Bo,E0]
    show m=_
    omega
  | d,m,e::r,h=>by
    rw [Bo,E0]
    unfold Fc
    rw [Zw]
    show Fc (Fc m (Bs d e)) (Bo d r)=_
    rw [W9 d m e,Wa d _ r (by omega)]
    omega
 end
theorem T7 (e:Expr):Fc 0 (Bs 1 e)=depthE e:=by rw [W9];omega
theorem fm:∀(L:List (Int×Expr)) (m b:Int),m≤b→(Fc m L≤b↔∀it∈L,it.1≤b)
 | [],m,b,h=>by simp [Fc,h]
 | it::r,m,b,h=>by
  show Fc (max m it.1) r≤b↔_
  rcases Decidable.em (it.1≤b) with h1|h1
  ·rw [fm r (max m it.1) b (by omega)]
   simp [h1]
  constructor
  ·intro h2
   have:∀(r:List (Int×Expr)) (m:Int),m≤Fc m r:=by
    intro r
    induction r with
    | nil=>intro m;exact Int.le_refl _
    | cons a r ih=>intro m;have:=ih (max m a.1);show m≤Fc (max m a.1) r;omega
   have:=this r (max m it.1)
   omega
  intro h2
  exact absurd (h2 it (by simp)) h1
theorem ABg (e:Expr) {b:Nat}:(∀it∈Bs 1 e,it.1≤(b:Int))↔depthE e≤b:=by
 rw [←fm (Bs 1 e) 0 b (by omega),T7]
 omega
def Cz (e:Expr):Bool:=(decide (depthE e≤30)&&decide (sizeE e≤300))&&Dk Cu e
theorem Ds (e:Expr):C3 e=Cz e:=by
 have hpos:1≤sizeE e:=by rw [H1];omega
 rw [Js]
 unfold C3 Cz
 rw [B1]
 simp only [Al,decide_eq_true_eq,Nq,Gd]
 rw [←ABg e,←qx Cu 1 e,B1]
 constructor
 ·intro h
  have key:∀(k:Nat) (hk:k<(Bs 1 e).length),Cu (Bs 1 e)[k].2=true∧(Bs 1 e)[k].1≤30∧(k:Int)+1≤300:=fun k hk=>by
   have:=h k (by rw [Gd] at hk;exact hk)
   rw [bv (Aa hk)] at this
   simp only [Ju,Cv,Jt,decide_eq_false_iff_not] at this
   exact ⟨this.1.1,by have:=this.1.2;omega,by have:=this.2;omega⟩
  refine ⟨⟨fun it hit=>?_,?_⟩,fun it hit=>?_⟩
  ·obtain ⟨k,hk,rfl⟩:=P5 hit
   exact (key k hk).2.1
  ·have:=(key (sizeE e-1) (by rw [Gd];omega)).2.2
   omega
  obtain ⟨k,hk,rfl⟩:=P5 hit
  exact (key k hk).1
 rintro ⟨⟨h1,h2⟩,h3⟩ k hk
 have hk':k<(Bs 1 e).length:=by rw [Gd];exact hk
 rw [bv (Aa hk')]
 have a1:=h1 _ (Br hk')
 have a3:=h3 _ (Br hk')
 have a3':Cu (Bs 1 e)[k].2=true:=a3
 rw [a3']
 simp only [Ju,Cv,Bn,decide_eq_false_iff_not]
 exact ⟨⟨trivial,by have:(Bs 1 e)[k].1≤(30:Int):=a1;omega⟩,by omega⟩
/-- Its number is one of 64 bits. -/
def Hy (e:Expr):Bool:=decide (-9223372036854775808≤e.val.n)&&decide (e.val.n≤9223372036854775807)
/-! Names. -/
mutual
def eqE:Expr→Expr→Bool
 | .mk o t v k,.mk o' t' v' k'=>((((o==o')&&(t==t'))&&((v.kind==v'.kind&&v.n==v'.n)&&v.s==v'.s)))&&eqL k k'
def eqL:List Expr→List Expr→Bool
  | [],[]=>true
  | e::r,e'::r'=>eqE e e'&&eqL r r'
  | _,_=>false
 end
theorem xe (x y:Expr):eqE x y=((((x.op==y.op)&&(x.text==y.text))&&((x.val.kind==y.val.kind&&x.val.n==y.val.n)&&x.val.s==y.val.s))&&eqL x.kids y.kids):=by
 cases x;cases y;rw [eqE];rfl
mutual
theorem ca:∀x y:Expr,eqE x y=true↔x=y
 | .mk o t v k,.mk o' t' v' k'=>by
  rw [eqE]
  simp only [Al,beq_iff_eq,Qg k k',Expr.mk.injEq]
  constructor
  ·rintro ⟨⟨⟨rfl,rfl⟩,⟨h1,h2⟩,h3⟩,rfl⟩
   refine ⟨rfl,rfl,?_,rfl⟩
   cases v;cases v'
   simp_all
  rintro ⟨rfl,rfl,rfl,rfl⟩
  exact ⟨⟨⟨rfl,rfl⟩,⟨rfl,rfl⟩,rfl⟩,rfl⟩
theorem Qg:∀x y:List Expr,eqL x y=true↔x=y
  | [],[]=>by simp [eqL]
  | [],e::r=>by simp [eqL]
  | e::r,[]=>by simp [eqL]
  | e::r,e'::r'=>by rw [eqL,Al,ca e e',Qg r r',Uv]
 end
theorem ABh:∀{x y:List Expr},eqL x y=true→x.length=y.length:=fun h=>by rw [(Qg _ _).1 h]
theorem xf (x:Expr):eqE x x=true:=(ca x x).2 rfl
/-! A node by itself, and marks. -/
theorem cb {of:Str} {ws:List Str} (h:of=Na ws) (hp:∀w∈ws,(32:UInt8)∉w) (s:Str):O3 s of=(!(s==[])&&ws.contains s):=by
 unfold O3
 rw [fj]
 cases hb:s.contains 32 with
 | false =>
  have h2:(32:UInt8)∉s:=by simpa using hb
  rw [h,K4 s h2 ws hp,Cj,P4]
  congr 1
  rw [List.contains_eq_any_beq]
  congr 1
  funext w
  rw [Js,beq_iff_eq,beq_iff_eq]
  exact eq_comm
 | true =>
  have h2:(32:UInt8)∈s:=by simpa using hb
  have h3:ws.contains s=false:=by
   rw [I7]
   intro h4
   exact hp s (by simpa using h4) h2
  rw [h3]
  simp
def levels:List (List Str):=[[[111,114]],[[97,110,100]],[],[[61],[33,61],[60],[60,61],[62],[62,61]],[[43],[45],[38]],[[42],[47],[37]]]
def Ba (s:Str):Int:=match levels.findIdx? (fun l=>l.contains s) with|some i=>i|none => -1
def S3:List Str:=[[111,114],[],[97,110,100],[],[61],[33,61],[60],[60,61],[62],[62,61],[],[43],[45],[38],[],[42],[47],[37]]
theorem l6:O4=Na S3:=by kernel_rfl
theorem fp:∀w∈S3,(32:UInt8)∉w:=by decide
theorem l7 (s:Str):O3 s O4=decide (0≤Ba s):=by
 rw [cb l6 fp s]
 have h1:decide (0≤Ba s)=levels.any (fun l=>l.contains s):=by
  unfold Ba
  cases h:levels.findIdx? (fun l=>l.contains s) with
  | some i =>
   have:levels.any (fun l=>l.contains s)=true:=by
    have:=R9.1 h
    obtain ⟨hi,hp,_⟩:=this
    exact Gw.2 ⟨_,Br hi,hp⟩
   rw [this]
   simp
  | none =>
   have:=Zv.1 h
   have e:levels.any (fun l=>l.contains s)=false:=by
    rw [Li]
    intro l hl
    rw [this l hl]
    simp
   rw [e]
   rfl
 rw [h1]
 by_cases h0:s=[]
 ·subst h0;rfl
 have:(s==[])=false:=by simpa using h0
 rw [this,Cj,Cw]
 simp [levels,S3,h0,Bool.or_assoc]
def Ge (e:Expr):Bool:=
 if e.op==1 then ((Bu e.val&&decide (0≤e.val.n))&&(e.text==[]))&&((e.kids.length:Int)==0)
 else if !(L6 e.val) then false
 else if e.op==2 then K2 e.text&&((e.kids.length:Int)==0)
 else if e.op==3 || e.op==4 then (e.text==[])&&((e.kids.length:Int)==1)
 else if e.op==5 then decide (0≤Ba e.text)&&((e.kids.length:Int)==2)
 else if e.op==6 then Bv e.text==(e.kids.length:Int)
 else false
theorem Qh (e:Expr):Cu e=Ge e:=by
 unfold Cu Ge
 rw [l7,Ly]
 cases L6 e.val<;>simp
/-! What is wide. -/
def S4 (e:Expr):Bool:=((decide ((100:Int)<e.text.length) || decide ((400:Int)<e.val.s.length)) || decide ((100:Int)<e.kids.length))
/-- Among trees, when n have been seen: is one too much? -/
def Ow (l:List Expr) (n:Nat):Bool:=decide (500<n+l.length) || l.any S4
def H2:Nat→List Expr→Nat→Bool
 | 0,l,n => !l.isEmpty
 | f+1,l,n=>if l.isEmpty then false else if Ow l n then true else if decide ((500:Int)<(l.flatMap Expr.kids).length) then true else H2 f (l.flatMap Expr.kids) (n+l.length)
theorem Wb:∀l:List Expr,C6 l=l.length+C6 (l.flatMap Expr.kids)
 | []=>rfl
 | e::r=>by
  rw [C6,H1,Uw,M1,Wb r,Aw]
  omega
theorem Wc {l:List Expr} {n:Nat} (h:Ow l n=false):n+l.length≤500∧∀e∈l,S4 e=false:=by
 unfold Ow at h
 simp only [Cv,decide_eq_false_iff_not,Li,R5] at h
 exact ⟨by omega,h.2⟩
theorem cc {e:Expr} (h:S4 e=false):e.text.length≤100∧e.val.s.length≤400∧e.kids.length≤100:=by
 unfold S4 at h
 simp only [Cv,decide_eq_false_iff_not] at h
 omega
theorem Yn {f:Nat} {l:List Expr} {n:Nat} (h:H2 (f+1) l n=false) (hl:l.isEmpty=false):Ow l n=false∧(l.flatMap Expr.kids).length≤500∧H2 f (l.flatMap Expr.kids) (n+l.length)=false:=by
 rw [H2,if_neg (by rw [hl];simp)] at h
 split at h
 ·cases h
 rename_i h1
 split at h
 ·cases h
 rename_i h2
 simp only [decide_eq_true_eq] at h2
 exact ⟨by simpa using h1,by omega,h⟩
theorem mo:∀(f:Nat) (l:List Expr) (n:Nat),H2 f l n=false→∀e∈l,okE f e∧Dk (fun y => !S4 y) e=true
 | 0,l,n,h,e,he=>by
  have:l=[]:=by simpa [H2] using h
  subst this
  cases he
 | f+1,l,n,h,e,he=>by
  have hl:l.isEmpty=false:=by cases l<;>simp_all
  obtain ⟨h1,h2,h3⟩:=Yn h hl
  have h4:=cc ((Wc h1).2 e he)
  have ih:=mo f _ _ h3
  have hk:∀y∈e.kids,okE f y∧Dk (fun y => !S4 y) y=true:=fun y hy=>ih y (List.mem_flatMap.2 ⟨e,he,hy⟩)
  refine ⟨⟨by omega,by omega,fun y hy=>(hk y hy).1⟩,?_⟩
  rw [Ff,(Wc h1).2 e he,(D3 _ _).2 fun y hy=>(hk y hy).2]
  rfl
theorem Yo:∀(f:Nat) (l:List Expr) (n:Nat),n≤500→H2 f l n=false→n+C6 l≤500
 | 0,l,n,hn,h=>by
  have:l=[]:=by simpa [H2] using h
  subst this
  simpa [C6] using hn
 | f+1,l,n,hn,h=>by
  by_cases hl:l.isEmpty=true
  ·have:l=[]:=by simpa using hl
   subst this
   simpa [C6] using hn
  have hl':l.isEmpty=false:=by simpa using hl
  obtain ⟨h1,h2,h3⟩:=Yn h hl'
  have:=Yo f _ _ (Wc h1).1 h3
  rw [Wb l]
  omega
def Yp (e:Expr):Bool:=H2 61 [e] 0
/-- A tree that is gone through. -/
structure Slim (e:Expr):Prop where
 ok:okE 61 e
 size:sizeE e≤500
 slim:Dk (fun y => !S4 y) e=true
theorem ABi {e:Expr} (h:Yp e=false):Slim e:=by
 obtain ⟨h1,h2⟩:=mo _ _ _ h e (by simp)
 have:=Yo _ _ _ (by decide) h
 exact ⟨h1,by simpa [C6] using this,h2⟩
end Go.SX.Nb
namespace Go.Proofs.YtfngkblpcigciaaGreatDoor
open Go Go.SX Go.SX.Nb Go.ChangeShapes Go.RowKit
set_option maxRecDepth 100000
theorem l8 {ys:List AV} (h:∀(i:Nat) (y:AV),ys[i]? = some y→∃e:Nb.Expr,y=Ae e∧Dk Hy e=true):∃l:List Nb.Expr,ys=l.map Ae∧Hw Hy l=true:=by
 induction ys with
 | nil=>exact ⟨[],rfl,rfl⟩
 | cons y ys ih =>
  obtain ⟨e,rfl,he⟩:=h 0 y rfl
  obtain ⟨l,rfl,hl⟩:=ih (fun i z hz=>h (i+1) z hz)
  exact ⟨e::l,rfl,by rw [Hw,he,hl];rfl⟩
theorem mp {H:Type} [ErrAt] (d:DataW H) (y:AV) (h:DRep Tryz.prog 24 d y):∃v:Val,y=B8 v ∧ -9223372036854775808≤v.n∧v.n≤9223372036854775807:=by
 obtain ⟨ys,hn,rfl,hh⟩:=h.struct' fl Tryz.underlying24
 match ys,hn with
 | [y0,y1,y2],_ =>
  obtain ⟨d0,b0,h0⟩:=hh 0 _ y0 rfl rfl
  obtain ⟨d1,b1,h1⟩:=hh 1 _ y1 rfl rfl
  obtain ⟨d2,b2,h2⟩:=hh 2 _ y2 rfl rfl
  obtain ⟨k,rfl,rfl,_⟩:=h0.int' Tryz.underlying3
  obtain ⟨n,rfl,rfl,hn1,hn2⟩:=h1.int' Tryz.underlying2
  obtain ⟨s,rfl,rfl⟩:=h2.str' Tryz.underlying9
  exact ⟨⟨k,n,s⟩,rfl,hn1,hn2⟩
theorem xg {H:Type} [ErrAt] {t:TypeId} {d:DataW H} {y:AV} (h:DRep Tryz.prog t d y):(t=27→∃e:Nb.Expr,y=Ae e∧Dk Hy e=true)∧(t=25→∃l:List Nb.Expr,y=.slice false 6 (l.map Ae)∧Hw Hy l=true):=by
 induction h with
 | int hu _=>exact ⟨fun e=>(by subst e;rw [Tryz.underlying27] at hu;cases hu),fun e=>by subst e;rw [Tryz.underlying25] at hu;cases hu⟩
 | bool hu=>exact ⟨fun e=>(by subst e;rw [Tryz.underlying27] at hu;cases hu),fun e=>by subst e;rw [Tryz.underlying25] at hu;cases hu⟩
 | str hu=>exact ⟨fun e=>(by subst e;rw [Tryz.underlying27] at hu;cases hu),fun e=>by subst e;rw [Tryz.underlying25] at hu;cases hu⟩
 | nil hu =>
  refine ⟨fun e=>(by subst e;rw [Tryz.underlying27] at hu;cases hu),fun e=>?_⟩
  subst e
  rw [Tryz.underlying25] at hu
  injection hu with hu
  injection hu with hu
  subst hu
  exact ⟨[],by rw [show Tryz.prog.cellsOf 27=6 by kernel_rfl];rfl,rfl⟩
 | slice hu hn hh ih =>
  refine ⟨fun e=>(by subst e;rw [Tryz.underlying27] at hu;cases hu),fun e=>?_⟩
  subst e
  rw [Tryz.underlying25] at hu
  injection hu with hu
  injection hu with hu
  subst hu
  rename_i elems spare ys
  obtain ⟨l,rfl,hl⟩:=l8 (ys:=ys) (fun i y hy=>by
   have hlt:i<elems.length:=by rw [←hn];exact (List.getElem?_eq_some_iff.1 hy).1
   exact (ih i elems[i] y (List.getElem?_eq_getElem hlt) hy).1 rfl)
  exact ⟨l,by rw [show Tryz.prog.cellsOf 27=6 by kernel_rfl],hl⟩
 | struct hu hn hn' hh ih =>
  refine ⟨fun e=>?_,fun e=>by subst e;rw [Tryz.underlying25] at hu;cases hu⟩
  subst e
  rw [Tryz.underlying27] at hu
  injection hu with hu
  injection hu with hu
  subst hu
  rename_i parts ys
  match parts,hn,ys,hn' with
  | [p0,p1,p2,p3],_,[y0,y1,y2,y3],_ =>
   obtain ⟨o,rfl,rfl,_⟩:=(hh 0 _ p0 y0 rfl rfl rfl).int' Tryz.underlying3
   obtain ⟨s,rfl,rfl⟩:=(hh 1 _ p1 y1 rfl rfl rfl).str' Tryz.underlying9
   obtain ⟨v,rfl,hv1,hv2⟩:=mp p2 y2 (hh 2 _ p2 y2 rfl rfl rfl)
   obtain ⟨l,rfl,hl⟩:=(ih 3 _ p3 y3 rfl rfl rfl).2 rfl
   refine ⟨.mk o s v l,?_,?_⟩
   ·rw [Ax];rfl
   rw [Dk,hl,Bool.and_true]
   show (decide (-9223372036854775808≤v.n)&&decide (v.n≤9223372036854775807))=true
   simp [hv1,hv2]
theorem xh {H:Type} [ErrAt] (d:DataW H) (y:AV) (h:DRep Tryz.prog 27 d y):∃e:Nb.Expr,y=Ae e∧Dk Hy e=true:=(xg h).1 rfl
end Go.Proofs.YtfngkblpcigciaaGreatDoor
namespace Go.SX.Nb
open Go Go.SX Go.Proofs
variable [ErrAt]
set_option maxRecDepth 4000
/-- The lexer from a place between two words on. -/
def ALx (f q:Nat) (s:Str):List (Tok×Int):=Id f (q+gapM s) (s.drop (gapM s))
theorem fq {f q:Nat} {s:Str} (h:s≠[]):∃(n:Nat),Id (f+1) q s=(⟨(Cf s).1,(Cf s).2.1,q⟩,(Cf s).2.2.2)::(if (Cf s).2.2.2=0 then ALx f (q+n) (s.drop n) else [])∧((Cf s).2.2.2=0→(Cf s).2.2.1=(n:Int)∧1≤n∧n≤s.length):=by
 refine ⟨(Cf s).2.2.1.toNat,?_,fun he=>?_⟩
 ·rw [N8 h]
  simp only [beq_iff_eq]
  rfl
 obtain ⟨n,h1,h2,h3⟩:=ml (s:=s) (by cases s with|nil=>exact absurd rfl h|cons c r=>simp) he
 rw [h1]
 exact ⟨rfl,by simpa using h2,by simpa using h3⟩
/-! ### Gaps -/
/-! ### Words -/
theorem ABj {s:Str} (h:(Bp s).2.1=0):s.length≤4000∧(∀it∈Cd s,it.2=0)∧Bp s=((Cd s).map (·.1)++[⟨0,[],s.length⟩],0,0):=by
 unfold Bp at h ⊢
 split at h
 ·exact absurd h (show ¬(3:Int)=0 by decide)
 rename_i hl
 rw [if_neg hl]
 cases hf:(Cd s).find? (fun it=>it.2 != 0) with
 | some it =>
  rw [hf] at h
  have:=Zu hf
  simp at this
  exact absurd h this
 | none =>
  rw [Km] at hf
  refine ⟨by omega,fun it hit=>by simpa using hf it hit,rfl⟩
def fu (c:UInt8):Str:=if c=39 then [39,39] else [c]
def Oi (t:Str):Str:=t.flatMap fu
theorem fw:∀t:Str,(Oi t).length≤2*t.length
 | []=>Ap _
 | c::r=>by
  have:=fw r
  unfold Oi at this ⊢
  rw [Uw,Aq,Aw]
  have h:(fu c).length≤2:=by unfold fu;split<;>simp
  omega
theorem S5 (c:UInt8) (r:Str):Oi (c::r)=fu c++Oi r:=by unfold Oi;rw [Uw]
theorem mq:∀s:Str,(Lib.index s [39] = -1∧Oi s=s)∨∃i:Nat,Lib.index s [39]=(i:Int)∧i<s.length∧Oi s=s.take i++[39,39]++Oi (s.drop (i+1))
 | []=>.inl ⟨rfl,rfl⟩
 | b::l=>by
  by_cases hb:b=39
  ·subst hb
   refine .inr ⟨0,by simp [Lib.index,List.isPrefixOf],by simp,?_⟩
   rw [S5]
   simp [fu]
  have hp:([39]:Str).isPrefixOf (b::l)=false:=by
   simp [List.isPrefixOf,Ne.symm hb]
  have hd:Oi (b::l)=b::Oi l:=by
   rw [S5,fu,if_neg hb]
   rfl
  rcases mq l with ⟨h1,h2⟩|⟨i,h1,h2,h3⟩
  ·refine .inl ⟨?_,by rw [hd,h2]⟩
   rw [Lib.index,hp,h1];rfl
  refine .inr ⟨i+1,?_,by simp;omega,?_⟩
  ·rw [Lib.index,hp,h1,if_neg (by simp),if_neg (by simp)]
   rfl
  rw [hd,h3]
  simp
theorem Qi:∀(n:Nat) (s:Str),s.length≤n→Lib.replaceK [39] [39,39] (Lib.count s [39]) s=Oi s
 | n,s,hn=>by
  rcases mq s with ⟨h1,h2⟩|⟨i,h1,h2,h3⟩
  ·rw [Lib.count_miss h1,h2];rfl
  cases n with
  | zero=>omega
  | succ n =>
   rw [Lib.count_hit (by decide) h1,U7,Lib.replaceK_hit _ _ _ _ i h1]
   have e:i+([39]:Str).length=i+1:=rfl
   rw [e,Qi n (s.drop (i+1)) (by rw [F5];omega),h3]
theorem T8 (s:Str):Lib.replaceAll s [39] [39,39]=Oi s:=by
 unfold Lib.replaceAll Lib.replace
 rw [if_neg (by decide)]
 have e:Lib.replaceNum s [39] (-1)=Lib.count s [39]:=by unfold Lib.replaceNum;rw [if_pos (.inl (by decide))]
 rw [e]
 exact Qi _ s (Ap _)
def mr (t:Tok):Str:=if t.kind=4 then [39]++Oi t.text++[39] else t.text
theorem l9 {q:Str} (h0:q.headD 0=39) (h1:1≤q.length) (h:(Hv q).2=0):[39]++Oi (Hv q).1.s++[39]=q:=by
 cases q with
 | nil=>simp at h1
 | cons c r =>
  have hc:c=39:=h0
  subst hc
  unfold Hv at h ⊢
  have n1:((39::r:Str)==[110,117,108,108])=false:=by rw [beq_eq_false_iff_ne];intro e;injection e with e;exact absurd e (by decide)
  have n2:((39::r:Str)==[116,114,117,101])=false:=by rw [beq_eq_false_iff_ne];intro e;injection e with e;exact absurd e (by decide)
  have n3:((39::r:Str)==[102,97,108,115,101])=false:=by rw [beq_eq_false_iff_ne];intro e;injection e with e;exact absurd e (by decide)
  rw [n1,n2,n3] at h ⊢
  simp only [Af,if_false,Bool.or_self] at h ⊢
  by_cases hq:Yd (39::r)=true
  ·rw [if_pos hq] at h ⊢
   unfold ey at h ⊢
   split at h
   ·exact absurd h (show ¬(7:Int)=0 by decide)
   rename_i hp
   rw [if_neg hp]
   have hp':Hd (Vm (39::r))=39::r:=by simpa using hp
   have hk:(Vm (39::r)).kind=2:=rfl
   show [39]++Oi (Vm (39::r)).s++[39]=39::r
   generalize Vm (39::r)=v at hp' hk
   have hne:Hd v≠[]:=by rw [hp'];simp
   rw [←hp']
   unfold Hd at hne ⊢
   split at hne
   ·exact absurd rfl hne
   rename_i hpl
   rw [if_neg hpl,hk,if_neg (by decide),if_pos (by decide),T8]
  rw [if_neg hq] at h
  have hd:Gc (39::r)=true:=by
   unfold Gc
   have e:L3 (39::r)=39::r:=by
    rcases Iq (39::r) with ⟨_,h4⟩|⟨r',h3,_⟩
    ·exact h4
    injection h3 with h3;exact absurd h3 (by decide)
   rw [e]
   have:(Lib.trimS (39::r) digs==[])=false:=by
    rw [beq_eq_false_iff_ne]
    intro e
    rw [trimS_nil] at e
    exact absurd (e 39 (by simp)) (by decide)
   rw [this]
   simp
  have hn:Bj (39::r)=(0,6):=by unfold Bj;rw [if_pos hd]
  rw [hn] at h
  simp at h
theorem Xz (s:Str) (m:Nat):s.take (s.take m).length=s.take m:=by
 rw [Ei]
 rcases Nat.le_total m s.length with h|h
 ·rw [Nat.min_eq_left h]
 rw [Nat.min_eq_right h,De (Ap _),De h]
theorem Nf (s of:Str):s.take (Do s of).length=Do s of:=by
 unfold Do
 exact Xz s _
/-- What a word's print spells is what was read. -/
theorem la {s:Str} {n p:Nat} (h0:1≤s.length) (he:(Cf s).2.2.2=0) (hn:(Cf s).2.2.1=(n:Int)):mr ⟨(Cf s).1,(Cf s).2.1,p⟩=s.take n:=by
 cases s with
 | nil=>simp at h0
 | cons c r =>
  unfold Cf at he hn ⊢
  by_cases c1:decide (0<Qb ((c::r).take 1) letters)=true
  ·rw [if_pos c1] at he hn
   simp only [if_pos c1]
   unfold Pe at he hn ⊢
   by_cases r1:Gp (Do (c::r) tails)=true
   ·rw [if_pos r1] at hn
    simp only [if_pos r1]
    have hn':(((Do (c::r) tails).length:Nat):Int)=n:=hn
    have e:n=(Do (c::r) tails).length:=by omega
    rw [e,Nf]
    rfl
   rw [if_neg r1] at he hn
   simp only [if_neg r1]
   by_cases r2:(!Fj (Do (c::r) tails))=true
   ·rw [if_pos r2] at he;exact absurd he (show ¬(3:Int)=0 by decide)
   rw [if_neg r2] at hn
   simp only [if_neg r2]
   have hn':(((Do (c::r) tails).length:Nat):Int)=n:=hn
   have e:n=(Do (c::r) tails).length:=by omega
   rw [e,Nf]
   rfl
  rw [if_neg c1] at he hn
  simp only [if_neg c1]
  by_cases c2:decide (0<Qb ((c::r).take 1) digs)=true
  ·rw [if_pos c2] at he hn
   simp only [if_pos c2]
   have hn':(((Do (c::r) digs).length:Nat):Int)=n:=hn
   have e:n=(Do (c::r) digs).length:=by omega
   rw [e,Nf]
   rfl
  rw [if_neg c2] at he hn
  simp only [if_neg c2]
  by_cases c3:(((((c::r)).getD 0 0).toNat:Int)==39)=true
  ·rw [if_pos c3] at he hn
   simp only [if_pos c3]
   have hc:c=39:=by
    have c3':((c.toNat:Int)==39)=true:=c3
    exact Je.1 (by have:(39:UInt8).toNat=39:=rfl;simp at c3';omega)
   unfold Kk at he hn ⊢
   cases hq:D8 ((c::r).drop 1) with
   | none=>rw [hq] at he;exact absurd he (show ¬(7:Int)=0 by decide)
   | some m =>
    rw [hq] at he hn
    simp only at he hn ⊢
    split at he
    ·exact absurd he (show ¬(3:Int)=0 by decide)
    rename_i hr
    rw [if_neg hr] at hn
    simp only [if_neg hr]
    have hm':(((m+1:Nat)):Int)=n:=hn
    have hm:n=m+1:=by omega
    subst hm
    have hr':(Hv ((c::r).take (m+1))).2=0:=by simpa using hr
    have:=l9 (q:=(c::r).take (m+1)) (by rw [hc];rfl) (by simp) hr'
    unfold mr
    rw [if_pos rfl]
    exact this
  rw [if_neg c3] at he hn
  simp only [if_neg c3]
  unfold Vq at he hn ⊢
  split at hn
  ·rename_i h2
   simp only [if_pos h2]
   have hn':(2:Int)=n:=hn
   have:n=2:=by omega
   subst this
   rfl
  rename_i h2
  rw [if_neg h2] at he
  simp only [if_neg h2]
  split at hn
  ·rename_i h3
   simp only [if_pos h3]
   have hn':(1:Int)=n:=hn
   have:n=1:=by omega
   subst this
   rfl
  rename_i h3
  rw [if_neg h3] at he
  exact absurd he (show ¬(7:Int)=0 by decide)
theorem wrap_u64 {n:Int} (h1:0≤n) (h2:n<18446744073709551616):IntKind.u64.wrap n=n:=by
 have e1:(2 ^ IntKind.u64.bits:Int)=18446744073709551616:=rfl
 have e3:IntKind.u64.signed=false:=rfl
 unfold IntKind.wrap
 simp only [e1,e3,Dy]
 simp
 omega
theorem ms:∀t:Str,t.length≤(Oi t).length
 | []=>Ap _
 | c::r=>by
  have:=ms r
  rw [S5,Aq,Aw]
  have h:1≤(fu c).length:=by unfold fu;split<;>simp
  omega
theorem ABk (t:Tok):t.text.length≤(mr t).length:=by
 unfold mr
 split
 ·have:=ms t.text
  simp only [Aq,Aw,Bb]
  omega
 exact Ap _
/-- Words with an end. -/
structure TokEnd (l:List Tok):Prop where
 split:∃L z,l=L++[z]∧z.kind=0∧∀t∈L,t.kind≠0
 texts:∀t∈l,t.text.length≤1048576
theorem TokEnd.pos {l:List Tok} (h:TokEnd l):1≤l.length:=by
 obtain ⟨L,z,rfl,_,_⟩:=h.split
 simp
theorem TokEnd.text {l:List Tok} (h:TokEnd l) (i:Nat):(Ak l i).text.length≤1048576:=by
 unfold Ak
 rcases Bf i l.length with hi|hi
 ·rw [D6,Aa hi]
  exact h.texts _ (Br hi)
 rw [D6,G4 hi]
 exact Av _
theorem ABl (s:Str) (he:(Cf s).2.2.2=0):(Cf s).1≠0:=by
 revert he
 unfold Cf Pe bu Kk Vq
 repeat' split
 all_goals simp
theorem fx:∀(f q:Nat) (s:Str),(∀it∈Id f q s,it.2=0)→∀it∈Id f q s,it.1.kind≠0∧it.1.text.length≤s.length
 | 0,_,_,_,it,hm=>by cases hm
 | f+1,q,s,h,it,hm=>by
  by_cases hs:s=[]
  ·subst hs;cases hm
  obtain ⟨n,h1,h2⟩:=fq (f:=f) (q:=q) hs
  rw [h1] at hm h
  have h0:(Cf s).2.2.2=0:=h (⟨(Cf s).1,(Cf s).2.1,q⟩,(Cf s).2.2.2) (U2 ..)
  obtain ⟨hn,hn1,hn2⟩:=h2 h0
  rw [if_pos h0] at hm h
  rcases By.1 hm with rfl|hm
  ·refine ⟨ABl s h0,?_⟩
   have hs1:1≤s.length:=by cases s with|nil=>exact absurd rfl hs|cons c r=>simp
   have:=la (p:=q) hs1 h0 hn
   have h3:=ABk ⟨(Cf s).1,(Cf s).2.1,q⟩
   rw [this] at h3
   simp only [Ei] at h3
   show (Cf s).2.1.length≤s.length
   omega
  have:=fx f _ _ (fun it hit=>h it (Pv _ hit)) it hm
  simp only [F5] at this
  exact ⟨this.1,by omega⟩
theorem ABm {s:Str} (h:(Bp s).2.1=0):TokEnd (Bp s).1:=by
 by_cases h4:4000<s.length
 ·unfold Bp at h
  rw [if_pos h4] at h
  exact w8
 have e:Bp s=((Cd s).map (·.1)++[⟨0,[],s.length⟩],0,0)∧∀it∈Cd s,it.2=0:=by
  unfold Bp at h ⊢
  rw [if_neg h4] at h ⊢
  cases hf:(Cd s).find? (fun it=>it.2 != 0) with
  | none =>
   rw [Km] at hf
   exact ⟨rfl,fun it hit=>by simpa using hf it hit⟩
  | some it =>
   rw [hf] at h
   have:=Zu hf
   simp only [bne_iff_ne] at this
   exact absurd h this
 obtain ⟨e,hz⟩:=e
 have hnz:=fx _ _ _ hz
 rw [e]
 refine ⟨⟨_,_,rfl,rfl,fun t ht=>?_⟩,fun t ht=>?_⟩
 ·obtain ⟨it,hit,rfl⟩:=Du.1 ht
  exact (hnz it hit).1
 rcases H7.1 ht with ht|ht
 ·obtain ⟨it,hit,rfl⟩:=Du.1 ht
  have:=(hnz it hit).2
  simp only [F5] at this
  omega
 have e:t=⟨0,[],s.length⟩:=by simpa using ht
 subst e
 exact Av _
/-- Where a parser of expressions stands: its word, its nest, its fault. -/
structure PS where
 i:Nat
 nest:Nat
 code:Int
 at_:Int
def noV:Val:=⟨0,0,[]⟩
def Am:Expr:=.mk 0 [] noV []
def E9 (e a:Int) (S:PS):PS:=if S.code==0 then ⟨S.i,S.nest,e,a⟩ else S
def isM (l:List Tok) (of:Str) (S:PS):Bool:=(((Ak l S.i).kind==5) || ((Ak l S.i).kind==2))&&O3 (Ak l S.i).text of
def Ao (S:PS):PS:=⟨S.i+1,S.nest,S.code,S.at_⟩
def Da (S:PS):PS:=⟨S.i,S.nest+1,S.code,S.at_⟩
def Yq (S:PS):PS:=⟨S.i,S.nest-1,S.code,S.at_⟩
def Fk (l:List Tok) (s:Str) (S:PS):PS:=if S.code != 0 then S else if ((Ak l S.i).kind != 5) || !((Ak l S.i).text==s) then E9 8 (Ak l S.i).at_ S else Ao S
/-- What stands one nest deeper. -/
structure Fam where
 ei:PS→Expr×PS
 no:PS→Expr×PS
 ne:PS→Expr×PS
def Cl (a:Int) (f:PS→Expr×PS) (S:PS):Expr×PS:=if (S.nest:Int)==30 then (Am,E9 18 a S) else ((f (Da S)).1,Yq (f (Da S)).2)
def Hn (t:Str) (x y:Expr):Expr:=.mk 5 t noV [x,y]
def g0 (l:List Tok) (of:Str) (f:PS→Expr×PS):Nat→Expr×PS→Expr×PS
 | 0,r=>r
 | n+1,r=>if (r.2.code==0)&&isM l of r.2 then g0 l of f n (Hn (Ak l r.2.i).text r.1 (f (Ao r.2)).1,(f (Ao r.2)).2) else r
def Gs (l:List Tok) (of:Str) (f:PS→Expr×PS) (S:PS):Expr×PS:=g0 l of f l.length (f S)
def Wd:Str:=[32,44,32]
def argsF (l:List Tok) (f:PS→Expr×PS):Nat→List Expr×PS→List Expr×PS
 | 0,r=>r
 | n+1,r=>if (r.2.code==0)&&isM l Wd r.2 then argsF l f n (r.1++[(f (Ao r.2)).1],(f (Ao r.2)).2) else r
def I3 (l:List Tok) (f:PS→Expr×PS) (S:PS):List Expr×PS:=argsF l f l.length ([(f S).1],(f S).2)
def T9 (l:List Tok) (a:Int) (f:PS→Expr×PS) (S:PS):List Expr×PS:=if (S.nest:Int)==30 then ([],E9 18 a S) else ((I3 l f (Da S)).1,Yq (I3 l f (Da S)).2)
def Fg:Str:=[41]
def Dp (l:List Tok) (D:Fam) (S:PS):List Expr×PS:=T9 l (Ak l S.i).at_ D.ei (Ao S)
def I4 (l:List Tok) (D:Fam) (t:Tok) (S:PS):Expr×PS:=
 if Bv t.text<0 then (Am,E9 9 t.at_ S)
 else if ((Fk l Fg (Dp l D S).2).code==0) && !(((Dp l D S).1.length:Int)==Bv t.text) then (Am,E9 8 t.at_ (Fk l Fg (Dp l D S).2))
 else (.mk 6 t.text noV (Dp l D S).1,Fk l Fg (Dp l D S).2)
def orT:Str:=[32,111,114,32]
def xi:Str:=[32,97,110,100,32]
def AFv:Str:=[32,110,111,116,32]
def AFw:Str:=[32,61,32,33,61,32,60,32,60,61,32,62,32,62,61,32]
def xj:Str:=[32,43,32,45,32,38,32]
def g7:Str:=[32,42,32,47,32,37,32]
def AFx:Str:=[32,45,32]
def opT:Str:=[32,40,32]
def AFy:Str:=[32,116,114,117,101,32,102,97,108,115,101,32,110,117,108,108,32]
def K5 (v:Val):Expr:=.mk 1 [] v []
def H3 (l:List Tok) (D:Fam) (S:PS):Expr×PS:=
 if S.code != 0 then (Am,S)
 else if ((Ak l S.i).kind==3) || isM l AFy S then (K5 (Hv (Ak l S.i).text).1,Ao S)
 else if (Ak l S.i).kind==4 then (K5 ⟨2,0,(Ak l S.i).text.take 200⟩,Ao S)
 else if (Ak l S.i).kind==1 then (if isM l opT (Ao S) then I4 l D (Ak l S.i) (Ao S) else (F8 (Ak l S.i).text,Ao S))
 else if isM l opT S then ((Cl (Ak l S.i).at_ D.ei (Ao S)).1,Fk l Fg (Cl (Ak l S.i).at_ D.ei (Ao S)).2)
 else (Am,E9 8 (Ak l S.i).at_ S)
def Fy (op:Int) (x:Expr):Expr:=.mk op [] noV [x]
def We (l:List Tok) (D:Fam) (S:PS):Expr×PS:=if !isM l AFx S then H3 l D S else (Fy 3 (Cl (Ak l S.i).at_ D.ne (Ao S)).1,(Cl (Ak l S.i).at_ D.ne (Ao S)).2)
def mt (l:List Tok) (D:Fam):PS→Expr×PS:=Gs l g7 (We l D)
def Es (l:List Tok) (D:Fam):PS→Expr×PS:=Gs l xj (mt l D)
def Gf (l:List Tok) (D:Fam) (S:PS):Expr×PS:=
 if ((Es l D S).2.code != 0) || !isM l AFw (Es l D S).2 then Es l D S
 else (Hn (Ak l (Es l D S).2.i).text (Es l D S).1 (Es l D (Ao (Es l D S).2)).1,(Es l D (Ao (Es l D S).2)).2)
def Wf (l:List Tok) (D:Fam) (S:PS):Expr×PS:=if !isM l AFv S then Gf l D S else (Fy 4 (Cl (Ak l S.i).at_ D.no (Ao S)).1,(Cl (Ak l S.i).at_ D.no (Ao S)).2)
def mu (l:List Tok) (D:Fam):PS→Expr×PS:=Gs l xi (Wf l D)
def cd (l:List Tok) (D:Fam):PS→Expr×PS:=Gs l orT (mu l D)
def Fl (l:List Tok):Nat→Fam
 | 0=>⟨fun S=>(Am,S),fun S=>(Am,S),fun S=>(Am,S)⟩
 | d+1=>⟨cd l (Fl l d),Wf l (Fl l d),We l (Fl l d)⟩

/-! What is so of them. -/
theorem Hz:∀{n m:Nat},n≤m→∀{e:Expr},okE n e→okE m e
 | 0,_,_,_,h=>h.elim
 | n+1,0,h,_,_=>by omega
 | n+1,m+1,h,_,ho=>⟨ho.1,ho.2.1,fun y hy=>Hz (by omega) (ho.2.2 y hy)⟩
theorem Wg:sizeE Am=1:=rfl
theorem qy (t:Str) (a b:Expr):sizeE (Hn t a b)=1+(sizeE a+(sizeE b+0)):=by rw [Hn,sizeE,C6,C6,C6]
theorem qz (o:Int) (a:Expr):sizeE (Fy o a)=1+(sizeE a+0):=by rw [Fy,sizeE,C6,C6]
theorem Yr:∀a b:List Expr,C6 (a++b)=C6 a+C6 b
 | [],b=>by rw [Dr,C6,Bm]
 | e::r,b=>by rw [Dz,C6,C6,Yr r b,J9]
theorem g8 {n:Nat} (h:1≤n):okE n Am:=Hz h ⟨by decide,by decide,fun y hy=>by cases hy⟩
theorem mv {n:Nat} (h:1≤n) (v:Val):okE n (K5 v):=Hz h ⟨by simp [K5,Expr.text],by simp [K5,Expr.kids],fun y hy=>by cases hy⟩
structure Fact (l:List Tok) (S:PS) (r:Expr×PS):Prop where
 le:S.i≤r.2.i
 lt:r.2.i<l.length
 nest:r.2.nest=S.nest
 ok:okE (2*(r.2.i-S.i)+1) r.1
 sz:sizeE r.1≤2*(r.2.i-S.i)+1
def En (l:List Tok) (n:Nat) (f:PS→Expr×PS):Prop:=∀S,S.i<l.length→S.nest=n→Fact l S (f S)
theorem TokEnd.step {l:List Tok} (h:TokEnd l) {i:Nat} (hi:i<l.length) (hk:(Ak l i).kind≠0):i+1<l.length:=by
 obtain ⟨L,z,rfl,hz,_⟩:=h.split
 rcases Bf i L.length with h1|h1
 ·simp only [Aq,Aw,Bb];omega
 have:i=L.length:=by simp only [Aq,Aw,Bb] at hi;omega
 subst this
 exact absurd (by unfold Ak;simpa using hz) hk
theorem xk {l:List Tok} {of:Str} {S:PS} (h:isM l of S=true):(Ak l S.i).kind≠0:=by
 unfold isM at h
 simp only [Al,C7,beq_iff_eq] at h
 omega
theorem TokEnd.stepIs {l:List Tok} (h:TokEnd l) {of:Str} {S:PS} (hi:S.i<l.length) (hk:isM l of S=true):(Ao S).i<l.length:=h.step hi (xk hk)
theorem failM_i {e a:Int} {S:PS}:(E9 e a S).i=S.i∧(E9 e a S).nest=S.nest:=by unfold E9;split<;>exact ⟨rfl,rfl⟩
theorem mw {l:List Tok} (hl:TokEnd l) {s:Str} {S:PS} (hi:S.i<l.length):S.i≤(Fk l s S).i∧(Fk l s S).i<l.length∧(Fk l s S).nest=S.nest:=by
 unfold Fk
 split
 ·exact ⟨Ap _,hi,rfl⟩
 split
 ·rw [failM_i.1,failM_i.2];exact ⟨Ap _,hi,rfl⟩
 rename_i h
 simp only [C7,bne_iff_ne,ne_eq,not_or,Classical.not_not] at h
 have:=hl.step hi (by rw [h.1];decide)
 exact ⟨Jc _,this,rfl⟩
theorem Qj {l:List Tok} {S S0:PS} (h0:S0.i≤S.i) (h1:S.i<l.length) (h2:S.nest=S0.nest) (e a:Int):Fact l S0 (Am,E9 e a S):=by
 refine ⟨?_,?_,?_,g8 (by omega),by rw [Wg];omega⟩
 ·show _≤(E9 e a S).i;rw [failM_i.1];exact h0
 ·show (E9 e a S).i<_;rw [failM_i.1];exact h1
 show (E9 e a S).nest=_;rw [failM_i.2];exact h2
/-- A state of a loop of marks. -/
structure LeftAt (l:List Tok) (of:Str) (f:PS→Expr×PS) (S:PS) (r:Expr×PS):Prop where
 fact:Fact l S r
 eq:∃n,l.length≤r.2.i+n∧Gs l of f S=g0 l of f n r
theorem LeftAt.start {l:List Tok} {of:Str} {f:PS→Expr×PS} {S:PS} (h:Fact l S (f S)):LeftAt l of f S (f S):=⟨h,l.length,by omega,rfl⟩
theorem mx {l:List Tok} {S:PS} {r q:Expr×PS} (h:Fact l S r) (hq:Fact l (Ao r.2) q) (hl:TokEnd l):Fact l S (Hn (Ak l r.2.i).text r.1 q.1,q.2):=by
 have h1:=h.le
 have h2:r.2.i+1≤q.2.i:=hq.le
 refine ⟨by show S.i≤q.2.i;omega,hq.lt,by show q.2.nest=S.nest;rw [hq.nest];exact h.nest,?_,?_⟩
 rotate_left
 ·have s1:=h.sz
  have s2:sizeE q.1≤2*(q.2.i-(r.2.i+1))+1:=hq.sz
  show sizeE (Hn _ r.1 q.1)≤2*(q.2.i-S.i)+1
  rw [qy]
  omega
 show okE (2*(q.2.i-S.i)+1) _
 refine ⟨hl.text _,by simp [Hn,Expr.kids],fun y hy=>?_⟩
 have hy':y=r.1∨y=q.1:=by simpa [Hn,Expr.kids] using hy
 rcases hy' with rfl|rfl
 ·exact Hz (by omega) h.ok
 exact Hz (by show 2*(q.2.i-(r.2.i+1))+1≤_;omega) hq.ok
theorem LeftAt.on {l:List Tok} {of:Str} {f:PS→Expr×PS} {S:PS} {r:Expr×PS} (hl:TokEnd l) (h:LeftAt l of f S r) (hc:((r.2.code==0)&&isM l of r.2)=true) (hf:En l S.nest f):(Ao r.2).i<l.length∧Fact l (Ao r.2) (f (Ao r.2))∧LeftAt l of f S (Hn (Ak l r.2.i).text r.1 (f (Ao r.2)).1,(f (Ao r.2)).2):=by
 have hi:=hl.stepIs h.fact.lt (ub.1 hc).2
 have hq:=hf (Ao r.2) hi h.fact.nest
 obtain ⟨n,hn,e⟩:=h.eq
 have h1:=h.fact.lt
 have h2:r.2.i+1≤(f (Ao r.2)).2.i:=hq.le
 obtain ⟨m,rfl⟩:∃m,n=m+1:=⟨n-1,by omega⟩
 refine ⟨hi,hq,mx h.fact hq hl,m,by show l.length≤(f (Ao r.2)).2.i+m;omega,?_⟩
 rw [e,g0,if_pos hc]
theorem LeftAt.out {l:List Tok} {of:Str} {f:PS→Expr×PS} {S:PS} {r:Expr×PS} (h:LeftAt l of f S r) (hc:¬((r.2.code==0)&&isM l of r.2)=true):Gs l of f S=r:=by
 obtain ⟨n,hn,e⟩:=h.eq
 have h1:=h.fact.lt
 obtain ⟨m,rfl⟩:∃m,n=m+1:=⟨n-1,by omega⟩
 rw [e,g0,if_neg hc]
theorem g9 {l:List Tok} {of:Str} {f:PS→Expr×PS} {S:PS} (hl:TokEnd l) (hf:En l S.nest f):∀(k:Nat) (r:Expr×PS),l.length-r.2.i≤k→LeftAt l of f S r→Fact l S (Gs l of f S)
 | 0,r,hk,h=>by have:=h.fact.lt;omega
 | k+1,r,hk,h=>by
  by_cases hc:((r.2.code==0)&&isM l of r.2)=true
  ·obtain ⟨h1,h2,h3⟩:=h.on hl hc hf
   have h4:r.2.i+1≤(f (Ao r.2)).2.i:=h2.le
   exact g9 hl hf k _ (by show l.length-(f (Ao r.2)).2.i≤k;have:=h.fact.lt;omega) h3
  rw [h.out hc];exact h.fact
theorem He {l:List Tok} {of:Str} {f:PS→Expr×PS} {n:Nat} (hl:TokEnd l) (hf:En l n f):En l n (Gs l of f):=fun S hi hn=>g9 hl (hn ▸ hf) l.length (f S) (by omega) (.start (hf S hi hn))
theorem Jh {l:List Tok} {f:PS→Expr×PS} {S:PS} (a:Int) (hi:S.i<l.length) (hf:S.nest≠30→En l (S.nest+1) f):Fact l S (Cl a f S):=by
 unfold Cl
 split
 ·exact Qj (Ap _) hi rfl _ _
 rename_i h
 have h30:S.nest≠30:=fun e=>h (by rw [e];rfl)
 have:=hf h30 (Da S) hi rfl
 refine ⟨this.le,this.lt,?_,this.ok,this.sz⟩
 show (f (Da S)).2.nest-1=S.nest
 rw [this.nest]
 rfl
/-- What is so of some kids. -/
structure KFact (l:List Tok) (S:PS) (r:List Expr×PS):Prop where
 le:S.i≤r.2.i
 lt:r.2.i<l.length
 nest:r.2.nest=S.nest
 len:r.1.length≤r.2.i-S.i+1
 ok:∀y∈r.1,okE (2*(r.2.i-S.i)+1) y
 sz:C6 r.1≤2*(r.2.i-S.i)+1
structure ArgsAt (l:List Tok) (f:PS→Expr×PS) (S:PS) (r:List Expr×PS):Prop where
 fact:KFact l S r
 eq:∃n,l.length≤r.2.i+n∧I3 l f S=argsF l f n r
theorem ArgsAt.start {l:List Tok} {f:PS→Expr×PS} {S:PS} (h:Fact l S (f S)):ArgsAt l f S ([(f S).1],(f S).2):=⟨⟨h.le,h.lt,h.nest,by simp,fun y hy=>by rw [Ck.1 hy];exact h.ok,by have:=h.sz;show sizeE (f S).1+0≤_;exact this⟩,l.length,by omega,rfl⟩
theorem ArgsAt.on {l:List Tok} {f:PS→Expr×PS} {S:PS} {r:List Expr×PS} (hl:TokEnd l) (h:ArgsAt l f S r) (hc:((r.2.code==0)&&isM l Wd r.2)=true) (hf:En l S.nest f):(Ao r.2).i<l.length∧Fact l (Ao r.2) (f (Ao r.2))∧ArgsAt l f S (r.1++[(f (Ao r.2)).1],(f (Ao r.2)).2):=by
 have hi:=hl.stepIs h.fact.lt (ub.1 hc).2
 have hq:=hf (Ao r.2) hi h.fact.nest
 obtain ⟨n,hn,e⟩:=h.eq
 have h1:=h.fact.lt
 have h0:=h.fact.le
 have h2:r.2.i+1≤(f (Ao r.2)).2.i:=hq.le
 obtain ⟨m,rfl⟩:∃m,n=m+1:=⟨n-1,by omega⟩
 refine ⟨hi,hq,⟨by show S.i≤(f (Ao r.2)).2.i;omega,hq.lt,by show (f (Ao r.2)).2.nest=_;rw [hq.nest];exact h.fact.nest,?_,fun y hy=>?_,?_⟩,m,by show l.length≤(f (Ao r.2)).2.i+m;omega,?_⟩
 ·have:=h.fact.len
  show (r.1++_).length≤(f (Ao r.2)).2.i-S.i+1
  simp only [Aq,Aw,Bb]
  omega
 ·show okE (2*((f (Ao r.2)).2.i-S.i)+1) y
  rcases H7.1 hy with hy|hy
  ·exact Hz (by omega) (h.fact.ok y hy)
  rw [Ck.1 hy]
  exact Hz (by show 2*((f (Ao r.2)).2.i-(r.2.i+1))+1≤_;omega) hq.ok
 ·have s1:=h.fact.sz
  have s2:sizeE (f (Ao r.2)).1≤2*((f (Ao r.2)).2.i-(r.2.i+1))+1:=hq.sz
  show C6 (r.1++[(f (Ao r.2)).1])≤2*((f (Ao r.2)).2.i-S.i)+1
  rw [Yr,C6,C6]
  omega
 rw [e,argsF,if_pos hc]
theorem ArgsAt.out {l:List Tok} {f:PS→Expr×PS} {S:PS} {r:List Expr×PS} (h:ArgsAt l f S r) (hc:¬((r.2.code==0)&&isM l Wd r.2)=true):I3 l f S=r:=by
 obtain ⟨n,hn,e⟩:=h.eq
 have h1:=h.fact.lt
 obtain ⟨m,rfl⟩:∃m,n=m+1:=⟨n-1,by omega⟩
 rw [e,argsF,if_neg hc]
theorem ga {l:List Tok} {f:PS→Expr×PS} {S:PS} (hl:TokEnd l) (hf:En l S.nest f):∀(k:Nat) (r:List Expr×PS),l.length-r.2.i≤k→ArgsAt l f S r→KFact l S (I3 l f S)
 | 0,r,hk,h=>by have:=h.fact.lt;omega
 | k+1,r,hk,h=>by
  by_cases hc:((r.2.code==0)&&isM l Wd r.2)=true
  ·obtain ⟨h1,h2,h3⟩:=h.on hl hc hf
   have h4:r.2.i+1≤(f (Ao r.2)).2.i:=h2.le
   exact ga hl hf k _ (by show l.length-(f (Ao r.2)).2.i≤k;have:=h.fact.lt;omega) h3
  rw [h.out hc];exact h.fact
theorem Wh {l:List Tok} {f:PS→Expr×PS} {S:PS} (hl:TokEnd l) (hi:S.i<l.length) (hf:En l S.nest f):KFact l S (I3 l f S):=ga hl hf l.length _ (by show l.length-(f S).2.i≤_;omega) (.start (hf S hi rfl))
theorem Wi {l:List Tok} {f:PS→Expr×PS} {S:PS} (hl:TokEnd l) (a:Int) (hi:S.i<l.length) (hf:S.nest≠30→En l (S.nest+1) f):KFact l S (T9 l a f S):=by
 unfold T9
 split
 ·refine ⟨?_,?_,?_,by simp,fun y hy=>(by cases hy),by simp [C6]⟩
  ·show _≤(E9 _ _ S).i;rw [failM_i.1];exact Ap _
  ·show (E9 _ _ S).i<_;rw [failM_i.1];exact hi
  show (E9 _ _ S).nest=_;rw [failM_i.2]
 rename_i h
 have h30:S.nest≠30:=fun e=>h (by rw [e];rfl)
 have:=Wh (S:=Da S) hl hi (hf h30)
 refine ⟨this.le,this.lt,?_,this.len,this.ok,this.sz⟩
 show (I3 l f (Da S)).2.nest-1=S.nest
 rw [this.nest]
 rfl
theorem lb {l:List Tok} {D:Fam} {S:PS} (hl:TokEnd l) (hll:l.length≤1048576) {t:Tok} (ht:t.text.length≤1048576) (hi:(Ao S).i<l.length) (hf:S.nest≠30→En l (S.nest+1) D.ei):Fact l S (I4 l D t S):=by
 have hk:KFact l (Ao S) (Dp l D S):=Wi hl _ hi hf
 have h1:S.i+1≤(Dp l D S).2.i:=hk.le
 obtain ⟨w1,w2,w3⟩:=mw (s:=Fg) hl hk.lt
 unfold I4
 split
 ·exact Qj (Ap _) (by show S.i<_;have:S.i+1<l.length:=hi;omega) rfl _ _
 split
 ·exact Qj (show S.i≤(Fk l Fg (Dp l D S).2).i by omega) w2 (w3.trans hk.nest) 8 t.at_
 refine ⟨by show S.i≤(Fk l Fg (Dp l D S).2).i;omega,w2,w3.trans hk.nest,?_,?_⟩
 rotate_left
 ·have s1:C6 (Dp l D S).1≤2*((Dp l D S).2.i-(S.i+1))+1:=hk.sz
  show sizeE (.mk 6 t.text noV (Dp l D S).1)≤2*((Fk l Fg (Dp l D S).2).i-S.i)+1
  rw [sizeE]
  omega
 show okE (2*((Fk l Fg (Dp l D S).2).i-S.i)+1) _
 refine ⟨ht,?_,fun y hy=>?_⟩
 ·have h5:(Dp l D S).1.length≤(Dp l D S).2.i-(Ao S).i+1:=hk.len
  have h6:=hk.lt
  show (Dp l D S).1.length≤1048576
  omega
 exact Hz (by show 2*((Dp l D S).2.i-(S.i+1))+1≤_;omega) (hk.ok y hy)
theorem lc {l:List Tok} {D:Fam} {n:Nat} (hl:TokEnd l) (hll:l.length≤1048576) (hf:n≠30→En l (n+1) D.ei):En l n (H3 l D):=by
 intro S hi hn
 subst hn
 unfold H3
 have leaf:∀e:Expr,okE 1 e→sizeE e=1→(Ak l S.i).kind≠0→Fact l S (e,Ao S):=fun e he hs hk=>⟨Jc _,hl.step hi hk,rfl,Hz (by omega) he,by show sizeE e≤_;omega⟩
 split
 ·exact ⟨Ap _,hi,rfl,g8 (by omega),by show sizeE Am≤_;rw [Wg];omega⟩
 split
 ·rename_i h
  refine leaf _ (mv (Ap _) _) rfl ?_
  rcases Bool.or_eq_true_iff.1 h with h|h
  ·rw [beq_iff_eq] at h;rw [h];decide
  exact xk h
 split
 ·rename_i h
  rw [beq_iff_eq] at h
  exact leaf _ (mv (Ap _) _) rfl (by rw [h];decide)
 split
 ·rename_i h
  rw [beq_iff_eq] at h
  have hk:(Ak l S.i).kind≠0:=by rw [h];decide
  split
  ·rename_i h2
   have hi1:(Ao S).i<l.length:=hl.step hi hk
   have:=lb (S:=Ao S) (D:=D) hl hll (hl.text S.i) (hl.stepIs hi1 h2) hf
   have h3:S.i+1≤(I4 l D (Ak l S.i) (Ao S)).2.i:=this.le
   have h4:sizeE (I4 l D (Ak l S.i) (Ao S)).1≤2*((I4 l D (Ak l S.i) (Ao S)).2.i-(S.i+1))+1:=this.sz
   exact ⟨by omega,this.lt,this.nest,Hz (by show 2*((I4 l D (Ak l S.i) (Ao S)).2.i-(S.i+1))+1≤_;omega) this.ok,by omega⟩
  exact leaf _ (ff _ (hl.text _)) rfl hk
 split
 ·rename_i h
  have hi1:(Ao S).i<l.length:=hl.stepIs hi h
  have:=Jh (S:=Ao S) (l:=l) (f:=D.ei) (Ak l S.i).at_ hi1 hf
  obtain ⟨w1,w2,w3⟩:=mw (s:=Fg) hl this.lt
  have h3:S.i+1≤(Cl (Ak l S.i).at_ D.ei (Ao S)).2.i:=this.le
  have h4:sizeE (Cl (Ak l S.i).at_ D.ei (Ao S)).1≤2*((Cl (Ak l S.i).at_ D.ei (Ao S)).2.i-(S.i+1))+1:=this.sz
  refine ⟨by show S.i≤(Fk l Fg _).i;omega,w2,w3.trans this.nest,Hz ?_ this.ok,by show sizeE (Cl (Ak l S.i).at_ D.ei (Ao S)).1≤2*((Fk l Fg (Cl (Ak l S.i).at_ D.ei (Ao S)).2).i-S.i)+1;omega⟩
  show 2*((Cl (Ak l S.i).at_ D.ei (Ao S)).2.i-(S.i+1))+1≤2*((Fk l Fg (Cl (Ak l S.i).at_ D.ei (Ao S)).2).i-S.i)+1
  omega
 exact Qj (Ap _) hi rfl _ _
theorem my {l:List Tok} {S:PS} {r:Expr×PS} (h:Fact l (Ao S) r) (op:Int):Fact l S (Fy op r.1,r.2):=by
 have h1:S.i+1≤r.2.i:=h.le
 refine ⟨by show S.i≤r.2.i;omega,h.lt,h.nest,?_,?_⟩
 rotate_left
 ·have s1:sizeE r.1≤2*(r.2.i-(S.i+1))+1:=h.sz
  show sizeE (Fy op r.1)≤2*(r.2.i-S.i)+1
  rw [qz]
  omega
 show okE (2*(r.2.i-S.i)+1) _
 refine ⟨by simp [Fy,Expr.text],by simp [Fy,Expr.kids],fun y hy=>?_⟩
 have hy':y=r.1:=by simpa [Fy,Expr.kids] using hy
 subst hy'
 exact Hz (by show 2*(r.2.i-(S.i+1))+1≤_;omega) h.ok
theorem S6 {l:List Tok} {D:Fam} {n:Nat} (hl:TokEnd l) (hll:l.length≤1048576) (hf:n≠30→En l (n+1) D.ei) (hg:n≠30→En l (n+1) D.ne):En l n (We l D):=by
 intro S hi hn
 unfold We
 split
 ·exact lc hl hll hf S hi hn
 rename_i h
 subst hn
 exact my (Jh (S:=Ao S) _ (hl.stepIs hi (by simpa using h)) hg) 3
theorem Ys {l:List Tok} {D:Fam} {n:Nat} (hl:TokEnd l) (hll:l.length≤1048576) (hf:n≠30→En l (n+1) D.ei) (hg:n≠30→En l (n+1) D.ne):En l n (Es l D):=He hl (He hl (S6 hl hll hf hg))
theorem Ox {l:List Tok} {D:Fam} {n:Nat} (hl:TokEnd l) (hll:l.length≤1048576) (hf:n≠30→En l (n+1) D.ei) (hg:n≠30→En l (n+1) D.ne):En l n (Gf l D):=by
 intro S hi hn
 have h1:=Ys hl hll hf hg S hi hn
 unfold Gf
 split
 ·exact h1
 rename_i h
 simp only [C7,not_or,R5,Jt] at h
 exact mx h1 (Ys hl hll hf hg _ (hl.stepIs h1.lt h.2) (h1.nest.trans hn)) hl
theorem Yt {l:List Tok} {D:Fam} {n:Nat} (hl:TokEnd l) (hll:l.length≤1048576) (hf:n≠30→En l (n+1) D.ei) (hg:n≠30→En l (n+1) D.ne) (hh:n≠30→En l (n+1) D.no):En l n (Wf l D):=by
 intro S hi hn
 unfold Wf
 split
 ·exact Ox hl hll hf hg S hi hn
 rename_i h
 subst hn
 exact my (Jh (S:=Ao S) _ (hl.stepIs hi (by simpa using h)) hh) 4
theorem S7 {l:List Tok} (hl:TokEnd l) (hll:l.length≤1048576):∀(d n:Nat),n+d=31→n≠31→En l n (Fl l d).ei∧En l n (Fl l d).no∧En l n (Fl l d).ne
 | 0,n,h,h2=>by omega
 | d+1,n,h,_=>by
  have ih:n≠30→_:=fun h30=>S7 hl hll d (n+1) (by omega) (by omega)
  have hn:=Yt (D:=Fl l d) (n:=n) hl hll (fun h=>(ih h).1) (fun h=>(ih h).2.2) (fun h=>(ih h).2.1)
  exact ⟨He hl (He hl hn),hn,S6 hl hll (fun h=>(ih h).1) (fun h=>(ih h).2.2)⟩
/-! What is printed of columns, word by word. -/
set_option maxRecDepth 8000
theorem Kl (s:Str):s∈levels.flatten∨(Ba s = -1∧∀l∈levels,l.contains s=false):=by
 by_cases h:s∈levels.flatten
 ·exact .inl h
 have h2:∀l∈levels,l.contains s=false:=fun l hl=>by
  rw [I7]
  intro h3
  exact h (List.mem_flatten.2 ⟨l,hl,by simpa using h3⟩)
 refine .inr ⟨?_,h2⟩
 unfold Ba
 rw [Zv.2 fun l hl=>h2 l hl]
theorem xl (s:Str) : -1≤Ba s∧Ba s≤5∧Ba s≠2:=by
 rcases Kl s with h|⟨h,_⟩
 ·have h3:(levels.flatten.all fun s=>decide (-1≤Ba s∧Ba s≤5∧Ba s≠2))=true:=by kernel_rfl
  exact of_decide_eq_true (B1.1 h3 s h)
 omega
def xm:Str:=[110,111,116]
def levE (e:Expr):Nat:=if e.op==4 then 2 else if e.op==3 then 6 else if e.op==5 then (Ba e.text).toNat else 7
def Iz (own:Nat):Nat:=if own=3 then 4 else own
theorem ABn {v:Val} (h:L6 v=true):v=noV:=by
 unfold L6 at h
 simp only [Al,beq_iff_eq] at h
 cases v
 simp_all [noV]
/-- What a right node is. -/
inductive NodeC:Expr→Prop
 | val (v:Val) (h:Bu v=true) (h0:0≤v.n):NodeC (K5 v)
 | name (t:Str) (h:K2 t=true):NodeC (F8 t)
 | neg (a:Expr):NodeC (Fy 3 a)
 | no (a:Expr):NodeC (Fy 4 a)
 | bin (t:Str) (a b:Expr) (h:0≤Ba t):NodeC (Hn t a b)
 | call (t:Str) (k:List Expr) (h:Bv t=(k.length:Int)):NodeC (.mk 6 t noV k)
theorem Wj (o:Int) (t:Str) (v:Val) (k:List Expr):Ge (.mk o t v k) =
 if o==1 then ((Bu v&&decide (0≤v.n))&&(t==[]))&&((k.length:Int)==0)
 else if !(L6 v) then false
 else if o==2 then K2 t&&((k.length:Int)==0)
 else if o==3 || o==4 then (t==[])&&((k.length:Int)==1)
 else if o==5 then decide (0≤Ba t)&&((k.length:Int)==2)
 else if o==6 then Bv t==(k.length:Int)
 else false:=rfl
theorem Hf {e:Expr} (h:Cu e=true):NodeC e:=by
 rw [Qh] at h
 cases e with
 | mk o t v k =>
 rw [Wj] at h
 by_cases h1:(o==1)=true
 ·rw [if_pos h1] at h
  simp only [Al,beq_iff_eq,decide_eq_true_eq] at h h1
  obtain ⟨⟨⟨a1,a2⟩,a3⟩,a4⟩:=h
  subst h1
  subst a3
  have:k=[]:=by cases k with|nil=>rfl|cons x r=>simp at a4;omega
  subst this
  exact .val v a1 a2
 rw [if_neg h1] at h
 by_cases hb:(!(L6 v))=true
 ·rw [if_pos hb] at h;cases h
 rw [if_neg hb] at h
 have hv:v=noV:=ABn (by simpa using hb)
 subst hv
 by_cases h2:(o==2)=true
 ·rw [if_pos h2] at h
  simp only [Al,beq_iff_eq] at h h2
  subst h2
  have:k=[]:=by cases k with|nil=>rfl|cons x r=>have:=h.2;simp at this;omega
  subst this
  exact .name t h.1
 rw [if_neg h2] at h
 by_cases h3:(o==3 || o==4)=true
 ·rw [if_pos h3] at h
  simp only [Al,C7,beq_iff_eq] at h h3
  obtain ⟨rfl,h4⟩:=h
  match k,h4 with
  | [a],_ =>
   rcases h3 with rfl|rfl
   ·exact .neg a
   exact .no a
  | [],h4=>simp at h4
  | _::_::_,h4=>simp at h4;omega
 rw [if_neg h3] at h
 by_cases h5:(o==5)=true
 ·rw [if_pos h5] at h
  simp only [Al,beq_iff_eq,decide_eq_true_eq] at h h5
  subst h5
  match k,h.2 with
  | [a,b],_=>exact .bin t a b h.1
  | [],h4=>simp at h4
  | [_],h4=>simp at h4
  | _::_::_::_,h4=>simp at h4;omega
 rw [if_neg h5] at h
 by_cases h6:(o==6)=true
 ·rw [if_pos h6] at h
  simp only [beq_iff_eq] at h h6
  subst h6
  exact .call t k h
 rw [if_neg h6] at h;cases h
theorem r6 {e:Expr} {n:Nat} (h:sizeE e≤n+1) {y:Expr} (hy:y∈e.kids):sizeE y≤n:=by
 rw [H1] at h
 obtain ⟨i,hi,rfl⟩:=P5 hy
 have:=Rw e.kids hi
 omega
/-! The parser from a word on, and of a source. -/
def atS (l:List Tok) (i:Nat) (r:Expr×PS):PS:=if r.2.code != 0 then r.2 else if decide ((30:Int)<depthE r.1) then E9 18 (Ak l i).at_ r.2 else if decide ((300:Int)<sizeE r.1) then E9 3 (Ak l i).at_ r.2 else r.2
def atR (l:List Tok) (i:Nat):Expr×PS:=cd l (Fl l 30) ⟨i,0,0,0⟩
/-- The tree, the word behind it, the fault. -/
def atM (l:List Tok) (i:Nat):Expr×Int×Int×Int:=if (atS l i (atR l i)).code != 0 then (Am,0,(atS l i (atR l i)).code,(atS l i (atR l i)).at_) else ((atR l i).1,((atS l i (atR l i)).i:Int),0,0)
set_option maxRecDepth 4000
/-! What is printed of a schema is read. -/
theorem ALy (c:List Col) (Hp:List AObj):AFun Tryz.prog 8 [Ce c] Hp (At (Sw c)):=by
 refine Ah [.tmp 2] [0] Tryz.func8 Tryz.ntmps8 (fun d=>?_)
 refine Z58 ?_;refine Z32 ?_;refine A2 [0,6] ?_
 refine A3 (fun ht6=>?_) (fun ht6=>?_)
 ·refine dw ?_;exact A8 (Ai A6) ⟨by simp [Sw] at ht6 ⊢;omega,rfl⟩
 refine Kq ?_;refine Kr ?_
 refine Bh (α:=Nat) (fun x=>⟨20,A9 0 (Ce c) (A9 3 (A5 (x:Nat)) (fun _=>.any)),Hp,[],[],none⟩) (fun x=>x≤c.length∧∀(j:Nat) (y:Col),j<x→c[j]? = some y→decide ((100:Int)<y.name.length)=false) (fun x=>c.length-x) (0) (by simp) (Fq _) rfl (fun x hx=>?_)
 refine Z48 ?_;refine A2 [0,3,10] ?_
 refine A3 (fun ht10=>?_) (fun ht10=>?_)
 ·have hlt:x<c.length:=by simpa using ht10
  have hcl:c.length≤50:=by simp at ht6;omega
  refine Xo ?_
  refine A4 (h:=Ag (x) (N5 c[x]) (fun _=>B7 hlt)) (hr:=?_)
  refine Z61 ?_;refine A2 [0,3,19] ?_
  refine A3 (fun ht19=>?_) (fun ht19=>?_)
  ·refine dy ?_;exact A8 (Ai A6) ⟨by rw [show Sw c=true from by unfold Sw;rw [wl (p:=fun y:Col=>decide ((100:Int)<y.name.length)) hlt ht19,Bool.or_true]],rfl⟩
  refine Z96 ?_;refine Kr ?_;exact B5 (x+1) ⟨hlt,Dn hlt hx.2 ht19⟩ (by omega) (Bx rfl)
 refine ec ?_;exact A8 (Ai A6) ⟨by rw [show Sw c=false from by unfold Sw;rw [eo (K1 (by simp at ht10;omega) hx.2)];simpa using ht6],rfl⟩
theorem ABo {c:List Col} (h:Sw c=false):OkCols c:=by
 unfold Sw at h
 simp only [Cv,decide_eq_false_iff_not,Li,decide_eq_true_eq] at h
 refine ⟨by omega,fun y hy=>?_⟩
 have:=h.2 y hy
 omega
/-! What went and came, taken back: the same columns. -/
theorem find_mem {nm:Str} {c:List Col}:¬(Co nm c<0)↔∃(j:Nat) (y:Col),c[j]? = some y∧y.name=nm∧Co nm c=(j:Int):=by
 unfold Co
 cases h:c.findIdx? (fun y=>y.name==nm) with
 | none =>
  constructor
  ·intro h';exact absurd (by decide) h'
  rintro ⟨j,y,_,_,e⟩
  exact absurd (show (-1:Int)=(j:Int) from e) (by omega)
 | some i =>
  rw [R9] at h
  obtain ⟨hi,e,_⟩:=h
  constructor
  ·intro _;exact ⟨i,c[i],Aa hi,by simpa using e,rfl⟩
  intro _ h'
  have:(i:Int)<0:=h'
  omega
set_option maxRecDepth 8000
/-! The words of a print. -/
/-- What a node asks of its kids, and what it is. -/
structure Sign where
 kids:List Int
 own:Int
def Cm (s:Str):Sign:=if (s==[111,114]) || (s==[97,110,100]) then ⟨[3,3],3⟩ else if (((((s==[61]) || (s==[33,61])) || (s==[60])) || (s==[60,61])) || (s==[62])) || (s==[62,61]) then ⟨[-1, -1],3⟩ else if s==[38] then ⟨[2,2],2⟩ else ⟨[1,1],1⟩
def D5 (s:Str):Sign:=if (s==[108,101,110]) || (s==[110,117,109]) then ⟨[2],1⟩ else if s==[115,116,114] then ⟨[1],2⟩ else if (s==[108,101,102,116]) || (s==[114,105,103,104,116]) then ⟨[2,1],2⟩ else if s==[105,115,110,117,108,108] then ⟨[-2],3⟩ else if s==[110,118,108] then ⟨[-1, -1], -1⟩ else ⟨[3, -1, -1], -1⟩
def I5 (o:Int) (t:Str):Sign:=if o==3 then ⟨[1],1⟩ else if o==4 then ⟨[3],3⟩ else if o==5 then Cm t else D5 t
def Ez (a b:Int):Int×Bool:=if a==0 then (b,true) else if (b==0) || (a==b) then (a,true) else (0,false)
def Ft:List Int→List Int→Int→Option Int
 | _,[],c=>some c
 | [],_::_,_=>none
 | w::ws,k::ks,c=>if w == -2 then Ft ws ks c else if w == -1 then (if (Ez c k).2 then Ft ws ks (Ez c k).1 else none) else if (Ez w k).2 then Ft ws ks c else none
def J0 (s:Sign) (ks:List Int):Int×Int:=match Ft s.kids ks 0 with|none=>(0,10)|some c=>if s.own == -1 then (c,0) else (s.own,0)
def Oy (c:List Col) (t:Str):Int×Int:=if Co t c<0 then (0,9) else ((c.getD (Co t c).toNat ⟨[],0⟩).kind,0)
def Oz (c:List Col) (o:Int) (t:Str) (v:Val) (ks:List (Int×Int)):Int×Int:=
 if o==1 then (v.kind,0) else if o==2 then Oy c t else match ks.find? (fun q=>q.2 != 0) with|some q=>(0,q.2)|none=>J0 (I5 o t) (ks.map (·.1))
mutual
def Bg (c:List Col):Expr→Int×Int
 | .mk o t v k=>Oz c o t v (mz c k)
def mz (c:List Col):List Expr→List (Int×Int)
  | []=>[]
  | e::r=>Bg c e::mz c r
 end
theorem S8 (c:List Col):∀l,mz c l=l.map (Bg c)
 | []=>rfl
 | e::r=>by rw [mz,S8 c r];rfl
theorem Qk (c:List Col) (e:Expr):Bg c e=Oz c e.op e.text e.val (e.kids.map (Bg c)):=by cases e;rw [Bg,S8];rfl
/-- infer.Kind. -/
def Db (e:Expr) (c:List Col):Int×Int:=if (!(C3 e)) || !(N9 c) then (0,1) else Bg c e
/-! The signs have as many as the nodes have kids. -/
theorem Ph (s:Str):(Cm s).kids.length=2:=by
 unfold Cm;repeat' split
 all_goals rfl
theorem ld {t:Str} {n:Nat} (h:Bv t=(n:Int)):(D5 t).kids.length=n:=by
 rw [show Bv t=Bv t from rfl] at h
 by_cases hm:t∈arityList.map (·.1)
 ·have:((arityList.map (·.1)).all fun s=>decide (((D5 s).kids.length:Int)=Bv s))=true:=by kernel_rfl
  have:=of_decide_eq_true (B1.1 this t hm)
  omega
 have h1:Bv t = -1:=by
  unfold Bv
  rw [Km.2 fun p hp=>by
   simp only [beq_iff_eq]
   rintro rfl
   exact hm (Du.2 ⟨p,hp,rfl⟩)]
 omega
theorem L8 {e:Expr} (h:Cu e=true) (h1:(e.op==1)=false) (h2:(e.op==2)=false):(I5 e.op e.text).kids.length=e.kids.length:=by
 unfold Cu at h
 rw [h1,h2] at h
 simp only [Af,if_false] at h
 unfold I5
 by_cases h3:(e.op==3)=true
 ·rw [h3] at h
  simp only [Gv,if_true,Al,beq_iff_eq] at h
  rw [if_pos h3]
  show 1=_
  omega
 have h3':(e.op==3)=false:=by simpa using h3
 rw [if_neg h3]
 rw [h3'] at h
 by_cases h4:(e.op==4)=true
 ·rw [h4] at h
  simp only [Dd,if_true,Al,beq_iff_eq] at h
  rw [if_pos h4]
  show 1=_
  omega
 have h4':(e.op==4)=false:=by simpa using h4
 rw [if_neg h4]
 rw [h4'] at h
 simp only [Bool.or_false,Af,if_false] at h
 by_cases h5:(e.op==5)=true
 ·rw [h5] at h
  simp only [if_true,Al,beq_iff_eq] at h
  rw [if_pos h5,Ph]
  omega
 have h5':(e.op==5)=false:=by simpa using h5
 rw [if_neg h5]
 rw [h5'] at h
 simp only [Af,if_false] at h
 by_cases h6:(e.op==6)=true
 ·rw [h6] at h
  simp only [if_true,Al,beq_iff_eq] at h
  exact ld h.2
 have h6':(e.op==6)=false:=by simpa using h6
 rw [h6'] at h
 cases h
/-! More columns. -/
theorem xn {c:List Col} {o:Int} {t:Str} {v:Val} {ks:List (Int×Int)} (h:(Oz c o t v ks).2=0) (h1:(o==1)=false) (h2:(o==2)=false):∀q∈ks,q.2=0:=by
 unfold Oz at h
 rw [h1,h2] at h
 simp only [Af,if_false] at h
 cases hf:ks.find? (fun q=>q.2 != 0) with
 | some q =>
  rw [hf] at h
  have:=Zu hf
  simp only [bne_iff_ne] at this
  exact absurd h this
 | none =>
  intro q hq
  have:=Km.1 hf q hq
  simpa using this
/-! A tree in a column's place. -/
set_option maxRecDepth 4000
abbrev pr (l:List Tok) (S:PS):AObj:=.cells 154 [.slice false 3 (l.map Ic),A5 (S.i:Int),A5 (S.nest:Int),A5 S.code,A5 S.at_]
theorem D4 {n:Nat} {l:List Tok} {S:PS}:ObjLow n (pr l S):=by
 show ∀y∈[AV.slice false 3 (l.map Ic),A5 (S.i:Int),A5 (S.nest:Int),A5 S.code,A5 S.at_],Low n y
 intro y hy
 simp only [By,Fv,or_false] at hy
 rcases hy with rfl|rfl|rfl|rfl|rfl
 ·simp [or_imp,forall_and]
 all_goals simp
theorem gb (o:Int) (t:Str) (v:Val):Le (.agg [A5 o,Ac t,A5 v.kind,A5 v.n,Ac v.s,.nil]) (Ae (.mk o t v [])):=by
 rw [Ax]
 refine .agg _ _ rfl (by simp [AV.one,Value.oneCell',sv]) fun i y y' h1 h2=>?_
 match i with
 | 0=>simp at h1 h2;subst h1;subst h2;exact .inl rfl
 | 1=>simp at h1 h2;subst h1;subst h2;exact .inl rfl
 | 2=>simp at h1 h2;subst h1;subst h2;exact .inl rfl
 | 3=>simp at h1 h2;subst h1;subst h2;exact .inl rfl
 | 4=>simp at h1 h2;subst h1;subst h2;exact .inl rfl
 | 5=>simp at h1 h2;subst h1;subst h2;exact .inr ⟨rfl,6,rfl⟩
 | i+6=>simp at h1
theorem Ng:Le (.agg [A5 0,Ac [],A5 0,A5 0,Ac [],.nil]) (Ae Am):=gb 0 [] noV
theorem ALz (l:List Tok) (S:PS) (o:Nat) (Hp:List AObj) (ho:Hp[o]? = some (pr l S)) (hi:S.i<l.length):AFun Tryz.prog 199 [.ptr o 0] Hp (Ic (Ak l S.i)):=by
 refine Ah [.cell 2 82] [0] Tryz.func199 Tryz.ntmps199 (fun d=>?_)
 refine Z75 ?_;refine Ct [0,1,3,7,0,16,48,112,255,511,1023] 8 Aj (by kernel_rfl) ?_;refine Z34 ?_
 refine An (h:=Cn ho) (hr:=?_)
 refine Z34 ?_
 refine An (h:=Cn ho) (hr:=?_)
 refine Ee ?_
 refine A4 (h:=Ag (S.i) (Ic (Ak l S.i)) (fun _=>M0 hi)) (hr:=?_)
 refine A4 ?_;exact AAk

theorem gc (l:List Tok) (S:PS) (of:Str) (o:Nat) (Hp:List AObj) (ho:Hp[o]? = some (pr l S)) (hi:S.i<l.length) (hl:TokEnd l) (hof:of.length≤1048576):AFun Tryz.prog 170 [.ptr o 0,Ac of] Hp (At (isM l of S)):=by
 refine Ah [.tmp 4] [0,1] Tryz.func170 Tryz.ntmps170 (fun d=>?_)
 refine Z64 ?_;refine Z2 ?_;refine AAh ?_;refine A2 [1,5] ?_;refine Z20 ?_;refine Z78 ?_;refine Z29 ?_;refine Bw Tryz.call128 (fun hB=>AJy (Ak l S.i).text of (hl.text _) hof _) ?_;refine Z0 ?_;exact vd

theorem xp (l:List Tok) (S:PS) (o:Nat) (Hp:List AObj) (ho:Hp[o]? = some (pr l S)) (hi:S.i<l.length) (hll:l.length≤1048576):ACall Tryz.prog 171 [.ptr o 0] Hp (fun r H'=>r=Ic (Ak l S.i)∧H'=Hp.set o (pr l (Ao S))):=by
 refine Ah [.cell 2 82] [0] Tryz.func171 Tryz.ntmps171 (fun d=>?_)
 refine Z75 ?_;refine Z2 ?_;refine AAh ?_;refine A2 [0,2,3] ?_;refine Z13 ?_
 refine A4 (h:=Cn ho) (hr:=?_)
 refine Z11 ?_
 refine Ew jS ho ?_ ?_
 ·simp
 refine A2 [2,3] ?_;refine Z2 ?_;exact AAk

theorem r7 (l:List Tok) (S:PS) (e a:Int) (o:Nat) (Hp:List AObj) (ho:Hp[o]? = some (pr l S)):ACall Tryz.prog 110 [.ptr o 0,A5 e,A5 a] Hp (fun r H'=>r=Ae Am∧H'=Hp.set o (pr l (E9 e a S))):=by
 refine Ah [.cell 6 27] [0,1,2] Tryz.func110 Tryz.ntmps110 (fun d=>?_)
 refine AAm ?_;refine Z48 ?_
 refine A4 (h:=Cn ho) (hr:=?_)
 refine A4 ?_;refine A2 [0,1,2,6,12] ?_
 refine A3 (fun ht12=>?_) (fun ht12=>?_)
 ·have e:E9 e a S=⟨S.i,S.nest,e,a⟩:=if_pos ht12
  refine Z22 ?_;refine k7 ?_;refine Z0 ?_
  refine Ew jS ho ?_ ?_
  ·simp
  refine A2 [6] ?_;refine Ef ?_;refine AEl ?_;refine R.wk 19 _ Ng ?_;refine F1 ?_;refine Ts ?_;exact A8 (Ai (Az jA jS)) ⟨rfl,by rw [e]⟩ (hlow:=B2 _ Am)
 have e:E9 e a S=S:=if_neg (by rw [ht12];simp)
 refine Z3 ?_;refine AEl ?_;refine R.wk 19 _ Ng ?_;refine F1 ?_;refine Ts ?_;exact A8 (Ai (Az jA jS)) ⟨rfl,by rw [e];exact (Cp ho).symm⟩ (hlow:=B2 _ Am)

theorem AK3 (v:Val) (Hp:List AObj):AFun Tryz.prog 259 [B8 v] Hp (Ae (K5 v)):=by
 refine Ah [.cell 2 27] [0] Tryz.func259 Tryz.ntmps259 (fun d=>?_)
 refine Z2 ?_;refine Ks ?_;refine A2 [1,2] ?_;refine Z2 ?_;refine wc ?_;refine R.wk 4 _ (gb 1 [] v) ?_;refine Z38 ?_;exact A8 (Ai (Az jA jS)) ⟨rfl,rfl⟩ (hlow:=B2 _ (K5 v))

theorem AK4 (l:List Tok) (S:PS) (s:Str) (o:Nat) (Hp:List AObj) (ho:Hp[o]? = some (pr l S)) (hi:S.i<l.length) (hll:l.length≤1048576):ACall Tryz.prog 261 [.ptr o 0,Ac s] Hp (fun r H'=>r=.v (.tuple #[])∧H'=Hp.set o (pr l (Fk l s S))):=by
 refine Ah [] [0,1] Tryz.func261 Tryz.ntmps261 (fun d=>?_)
 refine Z48 ?_
 refine A4 (h:=Cn ho) (hr:=?_)
 refine A4 ?_;refine A2 [0,1,10] ?_
 refine A3 (fun ht10=>?_) (fun ht10=>?_)
 ·have e:Fk l s S=S:=if_pos ht10
  refine Z9 ?_;exact A8 .nores (hp:=⟨rfl,by rw [e];exact (Cp ho).symm⟩)
 have e0:¬(S.code != 0)=true:=by rw [ht10];simp
 refine Kq ?_;refine AAh ?_;refine A2 [0,1,4] ?_;refine pz ?_;refine A4 ?_;refine A2 [0,4,21] ?_
 refine A3 (fun ht21=>?_) (fun ht21=>?_)
 ·have e:Fk l s S=E9 8 (Ak l S.i).at_ S:=by unfold Fk;rw [if_neg e0,if_pos ht21]
  refine AI7 ?_;refine w5 ?_;exact A8 .nores (hp:=⟨rfl,by rw [e]⟩)
 have e:Fk l s S=Ao S:=by unfold Fk;rw [if_neg e0,if_neg (by rw [ht21];simp)]
 refine Z3 ?_;refine Z22 ?_
 refine A4 (h:=Cn ho) (hr:=?_)
 refine Z11 ?_
 refine Ew jS ho ?_ ?_
 ·simp
 refine A2 [] ?_;exact Jz .nores (hp:=⟨rfl,by rw [e];rfl⟩)

/-- The contract of one of the parser's functions. -/
def PC (g:FuncId) (l:List Tok) (f:PS→Expr×PS) (n:Nat):Prop:=∀(o:Nat) (Hp:List AObj) (S:PS),Hp[o]? = some (pr l S)→S.i<l.length→S.nest=n→ACall Tryz.prog g [.ptr o 0] Hp (fun r H'=>r=Ae (f S).1∧H'=Hp.set o (pr l (f S).2))
abbrev Kv:AObj:=.cells 27 [A5 0,Ac [],A5 0,A5 0,Ac [],.nil]
theorem n5 {n:Nat}:ObjLow n Kv:=by
 show ∀y∈[A5 0,Ac [],A5 0,A5 0,Ac [],AV.nil],Low n y
 simp
theorem ABp {n:Nat} (e:Expr):ObjLow n (.cells 27 (Ey e)):=by
 have h:=B2 n e
 rw [Ax] at h
 show ∀y∈Ey e,Low n y
 intro y hy
 cases h with
 | agg _ h=>exact h y hy
theorem ABq (l:List Tok) (S:PS) (a:Int) (g:FuncId) (first caps:List AV) (x:Expr) (S2:PS) (o:Nat) (Hp Hx:List AObj) (ho:Hp[o]? = some (pr l S)) (hnl:S.nest≤1048576) (hgc:∀args w,(callFunc g args).run Tryz.prog w=.ok (.enter g args) w) (hxl:Hx.length=Hp.length) (hxo:Hx[o]? = some (pr l S2)) (hn2:S2.nest=S.nest+1) (hlow:(∀y∈Hp.set o (pr l (Da S)),ObjLow Hp.length y)→∀y∈Hx,ObjLow Hp.length y) (hcf:S.nest≠30→∀own,ACall Tryz.prog g (first++caps) (Hp.set o (pr l (Da S))++own) (fun y H'=>y=Ae x∧H'=Hx++own)):ACall Tryz.prog 201 [.ptr o 0,A5 a,.fn (.func g) first caps] Hp (fun r H'=>(S.nest=30→r=Ae Am∧H'=Hp.set o (pr l (E9 18 a S)))∧(S.nest≠30→r=Ae x∧H'=Hx.set o (pr l (Yq S2)))):=by
 refine Ah [.cell 6 27] [0,1,2] Tryz.func201 Tryz.ntmps201 (fun d=>?_)
 refine AAm ?_;refine Z32 ?_
 refine A4 (h:=Cn ho) (hr:=?_)
 refine A4 ?_;refine A2 [0,1,2,6,12] ?_
 refine A3 (fun ht12=>?_) (fun ht12=>?_)
 ·have hn30:S.nest=30:=by have:=ht12;simp at this;omega
  refine Z1 ?_;refine Bk Tryz.call110 ho (by simp) D4 (r7 l S 18 a o _ (Ar ho)) ?_;refine F1 ?_;refine A2 [6] ?_;refine Z9 ?_;exact A8 (Ai (Az jA jS)) ⟨fun _=>⟨by rw [Ax],rfl⟩,fun h=>absurd hn30 h⟩ (hlow:=by have:=B2 Hp.length Am;rw [Ax] at this;simpa using this)
 have hn30:S.nest≠30:=by have:=ht12;simp at this;omega
 refine Oh ?_
 refine A4 (h:=Cn ho) (hr:=?_)
 refine Z11 ?_
 refine Ew jS ho ?_ ?_
 ·simp
 refine A2 [0,2,6] ?_;refine Z2 ?_
 refine R.callVX (up':=Hx) (own':=[Kv]) hgc (hcf hn30 [Kv]) (by simpa using hxl) (by rw [E3];exact hlow) ?_
 rw [←hxl]
 refine Z16 ?_;refine A2 [0,6,7] ?_;refine Z13 ?_
 refine A4 (h:=Cn hxo) (hr:=?_)
 refine Z11 ?_
 refine Ew jS hxo ?_ ?_
 ·simp
 refine A2 [6,7] ?_;refine dv ?_;refine Ts ?_;exact A8 (Ai (Az jA jS)) ⟨fun h=>absurd h hn30,fun _=>⟨by rw [Ax],by rw [show ((S2.nest:Int)-1)=((Yq S2).nest:Int) by show _=((S2.nest-1:Nat):Int);omega];rfl⟩⟩ (hlow:=by have:=B2 Hx.length x;rw [Ax] at this;simpa using this)

theorem r8 (t:Str) (a b:Expr):Ey (Hn t a b)=[A5 5,.v (sv t),A5 0,A5 0,Ac [],.slice false 6 [Ae a,Ae b]]:=rfl
theorem ABr {n:Nat} (t:Str) (a b:Expr):ObjLow n (.cells 27 [A5 5,.v (sv t),A5 0,A5 0,Ac [],.slice false 6 [Ae a,Ae b]]):=ABp (Hn t a b)
theorem ABs {n:Nat} {U:List AObj} {i:Nat} {x:AObj} (h:∀y∈U,ObjLow n y) (hx:ObjLow n x):∀y∈U.set i x,ObjLow n y:=by
 intro y hy
 rcases Pw hy with h1|h1
 ·exact h y h1
 rw [h1];exact hx
/-- within, with a method's value. -/
theorem xq {g:FuncId} (hgc:∀args w,(callFunc g args).run Tryz.prog w=.ok (.enter g args) w) (l:List Tok) (S:PS) (a:Int) (f:PS→Expr×PS) (o:Nat) (Hp:List AObj) (ho:Hp[o]? = some (pr l S)) (hi:S.i<l.length) (hnl:S.nest≤30) (hf:S.nest≠30→En l (S.nest+1) f) (hcf:S.nest≠30→PC g l f (S.nest+1)):
  ACall Tryz.prog 201 [.ptr o 0,A5 a,.fn (.func g) [.ptr o 0] []] Hp (fun r H'=>r=Ae (Cl a f S).1∧H'=Hp.set o (pr l (Cl a f S).2)):=by
 have hlt:=(Ad.1 ho).1
 by_cases h30:S.nest=30
 ·refine (ABq l S a g [.ptr o 0] [] Am (Da S) o Hp (Hp.set o (pr l (Da S))) ho (by omega) hgc (by simp) (by simp [hlt]) rfl (fun h=>h) (fun h=>absurd h30 h)).mono fun r H' h=>?_
  have e:Cl a f S=(Am,E9 18 a S):=if_pos (by rw [h30];rfl)
  rw [e]
  exact h.1 h30
 have hq:=hf h30 (Da S) hi rfl
 refine (ABq l S a g [.ptr o 0] [] (f (Da S)).1 (f (Da S)).2 o Hp (Hp.set o (pr l (f (Da S)).2)) ho (by omega) hgc (by simp) (by simp [hlt]) hq.nest (fun h y hy=>?_) (fun _ own=>?_)).mono fun r H' h=>?_
 ·rcases Pw hy with h1|h1
  ·obtain ⟨i,hi',rfl⟩:=P5 h1
   by_cases hio:i=o
   ·subst hio
    have:Hp[i]=pr l S:=by rw [Aa hi'] at ho;injection ho
    rw [this];exact D4
   refine h _ ?_
   rw [m4]
   exact ⟨i,by rw [Cr (Ne.symm hio),Aa hi']⟩
  rw [h1];exact D4
 ·have hg:(Hp.set o (pr l (Da S))++own)[o]? = some (pr l (Da S)):=Ar (by simp [hlt])
  refine (hcf h30 o (Hp.set o (pr l (Da S))++own) (Da S) hg hi rfl).mono fun r H' h=>⟨h.1,h.2.trans ?_⟩
  rw [Ns _ _ (by simpa using hlt),Cb]
 have e:Cl a f S=((f (Da S)).1,Yq (f (Da S)).2):=if_neg (by
  show ¬(((S.nest:Int)==30)=true)
  simp
  omega)
 rw [e]
 obtain ⟨h1,h2⟩:=h.2 h30
 exact ⟨h1,by rw [h2,Cb]⟩
theorem ABt {g:FuncId} (hgc:∀args w,(callFunc g args).run Tryz.prog w=.ok (.enter g args) w) (l:List Tok) (S:PS) (of:Str) (hof:of.length≤1048576) (f:PS→Expr×PS) (o:Nat) (Hp:List AObj) (ho:Hp[o]? = some (pr l S)) (hi:S.i<l.length) (hl:TokEnd l) (hll:l.length≤1048576) (hf:En l S.nest f) (hcf:PC g l f S.nest):ACall Tryz.prog 141 [.ptr o 0,Ac of,.fn (.func g) [.ptr o 0] []] Hp (fun r H'=>r=Ae (Gs l of f S).1∧H'=Hp.set o (pr l (Gs l of f S).2)):=by
 have holt:=(Ad.1 ho).1
 refine Ah [.cell 6 27] [0,1,2] Tryz.func141 Tryz.ntmps141 (fun d=>?_)
 refine AAm ?_;refine Z2 ?_;refine R.callVUp hgc ho (by simp) D4 (hcf o _ S (Ar ho) hi rfl) ?_;refine Z16 ?_;refine A2 [0,1,2,6,7] ?_;refine Kp ?_
 refine Bh (α:=Expr×PS) (fun r=>⟨32,A9 0 (.ptr o 0) (A9 1 (Ac of) (A9 2 (.fn (.func g) [.ptr o 0] []) (A9 6 (.ptr (oid Hp.length 0) 0) (A9 7 (.ptr (oid Hp.length 1) 0) (fun _=>.any))))),Hp.set o (pr l r.2),[.cells 27 [A5 0,Ac [],A5 0,A5 0,Ac [],.nil],.cells 27 (Ey r.1)],[],none⟩) (fun r=>LeftAt l of f S r) (fun r=>l.length-r.2.i) (f S) (.start (hf S hi rfl)) (Bc (by simp)) rfl (fun r hx=>?_)
 refine Z48 ?_
 refine A4 (h:=Cn (As ho)) (hr:=?_)
 refine Z46 ?_;refine Bw Tryz.call170 (fun hB=>gc l r.2 of o _ (Ar (As ho)) hx.fact.lt hl hof) ?_;refine A4 ?_;refine A2 [0,1,2,6,7,21] ?_
 refine A3 (fun ht21=>?_) (fun ht21=>?_)
 ·have hon:=hx.on hl ht21 hf
  have hle:=hon.2.1.le
  have hlt0:=hx.fact.lt
  have hU1:(Hp.set o (pr l r.2)).set o (pr l (Ao r.2))=Hp.set o (pr l (Ao r.2)):=Cb ..
  refine w7 ?_;refine Z2 ?_;refine Bk Tryz.call171 (As ho) (by simp) D4 (xp l r.2 o _ (Ar (As ho)) hx.fact.lt hll) ?_;refine Z16 ?_;refine A2 [0,1,2,6,7,8] ?_;refine W.drawY0 [0,1,0,0,8,28,63,127] [4] [.q 4 [] [],.s [28] (some 0) [] [],.q 1 [0] []] (fun B=>Hp.set o (if B 0=true then pr l (f (Ao r.2)).2 else pr l (Ao r.2))) (fun _=>[.cells 27 [A5 0,Ac [],A5 0,A5 0,Ac [],.nil],.cells 27 (Ey r.1),.cells 82 [A5 (Ak l r.2.i).kind,Ac (Ak l r.2.i).text,A5 (Ak l r.2.i).at_]]) Aj (by kernel_rfl) (by simp [Cb]) rfl (fun B=>by simp) ?_
  apply Y.q
  ·intro B hT hF
   exact pi
  case hTF=>decide
  refine Y.callVUp (r:=Ae (f (Ao r.2)).1) (o:=o) (x0:=pr l (Ao r.2)) (x:=pr l (f (Ao r.2)).2) hgc (fun B hT hF hB=>⟨by simp only [hB];exact As ho,by simp [upd],rfl,D4,?_⟩) ?_
  ·simp only [hB]
   exact hcf o _ (Ao r.2) (Ar (As ho)) hon.1 hx.fact.nest
  apply Y.q
  ·intro B hT hF
   exact Z84
  case hTF=>decide
  refine F7 (tn:=[4]) (U:=Hp.set o (pr l (f (Ao r.2)).2)) ?_;refine wc ?_;refine F1 ?_;refine A2 [0,1,2,6,7] ?_;refine Hc ?_
  refine B5 (Hn (Ak l r.2.i).text r.1 (f (Ao r.2)).1,(f (Ao r.2)).2) hon.2.2 (by show l.length-(f (Ao r.2)).2.i<l.length-r.2.i;have:r.2.i+1≤(f (Ao r.2)).2.i:=hle;omega) ?_
  simp only [r8]
  have hlow2:=fun n=>ABr (n:=n) (Ak l r.2.i).text r.1 (f (Ao r.2)).1
  simp only [Ax] at hlow2 ⊢
  exact E5 (fun _=>.refl _) (by repeat (first|exact C5|refine C4 (by simp [oid]<;>omega) ?_)) (by intro y hy;rcases By.1 hy with rfl|hy;exact n5;rw [Ck.1 hy];exact hlow2 _) (by simp)
 have hout:=hx.out (by rw [ht21];simp)
 refine Z52 ?_;refine dv ?_;refine Ts ?_;exact A8 (Ai (Az jA jS)) ⟨by rw [hout,Ax],by rw [hout]⟩ (hlow:=by have:=B2 (Hp.set o (pr l r.2)).length r.1;rw [Ax] at this;simpa using this)

theorem AM0 (l:List Tok) (S:PS) (f:PS→Expr×PS) (o:Nat) (Hp:List AObj) (ho:Hp[o]? = some (pr l S)) (hi:S.i<l.length) (hl:TokEnd l) (hll:l.length≤1048576) (hf:En l S.nest f) (hcf:PC 142 l f S.nest):ACall Tryz.prog 108 [.ptr o 0] Hp (fun r H'=>r=Ae (Gs l orT f S).1∧H'=Hp.set o (pr l (Gs l orT f S).2)):=by
 refine Ah [.cell 2 27] [0] Tryz.func108 Tryz.ntmps108 (fun d=>?_)
 refine Z75 ?_;refine Z1 ?_;refine I9 ?_;refine Bk Tryz.call141 ho (by simp) D4 (ABt Tryz.call142 l S orT (by decide) f o _ (Ar ho) hi hl hll hf hcf) ?_;refine Z38 ?_;exact A8 (Ai (Az jA jS)) ⟨by rw [Ax],rfl⟩ (hlow:=by have:=B2 Hp.length (Gs l orT f S).1;rw [Ax] at this;simpa using this)

theorem AM1 (l:List Tok) (S:PS) (f:PS→Expr×PS) (o:Nat) (Hp:List AObj) (ho:Hp[o]? = some (pr l S)) (hi:S.i<l.length) (hl:TokEnd l) (hll:l.length≤1048576) (hf:En l S.nest f) (hcf:PC 172 l f S.nest):ACall Tryz.prog 142 [.ptr o 0] Hp (fun r H'=>r=Ae (Gs l xi f S).1∧H'=Hp.set o (pr l (Gs l xi f S).2)):=by
 refine Ah [.cell 2 27] [0] Tryz.func142 Tryz.ntmps142 (fun d=>?_)
 refine Z75 ?_;refine Z1 ?_;refine I9 ?_;refine Bk Tryz.call141 ho (by simp) D4 (ABt Tryz.call172 l S xi (by decide) f o _ (Ar ho) hi hl hll hf hcf) ?_;refine Z38 ?_;exact A8 (Ai (Az jA jS)) ⟨by rw [Ax],rfl⟩ (hlow:=by have:=B2 Hp.length (Gs l xi f S).1;rw [Ax] at this;simpa using this)

theorem AM2 (l:List Tok) (S:PS) (f:PS→Expr×PS) (o:Nat) (Hp:List AObj) (ho:Hp[o]? = some (pr l S)) (hi:S.i<l.length) (hl:TokEnd l) (hll:l.length≤1048576) (hf:En l S.nest f) (hcf:PC 236 l f S.nest):ACall Tryz.prog 221 [.ptr o 0] Hp (fun r H'=>r=Ae (Gs l xj f S).1∧H'=Hp.set o (pr l (Gs l xj f S).2)):=by
 refine Ah [.cell 2 27] [0] Tryz.func221 Tryz.ntmps221 (fun d=>?_)
 refine Z75 ?_;refine Z1 ?_;refine I9 ?_;refine Bk Tryz.call141 ho (by simp) D4 (ABt Tryz.call236 l S xj (by decide) f o _ (Ar ho) hi hl hll hf hcf) ?_;refine Z38 ?_;exact A8 (Ai (Az jA jS)) ⟨by rw [Ax],rfl⟩ (hlow:=by have:=B2 Hp.length (Gs l xj f S).1;rw [Ax] at this;simpa using this)

theorem AM3 (l:List Tok) (S:PS) (f:PS→Expr×PS) (o:Nat) (Hp:List AObj) (ho:Hp[o]? = some (pr l S)) (hi:S.i<l.length) (hl:TokEnd l) (hll:l.length≤1048576) (hf:En l S.nest f) (hcf:PC 243 l f S.nest):ACall Tryz.prog 236 [.ptr o 0] Hp (fun r H'=>r=Ae (Gs l g7 f S).1∧H'=Hp.set o (pr l (Gs l g7 f S).2)):=by
 refine Ah [.cell 2 27] [0] Tryz.func236 Tryz.ntmps236 (fun d=>?_)
 refine Z75 ?_;refine Z1 ?_;refine I9 ?_;refine Bk Tryz.call141 ho (by simp) D4 (ABt Tryz.call243 l S g7 (by decide) f o _ (Ar ho) hi hl hll hf hcf) ?_;refine Z38 ?_;exact A8 (Ai (Az jA jS)) ⟨by rw [Ax],rfl⟩ (hlow:=by have:=B2 Hp.length (Gs l g7 f S).1;rw [Ax] at this;simpa using this)

/-- What is so of the functions one nest deeper. -/
structure DeepC (l:List Tok) (Dv:Fam) (n:Nat):Prop where
 ei:n≠30→En l (n+1) Dv.ei∧PC 108 l Dv.ei (n+1)
 no:n≠30→En l (n+1) Dv.no∧PC 172 l Dv.no (n+1)
 ne:n≠30→En l (n+1) Dv.ne∧PC 243 l Dv.ne (n+1)
theorem Ul (op:Int) (x:Expr):Ae (Fy op x)=.agg [A5 op,Ac [],A5 0,A5 0,Ac [],.slice false 6 [Ae x]]:=by rw [Ax];rfl
theorem n6 (t:Str) (a b:Expr):Ae (Hn t a b)=.agg [A5 5,.v (sv t),A5 0,A5 0,Ac [],.slice false 6 [Ae a,Ae b]]:=by rw [Ax];rfl
theorem low_agg {n:Nat} (e:Expr):Low n (.agg [.v (.int .i64 e.op),.v (sv e.text),.v (.int .i64 e.val.kind),.v (.int .i64 e.val.n),.v (sv e.val.s),.slice false 6 (e.kids.map Ae)]):=by
 have:=B2 n e
 rwa [Ax] at this
theorem AM4 (l:List Tok) (S:PS) (Dv:Fam) (o:Nat) (Hp:List AObj) (ho:Hp[o]? = some (pr l S)) (hi:S.i<l.length) (hl:TokEnd l) (hll:l.length≤1048576) (hnl:S.nest≤30) (hd:DeepC l Dv S.nest) (hc:PC 253 l (H3 l Dv) S.nest):ACall Tryz.prog 243 [.ptr o 0] Hp (fun r H'=>r=Ae (We l Dv S).1∧H'=Hp.set o (pr l (We l Dv S).2)):=by
 refine Ah [.cell 2 27] [0] Tryz.func243 Tryz.ntmps243 (fun d=>?_)
 refine Z75 ?_;refine Z23 ?_;refine A7 Tryz.call170 (gc l S AFx o _ (Ar ho) hi hl (by decide)) ?_;refine A4 ?_;refine A2 [0,2,6] ?_
 refine A3 (fun ht6=>?_) (fun ht6=>?_)
 ·have e:We l Dv S=H3 l Dv S:=if_pos ht6
  refine Z2 ?_;refine Bk Tryz.call253 ho (by simp) D4 (hc o _ S (Ar ho) hi rfl) ?_;refine Z38 ?_;exact AEj
 have his:isM l AFx S=true:=by simpa using ht6
 have hi1:(Ao S).i<l.length:=hl.stepIs hi his
 have e:We l Dv S=(Fy 3 (Cl (Ak l S.i).at_ Dv.ne (Ao S)).1,(Cl (Ak l S.i).at_ Dv.ne (Ao S)).2):=if_neg (by rw [ht6];simp)
 refine Z3 ?_;refine Z66 ?_;refine AAt ?_;refine Z20 ?_;refine I9 ?_;refine Bk Tryz.call201 (As ho) (by simp) D4 (xq Tryz.call243 l (Ao S) (Ak l S.i).at_ Dv.ne o _ (Ar (As ho)) hi1 hnl (fun h=>(hd.ne h).1) (fun h=>(hd.ne h).2)) ?_;refine bn ?_;refine AEm ?_;exact A8 (Ai (Az jA jS)) ⟨by rw [e,Ul];simp only [Ax],by rw [e,Cb]⟩ (hlow:=by have:=B2 Hp.length (Fy 3 (Cl (Ak l S.i).at_ Dv.ne (Ao S)).1);rw [Ul] at this;simp only [Ax] at this;simpa only [E3] using this)

theorem AM5 (l:List Tok) (S:PS) (Dv:Fam) (o:Nat) (Hp:List AObj) (ho:Hp[o]? = some (pr l S)) (hi:S.i<l.length) (hl:TokEnd l) (hll:l.length≤1048576) (hnl:S.nest≤30) (hd:DeepC l Dv S.nest) (hc:PC 200 l (Gf l Dv) S.nest):ACall Tryz.prog 172 [.ptr o 0] Hp (fun r H'=>r=Ae (Wf l Dv S).1∧H'=Hp.set o (pr l (Wf l Dv S).2)):=by
 refine Ah [.cell 2 27] [0] Tryz.func172 Tryz.ntmps172 (fun d=>?_)
 refine Z75 ?_;refine Z23 ?_;refine A7 Tryz.call170 (gc l S AFv o _ (Ar ho) hi hl (by decide)) ?_;refine A4 ?_;refine A2 [0,2,6] ?_
 refine A3 (fun ht6=>?_) (fun ht6=>?_)
 ·have e:Wf l Dv S=Gf l Dv S:=if_pos ht6
  refine Z2 ?_;refine Bk Tryz.call200 ho (by simp) D4 (hc o _ S (Ar ho) hi rfl) ?_;refine Z38 ?_;exact AEj
 have his:isM l AFv S=true:=by simpa using ht6
 have hi1:(Ao S).i<l.length:=hl.stepIs hi his
 have e:Wf l Dv S=(Fy 4 (Cl (Ak l S.i).at_ Dv.no (Ao S)).1,(Cl (Ak l S.i).at_ Dv.no (Ao S)).2):=if_neg (by rw [ht6];simp)
 refine Z3 ?_;refine Z66 ?_;refine AAt ?_;refine Z20 ?_;refine I9 ?_;refine Bk Tryz.call201 (As ho) (by simp) D4 (xq Tryz.call172 l (Ao S) (Ak l S.i).at_ Dv.no o _ (Ar (As ho)) hi1 hnl (fun h=>(hd.no h).1) (fun h=>(hd.no h).2)) ?_;refine bn ?_;refine AEm ?_;exact A8 (Ai (Az jA jS)) ⟨by rw [e,Ul];simp only [Ax],by rw [e,Cb]⟩ (hlow:=by have:=B2 Hp.length (Fy 4 (Cl (Ak l S.i).at_ Dv.no (Ao S)).1);rw [Ul] at this;simp only [Ax] at this;simpa only [E3] using this)

theorem AM6 (l:List Tok) (S:PS) (Dv:Fam) (o:Nat) (Hp:List AObj) (ho:Hp[o]? = some (pr l S)) (hi:S.i<l.length) (hl:TokEnd l) (hll:l.length≤1048576) (hnl:S.nest≤30) (hd:DeepC l Dv S.nest) (hg:En l S.nest (Es l Dv)) (hc:PC 221 l (Es l Dv) S.nest):ACall Tryz.prog 200 [.ptr o 0] Hp (fun r H'=>r=Ae (Gf l Dv S).1∧H'=Hp.set o (pr l (Gf l Dv S).2)):=by
 have hq:=hg S hi rfl
 refine Ah [.cell 2 27] [0] Tryz.func200 Tryz.ntmps200 (fun d=>?_)
 refine Z75 ?_;refine Z2 ?_;refine Bk Tryz.call221 ho (by simp) D4 (hc o _ S (Ar ho) hi rfl) ?_;refine AAt ?_;refine Z48 ?_
 refine A4 (h:=Cn (As ho)) (hr:=?_)
 refine N4 ?_;refine Bw Tryz.call170 (fun hB=>gc l (Es l Dv S).2 AFw o _ (Ar (As ho)) hq.lt hl (by decide)) ?_;refine Z95 ?_;refine A2 [0,2,3,17] ?_
 refine A3 (fun ht17=>?_) (fun ht17=>?_)
 ·have e:Gf l Dv S=Es l Dv S:=if_pos ht17
  refine Z2 ?_;refine Z38 ?_;exact AEj
 have his:isM l AFw (Es l Dv S).2=true:=by
  have:=ht17
  simp only [Cv,Jt] at this
  exact this.2
 have hi1:(Ao (Es l Dv S).2).i<l.length:=hl.stepIs hq.lt his
 have e:Gf l Dv S=(Hn (Ak l (Es l Dv S).2.i).text (Es l Dv S).1 (Es l Dv (Ao (Es l Dv S).2)).1,(Es l Dv (Ao (Es l Dv S).2)).2):=if_neg (by rw [ht17];simp)
 refine Z93 ?_;refine Bk Tryz.call171 (As ho) (by simp) D4 (xp l (Es l Dv S).2 o _ (Ar (As ho)) hq.lt hll) ?_;refine Z16 ?_;refine A2 [0,2,3,4] ?_;refine Fs [0,1,0,0,8,28,63,127] [4] [.q 4 [] [],.s [25] (some 0) [] [],.q 1 [0] []] (fun B=>Hp.set o (if B 0=true then pr l (Es l Dv (Ao (Es l Dv S).2)).2 else pr l (Ao (Es l Dv S).2))) (fun _=>[.cells 27 [A5 0,Ac [],A5 0,A5 0,Ac [],.nil],.cells 27 (Ey (Es l Dv S).1),.cells 82 [A5 (Ak l (Es l Dv S).2.i).kind,Ac (Ak l (Es l Dv S).2.i).text,A5 (Ak l (Es l Dv S).2.i).at_]]) Aj (by kernel_rfl) (by simp [Cb]) rfl (fun B=>by simp) ?_
 apply Y.q
 ·intro B hT hF
  exact pi
 case hTF=>decide
 refine Y.callUp (r:=Ae (Es l Dv (Ao (Es l Dv S).2)).1) (o:=o) (x0:=pr l (Ao (Es l Dv S).2)) (x:=pr l (Es l Dv (Ao (Es l Dv S).2)).2) Tryz.call221 (fun B hT hF hB=>⟨by simp only [hB];exact As ho,by simp [upd],rfl,D4,?_⟩) ?_
 ·simp only [hB]
  exact hc o _ (Ao (Es l Dv S).2) (Ar (As ho)) hi1 hq.nest
 apply Y.q
 ·intro B hT hF
  exact Z84
 case hTF=>decide
 refine F7 (tn:=[4]) (U:=Hp.set o (pr l (Es l Dv (Ao (Es l Dv S).2)).2)) ?_;refine AEm ?_;exact A8 (Ai (Az jA jS)) ⟨by rw [e,n6];simp only [Ax],by rw [e]⟩ (hlow:=by have:=B2 Hp.length (Hn (Ak l (Es l Dv S).2.i).text (Es l Dv S).1 (Es l Dv (Ao (Es l Dv S).2)).1);rw [n6] at this;simp only [Ax] at this;simpa only [E3] using this)

/-- The contract of the parser of calls. -/
def ge (l:List Tok) (Dv:Fam) (n:Nat):Prop:=∀(o:Nat) (Hp:List AObj) (S:PS) (t:Tok),Hp[o]? = some (pr l S)→(Ao S).i<l.length→S.nest=n→t.text.length≤1048576→isM l opT S=true→ACall Tryz.prog 260 [.ptr o 0,Ic t] Hp (fun r H'=>r=Ae (I4 l Dv t S).1∧H'=Hp.set o (pr l (I4 l Dv t S).2))
theorem xr:Ae Am=.agg [A5 0,Ac [],A5 0,A5 0,Ac [],.slice false 6 []]:=by rw [Ax];rfl
theorem AM7 (l:List Tok) (S:PS) (Dv:Fam) (o:Nat) (Hp:List AObj) (ho:Hp[o]? = some (pr l S)) (hi:S.i<l.length) (hl:TokEnd l) (hll:l.length≤1048576) (hnl:S.nest≤30) (hd:DeepC l Dv S.nest) (hcl:ge l Dv S.nest):ACall Tryz.prog 253 [.ptr o 0] Hp (fun r H'=>r=Ae (H3 l Dv S).1∧H'=Hp.set o (pr l (H3 l Dv S).2)):=by
 refine Ah [.cell 2 27] [0] Tryz.func253 Tryz.ntmps253 (fun d=>?_)
 refine Z75 ?_;refine Z2 ?_;refine AAh ?_;refine A2 [0,2,3] ?_;refine Z48 ?_
 refine A4 (h:=Cn ho) (hr:=?_)
 refine A4 ?_;refine A2 [0,2,3,14] ?_
 refine A3 (fun ht14=>?_) (fun ht14=>?_)
 ·have e:H3 l Dv S=(Am,S):=if_pos ht14
  refine AEl ?_;refine R.wk 15 _ Ng ?_;refine Z38 ?_;refine Ex ?_;exact A8 (Ai (Az jA jS)) ⟨by rw [e,Ax],by rw [e];exact (Cp ho).symm⟩ (hlow:=by have:=B2 Hp.length (Am);simpa only [Ax,E3] using this)
 have e0:¬(S.code != 0)=true:=by rw [ht14];simp
 refine Z53 ?_;refine Z20 ?_;refine B3 ?_;refine Bw Tryz.call170 (fun hB=>gc l S AFy o _ (Ar ho) hi hl (by decide)) ?_;refine Z0 ?_;refine A2 [0,2,3,16] ?_
 refine A3 (fun ht16=>?_) (fun ht16=>?_)
 ·have e:H3 l Dv S=(K5 (Hv (Ak l S.i).text).1,Ao S):=by unfold H3;rw [if_neg e0,if_pos ht16]
  refine Z66 ?_;refine A4 ?_;refine A7 Tryz.call168 (AFp (Ak l S.i).text (hl.text _) _) ?_;refine Xn ?_;refine A2 [2,4] ?_;refine Z2 ?_;refine A7 Tryz.call259 (AK3 (Hv (Ak l S.i).text).1 _) ?_;refine Z38 ?_;refine Z5 ?_;exact A8 (Ai (Az jA jS)) ⟨by rw [e,Ax],by rw [e]⟩ (hlow:=by have:=B2 Hp.length (K5 (Hv (Ak l S.i).text).1);simpa only [Ax,E3] using this)
 have e1:¬(((Ak l S.i).kind==3) || isM l AFy S)=true:=by rw [ht16];simp
 refine Z20 ?_;refine A2 [0,2,3,33] ?_
 refine A3 (fun ht33=>?_) (fun ht33=>?_)
 ·have e:H3 l Dv S=(K5 ⟨2,0,(Ak l S.i).text.take 200⟩,Ao S):=by unfold H3;rw [if_neg e0,if_neg e1,if_pos ht33]
  refine Z66 ?_;refine A4 ?_;refine A7 Tryz.call215 (qi (Ak l S.i).text _) ?_;refine A7 Tryz.call259 (AK3 ⟨2,0,(Ak l S.i).text.take 200⟩ _) ?_;refine Z38 ?_;refine Z5 ?_;exact A8 (Ai (Az jA jS)) ⟨by rw [e,Ax],by rw [e]⟩ (hlow:=by have:=B2 Hp.length (K5 ⟨2,0,(Ak l S.i).text.take 200⟩);simpa only [Ax,E3] using this)
 have e2:¬((Ak l S.i).kind==4)=true:=by rw [ht33];simp
 refine Z20 ?_;refine A2 [0,2,3,42] ?_
 refine A3 (fun ht42=>?_) (fun ht42=>?_)
 ·have hi1:(Ao S).i<l.length:=hl.step hi (by rw [beq_iff_eq] at ht42;rw [ht42];decide)
  refine Z66 ?_;refine A2 [0,2,3] ?_;refine Z23 ?_;refine A7 Tryz.call170 (gc l (Ao S) opT o _ (Ar (As ho)) hi1 hl (by decide)) ?_;refine A2 [0,2,3,49] ?_
  refine A3 (fun ht49=>?_) (fun ht49=>?_)
  ·have e:H3 l Dv S=I4 l Dv (Ak l S.i) (Ao S):=by unfold H3;rw [if_neg e0,if_neg e1,if_neg e2,if_pos ht42,if_pos ht49]
   have hi2:(Ao (Ao S)).i<l.length:=hl.stepIs hi1 ht49
   refine Z1 ?_;refine Bk Tryz.call260 (As ho) (by simp) D4 (hcl o _ (Ao S) (Ak l S.i) (Ar (As ho)) hi2 rfl (hl.text _) ht49) ?_;refine Z38 ?_;refine Ex ?_;refine Z5 ?_;exact A8 (Ai (Az jA jS)) ⟨by rw [e,Ax],by rw [e,Cb]⟩ (hlow:=by have:=B2 Hp.length ((I4 l Dv (Ak l S.i) (Ao S)).1);simpa only [Ax,E3] using this)
  have e:H3 l Dv S=(F8 (Ak l S.i).text,Ao S):=by unfold H3;rw [if_neg e0,if_neg e1,if_neg e2,if_pos ht42,if_neg (by rw [ht49];simp)]
  refine Z3 ?_;refine Z82 ?_;refine R.wk 55 _ (fe _) ?_;refine Z38 ?_;refine Z5 ?_;exact A8 (Ai (Az jA jS)) ⟨by rw [e,Ax],by rw [e]⟩ (hlow:=by have:=B2 Hp.length (F8 (Ak l S.i).text);simpa only [Ax,E3] using this)
 have e3:¬((Ak l S.i).kind==1)=true:=by rw [ht42];simp
 refine Z2 ?_;refine A7 Tryz.call170 (gc l S opT o _ (Ar ho) hi hl (by decide)) ?_;refine A4 ?_;refine A2 [0,2,3,56] ?_
 refine A3 (fun ht56=>?_) (fun ht56=>?_)
 ·have e:H3 l Dv S=((Cl (Ak l S.i).at_ Dv.ei (Ao S)).1,Fk l Fg (Cl (Ak l S.i).at_ Dv.ei (Ao S)).2):=by unfold H3;rw [if_neg e0,if_neg e1,if_neg e2,if_neg e3,if_pos ht56]
  have hi1:(Ao S).i<l.length:=hl.stepIs hi ht56
  have hwf:=Jh (S:=Ao S) (l:=l) (f:=Dv.ei) (Ak l S.i).at_ hi1 (fun h=>(hd.ei h).1)
  refine Z66 ?_;refine A2 [0,2,3] ?_;refine Z20 ?_;refine I9 ?_;refine Bk Tryz.call201 (As ho) (by simp) D4 (xq Tryz.call108 l (Ao S) (Ak l S.i).at_ Dv.ei o _ (Ar (As ho)) hi1 hnl (fun h=>(hd.ei h).1) (fun h=>(hd.ei h).2)) ?_;refine Z16 ?_;refine A2 [0,2,6] ?_;refine Z2 ?_;refine Bk Tryz.call261 (As (As ho)) (by simp) D4 (AK4 l (Cl (Ak l S.i).at_ Dv.ei (Ao S)).2 Fg o _ (Ar (As (As ho))) hwf.lt hll) ?_;refine A2 [2,6] ?_;refine Z2 ?_;refine Z38 ?_;refine Z5 ?_;exact A8 (Ai (Az jA jS)) ⟨by rw [e,Ax],by rw [e,Cb,Cb]⟩ (hlow:=by have:=B2 Hp.length ((Cl (Ak l S.i).at_ Dv.ei (Ao S)).1);simpa only [Ax,E3] using this)
 have e:H3 l Dv S=(Am,E9 8 (Ak l S.i).at_ S):=by unfold H3;rw [if_neg e0,if_neg e1,if_neg e2,if_neg e3,if_neg (by rw [ht56];simp)]
 refine Z18 ?_;refine AI7 ?_;refine Z38 ?_;exact A8 (Ai (Az jA jS)) ⟨by rw [e,Ax],by rw [e]⟩ (hlow:=by have:=B2 Hp.length (Am);simpa only [Ax,E3] using this)

theorem ABu {l:List Tok} (hl:TokEnd l) (hll:l.length≤1048576) {d n:Nat} (h:n+(d+1)=31) (hp:n≠30→PC 108 l (Fl l d).ei (n+1)∧PC 172 l (Fl l d).no (n+1)∧PC 243 l (Fl l d).ne (n+1)):DeepC l (Fl l d) n:=by
 have g:n≠30→_:=fun h30=>S7 hl hll d (n+1) (by omega) (by omega)
 exact ⟨fun h=>⟨(g h).1,(hp h).1⟩,fun h=>⟨(g h).2.1,(hp h).2.1⟩,fun h=>⟨(g h).2.2,(hp h).2.2⟩⟩
/-- All functions of the parser. -/
theorem gg {l:List Tok} (hl:TokEnd l) (hll:l.length≤1048576) (hcl:∀n Dv,n≤30→DeepC l Dv n→ge l Dv n):∀(d n:Nat),n+d=31→n≤30→PC 108 l (Fl l d).ei n∧PC 172 l (Fl l d).no n∧PC 243 l (Fl l d).ne n
 | 0,n,h,hn=>by omega
 | d+1,n,h,hn=>by
  have hd:DeepC l (Fl l d) n:=ABu hl hll h (fun h30=>gg hl hll hcl d (n+1) (by omega) (by omega))
  have g1:En l n (We l (Fl l d)):=S6 hl hll (fun h=>(hd.ei h).1) (fun h=>(hd.ne h).1)
  have g2:En l n (mt l (Fl l d)):=He hl g1
  have g3:En l n (Es l (Fl l d)):=He hl g2
  have g4:En l n (Gf l (Fl l d)):=Ox hl hll (fun h=>(hd.ei h).1) (fun h=>(hd.ne h).1)
  have g5:En l n (Wf l (Fl l d)):=Yt hl hll (fun h=>(hd.ei h).1) (fun h=>(hd.ne h).1) (fun h=>(hd.no h).1)
  have g6:En l n (mu l (Fl l d)):=He hl g5
  have p0:PC 253 l (H3 l (Fl l d)) n:=fun o Hp S ho hi hS=>by
   subst hS
   exact AM7 l S (Fl l d) o Hp ho hi hl hll hn hd (hcl _ _ hn hd)
  have p1:PC 243 l (We l (Fl l d)) n:=fun o Hp S ho hi hS=>by
   subst hS
   exact AM4 l S (Fl l d) o Hp ho hi hl hll hn hd p0
  have p2:PC 236 l (mt l (Fl l d)) n:=fun o Hp S ho hi hS=>by
   subst hS
   exact AM3 l S (We l (Fl l d)) o Hp ho hi hl hll g1 p1
  have p3:PC 221 l (Es l (Fl l d)) n:=fun o Hp S ho hi hS=>by
   subst hS
   exact AM2 l S (mt l (Fl l d)) o Hp ho hi hl hll g2 p2
  have p4:PC 200 l (Gf l (Fl l d)) n:=fun o Hp S ho hi hS=>by
   subst hS
   exact AM6 l S (Fl l d) o Hp ho hi hl hll hn hd g3 p3
  have p5:PC 172 l (Wf l (Fl l d)) n:=fun o Hp S ho hi hS=>by
   subst hS
   exact AM5 l S (Fl l d) o Hp ho hi hl hll hn hd p4
  have p6:PC 142 l (mu l (Fl l d)) n:=fun o Hp S ho hi hS=>by
   subst hS
   exact AM1 l S (Wf l (Fl l d)) o Hp ho hi hl hll g5 p5
  have p7:PC 108 l (cd l (Fl l d)) n:=fun o Hp S ho hi hS=>by
   subst hS
   exact AM0 l S (mu l (Fl l d)) o Hp ho hi hl hll g6 p6
  exact ⟨p7,p5,p1⟩
theorem Yu:∀(n:Nat) (e:Expr),okE n e→depthE e≤n
 | 0,_,h=>h.elim
 | n+1,e,h=>by
  rw [O5]
  have:∀l:List Expr,(∀y∈l,okE n y)→E0 l≤n:=by
   intro l
   induction l with
   | nil=>intro _;exact Av _
   | cons y r ih =>
    intro hl
    rw [E0]
    have h1:=Yu n y (hl y (by simp))
    have h2:=ih (fun z hz=>hl z (by simp [hz]))
    omega
  have:=this e.kids h.2.2
  omega
theorem xt (e:Expr) (x:Nat):C6 (e.kids.take x)+1≤sizeE e:=by
 rw [H1]
 have:∀(l:List Expr) (x:Nat),C6 (l.take x)≤C6 l:=by
  intro l
  induction l with
  | nil=>intro x;simp
  | cons y r ih =>
   intro x
   cases x with
   | zero=>simp [C6]
   | succ x =>
    have:=ih x
    rw [List.take_succ_cons,C6,C6]
    omega
 have:=this e.kids x
 omega
theorem AM8:∀(n:Nat) (e:Expr),okE n e→n≤1048576→∀Hp:List AObj,AFun Tryz.prog 101 [Ae e] Hp (A5 (depthE e:Nat)):=by
 intro n
 induction n with
 | zero=>exact fun e h=>h.elim
 | succ n ih =>
 intro e hok hn Hp
 refine Ah [.tmp 2] [0] Tryz.func101 Tryz.ntmps101 (fun d=>?_)
 refine Z87 ?_;refine Z2 ?_;refine Tw ?_;refine Z23 ?_;refine A2 [1,3,4] ?_
 refine Bh (α:=Nat) (fun x=>⟨25,A9 1 (.ro (Ey e)) (A9 3 (A5 (E0 (e.kids.take x):Nat)) (A9 4 (A5 (x:Nat)) (fun _=>.any))),Hp,[],[],none⟩) (fun x=>x≤e.kids.length) (fun x=>e.kids.length-x) (0) (Av _) (Bc (by simp [E0])) rfl (fun x hx=>?_)
 refine Lu ?_;refine A2 [1,3,4,10] ?_
 refine A3 (fun ht10=>?_) (fun ht10=>?_)
 ·have hlt:x<e.kids.length:=by simpa using ht10
  have hkl:=hok.2.1
  refine q9 ?_
  refine A4 (h:=Ag (x) (Ae e.kids[x]) (fun _=>B7 hlt)) (hr:=?_)
  refine A4 ?_;refine A7 Tryz.call101 (ih e.kids[x] (hok.2.2 _ (Br hlt)) (by omega) _) ?_;refine A4 ?_;refine A2 [1,3,4,5] ?_;refine Z13 ?_;refine A2 [1,3,4,5,21] ?_
  refine A3 (fun ht21=>?_) (fun ht21=>?_)
  ·have em:E0 (e.kids.take (x+1))=depthE e.kids[x]:=by rw [T6 _ hlt];have:=of_decide_eq_true ht21;omega
   refine Z28 ?_;refine A2 [1,3,4] ?_;refine N3 ?_;exact AHn
  have em:E0 (e.kids.take (x+1))=E0 (e.kids.take x):=by rw [T6 _ hlt];have:=of_decide_eq_false ht21;omega
  refine Z96 ?_;exact AHn
 have hd1:=Yu _ e hok
 have hxe:e.kids.take x=e.kids:=De (by simp at ht10;omega)
 have hdd:=O5 e
 refine Z52 ?_;refine Z2 ?_
 rw [hxe]
 refine Z63 ?_;exact A8 (Ai A6) ⟨by rw [hdd];rfl,rfl⟩

theorem AM9:∀(n:Nat) (e:Expr),okE n e→sizeE e≤1048576→∀Hp:List AObj,AFun Tryz.prog 102 [Ae e] Hp (A5 (sizeE e:Nat)):=by
 intro n
 induction n with
 | zero=>exact fun e h=>h.elim
 | succ n ih =>
 intro e hok hn Hp
 refine Ah [.tmp 2] [0] Tryz.func102 Tryz.ntmps102 (fun d=>?_)
 refine Z87 ?_;refine Z2 ?_;refine Tw ?_;refine Z23 ?_;refine A2 [1,3,4] ?_
 refine Bh (α:=Nat) (fun x=>⟨21,A9 1 (.ro (Ey e)) (A9 3 (A5 ((C6 (e.kids.take x):Nat)+1)) (A9 4 (A5 (x:Nat)) (fun _=>.any))),Hp,[],[],none⟩) (fun x=>x≤e.kids.length) (fun x=>e.kids.length-x) (0) (Av _) (Bc (by simp [C6])) rfl (fun x hx=>?_)
 refine Lu ?_;refine A2 [1,3,4,9] ?_
 refine A3 (fun ht9=>?_) (fun ht9=>?_)
 ·have hlt:x<e.kids.length:=by simpa using ht9
  have hkl:=hok.2.1
  have hs1:=l5 e.kids hlt
  have hs2:=xt e (x+1)
  refine Z53 ?_;refine Z28 ?_;refine Z0 ?_
  refine A4 (h:=Ag (x) (Ae e.kids[x]) (fun _=>B7 hlt)) (hr:=?_)
  refine A4 ?_
  refine A7 Tryz.call102 (ih e.kids[x] (hok.2.2 _ (Br hlt)) (by have:=Vz e hlt;omega) _) ?_
  refine Z0 ?_;refine A2 [1,3,4] ?_;refine N3 ?_;refine A2 [1,3,4] ?_;exact B5 (x+1) hlt (by omega) (Bx (by simp only [hs1];congr 4;simp only [AV.v.injEq,Value.int.injEq,true_and];omega))
 have hxe:e.kids.take x=e.kids:=De (by simp at ht9;omega)
 have hdd:=H1 e
 refine Z52 ?_;refine Z1 ?_;refine Z4 ?_;exact A8 (Ai A6) ⟨by rw [hxe,hdd];simp;omega,rfl⟩

def S9 (s:Str):Int:=if (((s==[108,101,110]) || (s==[115,116,114])) || (s==[110,117,109])) || (s==[105,115,110,117,108,108]) then 1 else if ((s==[110,118,108]) || (s==[108,101,102,116])) || (s==[114,105,103,104,116]) then 2 else if s==[105,102] then 3 else -1
theorem r9 (s:Str):Bv s=S9 s:=by
 by_cases h:s∈arityList.map (·.1)
 ·have:((arityList.map (·.1)).all fun s=>decide (Bv s=S9 s))=true:=by kernel_rfl
  exact of_decide_eq_true (B1.1 this s h)
 have h1:Bv s = -1:=by
  unfold Bv
  rw [Km.2 fun p hp=>by
   simp only [beq_iff_eq]
   rintro rfl
   exact h (Du.2 ⟨p,hp,rfl⟩)]
 rw [h1]
 simp only [arityList,Dl,J6,By,Fv,or_false,not_or] at h
 obtain ⟨a1,a2,a3,a4,a5,a6,a7,a8⟩:=h
 simp [S9,a1,a2,a3,a4,a5,a6,a7,a8]
theorem AK5 (s:Str) (Hp:List AObj):AFun Tryz.prog 166 [Ac s] Hp (A5 (S9 s)):=by
 refine Ah [.tmp 2] [0] Tryz.func166 Tryz.ntmps166 (fun d=>?_)
 refine Z58 ?_;refine Z23 ?_;refine A2 [3] ?_;refine Et ?_;refine Z8 ?_;refine A2 [3,4] ?_
 refine A3 (fun ht4=>?_) (fun ht4=>?_)
 ·refine Z3 ?_
  refine A3 (fun ht4=>?_) (fun ht4=>?_)
  ·exact Z56
  refine Z8 ?_;refine A2 [3,9] ?_
  refine A3 (fun ht9=>?_) (fun ht9=>?_)
  ·refine Z3 ?_
   refine A3 (fun ht9=>?_) (fun ht9=>?_)
   ·exact Z56
   refine Tt ?_
   refine A3 (fun ht13=>?_) (fun ht13=>?_)
   ·exact Z56
   exact Tu
  refine Z1 ?_;refine A2 [3,9] ?_
  refine A3 (fun ht9=>?_) (fun ht9=>?_)
  ·refine Z3 ?_
   refine A3 (fun ht9=>?_) (fun ht9=>?_)
   ·exact Z56
   refine Tt ?_
   refine A3 (fun ht13=>?_) (fun ht13=>?_)
   ·exact Z56
   exact Tu
  refine Z28 ?_;refine AAu ?_
  refine A3 (fun ht9=>?_) (fun ht9=>?_)
  ·exact Z56
  refine Tt ?_
  refine A3 (fun ht13=>?_) (fun ht13=>?_)
  ·exact Z56
  exact Tu
 refine Z1 ?_;refine A2 [3,4] ?_
 refine A3 (fun ht4=>?_) (fun ht4=>?_)
 ·refine Z3 ?_
  refine A3 (fun ht4=>?_) (fun ht4=>?_)
  ·exact Z56
  refine Z8 ?_;refine A2 [3,9] ?_
  refine A3 (fun ht9=>?_) (fun ht9=>?_)
  ·refine Z3 ?_
   refine A3 (fun ht9=>?_) (fun ht9=>?_)
   ·exact Z56
   refine Tt ?_
   refine A3 (fun ht13=>?_) (fun ht13=>?_)
   ·exact Z56
   exact Tu
  refine Z1 ?_;refine A2 [3,9] ?_
  refine A3 (fun ht9=>?_) (fun ht9=>?_)
  ·refine Z3 ?_
   refine A3 (fun ht9=>?_) (fun ht9=>?_)
   ·exact Z56
   refine Tt ?_
   refine A3 (fun ht13=>?_) (fun ht13=>?_)
   ·exact Z56
   exact Tu
  refine Z28 ?_;refine AAu ?_
  refine A3 (fun ht9=>?_) (fun ht9=>?_)
  ·exact Z56
  refine Tt ?_
  refine A3 (fun ht13=>?_) (fun ht13=>?_)
  ·exact Z56
  exact Tu
 refine Z1 ?_;refine A2 [3,4] ?_
 refine A3 (fun ht4=>?_) (fun ht4=>?_)
 ·refine Z3 ?_
  refine A3 (fun ht4=>?_) (fun ht4=>?_)
  ·exact Z56
  refine Z8 ?_;refine A2 [3,9] ?_
  refine A3 (fun ht9=>?_) (fun ht9=>?_)
  ·refine Z3 ?_
   refine A3 (fun ht9=>?_) (fun ht9=>?_)
   ·exact Z56
   refine Tt ?_
   refine A3 (fun ht13=>?_) (fun ht13=>?_)
   ·exact Z56
   exact Tu
  refine Z1 ?_;refine A2 [3,9] ?_
  refine A3 (fun ht9=>?_) (fun ht9=>?_)
  ·refine Z3 ?_
   refine A3 (fun ht9=>?_) (fun ht9=>?_)
   ·exact Z56
   refine Tt ?_
   refine A3 (fun ht13=>?_) (fun ht13=>?_)
   ·exact Z56
   exact Tu
  refine Z28 ?_;refine AAu ?_
  refine A3 (fun ht9=>?_) (fun ht9=>?_)
  ·exact Z56
  refine Tt ?_
  refine A3 (fun ht13=>?_) (fun ht13=>?_)
  ·exact Z56
  exact Tu
 refine Z28 ?_;refine A2 [3,4] ?_;refine Ef ?_
 refine A3 (fun ht4=>?_) (fun ht4=>?_)
 ·exact Z56
 refine Z8 ?_;refine A2 [3,9] ?_
 refine A3 (fun ht9=>?_) (fun ht9=>?_)
 ·refine Z3 ?_
  refine A3 (fun ht9=>?_) (fun ht9=>?_)
  ·exact Z56
  refine Tt ?_
  refine A3 (fun ht13=>?_) (fun ht13=>?_)
  ·exact Z56
  exact Tu
 refine Z1 ?_;refine A2 [3,9] ?_
 refine A3 (fun ht9=>?_) (fun ht9=>?_)
 ·refine Z3 ?_
  refine A3 (fun ht9=>?_) (fun ht9=>?_)
  ·exact Z56
  refine Tt ?_
  refine A3 (fun ht13=>?_) (fun ht13=>?_)
  ·exact Z56
  exact Tu
 refine Z28 ?_;refine AAu ?_
 refine A3 (fun ht9=>?_) (fun ht9=>?_)
 ·exact Z56
 refine Tt ?_
 refine A3 (fun ht13=>?_) (fun ht13=>?_)
 ·exact Z56
 exact Tu

theorem xu {s:Str} {x:Nat} (hx:x<levels.length) (h:levels[x].contains s=true) (h0:∀(j:Nat) (l:List Str),j<x→levels[j]? = some l→l.contains s=false):Ba s=(x:Int):=by
 unfold Ba
 rw [R9.2 ⟨hx,h,fun j hj=>by
  have e:=h0 j levels[j] hj (Aa _)
  show ¬(levels[j].contains s=true)
  rw [e]
  simp⟩]
theorem xv {s:Str} (h0:∀(j:Nat) (l:List Str),j<levels.length→levels[j]? = some l→l.contains s=false):Ba s = -1:=by
 unfold Ba
 rw [Zv.2 fun l hl=>by
  obtain ⟨j,hj⟩:=Cg hl
  exact h0 j l (Ad.1 hj).1 hj]
theorem lf:levels.length=6:=rfl
theorem ce {x:Nat} (hx:x<levels.length):levels[x].length≤6:=by
 have:(levels.all fun l=>decide (l.length≤6))=true:=by kernel_rfl
 exact of_decide_eq_true (B1.1 this _ (Br hx))
theorem Y0 {l:List Str} {s:Str} (h:∀(j:Nat) (w:Str),j<l.length→l[j]? = some w→(w==s)=false):l.contains s=false:=by
 rw [I7]
 intro hc
 have hm:s∈l:=by simpa using hc
 obtain ⟨j,hj⟩:=Cg hm
 have:=h j s (Ad.1 hj).1 hj
 simp at this
theorem c84 (s:Str) (Hp:List AObj):AFun Tryz.prog 84 [Ac s] Hp (A5 (Ba s)):=by
 refine Ah [.tmp 2] [0] Tryz.func84 Tryz.ntmps84 (fun d=>?_)
 refine Z58 ?_;refine Z45 ?_;refine AF4 ?_;refine AF4 ?_;refine AF4 ?_;refine Iy ?_;refine Kr ?_;refine Z23 ?_;refine bm ?_
 refine Bh (α:=Nat) (fun x=>⟨38,A9 0 (Ac s) (A9 3 (.slice true 1 (levels.map J4)) (A9 4 (A5 (x:Nat)) (fun _=>.any))),Hp,[],[],none⟩) (fun x=>x≤levels.length∧∀(j:Nat) (l:List Str),j<x→levels[j]? = some l→l.contains s=false) (fun x=>levels.length-x) (0) ⟨Av _,fun j l h=>by omega⟩ (Fq _) rfl (fun x hx=>?_)
 refine Z48 ?_;refine A2 [0,3,4,16] ?_
 refine A3 (fun ht16=>?_) (fun ht16=>?_)
 ·have hlt:x<levels.length:=by simpa using ht16
  have h6:=lf
  have hls:=ce hlt
  refine Z53 ?_;refine Z2 ?_;refine A2 [0,3,4,5] ?_
  refine Bh (α:=Nat) (fun y=>⟨38,A9 0 (Ac s) (A9 3 (.slice true 1 (levels.map J4)) (A9 4 (A5 (x:Nat)) (A9 5 (A5 (y:Nat)) (fun _=>.any)))),Hp,[],[],none⟩) (fun y=>y≤levels[x].length∧∀(j:Nat) (w:Str),j<y→levels[x][j]? = some w→(w==s)=false) (fun y=>levels[x].length-y) (0) ⟨Av _,fun j l h=>by omega⟩ (Fq _) rfl (fun y hy=>?_)
  refine Z32 ?_
  refine A4 (h:=Ag (x) (J4 levels[x]) (fun _=>B7 hlt)) (hr:=?_)
  refine Z11 ?_;refine A2 [0,3,4,5,25] ?_
  refine A3 (fun ht25=>?_) (fun ht25=>?_)
  ·have hly:y<levels[x].length:=by simpa using ht25
   refine Xo ?_
   refine A4 (h:=Ag (x) (J4 levels[x]) (fun _=>B7 hlt)) (hr:=?_)
   refine Z0 ?_
   refine A4 (h:=Ag (y) (Ac (levels[x])[y]) (fun _=>B7 hly)) (hr:=?_)
   refine Z11 ?_;refine A2 [0,3,4,5,36] ?_
   refine A3 (fun ht36=>?_) (fun ht36=>?_)
   ·refine Z1 ?_;refine Z4 ?_;refine Z5 ?_;refine K.lpR ?_;refine Z47 ?_;exact A8 (Ai A6) ⟨by rw [xu hlt (by simp only [List.contains_iff_mem];have:=ht36;simp only [beq_iff_eq] at this;rw [←this];exact Br hly) hx.2],rfl⟩
   refine Z96 ?_;refine A2 [0,3,4,5] ?_;exact B5 (y+1) ⟨hly,Dn hly hy.2 ht36⟩ (by omega) (Bx rfl)
  have hny:levels[x].length≤y:=by simpa using ht25
  refine Z36 ?_;refine K.lpE ?_;refine N3 ?_;refine bm ?_;exact B5 (x+1) ⟨hlt,Dn hlt hx.2 (Y0 fun j w hj hw=>hy.2 j w (by omega) hw)⟩ (by omega) (Bx rfl)
 have hnx:levels.length≤x:=by simpa using ht16
 refine ec ?_;exact A8 (Ai A6) ⟨by rw [xv (fun j l hj h=>hx.2 j l (by omega) h)],rfl⟩

theorem AMa (e:Expr) (hs:e.text.length≤1048576) (Hp:List AObj):AFun Tryz.prog 134 [Ae e] Hp (At (Ge e)):=by
 refine Ah [.tmp 2] [0] Tryz.func134 Tryz.ntmps134 (fun d=>?_)
 refine Z87 ?_;refine Z20 ?_;refine Tw ?_;refine Z32 ?_;refine A2 [1,3,9] ?_
 refine A3 (fun ht9=>?_) (fun ht9=>?_)
 ·refine Z1 ?_;refine A7 Tryz.call50 (c50 e.val _) ?_;refine A4 ?_;refine Q8 ?_;refine Z0 ?_;refine Z29 ?_;refine Z46 ?_;refine Z63 ?_;refine Ex ?_;exact AAz
 refine bj ?_;refine Xq ?_
 refine A4 (h:=Q.neqAgg Rn (Gn e.val.kind e.val.n 0 0 e.val.s [])) (hr:=?_)
 refine A2 [1,3,31] ?_
 refine A3 (fun ht31=>?_) (fun ht31=>?_)
 ·refine dw ?_;exact AAz
 refine bj ?_;refine A2 [1,3,33] ?_;refine Z91 ?_;refine A2 [1,3,33,34] ?_
 refine A3 (fun ht34=>?_) (fun ht34=>?_)
 ·refine Z1 ?_;refine A7 Tryz.call68 (c68 e.text hs _) ?_;refine A4 ?_;refine Z6 ?_;exact vo
 refine Z8 ?_;refine A2 [1,3,33,43] ?_
 refine A3 (fun ht43=>?_) (fun ht43=>?_)
 ·refine Z3 ?_
  refine A3 (fun ht43=>?_) (fun ht43=>?_)
  ·refine Z20 ?_;refine Z6 ?_;exact vo
  refine Z1 ?_;refine A2 [1,3,33,53] ?_
  refine A3 (fun ht53=>?_) (fun ht53=>?_)
  ·refine Z1 ?_;refine A7 Tryz.call84 (c84 e.text _) ?_;refine Z46 ?_;exact vo
  refine Z1 ?_;refine A2 [1,3,63] ?_
  refine A3 (fun ht63=>?_) (fun ht63=>?_)
  ·refine Z1 ?_;refine A7 Tryz.call166 (AK5 e.text _) ?_;refine Z11 ?_;refine Z4 ?_;exact Z50
  refine Z18 ?_;exact AHt
 refine Z28 ?_;refine A2 [1,3,33,43] ?_;refine Ef ?_
 refine A3 (fun ht43=>?_) (fun ht43=>?_)
 ·refine Z20 ?_;refine Z6 ?_;exact vo
 refine Z1 ?_;refine A2 [1,3,33,53] ?_
 refine A3 (fun ht53=>?_) (fun ht53=>?_)
 ·refine Z1 ?_;refine A7 Tryz.call84 (c84 e.text _) ?_;refine Z46 ?_;exact vo
 refine Z1 ?_;refine A2 [1,3,63] ?_
 refine A3 (fun ht63=>?_) (fun ht63=>?_)
 ·refine Z1 ?_;refine A7 Tryz.call166 (AK5 e.text _) ?_;refine Z11 ?_;refine Z4 ?_;exact Z50
 refine Z18 ?_;exact AHt

theorem AMb:∀(n:Nat) (e:Expr),okE n e→∀Hp:List AObj,AFun Tryz.prog 103 [Ae e] Hp (At (Dk Ge e)):=by
 intro n
 induction n with
 | zero=>exact fun e h=>h.elim
 | succ n ih =>
 intro e hok Hp
 refine Ah [.tmp 2] [0] Tryz.func103 Tryz.ntmps103 (fun d=>?_)
 refine Z87 ?_;refine Z23 ?_;refine A7 Tryz.call134 (AMa e hok.1 _) ?_;refine A4 ?_;refine A2 [1,6] ?_
 refine A3 (fun ht6=>?_) (fun ht6=>?_)
 ·refine dw ?_;exact A8 (Ai A6) ⟨by rw [Ff];simp at ht6;rw [ht6];rfl,rfl⟩
 refine Kq ?_;refine Tw ?_
 refine Bh (α:=Nat) (fun x=>⟨21,A9 1 (.ro (Ey e)) (A9 3 (A5 (x:Nat)) (fun _=>.any)),Hp,[],[],none⟩) (fun x=>x≤e.kids.length∧Hw Ge (e.kids.take x)=true) (fun x=>e.kids.length-x) (0) ⟨Av _,rfl⟩ (Fq _) rfl (fun x hx=>?_)
 refine Lu ?_;refine A2 [1,3,11] ?_
 refine A3 (fun ht11=>?_) (fun ht11=>?_)
 ·have hlt:x<e.kids.length:=by simpa using ht11
  have hkl:=hok.2.1
  refine q9 ?_
  refine A4 (h:=Ag (x) (Ae e.kids[x]) (fun _=>B7 hlt)) (hr:=?_)
  refine A4 ?_;refine A7 Tryz.call103 (ih e.kids[x] (hok.2.2 _ (Br hlt)) _) ?_;refine A4 ?_;refine A2 [1,3,20] ?_
  refine A3 (fun ht20=>?_) (fun ht20=>?_)
  ·refine dy ?_;exact A8 (Ai A6) ⟨by rw [show Dk Ge e=false from by rw [I7];intro h;rw [Ff,Al] at h;have:=(D3 _ _).1 h.2 _ (Br hlt);rw [this] at ht20;cases ht20],rfl⟩
  refine Z96 ?_;refine Tw ?_;exact B5 (x+1) ⟨hlt,by rw [Fw hlt,T5,hx.2,Hw,Hw,P4,Cw];simpa using ht20⟩ (by omega) (Bx rfl)
 have hxe:e.kids.take x=e.kids:=De (by simp at ht11;omega)
 refine ec ?_;exact A8 (Ai A6) ⟨by have:=hx.2;rw [hxe] at this;rw [Ff,this];simp at ht6;rw [ht6];rfl,rfl⟩

theorem xw (e:Expr):Dk Ge e=Dk Cu e:=by rw [show Cu=Ge from funext Qh]
theorem c69 (n:Nat) (e:Expr) (hok:okE n e) (hn:n≤1048576) (hs:sizeE e≤1048576) (Hp:List AObj):AFun Tryz.prog 69 [Ae e] Hp (At (Cz e)):=by
 refine Ah [.tmp 2] [0] Tryz.func69 Tryz.ntmps69 (fun d=>?_)
 refine Z87 ?_;refine Z2 ?_;refine A7 Tryz.call101 (AM8 n e hok hn _) ?_;refine N4 ?_;refine Bw Tryz.call102 (fun hB=>AM9 n e hok hs _) ?_;refine B3 ?_;refine N4 ?_;refine Bw Tryz.call103 (fun hB=>AMb n e hok _) ?_;refine Z63 ?_;exact A8 (Ai A6) ⟨by rw [Cz,xw,show decide ((depthE e:Int)≤30)=decide (depthE e≤30) by rw [decide_eq_decide];omega,show decide ((sizeE e:Int)≤300)=decide (sizeE e≤300) by rw [decide_eq_decide];omega],rfl⟩

theorem n7 {n:Nat} {U F:Nat→List AObj} {H':List AObj} (h:L7 (fun _=>true) U F n H'):H'=U n:=by
 rcases h with ⟨_,h⟩|⟨j,_,_,h,_⟩
 ·exact h
 cases h
theorem rd {α:Type} {l:List α} {k:Nat} {y:α} (h:l[k]? = some y):l.take (k+1)=l.take k++[y]:=by rw [List.take_add_one,h];rfl
theorem xy {L:List (Int×Expr)} {k:Nat} {it:Int×Expr} (h:L[k]? = some it):Fc 0 (L.take (k+1))=if Fc 0 (L.take k)<it.1 then it.1 else Fc 0 (L.take k):=by
 have e:Fc 0 (L.take (k+1))=max (Fc 0 (L.take k)) it.1:=by
  unfold Fc
  rw [rd h,Zw]
  rfl
 rw [e]
 split<;>omega
theorem Yv {n k:Nat} {o:Bool} {l:List Str}:Low n (.slice o k (l.map Ac)):=by simp [or_imp,forall_and]
theorem AMc (n:Nat) (e:Expr) (hok:okE n e) (hn:n≤1048576) (hs:sizeE e≤1048576) (Hp:List AObj):AFun Tryz.prog 109 [Ae e] Hp (A5 (depthE e:Nat)):=by
 refine Ah [.tmp 2] [0,4] Tryz.func109 Tryz.ntmps109 (fun d=>?_)
 refine Z1 ?_;refine A2 [1,4] ?_;refine js ?_;refine A2 [1,3,4] ?_;refine Rk ?_
 refine bf (fun hlow=>?_)
 refine AF9 ?_;refine A2 [3,4,6] ?_;refine Et ?_
 refine Vc (m:=1) Tryz.call126 (fun FR as' bd' hFR has hbd=>?_)
 have hFRl:∀s,Low (Hp.length+3) (FR s):=by
  intro s
  rw [hFR]
  refine am ?_
  revert s
  repeat (first|exact C5|refine C4 (by simp [oid,B2]<;>try omega) ?_)
 have hOl:∀{k:Nat},∀x∈[AObj.cells 3 [A5 (Fc 0 ((Bs 1 e).take k))],AObj.defs,AObj.loop LoopState.ready none FR 13 #[7,8] as' bd' (oid Hp.length 1)],ObjLow (Hp.length+3) x:=by
  intro k x hx
  simp only [By,J7,or_false] at hx
  rcases hx with rfl|rfl|rfl
  ·intro y hy
   rw [Ck.1 hy]
   first|exact Yv|simp
  ·trivial
  exact AAy
 refine ⟨fun _ H'=>L7 (fun _=>true) (fun k=>Hp++[AObj.cells 3 [A5 (Fc 0 ((Bs 1 e).take k))],AObj.defs,AObj.loop LoopState.ready none FR 13 #[7,8] as' bd' (oid Hp.length 1)]) (fun k=>Hp++[AObj.cells 3 [A5 (Fc 0 ((Bs 1 e).take k))],AObj.defs,AObj.loop LoopState.ready none FR 13 #[7,8] as' bd' (oid Hp.length 1)]) (Bs 1 e).length H',AFs (l:=oid Hp.length 2) (go:=fun _=>true) (U:=fun k=>Hp++[AObj.cells 3 [A5 (Fc 0 ((Bs 1 e).take k))],AObj.defs,AObj.loop LoopState.ready none FR 13 #[7,8] as' bd' (oid Hp.length 1)]) (F:=fun k=>Hp++[AObj.cells 3 [A5 (Fc 0 ((Bs 1 e).take k))],AObj.defs,AObj.loop LoopState.ready none FR 13 #[7,8] as' bd' (oid Hp.length 1)]) (n0:=Hp.length+3) ⟨fun k=>by simp,fun k=>by simp,fun k x hx=>?_,fun k x hx=>?_,by simp [oid],fun X k it hit hgo=>?_⟩ n hok hn,?_⟩
 ·exact w9
 ·exact w9
 ·have hklt:k<sizeE e:=by rw [←Gd 1 e];exact (Ad.1 hit).1
  generalize hV:(Hp++[AObj.cells 3 [A5 (Fc 0 ((Bs 1 e).take k))],AObj.defs,AObj.loop LoopState.ready none FR 13 #[7,8] as' bd' (oid Hp.length 1)]++X)=V
  have hL:V[oid Hp.length 2]? = some (AObj.loop LoopState.ready none FR 13 #[7,8] as' bd' (oid Hp.length 1)):=by rw [←hV,C2,Bi];rfl
  have hA0:V[oid Hp.length 0]? = some (AObj.cells 3 [A5 (Fc 0 ((Bs 1 e).take k))]):=by rw [←hV,C2,Bi];rfl
  refine Rh (pd:=none) (fr:=FR) (sz:=13) (ps:=#[7,8]) (df:=oid Hp.length 1) (asg:=as') (bd:=bd') hL rfl (by decide) (fun d=>?_)
  subst hFR has hbd
  refine Dg [3,7,8] ?_;refine Z43 ?_;refine A2 [3,4] ?_
  refine ⟨rfl,none,hL,?_⟩
  generalize hbz:(AObj.loop LoopState.busy _ _ _ _ _ _ _)=bz
  have hA:(V.set (oid Hp.length 2) bz)[oid Hp.length 0]? = some (AObj.cells 3 [A5 (Fc 0 ((Bs 1 e).take k))]):=by rw [Cr (Dh (by decide))];exact hA0
  refine Et ?_;refine Hs ?_
  refine A4 (h:=Cn hA) (hr:=?_)
  refine A4 ?_;refine R.maxI ?_
  refine Ew jS hA ?_ ?_
  ·simp
  refine A2 [] ?_;refine Hc ?_
  subst hbz
  refine K.rdN (dr hL (Dh (by decide))) ?_
  refine ⟨rfl,?_⟩
  rw [if_pos rfl]
  subst hV
  simp only [C2,F3,Dz,Dr,List.set_cons_succ,List.set_cons_zero]
  rw [xy hit]
 intro r H' hq
 obtain rfl:=n7 hq
 refine ⟨Hp,_,_,_,rfl,rfl,fun h=>h,?_,rfl,by simp,?_⟩
 ·intro o ho
  have:o=oid Hp.length 1:=by simpa using ho
  subst this
  rw [Bi]
  rfl
 refine Z12 ?_;refine Z1 ?_;refine Z4 ?_;exact A8 (Ai A6) ⟨by rw [U6,T7],rfl⟩

theorem AMd (n:Nat) (e:Expr) (hok:okE n e) (hn:n≤1048576) (hs:sizeE e≤1048576) (Hp:List AObj):AFun Tryz.prog 111 [Ae e] Hp (A5 (sizeE e:Nat)):=by
 refine Ah [.tmp 2] [0] Tryz.func111 Tryz.ntmps111 (fun d=>?_)
 refine Z87 ?_;refine js ?_;refine Tw ?_;refine Rk ?_
 refine bf (fun hlow=>?_)
 refine AF9 ?_;refine A2 [3,5] ?_;refine Et ?_
 refine Vc (m:=1) Tryz.call126 (fun FR as' bd' hFR has hbd=>?_)
 have hFRl:∀s,Low (Hp.length+3) (FR s):=by
  intro s
  rw [hFR]
  refine am ?_
  revert s
  repeat (first|exact C5|refine C4 (by simp [oid,B2]<;>try omega) ?_)
 have hOl:∀{k:Nat},∀x∈[AObj.cells 3 [A5 ((k:Nat))],AObj.defs,AObj.loop LoopState.ready none FR 11 #[6,7] as' bd' (oid Hp.length 1)],ObjLow (Hp.length+3) x:=by
  intro k x hx
  simp only [By,J7,or_false] at hx
  rcases hx with rfl|rfl|rfl
  ·intro y hy
   rw [Ck.1 hy]
   first|exact Yv|simp
  ·trivial
  exact AAy
 refine ⟨fun _ H'=>L7 (fun _=>true) (fun k=>Hp++[AObj.cells 3 [A5 ((k:Nat))],AObj.defs,AObj.loop LoopState.ready none FR 11 #[6,7] as' bd' (oid Hp.length 1)]) (fun k=>Hp++[AObj.cells 3 [A5 ((k:Nat))],AObj.defs,AObj.loop LoopState.ready none FR 11 #[6,7] as' bd' (oid Hp.length 1)]) (Bs 1 e).length H',AFs (l:=oid Hp.length 2) (go:=fun _=>true) (U:=fun k=>Hp++[AObj.cells 3 [A5 ((k:Nat))],AObj.defs,AObj.loop LoopState.ready none FR 11 #[6,7] as' bd' (oid Hp.length 1)]) (F:=fun k=>Hp++[AObj.cells 3 [A5 ((k:Nat))],AObj.defs,AObj.loop LoopState.ready none FR 11 #[6,7] as' bd' (oid Hp.length 1)]) (n0:=Hp.length+3) ⟨fun k=>by simp,fun k=>by simp,fun k x hx=>?_,fun k x hx=>?_,by simp [oid],fun X k it hit hgo=>?_⟩ n hok hn,?_⟩
 ·exact w9
 ·exact w9
 ·have hklt:k<sizeE e:=by rw [←Gd 1 e];exact (Ad.1 hit).1
  generalize hV:(Hp++[AObj.cells 3 [A5 ((k:Nat))],AObj.defs,AObj.loop LoopState.ready none FR 11 #[6,7] as' bd' (oid Hp.length 1)]++X)=V
  have hL:V[oid Hp.length 2]? = some (AObj.loop LoopState.ready none FR 11 #[6,7] as' bd' (oid Hp.length 1)):=by rw [←hV,C2,Bi];rfl
  have hA0:V[oid Hp.length 0]? = some (AObj.cells 3 [A5 ((k:Nat))]):=by rw [←hV,C2,Bi];rfl
  refine Rh (pd:=none) (fr:=FR) (sz:=11) (ps:=#[6,7]) (df:=oid Hp.length 1) (asg:=as') (bd:=bd') hL rfl (by decide) (fun d=>?_)
  subst hFR has hbd
  refine Dg [3,6,7] ?_;refine G5 ?_
  refine ⟨rfl,none,hL,?_⟩
  generalize hbz:(AObj.loop LoopState.busy _ _ _ _ _ _ _)=bz
  have hA:(V.set (oid Hp.length 2) bz)[oid Hp.length 0]? = some (AObj.cells 3 [A5 ((k:Nat))]):=by rw [Cr (Dh (by decide))];exact hA0
  refine Et ?_;refine Hs ?_
  refine A4 (h:=Cn hA) (hr:=?_)
  refine A4 ?_
  refine Ew jS hA ?_ ?_
  ·simp
  refine A2 [] ?_;refine Hc ?_
  subst hbz
  refine K.rdN (dr hL (Dh (by decide))) ?_
  refine ⟨rfl,?_⟩
  rw [if_pos rfl]
  subst hV
  simp only [C2,F3,Dz,Dr,List.set_cons_succ,List.set_cons_zero]
  rfl
 intro r H' hq
 obtain rfl:=n7 hq
 refine ⟨Hp,_,_,_,rfl,rfl,fun h=>h,?_,rfl,by simp,?_⟩
 ·intro o ho
  have:o=oid Hp.length 1:=by simpa using ho
  subst this
  rw [Bi]
  rfl
 refine Z12 ?_;refine Z1 ?_;refine Z4 ?_;exact A8 (Ai A6) ⟨by rw [Gd],rfl⟩

theorem gh {l:List Tok} (hl:TokEnd l) (hll:l.length≤1048576) {i:Nat} (hi:i<l.length):Fact l ⟨i,0,0,0⟩ (atR l i):=(S7 hl hll 31 0 rfl (by decide)).1 ⟨i,0,0,0⟩ hi rfl
theorem AFz {l:List Tok} {i:Nat} (hi:i<l.length) (hl:TokEnd l) (hll:l.length≤1048576) (hcl:∀n Dv,n≤30→DeepC l Dv n→ge l Dv n) (o:Nat) (Hp:List AObj) (ho:Hp[o]? = some (pr l ⟨i,0,0,0⟩)):ACall Tryz.prog 108 [.ptr o 0] Hp (fun r H'=>r=Ae (atR l i).1∧H'=Hp.set o (pr l (atR l i).2)):=(gg hl hll hcl 31 0 rfl (by decide)).1 o Hp ⟨i,0,0,0⟩ ho hi rfl
theorem gi {l:List Tok} (hl:TokEnd l):(Ak l (l.length-1)).kind=0:=by
 obtain ⟨L,z,rfl,hz,_⟩:=hl.split
 unfold Ak
 simp [hz]
theorem c74 (l:List Tok) (i:Nat) (hi:i<l.length) (hl:TokEnd l) (hll:l.length≤500000) (hcl:∀n Dv,n≤30→DeepC l Dv n→ge l Dv n) (Hp:List AObj):AFun Tryz.prog 74 [x5 l,A5 (i:Int)] Hp (.tup [Ae (atM l i).1,A5 (atM l i).2.1,.agg [A5 (atM l i).2.2.1,A5 (atM l i).2.2.2]]):=by
 have hmap:(l.map Ic).length=l.length:=B6 ..
 have hll1:l.length≤1048576:=by omega
 have hq:=gh hl hll1 hi
 have hlast:=gi hl
 have hpos:=hl.pos
 have hqlt:=hq.lt
 have hqs:=hq.sz
 have hok0:okE 1048576 (atR l i).1:=Hz (by have:=hq.lt;omega) hq.ok
 have hsz0:sizeE (atR l i).1≤1048576:=by have:=hq.sz;have:=hq.lt;omega
 refine Ah [.cell 4 27,.tmp 5,.cell 6 50] [0,1] Tryz.func74 Tryz.ntmps74 (fun d=>?_)
 refine ef ?_;refine Ks ?_;refine A2 [0,1,4,6] ?_;refine Z32 ?_;refine Q8 ?_;refine Xl ?_
 refine B3 (h:=Ag ((l.length-1)) (Ic (Ak l (l.length-1))) (fun _=>M0 (by omega))) (hr:=?_)
 refine Z90 ?_;refine A2 [0,1,4,6,26] ?_
 refine A3 (fun ht26=>?_) (fun ht26=>?_)
 ·simp only [C7,decide_eq_true_eq,bne_iff_ne,ne_eq] at ht26
  rcases ht26 with (h|h)|h
  ·omega
  ·simp at h;omega
  exact absurd hlast h
 refine Z88 ?_;refine Lq (places:=#[(0,1),(1,1),(2,1),(3,2)]) jU (fun w=>by simp) jZ ?_;refine R.box ?_;refine A4 ?_;refine A2 [0,1,4,6,7] ?_;refine Z2 ?_
 refine Mx (n:=2) (x:=pr l (atR l i).2) Tryz.call108 (AFz hi hl hll1 hcl (oid Hp.length 2) _ (by rw [Bi];rfl)) ?_
 refine Z16 ?_;refine A2 [0,1,4,6,7,8] ?_
 refine Ht ⟨81,A9 4 (.ptr (oid Hp.length 0) 0) (A9 6 (.ptr (oid Hp.length 1) 0) (A9 7 (.ptr (oid Hp.length 2) 0) (A9 8 (.ptr (oid Hp.length 3) 0) (fun _=>.any)))),Hp,[.cells 27 [A5 0,Ac [],A5 0,A5 0,Ac [],.nil],.cells 50 [A5 0,A5 0],pr l (atS l i (atR l i)),.cells 27 (Ey (atR l i).1)],[],none⟩ ?_ ?_
 ·refine Et ?_;refine Z20 ?_;refine Z11 ?_;refine A2 [0,1,4,6,7,8,35] ?_
  refine A3 (fun ht35=>?_) (fun ht35=>?_)
  ·have e:atS l i (atR l i)=(atR l i).2:=if_pos ht35
   refine Dg [4,6,7,8] ?_;refine G5 ?_;exact AAj
  have e0:¬((atR l i).2.code != 0)=true:=by rw [ht35];simp
  refine Z2 ?_;refine A7 Tryz.call109 (AMc 1048576 _ hok0 (Ap _) hsz0 _) ?_;refine Z0 ?_;refine A2 [0,1,4,6,7,8,42] ?_
  refine A3 (fun ht42=>?_) (fun ht42=>?_)
  ·have e:atS l i (atR l i)=E9 18 (Ak l i).at_ (atR l i).2:=by unfold atS;rw [if_neg e0,if_pos ht42]
   refine Z22 ?_
   refine A4 (h:=Ag (i) (Ic (Ak l i)) (fun _=>M0 hi)) (hr:=?_)
   refine Z0 ?_
   refine Mx (n:=2) (x:=pr l (E9 18 (Ak l i).at_ (atR l i).2)) Tryz.call110 (r7 l (atR l i).2 18 (Ak l i).at_ (oid Hp.length 2) _ (by rw [Bi];rfl)) ?_
   refine A2 [4,6,7,8] ?_;exact AAj
  have e1:¬decide ((30:Int)<depthE (atR l i).1)=true:=by rw [ht42];simp
  refine Z2 ?_;refine A7 Tryz.call111 (AMd 1048576 _ hok0 (Ap _) hsz0 _) ?_;refine Z0 ?_;refine A2 [0,1,4,6,7,8,53] ?_
  refine A3 (fun ht53=>?_) (fun ht53=>?_)
  ·have e:atS l i (atR l i)=E9 3 (Ak l i).at_ (atR l i).2:=by unfold atS;rw [if_neg e0,if_neg e1,if_pos ht53]
   refine Z22 ?_
   refine A4 (h:=Ag (i) (Ic (Ak l i)) (fun _=>M0 hi)) (hr:=?_)
   refine Z0 ?_
   refine Mx (n:=2) (x:=pr l (E9 3 (Ak l i).at_ (atR l i).2)) Tryz.call110 (r7 l (atR l i).2 3 (Ak l i).at_ (oid Hp.length 2) _ (by rw [Bi];rfl)) ?_
   refine A2 [4,6,7,8] ?_;exact AAj
  have e:atS l i (atR l i)=(atR l i).2:=by unfold atS;rw [if_neg e0,if_neg e1,if_neg (by rw [ht53];simp)]
  refine Dg [4,6,7,8] ?_;refine G5 ?_;exact AAj
 refine Z48 ?_;refine Z0 ?_;refine A2 [4,6,7,8,69] ?_
 refine A3 (fun ht69=>?_) (fun ht69=>?_)
 ·have e:atM l i=(Am,0,(atS l i (atR l i)).code,(atS l i (atR l i)).at_):=if_pos ht69
  refine Fs [0,0,2,6,14,1,33,127] [5] [.q 5 [] [],.s [] (some 0) [] [],.q 1 [0] []] (fun _=>Hp) (fun _=>[.cells 27 [A5 0,Ac [],A5 0,A5 0,Ac [],.nil],.cells 50 [A5 0,A5 0],pr l (atS l i (atR l i)),.cells 27 (Ey (atR l i).1)]) Aj (by kernel_rfl) rfl rfl (fun _=>rfl) ?_
  apply Y.q
  ·intro B hT hF
   refine D.build (places:=#[(0,1),(1,1),(2,3),(5,1)]) jU (fun w=>by simp) jZ ?_;exact pi
  case hTF=>decide
  refine ba (u:=Hp.length) (n:=0) (t':=27) (cs:=[A5 0,Ac [],A5 0,A5 0,Ac [],.nil]) (cs':=[A5 0,Ac [],A5 0,A5 0,Ac [],.nil]) Tryz.sizeOf27 (fun B hB=>⟨rfl,rfl,rfl,rfl⟩) ?_
  apply Y.q
  ·intro B hT hF
   exact Z79
  case hTF=>decide
  refine F7 (tn:=[5])  ?_;refine Pa 0 5 6 ?_;refine F1 ?_;refine A2 [4,5,6] ?_;refine Z9 ?_;exact A8 (V.three (Az jA jS) A6 (Az jA jS)) ⟨by rw [e,xr]<;>rfl,rfl⟩
 have e:atM l i=((atR l i).1,((atS l i (atR l i)).i:Int),0,0):=if_neg (by rw [ht69];simp)
 refine Z3 ?_;refine Fs [0,0,2,6,14,0,1,95,255] [6] [.q 6 [] [],.s [] (some 0) [] [],.q 1 [0] []] (fun _=>Hp) (fun B=>[.cells 27 (if B 0=true then Ey (atR l i).1 else [A5 0,Ac [],A5 0,A5 0,Ac [],.nil]),.cells 50 [A5 0,A5 0],pr l (atS l i (atR l i)),.cells 27 (Ey (atR l i).1)]) Aj (by kernel_rfl) rfl rfl (fun _=>rfl) ?_
 apply Y.q
 ·intro B hT hF
  refine ee ?_;exact AHq
 case hTF=>decide
 refine ba (u:=Hp.length) (n:=0) (t':=27) (cs:=[A5 0,Ac [],A5 0,A5 0,Ac [],.nil]) (cs':=Ey (atR l i).1) Tryz.sizeOf27 (fun B hB=>⟨rfl,by simp only [hB];rfl,by simp [upd],rfl⟩) ?_
 apply Y.q
 ·intro B hT hF
  exact Z79
 case hTF=>decide
 refine F7 (tn:=[6]) (O:=[.cells 27 (Ey (atR l i).1),.cells 50 [A5 0,A5 0],pr l (atS l i (atR l i)),.cells 27 (Ey (atR l i).1)]) ?_;refine F1 ?_;refine A2 [4,5,6] ?_;refine Eu ?_;exact A8 (V.three (Az jA jS) A6 (Az jA jS)) ⟨by rw [e,Ax]<;>rfl,rfl⟩ (hlow:=by have:=low_agg (n:=Hp.length) (atR l i).1;simp at this ⊢;exact this)

theorem ABv {s:Str} (h:(Bp s).2.1=0):(Bp s).1.length≤4002:=by
 obtain ⟨h1,_,h3⟩:=ABj h
 have h2:=Vx s
 rw [h3]
 simp only [Aq,B6,Aw,Bb]
 omega
theorem n8 {l:List Tok} (hl:TokEnd l) (hll:l.length≤1048576) {i:Nat} (hi:i<l.length) (h:(atM l i).2.2.1=0):∃k:Nat,(atM l i).2.1=(k:Int)∧k<l.length:=by
 have hq:=gh hl hll hi
 unfold atM at h ⊢
 split at h
 ·rename_i h1
  have:(atS l i (atR l i)).code=0:=h
  rw [this] at h1
  cases h1
 rename_i h1
 rw [if_neg h1]
 refine ⟨(atS l i (atR l i)).i,rfl,?_⟩
 have e:(atS l i (atR l i)).i=(atR l i).2.i:=by
  unfold atS
  repeat' split
  all_goals first|rfl|exact failM_i.1
 rw [e]
 exact hq.lt
theorem P0 {α:Type} {a b:List α} (hl:a.length=b.length) (h:∀(j:Nat) (y:α),j<a.length→a[j]? = some y→b[j]? = some y):a=b:=by
 apply j8 hl
 intro j h1 h2
 have:=h j a[j] h1 (Aa h1)
 rw [Aa h2] at this
 injection this with this
 exact this.symm
theorem Eq {n k:Nat} {o:Bool} {l:List Expr}:Low n (.slice o k (l.map Ae)):=low_slice.2 fun y hy=>by
 obtain ⟨a,_,rfl⟩:=Du.1 hy
 exact B2 _ a
theorem re {l:List Expr} {n f:Nat} (h0:l.isEmpty=false) (h:Ow l n=true):H2 f l n=true:=by
 cases f with
 | zero=>rw [H2,h0];rfl
 | succ f=>rw [H2,if_neg (by rw [h0];simp),if_pos h]
theorem ABw {l:List Expr} {n y:Nat} (hy:y<l.length) (h:500<n+y+1∨S4 l[y]=true):Ow l n=true:=by
 unfold Ow
 rcases h with h|h
 ·rw [decide_eq_true (by omega)];rfl
 rw [Gw.2 ⟨_,Br hy,h⟩,Bool.or_true]
theorem Wk {l:List Expr}:∀(y:Nat),y≤l.length→(∀(j:Nat) (e:Expr),j<y→l[j]? = some e→S4 e=false)→((l.take y).flatMap Expr.kids).length≤100*y
 | 0,_,_=>by simp
 | y+1,hy,h=>by
  rw [Fw hy,List.flatMap_append,Aq]
  have h1:=Wk y (by omega) (fun j e hj he=>h j e (by omega) he)
  have h2:=cc (h y l[y] (by omega) (Aa _))
  simp only [Uw,List.flatMap_nil,Fz]
  omega
structure WideAt (l0:List Expr) (x:List Expr×Nat×Nat):Prop where
 eq:H2 61 l0 0=H2 x.2.2 x.1 x.2.1
 f:x.2.2≤61
 n:x.2.1≤500
theorem c46 (l0:List Expr) (Hp:List AObj):AFun Tryz.prog 46 [.slice false 6 (l0.map Ae),A5 0] Hp (At (H2 61 l0 0)):=by
 refine Ah [.tmp 4] [0,1] Tryz.func46 Tryz.ntmps46 (fun d=>?_)
 refine Z64 ?_;refine Z2 ?_;refine Vg ?_;refine Kp ?_
 refine Bh (α:=List Expr×Nat×Nat) (fun x=>⟨67,A9 0 (.slice false 6 (x.1.map Ae)) (A9 1 (A5 (61-(x.2.2:Int))) (A9 5 (A5 (x.2.1:Nat)) (fun _=>.any))),Hp,[],[],none⟩) (fun x=>WideAt l0 x) (fun x=>x.2.2) ((l0,0,61)) ⟨rfl,Ap _,Av _⟩ (Bc (by simp)) rfl (fun x hx=>?_)
 refine Z32 ?_;refine A2 [0,1,5,10] ?_
 refine A3 (fun ht10=>?_) (fun ht10=>?_)
 ·have hpos:0<x.1.length:=by simpa using ht10
  have hne:x.1.isEmpty=false:=by cases hxx:x.1 with
   | nil=>rw [hxx] at hpos;simp at hpos
   | cons a r=>rfl
  have hxf:=hx.f
  refine w7 ?_;refine Z45 ?_;refine Iy ?_;refine A2 [0,1,5,6] ?_;refine Z23 ?_;refine A2 [0,1,5,6,7] ?_
  refine Bh (α:=Nat) (fun y=>⟨67,A9 0 (.slice false 6 (x.1.map Ae)) (A9 1 (A5 (61-(x.2.2:Int))) (A9 5 (A5 ((x.2.1+y:Nat):Int)) (A9 6 (.slice true 6 (((x.1.take y).flatMap Expr.kids).map Ae)) (A9 7 (A5 (y:Nat)) (fun _=>.any))))),Hp,[],[],none⟩) (fun y=>y≤x.1.length∧x.2.1+y≤500∧∀(j:Nat) (e:Expr),j<y→x.1[j]? = some e→S4 e=false) (fun y=>x.1.length-y) (0) ⟨Av _,hx.n,fun j e h=>by omega⟩ (Bc (by simp)) rfl (fun y hy=>?_)
  refine Z48 ?_;refine A2 [0,1,5,6,7,15] ?_
  refine A3 (fun ht15=>?_) (fun ht15=>?_)
  ·have hlt:y<x.1.length:=by simpa using ht15
   have hyn:=hy.2.1
   refine q9 ?_;refine A2 [0,1,5,6,7] ?_;refine Z32 ?_;refine Z6 ?_
   refine B3 (h:=Ag (y) (Ae x.1[y]) (fun _=>B7 hlt)) (hr:=?_)
   refine Q8 ?_;refine Z46 ?_
   refine B3 (h:=Ag (y) (Ae x.1[y]) (fun _=>B7 hlt)) (hr:=?_)
   refine Z6 ?_;refine Z29 ?_;refine Z46 ?_
   refine B3 (h:=Ag (y) (Ae x.1[y]) (fun _=>B7 hlt)) (hr:=?_)
   refine Q8 ?_;refine A4 ?_;refine A2 [0,1,5,6,7,49] ?_
   refine A3 (fun ht49=>?_) (fun ht49=>?_)
   ·have hm:Ow x.1 x.2.1=true:=ABw hlt (by
     simp only [C7,decide_eq_true_eq,B6] at ht49
     unfold S4
     simp only [C7,decide_eq_true_eq]
     omega)
    have hw:=re (f:=x.2.2) hne hm
    refine Z81 ?_;refine Z9 ?_;refine Z47 ?_;refine Ko ?_;exact AI9
   have hfat:S4 x.1[y]=false∧x.2.1+y+1≤500:=by
    simp only [Cv,decide_eq_false_iff_not,B6] at ht49
    unfold S4
    simp only [Cv,decide_eq_false_iff_not]
    omega
   have hkl:=(cc hfat.1).2.2
   have hfm:(x.1.take (y+1)).flatMap Expr.kids=(x.1.take y).flatMap Expr.kids++x.1[y].kids:=by rw [Fw hlt,List.flatMap_append];simp
   refine Z3 ?_;refine Hs ?_;refine R.moveT ?_;refine Z0 ?_
   refine A4 (h:=Ag (y) (Ae x.1[y]) (fun _=>B7 hlt)) (hr:=?_)
   refine Z0 ?_
   refine Ix jU Tryz.type27 ?_ ?_ ?_
   ·have h1:=Wk y hy.1 hy.2.2;have h2:=hkl;have h3:=hy.2.1;simp only [B6,Tryz.t27];omega
   ·have h1:=Wk y hy.1 hy.2.2;have h2:=hkl;have h3:=hy.2.1;simp only [B6,Tryz.t27];omega
   refine Iy ?_;refine A2 [0,1,5,6,7] ?_;refine N3 ?_;refine A2 [0,1,5,6,7] ?_
   refine B5 (y+1) ⟨hlt,by omega,Dn hlt hy.2.2 hfat.1⟩ (by omega) (Bx ?_)
   rw [hfm,Cs]
   rfl
  have hye:x.1.take y=x.1:=De (by simp at ht15;omega)
  have hyl:y=x.1.length:=by have:=hy.1;simp at ht15;omega
  have hmany:Ow x.1 x.2.1=false:=by
   unfold Ow
   rw [decide_eq_false (by have:=hy.2.1;omega),Dd,Li]
   intro e he
   obtain ⟨j,hj⟩:=Cg he
   rw [hy.2.2 j e (by have:=(Ad.1 hj).1;omega) hj]
   simp
  refine Z52 ?_;refine Z8 ?_;refine Z46 ?_;refine A4 ?_;refine A2 [1,5,6,63] ?_
  refine A3 (fun ht63=>?_) (fun ht63=>?_)
  ·have hw:H2 x.2.2 x.1 x.2.1=true:=by
    have h9:=ht63
    rw [hye] at h9
    simp only [C7,decide_eq_true_eq,B6] at h9
    cases hf:x.2.2 with
    | zero=>rw [H2,hne];rfl
    | succ f =>
     rw [H2,if_neg (by rw [hne];simp),if_neg (by rw [hmany];simp),if_pos (by rw [decide_eq_true_eq];omega)]
   refine Z81 ?_;refine Z9 ?_;refine Ko ?_;exact AI9
  have h9:=ht63
  rw [hye] at h9
  simp only [Cv,decide_eq_false_iff_not,B6] at h9
  obtain ⟨f,hf⟩:∃f,x.2.2=f+1:=⟨x.2.2-1,by omega⟩
  have hw:H2 x.2.2 x.1 x.2.1=H2 f (x.1.flatMap Expr.kids) (x.2.1+x.1.length):=by
   rw [hf,H2,if_neg (by rw [hne];simp),if_neg (by rw [hmany];simp),if_neg (by rw [decide_eq_true_eq];omega)]
  refine Z88 ?_;refine Vg ?_;refine Z22 ?_;refine Vg ?_;refine Hc ?_
  refine B5 (x.1.flatMap Expr.kids,x.2.1+x.1.length,f) ⟨hx.eq.trans hw,by show f≤61;omega,by show x.2.1+x.1.length≤500;have:=hy.2.1;omega⟩ (by show f<x.2.2;omega) (Bx ?_)
  rw [hye,hyl]
  congr 4
  simp only [AV.v.injEq,Value.int.injEq,true_and]
  omega
 have hnil:x.1=[]:=by have:=ht10;simp at this;exact this
 refine Z52 ?_;refine bg ?_;exact A8 (Ai A6) ⟨by rw [hx.eq,hnil];cases x.2.2<;>rfl,rfl⟩

theorem c17 (e:Expr) (Hp:List AObj):AFun Tryz.prog 17 [Ae e] Hp (At (Yp e)):=by
 refine Ah [.tmp 2] [0] Tryz.func17 Tryz.ntmps17 (fun d=>?_)
 refine Z87 ?_;refine Z2 ?_;refine bn ?_;refine A7 Tryz.call46 (c46 [e] _) ?_;refine A4 ?_;exact AF5

set_option maxRecDepth 8000
/-! What a tree comes to: eval's model. -/
abbrev Rs:=Val×Int
def Ch (e:Int):Rs:=(noV,e)
def Pi (s:Str):Val:=⟨2,0,s.take 200⟩
def Eo (x:Int×Int):Rs:=if x.2 != 0 then Ch x.2 else (⟨1,x.1,[]⟩,0)
def Wl (a b:Int):Int×Int:=if decide (Sp .i64 (Ma .i64 a (IntKind.i64.wrap (a+b))) (Ma .i64 b (IntKind.i64.wrap (a+b)))<0) then (0,4) else (IntKind.i64.wrap (a+b),0)
def Ji (a b:Int):Int×Int:=if decide (Sp .i64 (Ma .i64 a b) (Ma .i64 a (IntKind.i64.wrap (a-b)))<0) then (0,4) else (IntKind.i64.wrap (a-b),0)
def J5 (a:Int):Int:=if decide (a<0) then IntKind.u64.wrap (0-IntKind.u64.wrap a) else IntKind.u64.wrap a
def Bl:List Val→List Int→Bool
 | _,[]=>true
 | [],_::_=>false
 | v::vs,k::ks=>(v.kind==k)&&Bl vs ks
def Hj (a b:Val):Rs:=if !Bl [a,b] [2,2] then Ch 10 else if decide ((200:Int)<(a.s.length:Int)+(b.s.length:Int)) then Ch 3 else (Pi (a.s++b.s),0)
def B0 (r:Rs):Rs:=if (r.2==0)&&(r.1.kind != 0)&&(r.1.kind != 3) then Ch 10 else r
def F9 (strong:Val) (a b:Rs):Rs:=if ((B0 a).2 != 0) || ((B0 a).1==strong) then B0 a else if (((B0 b).2 != 0) || ((B0 b).1==strong)) || ((B0 a).1.kind != 0) then B0 b else ((B0 a).1,0)
def ifW:Str:=[105,102]
def Md:Str:=[110,118,108]
def Bt:Str:=[105,115,110,117,108,108]
def Di (t:Str) (a b c:Rs):Rs:=
 if t==ifW then (if (B0 a).2 != 0 then Ch (B0 a).2 else if (B0 a).1==D9 true then b else c)
 else if a.2 != 0 then Ch a.2 else if t==Bt then (D9 (a.1.kind==0),0) else if a.1.kind != 0 then (a.1,0) else b
def Gq (strict:List Val→Rs) (l:List Rs):Rs:=match l.find? (fun q=>q.2 != 0) with|some q=>Ch q.2|none=>if l.any (fun q=>q.1.kind==0) then (noV,0) else strict (l.map (·.1))
def P1 (c:List Col) (l:List Val) (t:Str):Rs:=if Co t c<0 then Ch 9 else (l.getD (Co t c).toNat noV,0)
def orW:Str:=[111,114]
def Oj:Str:=[97,110,100]
/-- A node, of what its kids come to; what a strict node comes to is a parameter. -/
def I0 (strict:Int→Str→List Val→Rs) (c:List Col) (l:List Val) (o:Int) (t:Str) (v:Val) (ks:List Rs):Rs:=
 if o==1 then (v,0) else if o==2 then P1 c l t
 else if (o==5)&&(t==orW) then F9 (D9 true) (ks.getD 0 (noV,0)) (ks.getD 1 (noV,0))
 else if (o==5)&&(t==Oj) then F9 (D9 false) (ks.getD 0 (noV,0)) (ks.getD 1 (noV,0))
 else if (o==6)&&(((t==ifW) || (t==Md)) || (t==Bt)) then Di t (ks.getD 0 (noV,0)) (ks.getD 1 (noV,0)) (ks.getD 2 (noV,0))
 else Gq (strict o t) ks
mutual
def Gt (strict:Int→Str→List Val→Rs) (c:List Col) (l:List Val):Expr→Rs
 | .mk o t v k=>I0 strict c l o t v (Yw strict c l k)
def Yw (strict:Int→Str→List Val→Rs) (c:List Col) (l:List Val):List Expr→List Rs
  | []=>[]
  | e::r=>Gt strict c l e::Yw strict c l r
 end
theorem Jp (f:Int→Str→List Val→Rs) (c:List Col) (l:List Val):∀k,Yw f c l k=k.map (Gt f c l)
 | []=>rfl
 | e::r=>by rw [Yw,Jp f c l r];rfl
theorem Ql (f:Int→Str→List Val→Rs) (c:List Col) (l:List Val) (e:Expr):Gt f c l e=I0 f c l e.op e.text e.val (e.kids.map (Gt f c l)):=by cases e;rw [Gt,Jp];rfl
def Fb (c:List Col) (l:List Val):Bool:=(N9 c&&(l.length==c.length))&&(l.zip c).all fun p=>Bu p.1&&((p.1.kind==0) || (p.1.kind==p.2.kind))
/-- eval.Eval. -/
def Yx (f:Int→Str→List Val→Rs) (x:Expr) (c:List Col) (l:List Val):Rs:=if (!(C3 x)) || !(Fb c l) then Ch 1 else Gt f c l x
/-! A tree in a column's place comes to what its value would there. -/
/-! Who is not named plays no part. -/
/-! What a strict node comes to. -/
def Pj (a b:Int):Int×Int:=
 let p:=J5 a*J5 b
 let below:=decide (a<0) != decide (b<0)
 if decide (0<p / 18446744073709551616) || decide ((if below then 9223372036854775808 else 9223372036854775807)<p % 18446744073709551616) then (0,4)
 else if below then (IntKind.i64.wrap (IntKind.u64.wrap (0-p % 18446744073709551616)),0) else (IntKind.i64.wrap (p % 18446744073709551616),0)
def Ty (a b:Int):Int×Int:=if b==0 then (0,5) else if (a == -9223372036854775808)&&(b == -1) then (0,4) else (IntKind.i64.wrap (a.tdiv b),0)
def Pk (a b:Int):Int×Int:=if b==0 then (0,5) else if b == -1 then (0,0) else (IntKind.i64.wrap (a.tmod b),0)
def Dt (t:Str) (a b:Int):Int×Int:=if t==[43] then Wl a b else if t==[45] then Ji a b else if t==[42] then Pj a b else if t==[47] then Ty a b else Pk a b
def Ea (t:Str) (c:Int):Bool×Bool:=if t==[61] then (c==0,true) else if t==[33,61] then (c != 0,true) else if t==[60] then (decide (c<0),true) else if t==[60,61] then (decide (c≤0),true) else if t==[62] then (decide (0<c),true) else if t==[62,61] then (decide (0≤c),true) else (false,false)
def Jj (a b:Int):Int:=if decide (a<b) then -1 else if decide (b<a) then 1 else 0
def orI:List Int→Int
 | []=>0
 | a::r=>if a != 0 then a else orI r
def Pl (a b:Val):Int:=if (!(Bu a)) || !(Bu b) then 0 else orI [Jj a.kind b.kind,Jj a.n b.n,Lib.compareBytes a.s b.s]
def H0 (t:Str) (a b:Val):Rs:=if (Ea t (Pl a b)).2 then (if a.kind != b.kind then Ch 10 else (D9 (Ea t (Pl a b)).1,0)) else if t==[38] then Hj a b else if !Bl [a,b] [1,1] then Ch 10 else Eo (Dt t a.n b.n)
def Fm (t:Str) (v:Val):Rs:=if (t==[115,116,114])&&(v.kind==1) then (Pi (Lib.itoa v.n),0) else if (t==[108,101,110])&&(v.kind==2) then (⟨1,v.s.length,[]⟩,0) else if (t==[110,117,109])&&(v.kind==2) then Eo (Bj v.s) else Ch 10
def J1 (t:Str) (s:Str) (n:Int):Val:=if t==[108,101,102,116] then Pi (s.take (max 0 (min n s.length)).toNat) else Pi (s.drop (s.length-(max 0 (min n s.length)).toNat))
def Au (o:Int) (t:Str) (l:List Val):Rs:=
 if o==5 then H0 t (l.getD 0 noV) (l.getD 1 noV) else if (o==3)&&Bl l [1] then Eo (Ji 0 (l.getD 0 noV).n) else if (o==4)&&Bl l [3] then (D9 ((l.getD 0 noV).n==0),0)
 else if o != 6 then Ch 10 else if (l.length:Int)==1 then Fm t (l.getD 0 noV) else if !Bl l [2,1] then Ch 10 else (J1 t (l.getD 0 noV).s (l.getD 1 noV).n,0)
abbrev Ab (c:List Col) (l:List Val) (e:Expr):Rs:=Gt Au c l e
abbrev Fx (x:Expr) (c:List Col) (l:List Val):Rs:=Yx Au x c l
/-! Values are plain, and their numbers have 64 bits. -/
structure Fine (v:Val):Prop where
 plain:Bu v=true
 lo : -9223372036854775808≤v.n
 hi:v.n≤9223372036854775807
theorem M2:Fine noV:=⟨rfl,by decide,by decide⟩
theorem Sa (b:Bool):Fine (D9 b):=by cases b<;>exact ⟨rfl,by decide,by decide⟩
theorem gj {n:Int} (h0 : -9223372036854775808≤n) (h1:n≤9223372036854775807):Fine ⟨1,n,[]⟩:=⟨rfl,h0,h1⟩
theorem Wm (s:Str):Fine (Pi s):=⟨by
 unfold Bu Pi
 simp only [show ((2:Int)==0)=false from rfl,show ((2:Int)==1)=false from rfl,show ((2:Int)==2)=true from rfl,Af,if_false,if_true,show ((0:Int)==0)=true from rfl,Cw,decide_eq_true_eq,Ei]
 omega,by show -9223372036854775808≤(0:Int);decide,by show (0:Int)≤9223372036854775807;decide⟩
theorem Fine.len {v:Val} (h:Fine v):v.s.length≤200:=by
 have h:=h.plain
 unfold Bu at h
 split at h
 ·simp only [Al,beq_iff_eq] at h;rw [h.2];exact Av _
 split at h
 ·rw [beq_iff_eq] at h;rw [h];exact Av _
 split at h
 ·simp only [Al,decide_eq_true_eq] at h;omega
 simp only [Al,beq_iff_eq] at h;rw [h.1.1.2];exact Av _
theorem Pm {x:Int×Int} (h0:x.2=0 → -9223372036854775808≤x.1) (h1:x.2=0→x.1≤9223372036854775807):Fine (Eo x).1:=by
 unfold Eo
 split
 ·exact M2
 rename_i h
 have h:x.2=0:=by simpa using h
 exact gj (h0 h) (h1 h)
theorem Wn (e:Int):Fine (Ch e).1:=M2
theorem Im (n:Int) : -9223372036854775808≤IntKind.i64.wrap n∧IntKind.i64.wrap n≤9223372036854775807:=by rw [IntKind.wrap_i64];omega
theorem xz (a b:Int):Fine (Eo (Ji a b)).1:=by
 refine Pm (fun _=>?_) (fun _=>?_)<;>unfold Ji<;>split
 ·show -9223372036854775808≤(0:Int);decide
 ·exact (Im _).1
 ·show (0:Int)≤9223372036854775807;decide
 exact (Im _).2
theorem gk (t:Str) (a b:Int) : -9223372036854775808≤(Dt t a b).1∧(Dt t a b).1≤9223372036854775807:=by
 have z : -9223372036854775808≤(0:Int)∧(0:Int)≤9223372036854775807:=by decide
 unfold Dt
 split
 ·unfold Wl;split;exact z;exact Im _
 split
 ·unfold Ji;split;exact z;exact Im _
 split
 ·unfold Pj
  simp only
  repeat' split
  all_goals first|exact z|exact Im _
 split
 ·unfold Ty;split;exact z;split;exact z;exact Im _
 unfold Pk;split;exact z;split;exact z;exact Im _
theorem y6 {t:Str} {a b:Val}:Fine (H0 t a b).1:=by
 unfold H0
 split
 ·split
  ·exact Xr
  exact Sa _
 split
 ·unfold Hj
  split
  ·exact Xr
  split
  ·exact Xr
  exact Wm _
 split
 ·exact Xr
 exact Pm (fun _=>(gk _ _ _).1) (fun _=>(gk _ _ _).2)
theorem y7 (s:Str) : -9223372036854775808≤(Bj s).1∧(Bj s).1≤9223372036854775807:=by
 unfold Bj
 split
 ·decide
 split
 ·rename_i v h
  have:=Lib.parseIntB_bounds h
  simp only [show ((2 ^ (64-1):Nat):Int)=9223372036854775808 by decide] at this
  show -9223372036854775808≤v∧v≤9223372036854775807
  omega
 ·decide
 decide
theorem y8 {t:Str} {v:Val} (h:Fine v):Fine (Fm t v).1:=by
 unfold Fm
 split
 ·exact Wm _
 split
 ·have:=h.len
  exact gj (by omega) (by omega)
 split
 ·exact Pm (fun _=>(y7 _).1) (fun _=>(y7 _).2)
 exact Xr
theorem gm {o:Int} {t:Str} {l:List Val} (h:∀v∈l,Fine v):Fine (Au o t l).1:=by
 have h0:Fine (l.getD 0 noV):=by cases l with|nil=>exact M2|cons a r=>exact h a U2
 unfold Au
 split
 ·exact y6
 split
 ·exact xz _ _
 split
 ·exact Sa _
 split
 ·exact Xr
 split
 ·exact y8 h0
 split
 ·exact Xr
 unfold J1
 split<;>exact Wm _
theorem Pn {r:Rs} (h:Fine r.1):Fine (B0 r).1:=by
 unfold B0
 split
 ·exact Xr
 exact h
theorem Wo {s:Val} {a b:Rs} (ha:Fine a.1) (hb:Fine b.1):Fine (F9 s a b).1:=by
 unfold F9
 split
 ·exact Pn ha
 split
 ·exact Pn hb
 exact Pn ha
theorem rf {t:Str} {a b c:Rs} (ha:Fine a.1) (hb:Fine b.1) (hc:Fine c.1):Fine (Di t a b c).1:=by
 unfold Di
 repeat' split
 all_goals first|exact Wn _|exact hb|exact hc|exact ha|exact Sa _
theorem y9 {f:List Val→Rs} {l:List Rs} (hf:∀k:List Val,(∀v∈k,Fine v)→Fine (f k).1) (h:∀r∈l,Fine r.1):Fine (Gq f l).1:=by
 unfold Gq
 split
 ·exact Xr
 split
 ·exact M2
 refine hf _ fun v hv=>?_
 obtain ⟨r,hr,rfl⟩:=Du.1 hv
 exact h r hr
theorem rg {c:List Col} {l:List Val} (h:∀v∈l,Fine v) (t:Str):Fine (P1 c l t).1:=by
 unfold P1
 split
 ·exact Xr
 show Fine (l.getD _ noV)
 rw [D6]
 cases hg:l[(Co t c).toNat]? with
 | none=>exact M2
 | some v=>exact h v (Be hg)
def L9 (e:Expr):Bool := !(e.op==1) || Bu e.val
theorem If {k:List Rs} (h:∀r∈k,Fine r.1) (i:Nat):Fine (k.getD i (noV,0)).1:=by
 rw [D6]
 cases hg:k[i]? with
 | none=>exact M2
 | some r=>exact h r (Be hg)
mutual
theorem O6 {c:List Col} {l:List Val} (h:∀v∈l,Fine v):∀e:Expr,Dk L9 e=true→Dk Hy e=true→Fine (Ab c l e).1
 | .mk o t v k,h1,h2=>by
  rw [Dk,Al] at h1 h2
  have hk:=Wp (c:=c) h k h1.2 h2.2
  rw [Ab,Gt]
  unfold I0
  split
  ·rename_i ho
   have p:=h1.1
   unfold L9 at p
   rw [show (Expr.mk o t v k).op=o from rfl,ho] at p
   have q:=h2.1
   unfold Hy at q
   simp only [Al,decide_eq_true_eq] at q
   exact ⟨by show Bu (Expr.mk o t v k).val=true;simpa using p,q.1,q.2⟩
  split
  ·exact rg h t
  split
  ·exact Wo (If hk 0) (If hk 1)
  split
  ·exact Wo (If hk 0) (If hk 1)
  split
  ·exact rf (If hk 0) (If hk 1) (If hk 2)
  exact y9 (fun _ hl=>gm hl) hk
theorem Wp {c:List Col} {l:List Val} (h:∀v∈l,Fine v):∀k:List Expr,Hw L9 k=true→Hw Hy k=true→∀r∈Yw Au c l k,Fine r.1
  | [],_,_=>fun r hr=>by cases hr
  | e::k,h1,h2=>by
    rw [Hw,Al] at h1 h2
    intro r hr
    rw [Yw] at hr
    rcases By.1 hr with rfl|hr
    · exact O6 h e h1.1 h2.1
    exact Wp h k h1.2 h2.2 r hr
 end
/-! A text between marks. -/
theorem yb {x:Expr} {c:List Col} (h:(Db x c).2=0):C3 x=true∧Mb c=true∧Db x c=Bg c x:=by
 unfold Db at h ⊢
 split at h
 ·cases h
 rename_i h1
 rw [if_neg h1]
 simp only [C7,Ju,not_or,Bool.not_eq_false] at h1
 exact ⟨h1.1,by rw [←Lz];exact h1.2,rfl⟩
set_option maxRecDepth 4000
theorem gn {a b:List Expr} (hl:a.length=b.length) (h:∀(j:Nat) (y z:Expr),j<a.length→a[j]? = some y→b[j]? = some z→eqE y z=true):eqL a b=true:=by
 rw [Qg]
 refine P0 hl fun j y hj hy=>?_
 have hjb:j<b.length:=by omega
 have:=h j y b[j] hj hy (Aa hjb)
 rw [Aa hjb,(ca _ _).1 this]
theorem AG0 {a b:List Expr} (h:eqL a b=true) {j:Nat} (hj:j<a.length) (hb:j<b.length):eqE a[j] b[j]=true:=by
 have e:=(Qg _ _).1 h
 subst e
 exact xf _
theorem yd {a b:List Expr} {j:Nat} (hj:j<a.length) (hb:j<b.length) (h:eqE a[j] b[j]=false):eqL a b=false:=by
 rw [I7]
 intro h2
 rw [AG0 h2 hj hb] at h
 cases h
theorem n9 {a b:List Expr} (h:a.length≠b.length):eqL a b=false:=by
 rw [I7]
 exact fun h2=>h (ABh h2)
theorem AE5 {a b:List Expr} {x:Nat} (hx:x<a.length) (hb:x<b.length) (h:∀(j:Nat) (y z:Expr),j<x→a[j]? = some y→b[j]? = some z→eqE y z=true) (he:eqE a[x] b[x]=true):∀(j:Nat) (y z:Expr),j<x+1→a[j]? = some y→b[j]? = some z→eqE y z=true:=by
 intro j y z hj h1 h2
 rcases Bf j x with h3|h3
 ·exact h j y z h3 h1 h2
 have:j=x:=by omega
 subst this
 rw [Aa hx] at h1
 rw [Aa hb] at h2
 injection h1 with h1
 injection h2 with h2
 rw [←h1,←h2]
 exact he
def gu (x y:Expr):Bool:=((x.op==y.op)&&(x.text==y.text))&&((x.val.kind==y.val.kind&&x.val.n==y.val.n)&&x.val.s==y.val.s)
theorem cf (x y:Expr):eqE x y=(gu x y&&eqL x.kids y.kids):=xe x y
theorem c51:∀(n:Nat) (x:Expr),okE n x→∀(y:Expr) (Hp:List AObj),AFun Tryz.prog 51 [Ae x,Ae y] Hp (At (eqE x y)):=by
 intro n
 induction n with
 | zero=>exact fun x h=>h.elim
 | succ n ih =>
 intro x hok y Hp
 refine Ah [.tmp 4] [0,1] Tryz.func51 Tryz.ntmps51 (fun d=>?_)
 refine pl ?_;refine Z48 ?_;refine Z46 ?_;refine Z29 ?_;refine Xl ?_
 refine B3 (h:=Q.neqAgg Rn (fun w=>Gn x.val.kind x.val.n y.val.kind y.val.n x.val.s y.val.s w)) (hr:=?_)
 refine Xl ?_;refine Z90 ?_;refine A2 [2,3,33] ?_
 refine A3 (fun ht33=>?_) (fun ht33=>?_)
 ·have hf:eqE x y=false:=by
   rw [cf]
   simp only [C7,bne_iff_ne,ne_eq,B6,Ju] at ht33
   by_cases hh:gu x y=true
   ·rw [hh,Cw]
    refine n9 ?_
    unfold gu at hh
    simp only [Al,beq_iff_eq] at hh
    obtain ⟨⟨h1,h2⟩,⟨h3,h4⟩,h5⟩:=hh
    rcases ht33 with ((h|h)|h)|h
    ·exact absurd h1 h
    ·simp [h2] at h
    ·simp [h3,h4,h5] at h
    intro e;exact h (by rw [e])
   rw [R5] at hh
   rw [hh,Dy]
  refine Z81 ?_;exact AIq
 have hh:gu x y=true∧x.kids.length=y.kids.length:=by
  simp only [Cv,bne_eq_false_iff_eq,B6,Jt] at ht33
  obtain ⟨⟨⟨h1,h2⟩,h3⟩,h4⟩:=ht33
  unfold gu
  refine ⟨?_,by omega⟩
  simp only [beq_iff_eq,Al] at h1 h2 h3 ⊢
  exact ⟨⟨h1,h2⟩,h3⟩
 obtain ⟨hh,hlen⟩:=hh
 have hkl:=hok.2.1
 refine Kq ?_;refine A2 [2,3,5] ?_
 refine Bh (α:=Nat) (fun i=>⟨53,A9 2 (.ro (Ey x)) (A9 3 (.ro (Ey y)) (A9 5 (A5 (i:Nat)) (fun _=>.any))),Hp,[],[],none⟩) (fun i=>i≤x.kids.length∧∀(j:Nat) (a b:Expr),j<i→x.kids[j]? = some a→y.kids[j]? = some b→eqE a b=true) (fun i=>x.kids.length-i) (0) ⟨Av _,fun j a b h=>by omega⟩ (Fq _) rfl (fun i hi=>?_)
 refine Lu ?_;refine A2 [2,3,5,38] ?_
 refine A3 (fun ht38=>?_) (fun ht38=>?_)
 ·have hlt:i<x.kids.length:=by simpa using ht38
  have hly:i<y.kids.length:=by omega
  refine Z53 ?_;refine Ct [0,1,0,7,15,0,32,0,224,480,1023,2047] 10 Aj (by kernel_rfl) ?_;refine Z34 ?_
  refine An (h:=Ag (i) (Ae x.kids[i]) (fun _=>B7 hlt)) (hr:=?_)
  refine Z92 ?_
  refine An (h:=Ag (i) (Ae y.kids[i]) (fun _=>B7 hly)) (hr:=?_)
  refine Tr ?_;refine A7 Tryz.call51 (ih x.kids[i] (hok.2.2 _ (Br hlt)) y.kids[i] _) ?_;refine A4 ?_;refine A2 [2,3,5,52] ?_
  refine A3 (fun ht52=>?_) (fun ht52=>?_)
  ·have hf:eqE x y=false:=by rw [cf,yd hlt hly (by simpa using ht52),Bool.and_false]
   refine bg ?_;refine Z47 ?_;exact AFa
  have he:eqE x.kids[i] y.kids[i]=true:=by simpa using ht52
  refine Z96 ?_;refine A2 [2,3,5] ?_;exact B5 (i+1) ⟨hlt,AE5 hlt hly hi.2 he⟩ (by omega) (Bx rfl)
 have hxe:x.kids.length≤i:=by simpa using ht38
 refine Z52 ?_;refine bg ?_;exact A8 (Ai A6) ⟨by rw [cf,hh,gn hlen (fun j a b hj=>hi.2 j a b (by omega))];rfl,rfl⟩

theorem c95 (n:Nat) (a b:List Expr) (ha:a.length≤1048576) (hok:∀y∈a,okE n y) (ih:∀(x:Expr),okE n x→∀(y:Expr) (Hp:List AObj),AFun Tryz.prog 66 [Ae x,Ae y] Hp (At (eqE x y))) (Hp:List AObj):AFun Tryz.prog 95 [.slice false 6 (a.map Ae),.slice false 6 (b.map Ae),.fn (.func 66) [] []] Hp (At (eqL a b)):=by
 refine Ah [.tmp 6] [0,1,2] Tryz.func95 Tryz.ntmps95 (fun d=>?_)
 refine Z2 ?_;refine A2 [0,1,2] ?_;refine Lu ?_;refine A2 [0,1,2,14] ?_
 refine A3 (fun ht14=>?_) (fun ht14=>?_)
 ·have hf:eqL a b=false:=n9 (by have:=ht14;simp at this;omega)
  refine pv ?_;exact AIq
 have hlen:a.length=b.length:=by have:=ht14;simp at this;omega
 refine L2 ?_;refine A2 [1,2,15,16,17] ?_
 refine Bh (α:=Nat) (fun i=>⟨32,A9 1 (.slice false 6 (b.map Ae)) (A9 2 (.fn (.func 66) [] []) (A9 15 (.slice false 6 (a.map Ae)) (A9 16 (A5 (a.length:Nat)) (A9 17 (A5 (i:Nat)) (fun _=>.any))))),Hp,[],[],none⟩) (fun i=>i≤a.length∧∀(j:Nat) (y z:Expr),j<i→a[j]? = some y→b[j]? = some z→eqE y z=true) (fun i=>a.length-i) (0) ⟨Av _,fun j y z h=>by omega⟩ (Bc (by simp)) rfl (fun i hi=>?_)
 refine Z2 ?_;refine A2 [1,2,15,16,17,18] ?_
 refine Gz (fun ht18=>?_) (fun ht18=>?_)
 ·have hlt:i<a.length:=by simpa using ht18
  have hlb:i<b.length:=by omega
  refine Xp ?_
  refine A4 (h:=Ag (i) (Ae a[i]) (fun _=>B7 hlt)) (hr:=?_)
  refine A4 ?_;refine vl ?_;refine A2 [1,2,7,8,15,16,17] ?_;refine Z1 ?_
  refine A4 (h:=Ag (i) (Ae b[i]) (fun _=>B7 hlb)) (hr:=?_)
  refine ju ?_;refine A2 [1,2,8,9,15,16,17] ?_;refine Z13 ?_;refine R.callV Tryz.call66 (ih a[i] (hok _ (Br hlt)) b[i] _) ?_;refine A4 ?_;refine A2 [1,2,15,16,17,30] ?_
  refine A3 (fun ht30=>?_) (fun ht30=>?_)
  ·have hf:eqL a b=false:=yd hlt hlb (by simpa using ht30)
   refine pv ?_;refine Z41 ?_;refine Z37 ?_;exact AFa
  have he:eqE a[i] b[i]=true:=by simpa using ht30
  refine Vf ?_;refine A2 [1,2,15,16,17] ?_;refine B5 (i+1) ⟨hlt,AE5 hlt hlb hi.2 he⟩ (by omega) ?_
  exact E5 (own:=[]) (fun _=>.refl _) (by repeat (first|exact C5|refine C4 (by first|exact Eq|(simp;done)) ?_)) (by simp) (by simp)
 have hxe:a.length≤i:=by simpa using ht18
 refine Z31 ?_;refine Z2 ?_;refine Ts ?_;exact A8 (Ai A6) ⟨by rw [gn hlen (fun j y z hj=>hi.2 j y z (by omega))],rfl⟩

theorem c66:∀(n:Nat) (x:Expr),okE n x→∀(y:Expr) (Hp:List AObj),AFun Tryz.prog 66 [Ae x,Ae y] Hp (At (eqE x y)):=by
 intro n
 induction n with
 | zero=>exact fun x h=>h.elim
 | succ n ih =>
 intro x hok y Hp
 refine Ah [.tmp 4] [0,1] Tryz.func66 Tryz.ntmps66 (fun d=>?_)
 refine pl ?_;refine Z20 ?_;refine Z46 ?_;refine Z29 ?_;refine Xl ?_
 refine B3 (h:=Lo Rn (fun w=>Gn x.val.kind x.val.n y.val.kind y.val.n x.val.s y.val.s w)) (hr:=?_)
 refine Xl ?_;refine Bw Tryz.call95 (fun hB=>c95 n x.kids y.kids hok.2.1 hok.2.2 ih _) ?_;refine Z0 ?_;refine Z27 ?_;exact A8 (Ai A6) ⟨by rw [xe],rfl⟩

theorem cg (o:Int) (t:Str) (v:Val) (k:List Expr):Ae (.mk o t v k)=.agg [A5 o,.v (sv t),A5 v.kind,A5 v.n,.v (sv v.s),.slice false 6 (k.map Ae)]:=by rw [Ax];rfl
theorem gv {α β:Type} {f:α→β} {l:List α} {x:Nat} (h:x<l.length):(l.take (x+1)).map f=(l.take x).map f++[f l[x]]:=by rw [Fw h,Cs];rfl
set_option maxRecDepth 8000
/-! Who decides decides: the law's sources, columns and truths. -/
/-! Rows. -/
theorem row_iff {c:List Col} {l:List Val}:Fb c l=true↔Mb c=true∧l.length=c.length∧∀(i:Nat) (v:Val) (y:Col),l[i]? = some v→c[i]? = some y→Bu v=true∧(v.kind=0∨v.kind=y.kind):=by
 unfold Fb
 rw [Al,Al,Lz,beq_iff_eq,B1,and_assoc]
 refine and_congr_right fun _=>and_congr_right fun hl=>⟨fun h i v y hv hy=>?_,fun h p hp=>?_⟩
 ·have:=h (v,y) (Be (i:=i) (by rw [Rb];exact ⟨hv,hy⟩))
  simpa using this
 obtain ⟨i,hi⟩:=Cg hp
 rw [Rb] at hi
 have:=h i p.1 p.2 hi.1 hi.2
 simpa using this
theorem ABx {x:Expr} {c:List Col} {l:List Val} (h1:C3 x=true) (h2:Fb c l=true):Fx x c l=Ab c l x:=by
 unfold Fx Yx
 rw [h1,h2]
 rfl
/-! Rows that differ in what is not named. -/
/-! Who has a kind comes to it. -/
/-- What a tree of this kind may come to. -/
structure KOk (k:Int) (r:Rs):Prop where
 kind:r.2=0→r.1.kind=k∨r.1.kind=0
 err:r.2≠0→r.2=4∨r.2=5∨r.2=6∨r.2=3
theorem KOk.null (k:Int):KOk k (noV,0):=⟨fun _=>.inr rfl,fun h=>absurd rfl h⟩
theorem KOk.val {k:Int} {v:Val} (h:v.kind=k):KOk k (v,0):=⟨fun _=>.inl h,fun h=>absurd rfl h⟩
theorem KOk.wrong {k e:Int} (h:e=4∨e=5∨e=6∨e=3):KOk k (Ch e):=⟨fun h0=>by rw [show e=0 from h0] at h;omega,fun _=>h⟩
theorem KOk.whole {x:Int×Int} (h:x.2≠0→x.2=4∨x.2=5∨x.2=6∨x.2=3):KOk 1 (Eo x):=by
 unfold Eo
 split
 ·rename_i h1;exact .wrong (h (by simpa using h1))
 exact .val rfl
theorem KOk.mono {k k':Int} {r:Rs} (h:KOk k r) (hk:k=k'∨k=0):KOk k' r:=⟨fun h0=>by have:=h.kind h0;omega,h.err⟩
theorem Ta {α:Type} {g:α→Int} {r:α→Rs} {l:List α} (h:∀y∈l,KOk (g y) (r y)) {k:Int} {f:List Val→Rs} (hs:∀vs:List Val,vs.map (·.kind)=l.map g→(∀v∈vs,v.kind≠0)→KOk k (f vs)):KOk k (Gq f (l.map r)):=by
 unfold Gq
 split
 ·rename_i q hq
  have h1:=Zu hq
  obtain ⟨y,hy,rfl⟩:=Du.1 (List.mem_of_find?_eq_some hq)
  exact .wrong ((h y hy).err (by simpa using h1))
 rename_i hq
 have h0:∀y∈l,(r y).2=0:=fun y hy=>by
  have:=Km.1 hq (r y) (aa hy)
  simpa using this
 split
 ·exact .null k
 rename_i hn
 have hnn:∀y∈l,(r y).1.kind≠0:=fun y hy e=>hn (by rw [Gw];exact ⟨r y,aa hy,by simpa using e⟩)
 refine hs _ ?_ ?_
 ·rw [Gj,Gj]
  refine Zz fun y hy=>?_
  have:=(h y hy).kind (h0 y hy)
  have:=hnn y hy
  show (r y).1.kind=g y
  omega
 intro v hv
 rw [Gj] at hv
 obtain ⟨y,hy,rfl⟩:=Du.1 hv
 exact hnn y hy
theorem Qm {a b:Int} (h:(Ez a b).2=true):((a=0∧(Ez a b).1=b)∨(a≠0∧(b=0∨b=a)∧(Ez a b).1=a)):=by
 unfold Ez at h ⊢
 split
 ·rename_i e;exact .inl ⟨by simpa using e,rfl⟩
 rename_i e
 rw [if_neg e] at h
 split
 ·rename_i e2
  exact .inr ⟨by simpa using e,by simp only [C7,beq_iff_eq] at e2;omega,rfl⟩
 rename_i e2
 rw [if_neg e2] at h
 cases h
theorem AG1 {s:Sign} {ks:List Int} (h:(J0 s ks).2=0):∃c,Ft s.kids ks 0=some c∧(J0 s ks).1=if s.own == -1 then c else s.own:=by
 unfold J0 at h ⊢
 cases hk:Ft s.kids ks 0 with
 | none=>rw [hk] at h;cases h
 | some c=>exact ⟨c,rfl,by simp only;split<;>rfl⟩
/-- One kid, of a kind. -/
theorem rh {w k0 c:Int} (h1:(w == -2)=false) (h2:(w == -1)=false) (h3:w≠0) (h:Ft [w] [k0] 0=some c):k0=0∨k0=w:=by
 rw [Ft,h1,h2] at h
 simp only [Af,if_false] at h
 split at h
 ·rename_i hm;have:=Qm hm;omega
 cases h
theorem ri {w w' k0 k1 c:Int} (h1:(w == -2)=false) (h2:(w == -1)=false) (h3:w≠0) (h1':(w' == -2)=false) (h2':(w' == -1)=false) (h3':w'≠0) (h:Ft [w,w'] [k0,k1] 0=some c):(k0=0∨k0=w)∧(k1=0∨k1=w'):=by
 rw [Ft,h1,h2] at h
 simp only [Af,if_false] at h
 split at h
 ·rename_i hm
  rw [Ft,h1',h2'] at h
  simp only [Af,if_false] at h
  split at h
  ·rename_i hm';have:=Qm hm;have:=Qm hm';omega
  cases h
 cases h
/-- Two kids of one kind, whichever. -/
theorem cj {k0 k1 c c0:Int} (h:Ft [-1, -1] [k0,k1] c0=some c) (h0:c0=0):(k0=0∨k0=c)∧(k1=0∨k1=c)∧(k0≠0→k1≠0→k0=k1):=by
 subst h0
 rw [Ft] at h
 simp only [show ((-1:Int) == -2)=false from rfl,show ((-1:Int) == -1)=true from rfl,Af,if_false,if_true] at h
 split at h
 ·rename_i hm
  rw [Ft] at h
  simp only [show ((-1:Int) == -2)=false from rfl,show ((-1:Int) == -1)=true from rfl,Af,if_false,if_true] at h
  split at h
  ·rename_i hm'
   rw [Ft] at h
   injection h with h
   have a:=Qm hm
   have b:=Qm hm'
   omega
  cases h
 cases h
theorem O7 {c:List Col} {o:Int} {t:Str} {v:Val} {k:List Expr} (h:(Bg c (.mk o t v k)).2=0) (h1:(o==1)=false) (h2:(o==2)=false):
  (∀y∈k,(Bg c y).2=0)∧∃m,Ft (I5 o t).kids (k.map fun y=>(Bg c y).1) 0=some m∧(Bg c (.mk o t v k)).1=if (I5 o t).own == -1 then m else (I5 o t).own:=by
 rw [Bg] at h ⊢
 have hk:=xn h h1 h2
 rw [S8] at hk h ⊢
 have hk':∀y∈k,(Bg c y).2=0:=fun y hy=>hk _ (aa hy)
 refine ⟨hk',?_⟩
 have e:Oz c o t v (k.map (Bg c))=J0 (I5 o t) (k.map fun y=>(Bg c y).1):=by
  unfold Oz
  rw [h1,h2]
  have:(k.map (Bg c)).find? (fun q=>q.2 != 0)=none:=Km.2 fun q hq=>by simpa using hk q hq
  simp only [Af,if_false,this,Gj]
  rfl
 rw [e] at h ⊢
 exact AG1 h
theorem rj (t:Str) (a b:Int):(Dt t a b).2≠0→(Dt t a b).2=4∨(Dt t a b).2=5∨(Dt t a b).2=6∨(Dt t a b).2=3:=by
 unfold Dt Wl Ji Pj Ty Pk
 simp only
 repeat' split
 all_goals simp
theorem ABy (a b:Int):(Ji a b).2≠0→(Ji a b).2=4∨(Ji a b).2=5∨(Ji a b).2=6∨(Ji a b).2=3:=by
 unfold Ji
 repeat' split
 all_goals simp
theorem ABz (s:Str):(Bj s).2≠0→(Bj s).2=4∨(Bj s).2=5∨(Bj s).2=6∨(Bj s).2=3:=by
 unfold Bj
 repeat' split
 all_goals simp
theorem AG2 {a b:Val} (ha:a.kind=2) (hb:b.kind=2):KOk 2 (Hj a b):=by
 unfold Hj
 rw [show Bl [a,b] [2,2]=true by simp [Bl,ha,hb]]
 simp only [Bn,Af,if_false]
 split
 ·exact .wrong (by omega)
 exact .val rfl
/-- A mark of two values of the kinds that its sign asks for. -/
theorem AK6 {t:Str} {a b:Val} (ht:t∈[[61],[33,61],[60],[60,61],[62],[62,61],[43],[45],[38],[42],[47],[37]]) {m:Int} (hf:Ft (Cm t).kids [a.kind,b.kind] 0=some m) (ha:a.kind≠0) (hb:b.kind≠0):
  KOk (if (Cm t).own == -1 then m else (Cm t).own) (H0 t a b):=by
 have hcmp:∀t:Str,(Ea t (Pl a b)).2=true→Cm t=⟨[-1, -1],3⟩→Ft (Cm t).kids [a.kind,b.kind] 0=some m→KOk (if (Cm t).own == -1 then m else (Cm t).own) (H0 t a b):=fun t h1 h2 hf=>by
  rw [h2] at hf ⊢
  have:=cj hf rfl
  have e:a.kind=b.kind:=this.2.2 ha hb
  unfold H0
  rw [h1,if_pos rfl,e]
  simp only [bne_self_eq_false,Af,if_false]
  exact .val rfl
 have har:∀t:Str,(Ea t (Pl a b)).2=false→(t==[38])=false→Cm t=⟨[1,1],1⟩→Ft (Cm t).kids [a.kind,b.kind] 0=some m→KOk (if (Cm t).own == -1 then m else (Cm t).own) (H0 t a b):=fun t h1 h2 h3 hf=>by
  rw [h3] at hf ⊢
  have:=ri rfl rfl (by decide) rfl rfl (by decide) hf
  unfold H0
  rw [h1,h2,show Bl [a,b] [1,1]=true by simp [Bl];omega]
  exact KOk.whole (rj _ _ _)
 simp only [By,Fv,or_false] at ht
 rcases ht with rfl|rfl|rfl|rfl|rfl|rfl|rfl|rfl|rfl|rfl|rfl|rfl
 ·exact qb
 ·exact qb
 ·exact qb
 ·exact qb
 ·exact qb
 ·exact qb
 ·exact wd
 ·exact wd
 ·have h3:Cm [38]=⟨[2,2],2⟩:=rfl
  rw [h3] at hf ⊢
  have:=ri rfl rfl (by decide) rfl rfl (by decide) hf
  exact AG2 (by omega) (by omega)
 ·exact wd
 ·exact wd
 exact wd
theorem ck {r:Rs} (h:KOk 3 r):B0 r=r:=by
 unfold B0
 split
 ·rename_i e
  simp only [Al,beq_iff_eq,bne_iff_ne] at e
  have:=h.kind e.1.1
  omega
 rfl
theorem na {s:Val} {a b:Rs} (ha:KOk 3 a) (hb:KOk 3 b):KOk 3 (F9 s a b):=by
 unfold F9
 rw [ck ha,ck hb]
 split
 ·exact ha
 rename_i h1
 split
 ·exact hb
 simp only [C7,bne_iff_ne,not_or,Decidable.not_not] at h1
 exact ⟨fun _=>ha.kind h1.1,fun h=>absurd rfl h⟩
theorem Gg {t:Str} {n:Nat} (h:Bv t=(n:Int)):(t=[108,101,110]∧n=1)∨(t=[115,116,114]∧n=1)∨(t=[110,117,109]∧n=1)∨(t=Bt∧n=1)∨(t=Md∧n=2)∨(t=[108,101,102,116]∧n=2)∨(t=[114,105,103,104,116]∧n=2)∨(t=ifW∧n=3):=by
 by_cases hm:t∈arityList.map (·.1)
 ·have ha:∀s∈arityList.map (·.1),(s=[108,101,110]∧Bv s=1)∨(s=[115,116,114]∧Bv s=1)∨(s=[110,117,109]∧Bv s=1)∨(s=Bt∧Bv s=1)∨(s=Md∧Bv s=2)∨(s=[108,101,102,116]∧Bv s=2)∨(s=[114,105,103,104,116]∧Bv s=2)∨(s=ifW∧Bv s=3):=by
   have:((arityList.map (·.1)).all fun s=>decide ((s=[108,101,110]∧Bv s=1)∨(s=[115,116,114]∧Bv s=1)∨(s=[110,117,109]∧Bv s=1)∨(s=Bt∧Bv s=1)∨(s=Md∧Bv s=2)∨(s=[108,101,102,116]∧Bv s=2)∨(s=[114,105,103,104,116]∧Bv s=2)∨(s=ifW∧Bv s=3)))=true:=by kernel_rfl
   exact fun s hs=>of_decide_eq_true (B1.1 this s hs)
  have:=ha t hm
  rw [h] at this
  rcases this with ⟨e,h2⟩|⟨e,h2⟩|⟨e,h2⟩|⟨e,h2⟩|⟨e,h2⟩|⟨e,h2⟩|⟨e,h2⟩|⟨e,h2⟩
  ·exact .inl ⟨e,by omega⟩
  ·exact .inr (.inl ⟨e,by omega⟩)
  ·exact .inr (.inr (.inl ⟨e,by omega⟩))
  ·exact .inr (.inr (.inr (.inl ⟨e,by omega⟩)))
  ·exact .inr (.inr (.inr (.inr (.inl ⟨e,by omega⟩))))
  ·exact .inr (.inr (.inr (.inr (.inr (.inl ⟨e,by omega⟩)))))
  ·exact .inr (.inr (.inr (.inr (.inr (.inr (.inl ⟨e,by omega⟩))))))
  exact .inr (.inr (.inr (.inr (.inr (.inr (.inr ⟨e,by omega⟩))))))
 have h1:Bv t = -1:=by
  unfold Bv
  rw [Km.2 fun p hp=>by
   simp only [beq_iff_eq]
   rintro rfl
   exact hm (Du.2 ⟨p,hp,rfl⟩)]
 omega
theorem Um {k:List Expr} (h:k.length=1):∃a,k=[a]:=by match k,h with|[a],_=>exact ⟨a,rfl⟩
theorem O8 {k:List Expr} (h:k.length=2):∃a b,k=[a,b]:=by match k,h with|[a,b],_=>exact ⟨a,b,rfl⟩
theorem rk {k:List Expr} (h:k.length=3):∃a b c,k=[a,b,c]:=by match k,h with|[a,b,c],_=>exact ⟨a,b,c,rfl⟩
theorem La {vs:List Val} {k:Int} (h:vs.map (·.kind)=[k]):∃v,vs=[v]∧v.kind=k:=by
 match vs,h with
 | [v],h=>exact ⟨v,rfl,by simpa using h⟩
theorem Sb {vs:List Val} {k k':Int} (h:vs.map (·.kind)=[k,k']):∃v v',vs=[v,v']∧v.kind=k∧v'.kind=k':=by
 match vs,h with
 | [v,v'],h=>exact ⟨v,v',rfl,by simpa using h⟩
theorem nb {c:List Col} {l:List Val} (hl:Fb c l=true):∀(n:Nat) (e:Expr),sizeE e≤n→Dk Cu e=true→(Bg c e).2=0→KOk (Bg c e).1 (Ab c l e)
 | 0,e,hn,_,_=>by have:=H1 e;omega
 | n+1,e,hn,hnd,hk=>by
  have hnd0:=hnd
  rw [Ff,Al] at hnd0
  have ih:∀y∈e.kids,(Bg c y).2=0→KOk (Bg c y).1 (Ab c l y):=fun y hy h0=>nb hl n y (r6 hn hy) ((D3 _ _).1 hnd0.2 y hy) h0
  obtain ⟨r1,r2,r3⟩:=row_iff.1 hl
  have hNC:=Hf hnd0.1
  cases hNC with
  | val v hp h0 =>
   have:Bg c (K5 v)=(v.kind,0):=by rw [K5,Bg];rfl
   rw [this]
   exact .val rfl
  | name t ht =>
   have e1:Bg c (F8 t)=Oy c t:=by rw [F8,Bg];rfl
   have e2:Ab c l (F8 t)=P1 c l t:=by rw [Ab,F8,Gt];rfl
   rw [e1] at hk ⊢
   rw [e2]
   unfold Oy at hk ⊢
   unfold P1
   split at hk
   ·cases hk
   rename_i hf
   rw [if_neg hf,if_neg hf]
   obtain ⟨j,z,hj,hz,hfj⟩:=find_mem.1 hf
   have hjl:j<l.length:=by rw [r2];exact (Ad.1 hj).1
   have:=r3 j l[j] z (Aa hjl) hj
   rw [hfj,Int.toNat_natCast,D6,D6,hj,Aa hjl]
   exact ⟨fun _=>by show l[j].kind=z.kind∨l[j].kind=0;omega,fun h=>absurd rfl h⟩
  | neg a =>
   rw [Fy] at hk ⊢
   obtain ⟨hky,m,hf,ho⟩:=O7 hk rfl rfl
   rw [ho,Ab,Gt,Jp]
   have hs:I5 3 []=⟨[1],1⟩:=rfl
   rw [hs] at hf ⊢
   have hm:=rh rfl rfl (by decide) hf
   show KOk 1 (Gq (Au 3 []) ([a].map (Gt Au c l)))
   refine Ta (g:=fun y=>(Bg c y).1) (fun y hy=>ih y hy (hky y hy)) (fun vs hvs hnz=>?_)
   obtain ⟨v,rfl,hv⟩:=La hvs
   have hv0:=hnz v (by simp)
   have hv1:v.kind=1:=by omega
   unfold Au
   rw [show Bl [v] [1]=true by simp [Bl,hv1]]
   exact KOk.whole (ABy _ _)
  | no a =>
   rw [Fy] at hk ⊢
   obtain ⟨hky,m,hf,ho⟩:=O7 hk rfl rfl
   rw [ho,Ab,Gt,Jp]
   have hs:I5 4 []=⟨[3],3⟩:=rfl
   rw [hs] at hf ⊢
   have hm:=rh rfl rfl (by decide) hf
   show KOk 3 (Gq (Au 4 []) ([a].map (Gt Au c l)))
   refine Ta (g:=fun y=>(Bg c y).1) (fun y hy=>ih y hy (hky y hy)) (fun vs hvs hnz=>?_)
   obtain ⟨v,rfl,hv⟩:=La hvs
   have hv0:=hnz v (by simp)
   have hv1:v.kind=3:=by omega
   unfold Au
   rw [show Bl [v] [3]=true by simp [Bl,hv1]]
   exact KOk.val rfl
  | bin t a b ht =>
   rw [Hn] at hk ⊢
   obtain ⟨hky,m,hf,ho⟩:=O7 hk rfl rfl
   have ha:=ih a (by simp [Hn,Expr.kids]) (hky a (by simp))
   have hb:=ih b (by simp [Hn,Expr.kids]) (hky b (by simp))
   rw [ho,Ab,Gt,Jp]
   rw [show I5 5 t=Cm t from rfl] at hf ⊢
   have hmem:t∈levels.flatten:=by
    rcases Kl t with h|h
    ·exact h
    omega
   by_cases h1:(t==orW)=true
   ·have e:t=orW:=by simpa using h1
    subst e
    rw [show Cm orW=⟨[3,3],3⟩ from rfl] at hf ⊢
    have hm:((Bg c a).1=0∨(Bg c a).1=3)∧((Bg c b).1=0∨(Bg c b).1=3):=ri rfl rfl (by decide) rfl rfl (by decide) hf
    exact na (ha.mono (by omega)) (hb.mono (by omega))
   by_cases h2:(t==Oj)=true
   ·have e:t=Oj:=by simpa using h2
    subst e
    rw [show Cm Oj=⟨[3,3],3⟩ from rfl] at hf ⊢
    have hm:((Bg c a).1=0∨(Bg c a).1=3)∧((Bg c b).1=0∨(Bg c b).1=3):=ri rfl rfl (by decide) rfl rfl (by decide) hf
    exact na (ha.mono (by omega)) (hb.mono (by omega))
   have e:I0 Au c l 5 t noV ([a,b].map (Gt Au c l))=Gq (Au 5 t) ([a,b].map (Gt Au c l)):=by
    unfold I0
    rw [show (t==orW)=false by simpa using h1,show (t==Oj)=false by simpa using h2]
    rfl
   rw [e]
   have hm12:t∈[[61],[33,61],[60],[60,61],[62],[62,61],[43],[45],[38],[42],[47],[37]]:=by
    have h1':t≠orW:=by simpa using h1
    have h2':t≠Oj:=by simpa using h2
    simp only [levels,List.flatten_cons,List.flatten_nil,Dz,Dr,Fz,By,Fv,or_false] at hmem ⊢
    rcases hmem with h|h|h
    ·exact absurd h h1'
    ·exact absurd h h2'
    exact h
   refine Ta (g:=fun y=>(Bg c y).1) (fun y hy=>ih y hy (hky y hy)) (fun vs hvs hnz=>?_)
   obtain ⟨v,v',rfl,hv,hv'⟩:=Sb hvs
   have hf':Ft (Cm t).kids [v.kind,v'.kind] 0=some m:=by rw [hv,hv'];exact hf
   exact AK6 hm12 hf' (hnz v (by simp)) (hnz v' (by simp))
  | call t k ht =>
   obtain ⟨hky,m,hf,ho⟩:=O7 hk rfl rfl
   rw [ho,Ab,Gt,Jp]
   rw [show I5 6 t=D5 t from rfl] at hf ⊢
   rcases Gg ht with ⟨rfl,hn1⟩|⟨rfl,hn1⟩|⟨rfl,hn1⟩|⟨rfl,hn1⟩|⟨rfl,hn1⟩|⟨rfl,hn1⟩|⟨rfl,hn1⟩|⟨rfl,hn1⟩
   ·obtain ⟨a,rfl⟩:=Um hn1
    have hs:D5 [108,101,110]=⟨[2],1⟩:=rfl
    rw [hs] at hf ⊢
    have hm:=rh rfl rfl (by decide) hf
    show KOk 1 (Gq (Au 6 [108,101,110]) ([a].map (Gt Au c l)))
    refine Ta (g:=fun y=>(Bg c y).1) (fun y hy=>ih y hy (hky y hy)) (fun vs hvs hnz=>?_)
    obtain ⟨v,rfl,hv⟩:=La hvs
    have hv0:=hnz v (by simp)
    have hv1:v.kind=2:=by omega
    show KOk 1 (Fm [108,101,110] v)
    unfold Fm
    rw [hv1]
    exact KOk.val rfl
   ·obtain ⟨a,rfl⟩:=Um hn1
    have hs:D5 [115,116,114]=⟨[1],2⟩:=rfl
    rw [hs] at hf ⊢
    have hm:=rh rfl rfl (by decide) hf
    show KOk 2 (Gq (Au 6 [115,116,114]) ([a].map (Gt Au c l)))
    refine Ta (g:=fun y=>(Bg c y).1) (fun y hy=>ih y hy (hky y hy)) (fun vs hvs hnz=>?_)
    obtain ⟨v,rfl,hv⟩:=La hvs
    have hv0:=hnz v (by simp)
    have hv1:v.kind=1:=by omega
    show KOk 2 (Fm [115,116,114] v)
    unfold Fm
    rw [hv1]
    exact KOk.val rfl
   ·obtain ⟨a,rfl⟩:=Um hn1
    have hs:D5 [110,117,109]=⟨[2],1⟩:=rfl
    rw [hs] at hf ⊢
    have hm:=rh rfl rfl (by decide) hf
    show KOk 1 (Gq (Au 6 [110,117,109]) ([a].map (Gt Au c l)))
    refine Ta (g:=fun y=>(Bg c y).1) (fun y hy=>ih y hy (hky y hy)) (fun vs hvs hnz=>?_)
    obtain ⟨v,rfl,hv⟩:=La hvs
    have hv0:=hnz v (by simp)
    have hv1:v.kind=2:=by omega
    show KOk 1 (Fm [110,117,109] v)
    unfold Fm
    rw [hv1]
    exact KOk.whole (ABz _)
   ·obtain ⟨a,rfl⟩:=Um hn1
    have ha:=ih a (by simp [Expr.kids]) (hky a (by simp))
    have hs:D5 Bt=⟨[-2],3⟩:=rfl
    rw [hs]
    show KOk 3 (Di Bt (Ab c l a) (noV,0) (noV,0))
    unfold Di
    rw [show (Bt==ifW)=false from rfl,show (Bt==Bt)=true from rfl]
    simp only [Af,if_false,if_true]
    split
    ·rename_i h;exact .wrong (ha.err (by simpa using h))
    exact .val rfl
   ·obtain ⟨a,b,rfl⟩:=O8 hn1
    have ha:=ih a (by simp [Expr.kids]) (hky a (by simp))
    have hb:=ih b (by simp [Expr.kids]) (hky b (by simp))
    have hs:D5 Md=⟨[-1, -1], -1⟩:=rfl
    rw [hs] at hf ⊢
    have hm:((Bg c a).1=0∨(Bg c a).1=m)∧((Bg c b).1=0∨(Bg c b).1=m)∧((Bg c a).1≠0→(Bg c b).1≠0→(Bg c a).1=(Bg c b).1):=cj hf rfl
    show KOk m (Di Md (Ab c l a) (Ab c l b) (noV,0))
    unfold Di
    rw [show (Md==ifW)=false from rfl,show (Md==Bt)=false from rfl]
    simp only [Af,if_false]
    split
    ·rename_i h;exact .wrong (ha.err (by simpa using h))
    rename_i h
    split
    ·rename_i h2
     have:=ha.kind (by simpa using h)
     have h2:(Ab c l a).1.kind≠0:=by simpa using h2
     exact .val (by omega)
    exact hb.mono (by omega)
   ·obtain ⟨a,b,rfl⟩:=O8 hn1
    have hs:D5 [108,101,102,116]=⟨[2,1],2⟩:=rfl
    rw [hs] at hf ⊢
    have hm:=ri rfl rfl (by decide) rfl rfl (by decide) hf
    show KOk 2 (Gq (Au 6 [108,101,102,116]) ([a,b].map (Gt Au c l)))
    refine Ta (g:=fun y=>(Bg c y).1) (fun y hy=>ih y hy (hky y hy)) (fun vs hvs hnz=>?_)
    obtain ⟨v,v',rfl,hv,hv'⟩:=Sb hvs
    have hv0:=hnz v (by simp)
    have hv0':=hnz v' (by simp)
    have hv1:v.kind=2:=by omega
    have hv1':v'.kind=1:=by omega
    unfold Au
    rw [show Bl [v,v'] [2,1]=true by simp [Bl,hv1,hv1']]
    exact KOk.val rfl
   ·obtain ⟨a,b,rfl⟩:=O8 hn1
    have hs:D5 [114,105,103,104,116]=⟨[2,1],2⟩:=rfl
    rw [hs] at hf ⊢
    have hm:=ri rfl rfl (by decide) rfl rfl (by decide) hf
    show KOk 2 (Gq (Au 6 [114,105,103,104,116]) ([a,b].map (Gt Au c l)))
    refine Ta (g:=fun y=>(Bg c y).1) (fun y hy=>ih y hy (hky y hy)) (fun vs hvs hnz=>?_)
    obtain ⟨v,v',rfl,hv,hv'⟩:=Sb hvs
    have hv0:=hnz v (by simp)
    have hv0':=hnz v' (by simp)
    have hv1:v.kind=2:=by omega
    have hv1':v'.kind=1:=by omega
    unfold Au
    rw [show Bl [v,v'] [2,1]=true by simp [Bl,hv1,hv1']]
    exact KOk.val rfl
   obtain ⟨a,b,d,rfl⟩:=rk hn1
   have ha:=ih a (by simp [Expr.kids]) (hky a (by simp))
   have hb:=ih b (by simp [Expr.kids]) (hky b (by simp))
   have hd:=ih d (by simp [Expr.kids]) (hky d (by simp))
   have hs:D5 ifW=⟨[3, -1, -1], -1⟩:=rfl
   rw [hs] at hf ⊢
   have hf':Ft [3] [(Bg c a).1] 0=some 0∧Ft [-1, -1] [(Bg c b).1,(Bg c d).1] 0=some m:=by
    simp only [Dl,J6] at hf
    rw [Ft] at hf
    simp only [show ((3:Int) == -2)=false from rfl,show ((3:Int) == -1)=false from rfl,Af,if_false] at hf
    split at hf
    ·rename_i hm
     refine ⟨?_,hf⟩
     rw [Ft]
     simp only [show ((3:Int) == -2)=false from rfl,show ((3:Int) == -1)=false from rfl,Af,if_false,hm,if_true]
     rw [Ft]
    cases hf
   have hm1:=rh rfl rfl (by decide) hf'.1
   have hm:=cj hf'.2 rfl
   show KOk m (Di ifW (Ab c l a) (Ab c l b) (Ab c l d))
   unfold Di
   rw [show (ifW==ifW)=true from rfl,if_pos rfl,ck (ha.mono (by omega))]
   split
   ·rename_i h;exact .wrong (ha.err (by simpa using h))
   split
   ·exact hb.mono (by omega)
   exact hd.mono (by omega)
/-! The print of a tree, and its words. -/
def Me (least:Nat) (x:Expr) (s:Str):Str:=if least≤levE x then s else 40::(s++[41])
def Ho:List Str→Str
 | []=>[]
 | s::r=>44::32::(s++Ho r)
def Qn (o:Int) (t:Str) (v:Val) (k:List Expr) (ss:List Str):Str:=
 if o==1 then Hd v else if o==2 then t
 else if o==3 then 45::Me 6 (k.getD 0 Am) (ss.getD 0 [])
 else if o==4 then xm++32::Me 2 (k.getD 0 Am) (ss.getD 0 [])
 else if o==5 then Me (Iz (Ba t).toNat) (k.getD 0 Am) (ss.getD 0 [])++32::(t++32::Me ((Ba t).toNat+1) (k.getD 1 Am) (ss.getD 1 []))
 else t++40::((Ho ss).drop 2++[41])
mutual
def Ay:Expr→Str
 | .mk o t v k=>Qn o t v k (Nh k)
def Nh:List Expr→List Str
  | []=>[]
  | e::r=>Ay e::Nh r
 end
theorem Po:∀l,Nh l=l.map Ay
 | []=>rfl
 | e::r=>by rw [Nh,Po r];rfl
theorem AG3 (v:Val):Ay (K5 v)=Hd v:=by simp [K5,Ay,Qn]
theorem AC0 (t:Str):Ay (F8 t)=t:=by simp [F8,Ay,Qn]
theorem AG4 (a:Expr):Ay (Fy 3 a)=45::Me 6 a (Ay a):=by simp [Fy,Ay,Nh,Qn]
theorem AK7 (a:Expr):Ay (Fy 4 a)=xm++32::Me 2 a (Ay a):=by simp [Fy,Ay,Nh,Qn]
theorem AG5 (t:Str) (a b:Expr):Ay (Hn t a b)=Me (Iz (Ba t).toNat) a (Ay a)++32::(t++32::Me ((Ba t).toNat+1) b (Ay b)):=by simp [Hn,Ay,Nh,Qn]
theorem AC1 (t:Str) (k:List Expr):Ay (.mk 6 t noV k)=t++40::((Ho (Nh k)).drop 2++[41]):=by simp [Ay,Qn]
/-! What was parsed nests no deeper than may be. -/
/-! What nests too deep is told to be too deep. -/
/-! What was parsed is right, where the words are the lexer's. -/
/-! The lexer's words. -/
/-! The parse laws where nothing is too deep. -/
/-! The parser from a word on, and of a source. -/
/-! Other trees have other words, and other prints. -/
/-! The laws of printing. -/
/-- show.Print. -/
def Mc (x:Expr):Str×Int:=if !(C3 x) then ([],1) else if decide ((4000:Int)<((Ay x).length:Int)) then ([],3) else (Ay x,0)
theorem nc {x:Expr} (h:Cz x=true):(Mc x=([],3)∧4000<(Ay x).length)∨(Mc x=(Ay x,0)∧(Ay x).length≤4000):=by
 unfold Mc
 rw [Ds,h]
 simp only [Bn,Af,if_false]
 split
 ·rename_i h2;exact .inl ⟨rfl,by simp at h2;omega⟩
 rename_i h2;exact .inr ⟨rfl,by simp at h2;omega⟩
theorem K6 {x:Expr} (h:Cz x=true):Dk Cu x=true:=by
 unfold Cz at h
 rw [Al] at h
 exact h.2
set_option maxRecDepth 4000
abbrev xo (own:Bool) (t:Str) (ks:List Expr):AObj:=.cells 27 [A5 6,Ac t,A5 0,A5 0,Ac [],.slice own 6 (ks.map Ae)]
theorem AG6 {n:Nat} {own:Bool} {t:Str} {ks:List Expr}:ObjLow n (xo own t ks):=by
 show ∀z∈[A5 6,Ac t,A5 0,A5 0,Ac [],AV.slice own 6 (ks.map Ae)],Low n z
 intro z hz
 simp only [By,Fv,or_false] at hz
 rcases hz with rfl|rfl|rfl|rfl|rfl|rfl
 all_goals first|exact Eq|simp
theorem AC2:E4 (.agg #[.int .i64 0,.string ⟨#[]⟩,.int .i64 0,.int .i64 0,.string ⟨#[]⟩,.slice none 0 0])=.agg [A5 0,Ac [],A5 0,A5 0,Ac [],.nil]:=rfl
attribute [go_sem] AC2
theorem gA {Hp:List AObj} {o ox:Nat} {z A B:AObj} (ho:Hp[o]? = some z) (hne:ox≠o):((Hp.set o A).set ox B)[o]? = some A:=by rw [List.getElem?_set_ne hne];exact As ho
theorem gB {Hp:List AObj} {o ox:Nat} {z A B:AObj} (hox:Hp[ox]? = some z):((Hp.set o A).set ox B)[ox]? = some B:=by
 have:=(List.getElem?_eq_some_iff.1 hox).1
 simp [this]
theorem AG7 {Hp:List AObj} {o ox:Nat} {A A' B:AObj} (hne:ox≠o):((Hp.set o A).set ox B).set o A'=(Hp.set o A').set ox B:=by rw [List.set_comm _ _ hne,List.set_set]
theorem Pp (ks:List Expr) (x:Expr):ks.map Ae++[.agg [.v (.int .i64 x.op),.v (sv x.text),.v (.int .i64 x.val.kind),.v (.int .i64 x.val.n),.v (sv x.val.s),.slice false 6 (x.kids.map Ae)]]=(ks++[x]).map Ae:=by rw [List.map_append,List.map_cons,List.map_nil,Ax x]
theorem AMe (l:List Tok) (S:PS) (t:Str) (Dv:Fam) (o ox:Nat) (Hp:List AObj) (hne:ox≠o) (ho:Hp[o]? = some (pr l S)) (hox:Hp[ox]? = some (xo true t [])) (hi:S.i<l.length) (hl:TokEnd l) (hll:l.length≤1048576) (hf:En l S.nest Dv.ei) (hcf:PC 108 l Dv.ei S.nest):ACall Tryz.prog 263 [.ptr ox 0,.ro [.ptr o 0]] Hp (fun r H'=>r=Ae (.mk 6 t noV (I3 l Dv.ei S).1)∧H'=(Hp.set o (pr l (I3 l Dv.ei S).2)).set ox (xo true t (I3 l Dv.ei S).1)):=by
 have hoxl:=(List.getElem?_eq_some_iff.1 hox).1
 have hol:=(List.getElem?_eq_some_iff.1 ho).1
 refine ACall.body [.cell 2 27] [0,1] Tryz.func263 Tryz.ntmps263 (fun d=>?_)
 refine Z33 ?_;refine R.fin [0,1,2] ?_
 refine W.drawT [0,1,0,4,3,0,63,127,255,127,639] [1,3] [.q 1 [] [0],.s [4] (some 0) [] [],.q 1 [] [1],.s [6] (some 1) [] [],.q 2 [] []] (fun B=>(Hp.set o (if B 1=true then pr l (Dv.ei S).2 else pr l S)).set ox (if B 0=true then xo false t [] else xo true t [])) (fun _=>[Kv]) Aj (by kernel_rfl) (by simp only [Bool.false_eq_true,if_false];rw [Cp ho,Cp hox]) rfl (fun B=>by simp) ?_
 apply Y.q
 ·intro B hT hF
  exact Z79
 case hTF=>decide
 refine Y.loadUpT (o:=ox) (t':=27) (cs:=[A5 6,Ac t,A5 0,A5 0,Ac [],.slice true 6 ([].map Ae)]) (cs':=[A5 6,Ac t,A5 0,A5 0,Ac [],.slice false 6 ([].map Ae)]) Tryz.isAgg25 (fun B hB=>⟨by simp only [hB];exact gB hox,by simp [upd,List.set_set]<;>rfl,rfl⟩) ?_
 apply Y.q
 ·intro B hT hF
  exact Z79
 case hTF=>decide
 refine Y.callUp (r:=Ae (Dv.ei S).1) (o:=o) (x0:=pr l S) (x:=pr l (Dv.ei S).2) Tryz.call108 (fun B hT hF hB=>⟨by simp only [hB];exact gA ho hne,?_,rfl,D4,?_⟩) ?_
 ·simp only [upd,hB,Nat.reduceEqDiff,if_false,if_true,Bool.false_eq_true]
  exact (AG7 hne).symm
 ·simp only [hB]
  exact hcf o _ S (Ar (gA ho hne)) hi rfl
 apply Y.q
 ·intro B hT hF
  exact AAn
 case hTF=>decide
 refine Y.appendPut (tn:=[1,3]) (U:=(Hp.set o (pr l (Dv.ei S).2)).set ox (xo false t [])) (O:=[Kv]) (o:=ox) (t':=27) (cs:=[A5 6,Ac t,A5 0,A5 0,Ac [],.slice false 6 ([].map Ae)]) (by kernel_rfl) jU Tryz.type27 Tryz.sizeOf27 Tryz.sizeOf25 jU (Ar (gB hox)) ?_ ?_ ?_ (hfsz:=Tryz.sizeOf25)
 ·simp [Tryz.t27]
 ·simp [Tryz.t27]
 refine R.go ?_
 refine R.storeUpT jS (gB hox) ?_ ?_
 ·first|(rw [Pp];exact Eq)|(have:=Eq (n:=((Hp.set o (pr l (Dv.ei S).2)).set ox (xo false t [])).length) (k:=6) (o:=true) (l:=[(Dv.ei S).1]);simp only [List.map_cons,List.map_nil,Ax] at this;exact this)
 refine R.fin [0,1,2] ?_;refine W.seq ?_
 refine AW.loopC (α:=List Expr×PS) (fun r=>⟨34,A9 0 (.ptr ox 0) (A9 1 (.ro [.ptr o 0]) (A9 2 (.ptr (oid Hp.length 0) 0) (fun _=>.any))),(Hp.set o (pr l r.2)).set ox (xo true t r.1),[Kv],[],none⟩) (fun r=>ArgsAt l Dv.ei S r) (fun r=>l.length-r.2.i) (([(Dv.ei S).1],(Dv.ei S).2)) (.start (hf S hi rfl)) (StLe.of_eq (by simp [List.set_set,xo,Ax])) rfl (fun r hx=>?_)
 refine Z48 ?_
 refine R.go (h:=Q.loadUp (gA ho hne)) (hr:=?_)
 refine N4 ?_;refine G.call Tryz.call170 (fun hB=>gc l r.2 Wd o _ (Ar (gA ho hne)) hx.fact.lt hl (by decide)) ?_;refine R.go ?_;refine R.fin [0,1,2,21] ?_
 refine W.cond (fun ht21=>?_) (fun ht21=>?_)
 ·have hon:=hx.on hl ht21 hf
  have hle:=hon.2.1.le
  have hlt0:=hx.fact.lt
  refine w7 ?_;refine Z2 ?_;refine R.callUp Tryz.call171 (gA ho hne) (by simp) D4 (xp l r.2 o _ (Ar (gA ho hne)) hx.fact.lt hll) ?_;refine R.fin [0,1,2] ?_
  refine W.drawT0 [0,1,0,4,3,0,63,127,255,127,639] [1,3] [.q 1 [] [0],.s [25] (some 0) [] [],.q 1 [] [1],.s [27] (some 1) [] [],.q 2 [] []] (fun B=>(Hp.set o (if B 1=true then pr l (Dv.ei (Ao r.2)).2 else pr l (Ao r.2))).set ox (if B 0=true then xo false t r.1 else xo true t r.1)) (fun _=>[Kv]) Aj (by kernel_rfl) (by simp only [Bool.false_eq_true,if_false];exact (AG7 hne).symm) rfl (fun B=>by simp) ?_
  apply Y.q
  ·intro B hT hF
   exact Z79
  case hTF=>decide
  refine Y.loadUpT (o:=ox) (t':=27) (cs:=[A5 6,Ac t,A5 0,A5 0,Ac [],.slice true 6 (r.1.map Ae)]) (cs':=[A5 6,Ac t,A5 0,A5 0,Ac [],.slice false 6 (r.1.map Ae)]) Tryz.isAgg25 (fun B hB=>⟨by simp only [hB];exact gB hox,by simp [upd,List.set_set]<;>rfl,rfl⟩) ?_
  apply Y.q
  ·intro B hT hF
   exact Z79
  case hTF=>decide
  refine Y.callUp (r:=Ae (Dv.ei (Ao r.2)).1) (o:=o) (x0:=pr l (Ao r.2)) (x:=pr l (Dv.ei (Ao r.2)).2) Tryz.call108 (fun B hT hF hB=>⟨by simp only [hB];exact gA ho hne,?_,rfl,D4,?_⟩) ?_
  ·simp only [upd,hB,Nat.reduceEqDiff,if_false,if_true,Bool.false_eq_true]
   exact (AG7 hne).symm
  ·simp only [hB]
   exact hcf o _ (Ao r.2) (Ar (gA ho hne)) hon.1 hx.fact.nest
  apply Y.q
  ·intro B hT hF
   exact AAn
  case hTF=>decide
  refine Y.appendPut (tn:=[1,3]) (U:=(Hp.set o (pr l (Dv.ei (Ao r.2)).2)).set ox (xo false t r.1)) (O:=[Kv]) (o:=ox) (t':=27) (cs:=[A5 6,Ac t,A5 0,A5 0,Ac [],.slice false 6 (r.1.map Ae)]) (by kernel_rfl) jU Tryz.type27 Tryz.sizeOf27 Tryz.sizeOf25 jU (Ar (gB hox)) ?_ ?_ ?_ (hfsz:=Tryz.sizeOf25)
  ·have:=hx.fact.len;have:=hx.fact.lt;simp only [List.length_map,Tryz.t27];omega
  ·have:=hx.fact.len;have:=hx.fact.lt;simp only [List.length_map,Tryz.t27];omega
  refine R.go ?_
  refine R.storeUpT jS (gB hox) ?_ ?_
  ·first|(rw [Pp];exact Eq)|(have:=Eq (n:=((Hp.set o (pr l (Dv.ei S).2)).set ox (xo false t [])).length) (k:=6) (o:=true) (l:=[(Dv.ei S).1]);simp only [List.map_cons,List.map_nil,Ax] at this;exact this)
  refine R.fin [0,1,2] ?_;refine K.blN ?_
  refine K.lpN (r.1++[(Dv.ei (Ao r.2)).1],(Dv.ei (Ao r.2)).2) hon.2.2 (by show l.length-(Dv.ei (Ao r.2)).2.i<l.length-r.2.i;have:r.2.i+1≤(Dv.ei (Ao r.2)).2.i:=hle;omega) (StCut.of_eq ?_)
  simp only [show Tryz.t27.size=6 from rfl,Pp,List.set_set]
 have hout:=hx.out (by rw [ht21];simp)
 refine Z52 ?_;refine Eg ?_
 refine R.go (h:=Q.loadUpN (gB hox)) (hr:=?_)
 refine Z38 ?_;exact K.fin (V.one (V.cellN jA jS)) ⟨by rw [hout,cg];rfl,by rw [hout]⟩ (hlow:=by have:=B2 Hp.length (.mk 6 t noV r.1);rw [cg] at this;simpa using this)

/-- within, with the function that gathers a call's kids. -/
theorem AK8 (l:List Tok) (S:PS) (a:Int) (t:Str) (Dv:Fam) (o:Nat) (Hp:List AObj) (A0 A1:AObj) (l0:ObjLow 0 A0) (ho:Hp[o]? = some (pr l S)) (hi:S.i<l.length) (hl:TokEnd l) (hll:l.length≤1048576) (hnl:S.nest≤30) (hd:DeepC l Dv S.nest):
  ACall Tryz.prog 201 [.ptr o 0,A5 a,.fn (.func 263) [] [.ptr (oid Hp.length 2) 0,.ro [.ptr o 0]]] (Hp++[A0,A1,xo true t []]) (fun r H'=>r=Ae (if S.nest=30 then Am else .mk 6 t noV (T9 l a Dv.ei S).1)∧H'=Hp.set o (pr l (T9 l a Dv.ei S).2)++[A0,A1,xo true t (T9 l a Dv.ei S).1]):=by
 have hlt:=(Ad.1 ho).1
 have ho':(Hp++[A0,A1,xo true t []])[o]? = some (pr l S):=Ar ho
 by_cases h30:S.nest=30
 ·refine (ABq l S a 263 [] [.ptr (oid Hp.length 2) 0,.ro [.ptr o 0]] Am (Da S) o (Hp++[A0,A1,xo true t []]) ((Hp++[A0,A1,xo true t []]).set o (pr l (Da S))) ho' (by omega) Tryz.call263 (by simp) (As ho') rfl (fun h=>h) (fun h=>absurd h30 h)).mono fun r H' h=>?_
  have e:T9 l a Dv.ei S=([],E9 18 a S):=if_pos (by rw [h30];rfl)
  rw [e,if_pos h30]
  obtain ⟨h1,h2⟩:=h.1 h30
  exact ⟨h1,by rw [h2,Ns _ _ hlt]⟩
 have hq:=Wh (S:=Da S) hl hi (hd.ei h30).1
 refine (ABq l S a 263 [] [.ptr (oid Hp.length 2) 0,.ro [.ptr o 0]] (.mk 6 t noV (I3 l Dv.ei (Da S)).1) (I3 l Dv.ei (Da S)).2 o (Hp++[A0,A1,xo true t []]) (Hp.set o (pr l (I3 l Dv.ei (Da S)).2)++[A0,A1,xo true t (I3 l Dv.ei (Da S)).1]) ho' (by omega) Tryz.call263 (by simp) (Ar (As ho)) hq.nest (fun h y hy=>?_) (fun _ own=>?_)).mono fun r H' h=>?_
 ·rw [Ns _ _ hlt] at h
  rcases H7.1 hy with hy|hy
  ·rcases Pw hy with h1|h1
   ·obtain ⟨i,hi',rfl⟩:=P5 h1
    by_cases hio:i=o
    ·subst hio
     have:Hp[i]=pr l S:=by rw [Aa hi'] at ho;injection ho
     rw [this];exact D4
    refine h _ (m3 _ ?_)
    rw [m4]
    exact ⟨i,by rw [Cr (Ne.symm hio),Aa hi']⟩
   rw [h1];exact D4
  simp only [By,Fv,or_false] at hy
  rcases hy with rfl|rfl|rfl
  ·exact h _ (Pu _ (by simp))
  ·exact h _ (Pu _ (by simp))
  exact AG6
 ·have hoid:oid Hp.length 2≠o:=by unfold oid;omega
  have e1:(Hp++[A0,A1,xo true t []]).set o (pr l (Da S))++own=(Hp.set o (pr l (Da S))++[A0,A1,xo true t []])++own:=by rw [Ns _ _ hlt]
  rw [e1]
  have g1:((Hp.set o (pr l (Da S))++[A0,A1,xo true t []])++own)[o]? = some (pr l (Da S)):=Ar (Ar (As ho))
  have g2:((Hp.set o (pr l (Da S))++[A0,A1,xo true t []])++own)[oid Hp.length 2]? = some (xo true t []):=Ar (by
   have:=Bi (U:=Hp.set o (pr l (Da S))) (O:=[A0,A1,xo true t []]) (n:=2)
   rw [E3] at this
   exact this)
  refine (AMe l (Da S) t Dv o (oid Hp.length 2) _ hoid g1 g2 hi hl hll (hd.ei h30).1 (hd.ei h30).2).mono fun r H' h=>⟨h.1,h.2.trans ?_⟩
  rw [C2,Ns _ _ (by simpa using hlt),Cb]
  have:=F3 (U:=Hp.set o (pr l (I3 l Dv.ei (Da S)).2)) (O:=[A0,A1,xo true t []]++own) (n:=2) (x:=xo true t (I3 l Dv.ei (Da S)).1)
  rw [E3] at this
  rw [this]
  simp
 have e:T9 l a Dv.ei S=((I3 l Dv.ei (Da S)).1,Yq (I3 l Dv.ei (Da S)).2):=if_neg (by
  show ¬(((S.nest:Int)==30)=true)
  simp
  omega)
 rw [e,if_neg h30]
 obtain ⟨h1,h2⟩:=h.2 h30
 exact ⟨h1,by rw [h2,Ns _ _ (by simpa using hlt),Cb]⟩
theorem AMf (l:List Tok) (S:PS) (Dv:Fam) (t:Tok) (o:Nat) (Hp:List AObj) (ho:Hp[o]? = some (pr l S)) (hi:(Ao S).i<l.length) (hl:TokEnd l) (hll:l.length≤1048576) (hnl:S.nest≤30) (hd:DeepC l Dv S.nest):ACall Tryz.prog 260 [.ptr o 0,Ic t] Hp (fun r H'=>r=Ae (I4 l Dv t S).1∧H'=Hp.set o (pr l (I4 l Dv t S).2)):=by
 have hi0:S.i<l.length:=by have:S.i+1<l.length:=hi;omega
 have hol:=(Ad.1 ho).1
 have hkf:KFact l (Ao S) (Dp l Dv S):=Wi hl _ hi (fun h=>(hd.ei h).1)
 refine Ah [.cell 4 27] [0,1] Tryz.func260 Tryz.ntmps260 (fun d=>?_)
 refine Z1 ?_;refine Ks ?_;refine Tx ?_;refine Z1 ?_;refine A7 Tryz.call129 (AFm t.text _) ?_;refine A4 ?_;refine Vh ?_;refine Z8 ?_;refine A2 [2,3,4,5,12] ?_
 refine A3 (fun ht12=>?_) (fun ht12=>?_)
 ·have hlt0:Bv t.text<0:=by simpa using ht12
  have e:I4 l Dv t S=(Am,E9 9 t.at_ S):=if_pos hlt0
  refine Z13 ?_;refine Bk Tryz.call110 ho (by simp) D4 (r7 l S 9 t.at_ o _ (Ar ho)) ?_;refine F1 ?_;refine A2 [4] ?_;refine Z9 ?_;exact AJ9
 have hge:¬Bv t.text<0:=by simpa using ht12
 refine Z93 ?_;refine Bk Tryz.call171 ho (by simp) D4 (xp l S o _ (Ar ho) hi0 hll) ?_;refine Z16 ?_;refine A2 [2,3,4,5,6] ?_;refine Z82 ?_;refine Z16 ?_;refine A2 [2,3,4,5,6,7] ?_;refine Eg ?_;refine Pa 2 5 6 ?_;refine Z11 ?_;refine I9 ?_
 refine R.callX (up':=(Hp.set o (pr l (Ao S))).set o (pr l (Dp l Dv S).2)) (own':=[Kv,.cells 82 [A5 (Ak l S.i).kind,Ac (Ak l S.i).text,A5 (Ak l S.i).at_],xo true t.text (Dp l Dv S).1]) Tryz.call201 (by have:=AK8 l (Ao S) (Ak l S.i).at_ t.text Dv o (Hp.set o (pr l (Ao S))) Kv (.cells 82 [A5 (Ak l S.i).kind,Ac (Ak l S.i).text,A5 (Ak l S.i).at_]) n5 (As ho) hi hl hll hnl hd;rw [E3] at this;exact this) (by simp) (fun h=>ABs h D4) ?_
 refine A2 [2,3,4,5,7] ?_;refine Z2 ?_;refine Bk Tryz.call261 (As (As ho)) (by simp) D4 (AK4 l (Dp l Dv S).2 Fg o _ (Ar (As (As ho))) hkf.lt hll) ?_;refine A2 [2,3,4,5,7] ?_;refine Z48 ?_
 refine A4 (h:=Cn (As (As (As ho)))) (hr:=?_)
 refine Z46 ?_;refine Z90 ?_;refine A2 [2,3,4,7,41] ?_
 refine A3 (fun ht41=>?_) (fun ht41=>?_)
 ·have e:I4 l Dv t S=(Am,E9 8 t.at_ (Fk l Fg (Dp l Dv S).2)):=by
   unfold I4
   rw [if_neg hge,if_pos (by have:=ht41;simp only [B6] at this;exact this)]
  refine Z13 ?_;refine Bk Tryz.call110 (As (As (As ho))) (by simp) D4 (r7 l (Fk l Fg (Dp l Dv S).2) 8 t.at_ o _ (Ar (As (As (As ho))))) ?_;refine F1 ?_;refine A2 [4] ?_;refine Z9 ?_;exact A8 (Ai (Az jA jS)) ⟨by rw [e,Ax],by rw [e,Cb,Cb,Cb]⟩ (hlow:=low_agg _)
 have e:I4 l Dv t S=(.mk 6 t.text noV (Dp l Dv S).1,(Fk l Fg (Dp l Dv S).2)):=by
  unfold I4
  rw [if_neg hge,if_neg (by have:=ht41;simp only [B6] at this;rw [I7] at this;exact this)]
 refine Z93 ?_;refine F1 ?_;refine Z27 ?_;exact A8 (Ai (Az jA jS)) ⟨by rw [e,cg];rfl,by rw [e,Cb,Cb]⟩ (hlow:=by have:=B2 Hp.length (.mk 6 t.text noV (Dp l Dv S).1);rw [cg] at this;simpa using this)

theorem rl {l:List Tok} (hl:TokEnd l) (hll:l.length≤1048576) (n:Nat) (Dv:Fam) (hn:n≤30) (hd:DeepC l Dv n):ge l Dv n:=fun o Hp S t ho hi hS _ _=>by
 subst hS
 exact AMf l S Dv t o Hp ho hi hl hll hn hd
/-! Queries: what query.Parse, Print, Right, Same answer. -/
structure Qry where
 all:Bool
 cols:List Str
 whr:Expr
 lim:Int
/-- A parser: where it is, and the first fault. -/
structure QS where
 i:Nat
 code:Int
 at_:Int
def I6 (l:List Tok) (e:Int) (S:QS):QS:=if S.code==0 then ⟨S.i,e,((Ak l S.i).at_:Int)⟩ else S
def isQ (l:List Tok) (s:Str) (S:QS):Bool:=((S.code==0)&&(((Ak l S.i).kind==5) || ((Ak l S.i).kind==2)))&&((Ak l S.i).text==s)
def Eh (S:QS):QS:=⟨S.i+1,S.code,S.at_⟩
def gw (l:List Tok) (s:Str) (S:QS):QS:=if isQ l s S then Eh S else S
def Qo (l:List Tok) (s:Str) (S:QS):QS:=if isQ l s S then Eh S else I6 l 8 S
def Gu (l:List Tok) (r:Qry×QS):Qry×QS:=
 if r.2.code != 0 then r else if (Ak l r.2.i).kind != 1 then (r.1,I6 l 8 r.2) else if (r.1.cols.length:Int)==12 then (r.1,I6 l 3 r.2)
 else (⟨r.1.all,r.1.cols++[(Ak l r.2.i).text],r.1.whr,r.1.lim⟩,Eh r.2)
def K7 (l:List Tok):Nat→Qry×QS→Qry×QS
 | 0,r=>r
 | n+1,r=>if isQ l [44] r.2 then K7 l n (Gu l (r.1,Eh r.2)) else r
def Kw (b:Bool) (q:Qry):Qry:=⟨b,q.cols,q.whr,q.lim⟩
def M3 (l:List Tok) (r:Qry×QS):Qry×QS:=if isQ l [42] r.2 then (Kw true r.1,Eh r.2) else K7 l l.length (Gu l (Kw false r.1,r.2))
def Kx:Str:=[119,104,101,114,101]
def K8:Str:=[108,105,109,105,116]
def Qp:Str:=[115,101,108,101,99,116]
def J2 (l:List Tok) (r:Qry×QS):Qry×QS:=
 if isQ l Kx r.2 then
  if (atM l (r.2.i+1)).2.2.1 != 0 then (r.1,⟨r.2.i+1,(atM l (r.2.i+1)).2.2.1,(atM l (r.2.i+1)).2.2.2⟩)
  else (⟨r.1.all,r.1.cols,(atM l (r.2.i+1)).1,r.1.lim⟩,⟨(atM l (r.2.i+1)).2.1.toNat,r.2.code,r.2.at_⟩)
 else r
/-- The number that strconv.Atoi hands back. -/
def Tb (s:Str):Int:=match Lib.atoiAll s with|.ok v=>v|.range=>Lib.atoiSat s|_=>0
def I1 (l:List Tok) (r:Qry×QS):Qry×QS:=
 if isQ l K8 r.2 then
  if (Ak l (r.2.i+1)).kind != 3 then (r.1,I6 l 8 (Eh r.2))
  else if decide ((100000:Int)<Tb (Ak l (r.2.i+1)).text) then (r.1,I6 l 3 (Eh r.2))
  else (⟨r.1.all,r.1.cols,r.1.whr,Tb (Ak l (r.2.i+1)).text⟩,Eh (Eh r.2))
 else r
def gx:Qry:=⟨false,[],Am,0⟩
def AK9 (l:List Tok) (S:QS):QS:=if (Ak l S.i).kind != 0 then I6 l 8 S else S
def nd (l:List Tok):Qry×QS:=
 let r:=I1 l (J2 l (M3 l (⟨false,[],Am, -1⟩,Qo l Qp ⟨0,0,0⟩)))
 (r.1,AK9 l (Qo l [59] r.2))
def nf (l:List Tok):Qry×Int×Int:=if (nd l).2.code != 0 then (gx,(nd l).2.code,(nd l).2.at_) else ((nd l).1,0,0)
def Ky (s:Str):Qry×Int×Int:=if (Bp s).2.1 != 0 then (gx,(Bp s).2.1,((Bp s).2.2:Int)) else nf (Bp s).1
def Fa (q:Qry):Bool := !(eqE q.whr Am)
def Dq (q:Qry):Bool:=
 if (((q.all != ((q.cols.length:Int)==0)) || decide ((12:Int)<(q.cols.length:Int))) || decide (q.lim < -1)) || decide ((100000:Int)<q.lim) then false
 else (q.cols.all Fj)&&(!(Fa q) || Cz q.whr)
def Sc:List Str→Str
 | []=>[]
 | a::r=>[44,32]++a++Sc r
def Yy (c:List Str):Str:=(Sc c).drop 2
def AG8:Str:=Qp++[32]
def AG9:Str:=[32]++Kx++[32]
def AGa:Str:=[32]++K8++[32]
def Pq (q:Qry):Str:=
 AG8++(if q.all then [42] else Yy q.cols)++(if Fa q then AG9++Ay q.whr else [])++(if q.lim != -1 then AGa++Lib.itoa q.lim else [])++[59]
/-! The words of what is printed. -/
set_option maxRecDepth 8000
/-! The document's kinds of trees are infer's. -/
def Ek (k w:Int):Bool:=(k==0) || (k==w)
def Fu (o:Int) (t:Str) (ks:List Int):Int×Bool:=
 if o==3 then (1,Ek (ks.getD 0 0) 1) else if o==4 then (3,Ek (ks.getD 0 0) 3)
 else if (o==5)&&((t==[111,114]) || (t==[97,110,100])) then (3,Ek (ks.getD 0 0) 3&&Ek (ks.getD 1 0) 3)
 else if (o==5)&&(Ba t==3) then (3,(ks.getD 0 0==0) || Ek (ks.getD 1 0) (ks.getD 0 0))
 else if (o==5)&&(t==[38]) then (2,Ek (ks.getD 0 0) 2&&Ek (ks.getD 1 0) 2)
 else if o==5 then (1,Ek (ks.getD 0 0) 1&&Ek (ks.getD 1 0) 1)
 else if (t==[108,101,110]) || (t==[110,117,109]) then (1,Ek (ks.getD 0 0) 2)
 else if t==[115,116,114] then (2,Ek (ks.getD 0 0) 1)
 else if (t==[108,101,102,116]) || (t==[114,105,103,104,116]) then (2,Ek (ks.getD 0 0) 2&&Ek (ks.getD 1 0) 1)
 else if t==[105,115,110,117,108,108] then (3,true)
 else (if ks.getD (ks.length-2) 0==0 then ks.getD (ks.length-1) 0 else ks.getD (ks.length-2) 0,
  ((ks.getD (ks.length-2) 0==0) || Ek (ks.getD (ks.length-1) 0) (ks.getD (ks.length-2) 0))&&((t==[110,118,108]) || Ek (ks.getD 0 0) 3))
def Sd (o:Int) (t:Str) (ks:List Int):Int×Int:=if (Fu o t ks).2 then ((Fu o t ks).1,0) else (0,10)
theorem O9 (w k:Int) (hw:(w==0)=false):(Ez w k).2=Ek k w:=by
 unfold Ez Ek
 rw [hw]
 simp only [Af,if_false]
 by_cases h:(k==0)=true
 ·simp [h]
 have h':(k==0)=false:=by simpa using h
 rw [h']
 by_cases h2:w=k
 ·subst h2;simp
 have:¬k=w:=fun e=>h2 e.symm
 simp [h2,this]
theorem AC3 (t:Str):(Ba t==3)=((((((t==[61]) || (t==[33,61])) || (t==[60])) || (t==[60,61])) || (t==[62])) || (t==[62,61])):=by
 by_cases h:t∈[[61],[33,61],[60],[60,61],[62],[62,61]]
 ·simp only [By,J7,or_false] at h
  rcases h with rfl|rfl|rfl|rfl|rfl|rfl<;>rfl
 have e:((((((t==[61]) || (t==[33,61])) || (t==[60])) || (t==[60,61])) || (t==[62])) || (t==[62,61]))=false:=by
  simp only [By,J7,or_false,not_or] at h
  simp [h]
 rw [e]
 unfold Ba
 split
 ·rename_i i hi
  rw [R9] at hi
  obtain ⟨hl,hc,_⟩:=hi
  by_cases h3:i=3
  ·subst h3
   exact (h (by simp [levels] at hc;simpa using hc)).elim
  have:¬((i:Int)=3):=by omega
  simp [this]
 rfl
theorem ng {s:Sign} {a w:Int} (hk:s.kids=[w]) (hw:(w==0)=false) (h1:(w == -1)=false) (h2:(w == -2)=false) (ho:(s.own == -1)=false):J0 s [a]=if Ek a w then (s.own,0) else (0,10):=by
 unfold J0
 rw [hk]
 simp only [Ft,h1,h2,Af,if_false,O9 w a hw]
 cases Ek a w<;>simp [ho]
theorem nh {s:Sign} {a b v w:Int} (hk:s.kids=[v,w]) (hv:(v==0)=false) (hv1:(v == -1)=false) (hv2:(v == -2)=false) (hw:(w==0)=false) (h1:(w == -1)=false) (h2:(w == -2)=false) (ho:(s.own == -1)=false):J0 s [a,b]=if Ek a v&&Ek b w then (s.own,0) else (0,10):=by
 unfold J0
 rw [hk]
 simp only [Ft,hv1,hv2,h1,h2,Af,if_false,O9 w b hw,O9 v a hv]
 cases Ek a v<;>cases Ek b w<;>simp [ho]
theorem AE6 {s:Sign} {a b:Int} (hk:s.kids=[-1, -1]):J0 s [a,b]=if (a==0) || Ek b a then (if s.own == -1 then (if a==0 then b else a,0) else (s.own,0)) else (0,10):=by
 unfold J0 Ek
 rw [hk]
 simp only [Ft,Ez]
 by_cases ha:a=0
 ·subst ha;simp
 by_cases hb:b=0
 ·subst hb;simp [ha]
 by_cases he:a=b
 ·subst he;simp [ha]
 have:¬b=a:=fun e=>he e.symm
 simp [ha,hb,he,this]
theorem AGb {s:Sign} {x a b:Int} (hk:s.kids=[3, -1, -1]):J0 s [x,a,b]=if ((a==0) || Ek b a)&&Ek x 3 then (if s.own == -1 then (if a==0 then b else a,0) else (s.own,0)) else (0,10):=by
 unfold J0 Ek
 rw [hk]
 simp only [Ft,O9 3 x rfl,Ek]
 simp only [Ez]
 by_cases hx:((x==0) || (x==3))=true
 ·by_cases ha:a=0
  ·subst ha;simp [hx]
  by_cases hb:b=0
  ·subst hb;simp [ha,hx]
  by_cases he:a=b
  ·subst he;simp [ha,hx]
  have:¬b=a:=fun e=>he e.symm
  simp [ha,hb,he,this,hx]
 simp [hx]
theorem AKa {s:Sign} {x:Int} (hk:s.kids=[-2]) (ho:(s.own == -1)=false):J0 s [x]=(s.own,0):=by
 unfold J0
 rw [hk]
 simp [Ft,ho]
theorem gy {ks:List Int} (h:ks.length=1):∃a,ks=[a]:=by
 match ks,h with
 | [a],_=>exact ⟨a,rfl⟩
theorem ye {ks:List Int} (h:ks.length=2):∃a b,ks=[a,b]:=by
 match ks,h with
 | [a,b],_=>exact ⟨a,b,rfl⟩
theorem AKb {ks:List Int} (h:ks.length=3):∃a b c,ks=[a,b,c]:=by
 match ks,h with
 | [a,b,c],_=>exact ⟨a,b,c,rfl⟩
theorem lg (t:Str) (a b:Int):Sd 5 t [a,b]=J0 (Cm t) [a,b]:=by
 unfold Sd Fu Cm
 simp only [AC3,show ((5:Int)==3)=false from rfl,show ((5:Int)==4)=false from rfl,show ((5:Int)==5)=true from rfl,Cw,Af,if_false]
 by_cases h1:((t==[111,114]) || (t==[97,110,100]))=true
 ·simp only [h1,if_true]
  rw [nh (v:=3) (w:=3) rfl rfl rfl rfl rfl rfl rfl rfl]
  rfl
 simp only [h1,if_false,Af]
 by_cases h2:((((((t==[61]) || (t==[33,61])) || (t==[60])) || (t==[60,61])) || (t==[62])) || (t==[62,61]))=true
 ·simp only [h2,if_true]
  rw [AE6 rfl]
  rfl
 simp only [h2,if_false,Af]
 by_cases h3:(t==[38])=true
 ·simp only [h3,if_true]
  rw [nh (v:=2) (w:=2) rfl rfl rfl rfl rfl rfl rfl rfl]
  rfl
 simp only [h3,if_false,Af,if_true]
 rw [nh (v:=1) (w:=1) rfl rfl rfl rfl rfl rfl rfl rfl]
 rfl
theorem lh {t:Str} {ks:List Int} (h:(D5 t).kids.length=ks.length):Sd 6 t ks=J0 (D5 t) ks:=by
 unfold Sd Fu
 simp only [show ((6:Int)==3)=false from rfl,show ((6:Int)==4)=false from rfl,show ((6:Int)==5)=false from rfl,Dy,Af,if_false]
 unfold D5 at h ⊢
 by_cases h1:((t==[108,101,110]) || (t==[110,117,109]))=true
 ·simp only [h1,if_true] at h ⊢
  obtain ⟨a,rfl⟩:=gy h.symm
  rw [ng (w:=2) rfl rfl rfl rfl rfl]
  rfl
 simp only [h1,if_false,Af] at h ⊢
 by_cases h2:(t==[115,116,114])=true
 ·simp only [h2,if_true] at h ⊢
  obtain ⟨a,rfl⟩:=gy h.symm
  rw [ng (w:=1) rfl rfl rfl rfl rfl]
  rfl
 simp only [h2,if_false,Af] at h ⊢
 by_cases h3:((t==[108,101,102,116]) || (t==[114,105,103,104,116]))=true
 ·simp only [h3,if_true] at h ⊢
  obtain ⟨a,b,rfl⟩:=ye h.symm
  rw [nh (v:=2) (w:=1) rfl rfl rfl rfl rfl rfl rfl rfl]
  rfl
 simp only [h3,if_false,Af] at h ⊢
 by_cases h4:(t==[105,115,110,117,108,108])=true
 ·simp only [h4,if_true] at h ⊢
  obtain ⟨a,rfl⟩:=gy h.symm
  rw [AKa rfl rfl]
 simp only [h4,if_false,Af] at h ⊢
 by_cases h5:(t==[110,118,108])=true
 ·simp only [h5,if_true] at h ⊢
  obtain ⟨a,b,rfl⟩:=ye h.symm
  rw [AE6 rfl]
  simp
 simp only [h5,if_false,Af] at h ⊢
 obtain ⟨a,b,c,rfl⟩:=AKb h.symm
 rw [AGb rfl]
 simp
theorem AC4 {e:Expr} (h:Cu e=true) (h1:(e.op==1)=false) (h2:(e.op==2)=false) {ks:List Int} (hl:ks.length=e.kids.length):Sd e.op e.text ks=J0 (I5 e.op e.text) ks:=by
 have hs:=L8 h h1 h2
 unfold I5 at hs ⊢
 unfold Cu at h
 rw [h1,h2] at h
 simp only [Af,if_false] at h
 by_cases h3:e.op=3
 ·rw [h3] at hs ⊢
  simp only [beq_self_eq_true,if_true] at hs ⊢
  obtain ⟨a,rfl⟩:=gy (by rw [hl,←hs];rfl)
  rw [ng (w:=1) rfl rfl rfl rfl rfl]
  rfl
 by_cases h4:e.op=4
 ·rw [h4] at hs ⊢
  obtain ⟨a,rfl⟩:=gy (by rw [hl,←hs];rfl)
  rw [show (if ((4:Int)==3)=true then (⟨[1],1⟩:Sign) else if ((4:Int)==4)=true then ⟨[3],3⟩ else if ((4:Int)==5)=true then Cm e.text else D5 e.text)=⟨[3],3⟩ from rfl,ng (w:=3) rfl rfl rfl rfl rfl]
  rfl
 by_cases h5:e.op=5
 ·rw [h5] at hs ⊢
  rw [show (if ((5:Int)==3)=true then (⟨[1],1⟩:Sign) else if ((5:Int)==4)=true then ⟨[3],3⟩ else if ((5:Int)==5)=true then Cm e.text else D5 e.text)=Cm e.text from rfl] at hs ⊢
  obtain ⟨a,b,rfl⟩:=ye (by rw [hl,←hs,Ph])
  exact lg _ _ _
 have h6:e.op=6:=by
  simp [h3,h4,h5] at h
  exact h.1
 rw [h6] at hs ⊢
 rw [show (if ((6:Int)==3)=true then (⟨[1],1⟩:Sign) else if ((6:Int)==4)=true then ⟨[3],3⟩ else if ((6:Int)==5)=true then Cm e.text else D5 e.text)=D5 e.text from rfl] at hs ⊢
 exact lh (by rw [hs,hl])
/-! Moves: what mig.Right, sound.* and the document's layers 18, 19 answer. -/
/-! Columns behind moves. -/
def P2 (e:Expr) (c:List Col) (w:Int):Bool:=((Db e c).2==0)&&(((Db e c).1==w) || ((Db e c).1==0))
def li (e:Expr) (c:List Col) (w:Int):Int:=if (Db e c).2 != 0 then (Db e c).2 else if !P2 e c w then 10 else 0
set_option maxRecDepth 4000
/-! What query.Check, query.Run answer. -/
def D7 (q:Qry) (c:List Col):Int:=
 if !Dq q || !N9 c then 1 else if q.cols.any (fun s=>decide (Co s c<0)) then 9 else if !Fa q then 0
 else if (Db q.whr c).2 != 0 then (Db q.whr c).2 else if !P2 q.whr c 3 then 10 else 0
def Tc (r:Rs):Int:=if (((r.2==0)&&(r.1.kind != 0))&&(r.1.kind != 3))=true then 10 else r.2
def Yz (r:Rs):Bool:=(Tc r==0)&&(((r.1.kind==3)&&(r.1.n==1))&&(r.1.s==[]))
def C1 (q:Qry) (c:List Col) (l:List Val):Bool×Int:=if !Fb c l then (false,1) else if !Fa q then (true,0) else (Yz (Fx q.whr c l),Tc (Fx q.whr c l))
def Lc (q:Qry) (c:List Col) (x:Row):Row:=⟨x.key,if q.all then x.l else q.cols.map fun s=>x.l.getD (Co s c).toNat noV⟩
def Kb (q:Qry) (c:List Col):List Row→List Row→List Row×Int
 | [],o=>(o,0)
 | x::r,o=>if (C1 q c x.l).2 != 0 then ([],(C1 q c x.l).2) else if (C1 q c x.l).1 then
   (if ((o.length+1:Nat):Int)==q.lim then (o++[Lc q c x],0) else Kb q c r (o++[Lc q c x])) else Kb q c r o
def Ok (q:Qry) (c:List Col) (rows:List Row):List Row×Int:=if (D7 q c != 0) || (q.lim==0) then ([],D7 q c) else Kb q c rows []
/-! A limit cuts the answer. -/
/-! Some of all. -/
theorem rm {q:Qry} {c:List Col} {l:List Val} (h:((C1 q c l).2 != 0)=false):Fb c l=true:=by
 cases hr:Fb c l with
 | true=>rfl
 | false=>simp [C1,hr] at h
abbrev Wq (s:Sign):AV:=.agg [.slice false 1 (s.kids.map A5),A5 s.own]
theorem yf {m:Sign} {a o:Int} (h:m=⟨[a],o⟩):AV.agg [.slice false 1 [A5 a],A5 o]=Wq m:=by rw [h];rfl
theorem yg {m:Sign} {a b o:Int} (h:m=⟨[a,b],o⟩):AV.agg [.slice false 1 [A5 a,A5 b],A5 o]=Wq m:=by rw [h];rfl
theorem yh {m:Sign} {a b c o:Int} (h:m=⟨[a,b,c],o⟩):AV.agg [.slice false 1 [A5 a,A5 b,A5 c],A5 o]=Wq m:=by rw [h];rfl
theorem AMg (s:Str) (Hp:List AObj):AFun Tryz.prog 131 [Ac s] Hp (Wq (Cm s)):=by
 refine Ah [.cell 2 144] [0] Tryz.func131 Tryz.ntmps131 (fun d=>?_)
 refine Z75 ?_;refine Z23 ?_;refine A2 [2,3] ?_;refine Et ?_
 refine Ht ⟨24,A9 2 (.ptr (oid Hp.length 0) 0) (A9 3 (Ac s) (A9 4 (At ((s==[111,114]) || (s==[97,110,100]))) (fun _=>.any))),Hp,[.cells 144 [.nil,A5 0]],[],none⟩ ?_ ?_
 ·refine Z1 ?_;refine Tx ?_
  refine A3 (fun ht4=>?_) (fun ht4=>?_)
  ·refine Dg [2,3,4] ?_;exact Z77
  refine Z28 ?_;refine Tx ?_;exact Z30
 refine A3 (fun ht4=>?_) (fun ht4=>?_)
 ·refine du ?_;exact Z59
 refine Ht ⟨24,A9 2 (.ptr (oid Hp.length 0) 0) (A9 3 (Ac s) (A9 9 (At ((((((s==[61]) || (s==[33,61])) || (s==[60])) || (s==[60,61])) || (s==[62])) || (s==[62,61]))) (fun _=>.any))),Hp,[.cells 144 [.nil,A5 0]],[],none⟩ ?_ ?_
 ·refine pk ?_
  refine A3 (fun ht9=>?_) (fun ht9=>?_)
  ·exact ve
  refine pk ?_
  refine A3 (fun ht9=>?_) (fun ht9=>?_)
  ·exact ve
  refine pk ?_
  refine A3 (fun ht9=>?_) (fun ht9=>?_)
  ·exact ve
  refine pk ?_
  refine A3 (fun ht9=>?_) (fun ht9=>?_)
  ·exact ve
  refine pk ?_
  refine A3 (fun ht9=>?_) (fun ht9=>?_)
  ·exact ve
  refine Z28 ?_;refine A2 [2,3,9] ?_;exact Z30
 refine A3 (fun ht9=>?_) (fun ht9=>?_)
 ·refine du ?_;exact Z59
 refine Z1 ?_;refine A2 [2,18] ?_
 refine A3 (fun ht18=>?_) (fun ht18=>?_)
 ·refine du ?_;exact Z59
 refine Z18 ?_;refine du ?_;exact AJa
theorem AMh (s:Str) (Hp:List AObj):AFun Tryz.prog 132 [Ac s] Hp (Wq (D5 s)):=by
 refine Ah [.cell 2 144] [0] Tryz.func132 Tryz.ntmps132 (fun d=>?_)
 refine Z75 ?_;refine Z23 ?_;refine A2 [2,3] ?_;refine Et ?_
 refine Ht ⟨28,A9 2 (.ptr (oid Hp.length 0) 0) (A9 3 (Ac s) (A9 4 (At ((s==[108,101,110]) || (s==[110,117,109]))) (fun _=>.any))),Hp,[.cells 144 [.nil,A5 0]],[],none⟩ ?_ ?_
 ·refine Z1 ?_;refine Tx ?_
  refine A3 (fun ht4=>?_) (fun ht4=>?_)
  ·refine Dg [2,3,4] ?_;exact Z77
  refine Z28 ?_;refine Tx ?_;exact Z30
 refine A3 (fun ht4=>?_) (fun ht4=>?_)
 ·exact vm
 refine pk ?_
 refine A3 (fun ht9=>?_) (fun ht9=>?_)
 ·exact vm
 refine Ht ⟨28,A9 2 (.ptr (oid Hp.length 0) 0) (A9 3 (Ac s) (A9 13 (At ((s==[108,101,102,116]) || (s==[114,105,103,104,116]))) (fun _=>.any))),Hp,[.cells 144 [.nil,A5 0]],[],none⟩ ?_ ?_
 ·refine Z1 ?_;refine A2 [2,3,13] ?_
  refine A3 (fun ht13=>?_) (fun ht13=>?_)
  ·refine Dg [2,3,13] ?_;exact Z77
  refine Z28 ?_;refine A2 [2,3,13] ?_;exact Z30
 refine A3 (fun ht13=>?_) (fun ht13=>?_)
 ·exact vm
 refine Z1 ?_;refine A2 [2,3,18] ?_
 refine A3 (fun ht18=>?_) (fun ht18=>?_)
 ·exact vm
 refine Z1 ?_;refine A2 [2,22] ?_
 refine A3 (fun ht22=>?_) (fun ht22=>?_)
 ·exact vm
 refine Z18 ?_;refine du ?_;exact AJb
theorem c96 (e:Expr) (Hp:List AObj):AFun Tryz.prog 96 [Ae e] Hp (Wq (I5 e.op e.text)):=by
 refine Ah [.cell 2 144] [0] Tryz.func96 Tryz.ntmps96 (fun d=>?_)
 refine Z2 ?_;refine Ks ?_;refine A2 [1,2] ?_;refine Z8 ?_;refine A2 [1,2,4] ?_;refine Z91 ?_;refine A2 [1,2,4,5] ?_
 refine A3 (fun ht5=>?_) (fun ht5=>?_)
 ·refine du ?_;exact AEn
 refine Z1 ?_;refine A2 [1,2,4,9] ?_
 refine A3 (fun ht9=>?_) (fun ht9=>?_)
 ·refine du ?_;exact AEn
 refine Z1 ?_;refine A2 [1,2,13] ?_
 refine A3 (fun ht13=>?_) (fun ht13=>?_)
 ·refine Z1 ?_;refine A7 Tryz.call131 (AMg e.text _) ?_;refine Z38 ?_;exact AEn
 refine bi ?_;refine A7 Tryz.call132 (AMh e.text _) ?_;refine Z38 ?_;exact AJc

theorem AKc (a b:Int) (Hp:List AObj):AFun Tryz.prog 133 [A5 a,A5 b] Hp (.tup [A5 (Ez a b).1,At (Ez a b).2]):=by
 refine Ah [.tmp 4,.tmp 5] [0,1] Tryz.func133 Tryz.ntmps133 (fun d=>?_)
 refine jp ?_;refine Z19 ?_;refine Z13 ?_;refine A2 [0,1,6] ?_
 refine A3 (fun ht6=>?_) (fun ht6=>?_)
 ·refine Z13 ?_;exact AHy
 refine eg ?_;refine A2 [0,10] ?_
 refine A3 (fun ht10=>?_) (fun ht10=>?_)
 ·refine Z13 ?_;exact AHy
 refine bi ?_;refine Z17 ?_;exact AJd

structure FitAt (s:Sign) (ks:List Int) (x:Nat×Int):Prop where
 le:x.1≤ks.length
 eq:Ft s.kids ks 0=Ft (s.kids.drop x.1) (ks.drop x.1) x.2
theorem FitAt.step {s:Sign} {ks:List Int} {x:Nat×Int} (h:FitAt s ks x) (hk:x.1<ks.length) (hs:x.1<s.kids.length):Ft s.kids ks 0=(if s.kids[x.1] == -2 then Ft (s.kids.drop (x.1+1)) (ks.drop (x.1+1)) x.2 else if s.kids[x.1] == -1 then (if (Ez x.2 ks[x.1]).2 then Ft (s.kids.drop (x.1+1)) (ks.drop (x.1+1)) (Ez x.2 ks[x.1]).1 else none) else if (Ez s.kids[x.1] ks[x.1]).2 then Ft (s.kids.drop (x.1+1)) (ks.drop (x.1+1)) x.2 else none):=by
 rw [h.eq,Gx hk,Gx hs,Ft]
theorem FitAt.skip {s:Sign} {ks:List Int} {x:Nat×Int} (h:FitAt s ks x) (hk:x.1<ks.length) (hs:x.1<s.kids.length) (h2:(s.kids[x.1] == -2)=true):FitAt s ks (x.1+1,x.2):=⟨hk,by rw [h.step hk hs,if_pos h2]⟩
theorem FitAt.same {s:Sign} {ks:List Int} {x:Nat×Int} (h:FitAt s ks x) (hk:x.1<ks.length) (hs:x.1<s.kids.length) (h2:(s.kids[x.1] == -2)=false) (h1:(s.kids[x.1] == -1)=true) (hm:(Ez x.2 ks[x.1]).2=true):FitAt s ks (x.1+1,(Ez x.2 ks[x.1]).1):=⟨hk,by rw [h.step hk hs,if_neg (by rw [h2];simp),if_pos h1,if_pos hm]⟩
theorem FitAt.want {s:Sign} {ks:List Int} {x:Nat×Int} (h:FitAt s ks x) (hk:x.1<ks.length) (hs:x.1<s.kids.length) (h2:(s.kids[x.1] == -2)=false) (h1:(s.kids[x.1] == -1)=false) (hm:(Ez s.kids[x.1] ks[x.1]).2=true):FitAt s ks (x.1+1,x.2):=⟨hk,by rw [h.step hk hs,if_neg (by rw [h2];simp),if_neg (by rw [h1];simp),if_pos hm]⟩
theorem FitAt.bad {s:Sign} {ks:List Int} {x:Nat×Int} (h:FitAt s ks x) (hk:x.1<ks.length) (hs:x.1<s.kids.length) (h2:(s.kids[x.1] == -2)=false) (hm:(if s.kids[x.1] == -1 then (Ez x.2 ks[x.1]).2 else (Ez s.kids[x.1] ks[x.1]).2)=false):J0 s ks=(0,10):=by
 unfold J0
 rw [h.step hk hs,if_neg (by rw [h2];simp)]
 split at hm
 ·rename_i h1
  rw [if_pos h1,if_neg (by rw [hm];simp)]
 rename_i h1
 rw [if_neg h1,if_neg (by rw [hm];simp)]
theorem FitAt.out {s:Sign} {ks:List Int} {x:Nat×Int} (h:FitAt s ks x) (hk:ks.length≤x.1):J0 s ks=if s.own == -1 then (x.2,0) else (s.own,0):=by
 unfold J0
 rw [h.eq,R7 hk]
 cases s.kids.drop x.1<;>rfl
theorem c97 (s:Sign) (ks:List Int) (hks:ks.length≤s.kids.length) (hk2:ks.length≤1048576) (Hp:List AObj):AFun Tryz.prog 97 [Wq s,.slice false 1 (ks.map A5)] Hp (.tup [A5 (J0 s ks).1,A5 (J0 s ks).2]):=by
 refine Ah [.tmp 4,.tmp 5] [0,1] Tryz.func97 Tryz.ntmps97 (fun d=>?_)
 refine vt ?_;refine js ?_;refine A2 [1,2,6] ?_;refine Z32 ?_;refine qc ?_
 refine Bh (α:=Nat×Int) (fun x=>⟨49,A9 2 (.ro [.slice false 1 (s.kids.map A5),A5 s.own]) (A9 6 (.ptr (oid Hp.length 0) 0) (A9 13 (.slice false 1 (ks.map A5)) (A9 14 (A5 (ks.length:Nat)) (A9 15 (A5 (x.1:Nat)) (fun _=>.any))))),Hp,[.cells 3 [A5 x.2]],[],none⟩) (fun x=>FitAt s ks x) (fun x=>ks.length-x.1) ((0,0)) ⟨Av _,rfl⟩ (Bc (by simp)) rfl (fun x hx=>?_)
 refine Z2 ?_;refine A2 [2,6,13,14,15,16] ?_
 refine Gz (fun ht16=>?_) (fun ht16=>?_)
 ·have hlt:x.1<ks.length:=by simpa using ht16
  have hls:x.1<s.kids.length:=by omega
  refine Xp ?_
  refine A4 (h:=Ag (x.1) (A5 ks[x.1]) (fun _=>B7 hlt)) (hr:=?_)
  refine Z11 ?_;refine A2 [2,6,7,8,13,14,15] ?_;refine Z13 ?_
  refine A4 (h:=Ag (x.1) (A5 s.kids[x.1]) (fun _=>B7 hls)) (hr:=?_)
  refine ju ?_;refine A2 [2,6,8,9,13,14,15] ?_;refine Z8 ?_;refine A2 [2,6,8,9,13,14,15,26] ?_
  refine A3 (fun ht26=>?_) (fun ht26=>?_)
  ·refine Dg [2,6,13,14,15] ?_;refine Z36 ?_;refine K.blE ?_;refine Ef ?_;refine Z28 ?_;refine qc ?_
   first|(refine B5 (x.1+1,x.2) (hx.skip hlt hls ht26) (by show ks.length-(x.1+1)<ks.length-x.1;omega) ?_;exact E5 (own:=[.cells 3 [A5 x.2]]) (fun _=>.refl _) (by repeat (first|exact C5|refine C4 (by first|(simp [or_imp,forall_and];done)|(simp [oid]<;>omega)) ?_)) (by intro y hy;rw [Ck.1 hy];intro z hz;rw [Ck.1 hz];simp) (by simp))|(refine B5 (x.1+1,(Ez x.2 ks[x.1]).1) (hx.same hlt hls ht26 ht28 (by simpa using ht38)) (by show ks.length-(x.1+1)<ks.length-x.1;omega) ?_;exact E5 (own:=[.cells 3 [A5 (Ez x.2 ks[x.1]).1]]) (fun _=>.refl _) (by repeat (first|exact C5|refine C4 (by first|(simp [or_imp,forall_and];done)|(simp [oid]<;>omega)) ?_)) (by intro y hy;rw [Ck.1 hy];intro z hz;rw [Ck.1 hz];simp) (by simp))|(refine B5 (x.1+1,x.2) (hx.want hlt hls ht26 ht28 (by simpa using ht38)) (by show ks.length-(x.1+1)<ks.length-x.1;omega) ?_;exact E5 (own:=[.cells 3 [A5 x.2]]) (fun _=>.refl _) (by repeat (first|exact C5|refine C4 (by first|(simp [or_imp,forall_and];done)|(simp [oid]<;>omega)) ?_)) (by intro y hy;rw [Ck.1 hy];intro z hz;rw [Ck.1 hz];simp) (by simp))
  refine Z93 ?_;refine A2 [2,6,8,9,10,13,14,15] ?_;refine Z8 ?_;refine A2 [2,6,8,10,13,14,15,28] ?_
  refine A3 (fun ht28=>?_) (fun ht28=>?_)
  ·refine Z43 ?_;refine A2 [2,6,8,10,13,14,15] ?_;refine Ef ?_;refine Z20 ?_;refine A7 Tryz.call133 (AKc _ _ _) ?_;refine Z86 ?_;refine A2 [2,6,10,11,12,13,14,15] ?_;refine Z8 ?_;refine A2 [2,6,10,11,13,14,15,38] ?_
   refine A3 (fun ht38=>?_) (fun ht38=>?_)
   ·have hbad:=hx.bad hlt hls ht26 (by first|(rw [if_pos ht28];simpa using ht38)|(rw [if_neg (by rw [ht28];simp)];simpa using ht38))
    refine px ?_;exact AI8
   refine Z3 ?_;refine AAv ?_;refine qc ?_;refine jv ?_;refine qc ?_
   first|(refine B5 (x.1+1,x.2) (hx.skip hlt hls ht26) (by show ks.length-(x.1+1)<ks.length-x.1;omega) ?_;exact E5 (own:=[.cells 3 [A5 x.2]]) (fun _=>.refl _) (by repeat (first|exact C5|refine C4 (by first|(simp [or_imp,forall_and];done)|(simp [oid]<;>omega)) ?_)) (by intro y hy;rw [Ck.1 hy];intro z hz;rw [Ck.1 hz];simp) (by simp))|(refine B5 (x.1+1,(Ez x.2 ks[x.1]).1) (hx.same hlt hls ht26 ht28 (by simpa using ht38)) (by show ks.length-(x.1+1)<ks.length-x.1;omega) ?_;exact E5 (own:=[.cells 3 [A5 (Ez x.2 ks[x.1]).1]]) (fun _=>.refl _) (by repeat (first|exact C5|refine C4 (by first|(simp [or_imp,forall_and];done)|(simp [oid]<;>omega)) ?_)) (by intro y hy;rw [Ck.1 hy];intro z hz;rw [Ck.1 hz];simp) (by simp))|(refine B5 (x.1+1,x.2) (hx.want hlt hls ht26 ht28 (by simpa using ht38)) (by show ks.length-(x.1+1)<ks.length-x.1;omega) ?_;exact E5 (own:=[.cells 3 [A5 x.2]]) (fun _=>.refl _) (by repeat (first|exact C5|refine C4 (by first|(simp [or_imp,forall_and];done)|(simp [oid]<;>omega)) ?_)) (by intro y hy;rw [Ck.1 hy];intro z hz;rw [Ck.1 hz];simp) (by simp))
  refine Tv ?_;refine A7 Tryz.call133 (AKc _ _ _) ?_;refine Z86 ?_;refine A2 [2,6,10,11,12,13,14,15] ?_;refine Z8 ?_;refine A2 [2,6,10,11,13,14,15,38] ?_
  refine A3 (fun ht38=>?_) (fun ht38=>?_)
  ·have hbad:=hx.bad hlt hls ht26 (by first|(rw [if_pos ht28];simpa using ht38)|(rw [if_neg (by rw [ht28];simp)];simpa using ht38))
   refine px ?_;exact AI8
  refine Z3 ?_;refine AAv ?_;refine qc ?_;refine jv ?_;refine qc ?_
  first|(refine B5 (x.1+1,x.2) (hx.skip hlt hls ht26) (by show ks.length-(x.1+1)<ks.length-x.1;omega) ?_;exact E5 (own:=[.cells 3 [A5 x.2]]) (fun _=>.refl _) (by repeat (first|exact C5|refine C4 (by first|(simp [or_imp,forall_and];done)|(simp [oid]<;>omega)) ?_)) (by intro y hy;rw [Ck.1 hy];intro z hz;rw [Ck.1 hz];simp) (by simp))|(refine B5 (x.1+1,(Ez x.2 ks[x.1]).1) (hx.same hlt hls ht26 ht28 (by simpa using ht38)) (by show ks.length-(x.1+1)<ks.length-x.1;omega) ?_;exact E5 (own:=[.cells 3 [A5 (Ez x.2 ks[x.1]).1]]) (fun _=>.refl _) (by repeat (first|exact C5|refine C4 (by first|(simp [or_imp,forall_and];done)|(simp [oid]<;>omega)) ?_)) (by intro y hy;rw [Ck.1 hy];intro z hz;rw [Ck.1 hz];simp) (by simp))|(refine B5 (x.1+1,x.2) (hx.want hlt hls ht26 ht28 (by simpa using ht38)) (by show ks.length-(x.1+1)<ks.length-x.1;omega) ?_;exact E5 (own:=[.cells 3 [A5 x.2]]) (fun _=>.refl _) (by repeat (first|exact C5|refine C4 (by first|(simp [or_imp,forall_and];done)|(simp [oid]<;>omega)) ?_)) (by intro y hy;rw [Ck.1 hy];intro z hz;rw [Ck.1 hz];simp) (by simp))
 have hxe:ks.length≤x.1:=by simpa using ht16
 have hout:=hx.out hxe
 refine Z31 ?_;refine Z32 ?_;refine A2 [2,6,45] ?_
 refine A3 (fun ht45=>?_) (fun ht45=>?_)
 ·refine Z13 ?_;refine Z68 ?_;exact A8 (B4 A6 A6) ⟨by rw [hout,if_pos ht45],rfl⟩
 refine Tv ?_;refine Z17 ?_;exact A8 (B4 A6 A6) ⟨by rw [hout,if_neg (by rw [ht45];simp)],rfl⟩

theorem yi {n k:Nat} {own:Bool} {l:List Int}:Low n (.slice own k (l.map A5)):=low_slice.2 fun y hy=>by
 obtain ⟨z,_,rfl⟩:=Du.1 hy
 simp
theorem Un {n:Nat} {e:Expr}:Low n (.ro (Ey e)):=by have:=B2 n e;rw [Ax] at this;simpa using this
theorem Ni {c:List Col} {t:Str} (h:¬(Co t c<0)):∃(j:Nat),Co t c=(j:Int)∧j<c.length:=by
 obtain ⟨j,y,h2,_,h3⟩:=find_mem.1 h
 exact ⟨j,h3,(Ad.1 h2).1⟩
theorem gz {c:List Col} {e:Expr} (h:(e.op==1)=true):Bg c e=(e.val.kind,0):=by rw [Qk];unfold Oz;rw [if_pos h]
theorem Za {c:List Col} {e:Expr} (h1:(e.op==1)=false) (h:(e.op==2)=true):Bg c e=Oy c e.text:=by rw [Qk];unfold Oz;rw [h1,if_pos h];rfl
theorem i3 {c:List Col} {e:Expr} (h1:(e.op==1)=false) (h2:(e.op==2)=false) {x:Nat} (hx:x<e.kids.length) (h0:∀(j:Nat) (y:Expr),j<x→e.kids[j]? = some y→((Bg c y).2 != 0)=false) (hb:((Bg c e.kids[x]).2 != 0)=true):Bg c e=(0,(Bg c e.kids[x]).2):=by
 rw [Qk]
 unfold Oz
 rw [h1,h2]
 have:(e.kids.map (Bg c)).find? (fun q=>q.2 != 0)=some ((e.kids.map (Bg c))[x]'(by simpa using hx)):=bp (by simpa using hx) (by simpa using hb) (fun j y hj hy=>by
  rw [C8,Dw] at hy
  obtain ⟨z,hz,rfl⟩:=hy
  exact h0 j z hj hz)
 rw [this]
 simp
theorem i4 {c:List Col} {e:Expr} (h1:(e.op==1)=false) (h2:(e.op==2)=false) (h0:∀(j:Nat) (y:Expr),j<e.kids.length→e.kids[j]? = some y→((Bg c y).2 != 0)=false):Bg c e=J0 (I5 e.op e.text) (e.kids.map fun y=>(Bg c y).1):=by
 rw [Qk]
 unfold Oz
 rw [h1,h2]
 have:(e.kids.map (Bg c)).find? (fun q=>q.2 != 0)=none:=Rq (fun j y hy=>by
  rw [C8,Dw] at hy
  obtain ⟨z,hz,rfl⟩:=hy
  exact h0 j z (Ad.1 hz).1 hz)
 rw [this]
 simp only [Gj]
 rfl
theorem Zb (f:Expr→Int) (l:List Expr) {x:Nat} (h:x<l.length):((l.take x).map f).map A5++[A5 (f l[x])]=((l.take (x+1)).map f).map A5:=by rw [Fw h,Cs,Cs];rfl
theorem c67 (c:List Col) (hc:OkCols c):∀(n:Nat) (e:Expr),okE n e→Dk Cu e=true→∀Hp:List AObj,AFun Tryz.prog 67 [Ae e,Ce c] Hp (.tup [A5 (Bg c e).1,A5 (Bg c e).2]):=by
 intro n
 induction n with
 | zero=>exact fun e h=>h.elim
 | succ n ih =>
 intro e hok hnd Hp
 have hnd0:=hnd
 rw [Ff,Al] at hnd0
 refine Ah [.tmp 4,.tmp 5] [0,1] Tryz.func67 Tryz.ntmps67 (fun d=>?_)
 refine vt ?_;refine Z8 ?_;refine A2 [1,2,13] ?_;refine Z91 ?_;refine A2 [1,2,13,14] ?_
 refine A3 (fun ht14=>?_) (fun ht14=>?_)
 ·have hk:=gz (c:=c) ht14
  refine jx ?_;refine Ve ?_;exact AFb
 refine Z1 ?_;refine A2 [1,2,19] ?_
 refine A3 (fun ht19=>?_) (fun ht19=>?_)
 ·have hk:=Za (c:=c) ht14 ht19
  refine Z13 ?_;refine A7 Tryz.call29 (c29 c hc e.text _) ?_;refine A4 ?_;refine A2 [1,6] ?_;refine Z8 ?_;refine A2 [1,6,26] ?_
  refine A3 (fun ht26=>?_) (fun ht26=>?_)
  ·have hk2:Oy c e.text=(0,9):=if_pos (by simpa using ht26)
   refine px ?_;refine Z5 ?_;exact AB0
  have hneg:¬(Co e.text c<0):=by simpa using ht26
  obtain ⟨j,hj,hjl⟩:=Ni hneg
  have hk2:Oy c e.text=(c[j].kind,0):=by
   unfold Oy
   rw [if_neg hneg,hj,Int.toNat_natCast,D6,Aa hjl]
   rfl
  rw [hj]
  refine Z88 ?_
  refine A4 (h:=Ag (j) (N5 c[j]) (fun _=>B7 hjl)) (hr:=?_)
  refine Z61 ?_;refine Ve ?_;exact AB0
 refine Z18 ?_;refine Z2 ?_;refine A2 [1,2,7] ?_;refine Rk ?_;refine R.nilSl 7 1 ?_;refine Z61 ?_;refine A2 [1,2,7,33,34,35] ?_
 refine Bh (α:=Nat) (fun x=>⟨59,A9 1 (Ce c) (A9 2 (.ro (Ey e)) (A9 7 (.slice true 1 (((e.kids.take x).map fun y=>(Bg c y).1).map A5)) (A9 33 (.slice false 6 (e.kids.map Ae)) (A9 34 (A5 (e.kids.length:Nat)) (A9 35 (A5 (x:Nat)) (fun _=>.any)))))),Hp,[],[],none⟩) (fun x=>x≤e.kids.length∧∀(j:Nat) (y:Expr),j<x→e.kids[j]? = some y→((Bg c y).2 != 0)=false) (fun x=>e.kids.length-x) (0) ⟨Av _,fun j y h=>by omega⟩ (Bc (by simp)) rfl (fun x hx=>?_)
 refine Z2 ?_;refine A2 [1,2,7,33,34,35,36] ?_
 refine Gz (fun ht36=>?_) (fun ht36=>?_)
 ·have hlt:x<e.kids.length:=by simpa using ht36
  have hkl:=hok.2.1
  refine jq ?_
  refine A4 (h:=Ag (x) (Ae e.kids[x]) (fun _=>B7 hlt)) (hr:=?_)
  refine ju ?_;refine A2 [1,2,7,9,33,34,35] ?_;refine Z1 ?_;refine A7 Tryz.call67 (ih e.kids[x] (hok.2.2 _ (Br hlt)) ((D3 _ _).1 hnd0.2 _ (Br hlt)) _) ?_;refine Z86 ?_;refine A2 [1,2,7,10,11,33,34,35] ?_;refine Z8 ?_;refine A2 [1,2,7,10,11,33,34,35,46] ?_
  refine A3 (fun ht46=>?_) (fun ht46=>?_)
  ·have hkb:=i3 (c:=c) ht14 ht19 hlt hx.2 ht46
   refine Z13 ?_;refine Z68 ?_;exact AId
  refine Z3 ?_;refine Hs ?_;refine vz ?_
  refine Ix jU Tryz.type3 ?_ ?_ ?_
  ·simp only [B6,Ei,Aw,Bb,Tryz.t3];omega
  ·simp only [B6,Ei,Aw,Bb,Tryz.t3];omega
  refine Iy ?_;refine A2 [1,2,7,33,34,35] ?_;refine jv ?_;refine A2 [1,2,7,33,34,35] ?_;refine B5 (x+1) ⟨hlt,Dn hlt hx.2 ht46⟩ (by omega) ?_
  simp only [show Tryz.t3.size=1 from rfl,Zb]
  exact E5 (own:=[]) (fun _=>.refl _) (by repeat (first|exact C5|refine C4 (by first|exact yi|exact Un|exact Eq|(simp [or_imp,forall_and];done)) ?_)) (by simp) (by simp)
 have hxe:e.kids.take x=e.kids:=De (by simp at ht36;omega)
 have hxl:e.kids.length≤x:=by simp at ht36;omega
 have hka:=i4 (c:=c) ht14 ht19 (fun j y hj hy=>hx.2 j y (by omega) hy)
 rw [hxe]
 refine Z31 ?_;refine Z2 ?_;refine A7 Tryz.call96 (c96 e _) ?_;refine A4 ?_
 refine A7 Tryz.call97 (c97 (I5 e.op e.text) (e.kids.map fun y=>(Bg c y).1) (by rw [L8 hnd0.1 ht14 ht19];simp) (by simpa using hok.2.1) _) ?_
 refine Z61 ?_;refine Z17 ?_;exact A8 (B4 A6 A6) ⟨by rw [hka],rfl⟩

theorem Ir {e:Expr} (h:C3 e=true):Dk Cu e=true:=by
 rw [Ds] at h
 unfold Cz at h
 rw [Al] at h
 exact h.2
theorem c31 (n:Nat) (e:Expr) (hok:okE n e) (hn:n≤1048576) (c:List Col) (hc:OkCols c) (Hp:List AObj):AFun Tryz.prog 31 [Ae e,Ce c] Hp (.tup [A5 (Db e c).1,A5 (Db e c).2]):=by
 refine Ah [.tmp 4,.tmp 5] [0,1] Tryz.func31 Tryz.ntmps31 (fun d=>?_)
 refine vt ?_;refine Z23 ?_;refine A7 Tryz.call61 (c61 n e hok hn _) ?_;refine N4 ?_;refine Bw Tryz.call26 (fun hB=>c26 c hc _) ?_;refine Z95 ?_;refine A2 [1,2,13] ?_
 refine A3 (fun ht13=>?_) (fun ht13=>?_)
 ·have hk:Db e c=(0,1):=if_pos ht13
  refine Z1 ?_;exact AEt
 have hk:Db e c=Bg c e:=if_neg (by rw [ht13];simp)
 have hr:C3 e=true:=by simp only [Cv,Jt] at ht13;exact ht13.1
 refine Z88 ?_;refine A7 Tryz.call67 (c67 c hc n e hok (Ir hr) _) ?_;refine Z61 ?_;exact AIl

theorem Ld {n k:Nat} {o:Bool} {l:List Col}:Low n (.slice o k (l.map N5)):=by simp [or_imp,forall_and]
theorem Wr (k w:Int) (Hp:List AObj):AFun Tryz.prog 135 [A5 k,A5 w] Hp (At (Ek k w)):=by
 refine Ah [.tmp 4] [0,1] Tryz.func135 Tryz.ntmps135 (fun d=>?_)
 refine Z64 ?_;refine eg ?_;exact vd

theorem c32 (n:Nat) (e:Expr) (hok:okE n e) (hn:n≤1048576) (c:List Col) (hc:OkCols c) (w:Int) (Hp:List AObj):AFun Tryz.prog 32 [Ae e,Ce c,A5 w] Hp (At (P2 e c w)):=by
 refine Ah [.tmp 6] [0,1,2] Tryz.func32 Tryz.ntmps32 (fun d=>?_)
 refine Z1 ?_;refine A2 [1,2,3] ?_;refine Z1 ?_;refine A7 Tryz.call31 (c31 n e hok hn c hc _) ?_;refine Z86 ?_;refine A2 [2,7,8] ?_;refine Z13 ?_;refine Q8 ?_;refine Z78 ?_;refine Ts ?_;exact A8 (Ai A6) ⟨by unfold P2;rfl,rfl⟩

theorem Ej {ks:List Int} {i:Nat} (h:i<ks.length):(ks.map A5)[i]? = some (A5 (ks.getD i 0)):=by
 rw [C8,Aa h,D6,Aa h]
 rfl
theorem AGc {e:Expr} (h:Cu e=true) (h3:(e.op==3)=true):e.kids.length=1:=by
 have h3':e.op=3:=by simpa using h3
 have:=L8 h (by rw [h3'];rfl) (by rw [h3'];rfl)
 rw [←this,h3'];rfl
theorem AGd {e:Expr} (h:Cu e=true) (h4:(e.op==4)=true):e.kids.length=1:=by
 have h4':e.op=4:=by simpa using h4
 have:=L8 h (by rw [h4'];rfl) (by rw [h4'];rfl)
 rw [←this,h4'];rfl
theorem cl {e:Expr} (h:Cu e=true) (h5:(e.op==5)=true):e.kids.length=2:=by
 have h5':e.op=5:=by simpa using h5
 have:=L8 h (by rw [h5'];rfl) (by rw [h5'];rfl)
 rw [←this,h5']
 exact Ph _
theorem AGe {e:Expr} (h:Cu e=true) (h1:(e.op==1)=false) (h2:(e.op==2)=false) (h3:(e.op==3)=false) (h4:(e.op==4)=false) (h5:(e.op==5)=false):e.kids.length=(D5 e.text).kids.length:=by
 have:=L8 h h1 h2
 rw [←this]
 unfold I5
 rw [h3,h4,h5]
 rfl
theorem AGf {a b:Bool} (h:(a&&b)=true):a=true:=by cases a<;>simp_all
theorem AMi (c:List Col) (hc:OkCols c):∀(n:Nat) (e:Expr),okE n e→Dk Cu e=true→∀Hp:List AObj,AFun Tryz.prog 104 [Ae e,Ce c] Hp (.tup [A5 (Bg c e).1,A5 (Bg c e).2]):=by
 intro n
 induction n with
 | zero=>exact fun e h=>h.elim
 | succ n ih =>
 intro e hok hnd Hp
 have hnd0:=hnd
 rw [Ff,Al] at hnd0
 refine Ah [.tmp 4,.tmp 5] [0,1] Tryz.func104 Tryz.ntmps104 (fun d=>?_)
 refine vt ?_;refine Z32 ?_;refine A2 [1,2,17] ?_
 refine A3 (fun ht17=>?_) (fun ht17=>?_)
 ·have hk:=gz (c:=c) ht17
  refine jx ?_;exact AEt
 refine L2 ?_;refine A2 [1,2,23] ?_
 refine A3 (fun ht23=>?_) (fun ht23=>?_)
 ·have hk:=Za (c:=c) ht17 ht23
  refine Z13 ?_;refine A7 Tryz.call24 (c24 c hc e.text _) ?_;refine A4 ?_;refine A2 [1,6] ?_;refine Z8 ?_;refine A2 [1,6,29] ?_
  refine A3 (fun ht29=>?_) (fun ht29=>?_)
  ·have hk2:Oy c e.text=(0,9):=if_pos (by simpa using ht29)
   refine px ?_;refine Ex ?_;exact AB0
  have hneg:¬(Co e.text c<0):=by simpa using ht29
  obtain ⟨j,hj,hjl⟩:=Ni hneg
  have hk2:Oy c e.text=(c[j].kind,0):=by
   unfold Oy
   rw [if_neg hneg,hj,Int.toNat_natCast,D6,Aa hjl]
   rfl
  rw [hj]
  refine Z88 ?_
  refine A4 (h:=Ag (j) (N5 c[j]) (fun _=>B7 hjl)) (hr:=?_)
  refine Z61 ?_;refine Z68 ?_;exact AB0
 refine Z3 ?_;refine Z45 ?_;refine Iy ?_;refine A2 [1,2,7] ?_;refine Z23 ?_;refine A2 [1,2,7,8] ?_
 refine Bh (α:=Nat) (fun x=>⟨237,A9 1 (Ce c) (A9 2 (.ro (Ey e)) (A9 7 (.slice true 1 (((e.kids.take x).map fun y=>(Bg c y).1).map A5)) (A9 8 (A5 (x:Nat)) (fun _=>.any)))),Hp,[],[],none⟩) (fun x=>x≤e.kids.length∧∀(j:Nat) (y:Expr),j<x→e.kids[j]? = some y→((Bg c y).2 != 0)=false) (fun x=>e.kids.length-x) (0) ⟨Av _,fun j y h=>by omega⟩ (Bc (by simp)) rfl (fun x hx=>?_)
 refine Lu ?_;refine A2 [1,2,7,8,40] ?_
 refine A3 (fun ht40=>?_) (fun ht40=>?_)
 ·have hlt:x<e.kids.length:=by simpa using ht40
  have hkl:=hok.2.1
  refine q9 ?_
  refine A4 (h:=Ag (x) (Ae e.kids[x]) (fun _=>B7 hlt)) (hr:=?_)
  refine Z0 ?_;refine A7 Tryz.call104 (ih e.kids[x] (hok.2.2 _ (Br hlt)) ((D3 _ _).1 hnd0.2 _ (Br hlt)) _) ?_;refine Z86 ?_;refine A2 [1,2,7,8,9,10] ?_;refine Z8 ?_;refine A2 [1,2,7,8,9,10,54] ?_
  refine A3 (fun ht54=>?_) (fun ht54=>?_)
  ·have hkb:=i3 (c:=c) ht17 ht23 hlt hx.2 ht54
   refine Z13 ?_;refine Z68 ?_;exact AId
  refine Z3 ?_;refine Hs ?_;refine vz ?_
  refine Ix jU Tryz.type3 ?_ ?_ ?_
  ·simp only [B6,Ei,Aw,Bb,Tryz.t3];omega
  ·simp only [B6,Ei,Aw,Bb,Tryz.t3];omega
  refine Iy ?_;refine A2 [1,2,7,8] ?_;refine N3 ?_;refine A2 [1,2,7,8] ?_
  refine B5 (x+1) ⟨hlt,Dn hlt hx.2 ht54⟩ (by omega) (Bx ?_)
  simp only [show Tryz.t3.size=1 from rfl,Zb]
  rfl
 have hxe:e.kids.take x=e.kids:=De (by simp at ht40;omega)
 have hka:=i4 (c:=c) ht17 ht23 (fun j y hj hy=>hx.2 j y (by have:=hx.1;simp at ht40;omega) hy)
 have hrf:=AC4 hnd0.1 ht17 ht23 (ks:=e.kids.map fun y=>(Bg c y).1) (by simp)
 have hks:(e.kids.map fun y=>(Bg c y).1).length=e.kids.length:=by simp
 rw [hxe]
 generalize (e.kids.map fun y=>(Bg c y).1)=ks at *
 refine Z52 ?_;refine Z1 ?_;refine A2 [2,7,12] ?_
 refine Ht ⟨237,A9 11 (A5 (Fu e.op e.text ks).1) (A9 12 (At (Fu e.op e.text ks).2) (fun _=>.any)),Hp,[],[],none⟩ ?_ ?_
 ·refine Et ?_;refine Z20 ?_;refine A2 [2,7,12,94] ?_
  refine A3 (fun ht94=>?_) (fun ht94=>?_)
  ·have hl:=AGc hnd0.1 ht94
   refine Z43 ?_
   refine A4 (h:=Ag (0) (A5 (ks.getD 0 0)) (fun _=>Ej (by omega))) (hr:=?_)
   refine AEy ?_;refine Z0 ?_;refine Vd ?_
   unfold Fu
   simp only [ht17,ht23,ht40,ht94,Dy,Cw,Gv,Dd,Af,↓reduceIte]<;>rfl
  refine Z20 ?_;refine A2 [2,7,12,102] ?_
  refine A3 (fun ht102=>?_) (fun ht102=>?_)
  ·have hl:=AGd hnd0.1 ht102
   refine Z43 ?_
   refine A4 (h:=Ag (0) (A5 (ks.getD 0 0)) (fun _=>Ej (by omega))) (hr:=?_)
   refine A4 ?_;refine A7 Tryz.call135 (Wr (ks.getD 0 0) 3 _) ?_;refine Z0 ?_;refine Vd ?_
   unfold Fu
   simp only [ht17,ht23,ht40,ht94,ht102,Dy,Cw,Gv,Dd,Af,↓reduceIte]<;>rfl
  refine pz ?_;refine Q8 ?_;refine Z0 ?_;refine A2 [2,7,12,110] ?_
  refine A3 (fun ht110=>?_) (fun ht110=>?_)
  ·have hl:=cl hnd0.1 (AGf ht110)
   refine Z43 ?_
   refine A4 (h:=Ag (0) (A5 (ks.getD 0 0)) (fun _=>Ej (by omega))) (hr:=?_)
   refine A4 ?_;refine A7 Tryz.call135 (Wr (ks.getD 0 0) 3 _) ?_;refine A4 ?_;refine B3 ?_
   refine B3 (h:=Ag (1) (A5 (ks.getD 1 0)) (fun _=>Ej (by omega))) (hr:=?_)
   refine B3 ?_;refine Bw Tryz.call135 (fun hB=>Wr (ks.getD 1 0) 3 _) ?_;refine Z11 ?_;refine Vd ?_
   unfold Fu
   simp only [ht17,ht23,ht40,ht94,ht102,ht110,Dy,Cw,Gv,Dd,Af,↓reduceIte]<;>rfl
  refine Z20 ?_;refine Z6 ?_;refine Bw Tryz.call84 (fun hB=>c84 e.text _) ?_;refine B3 ?_;refine Z0 ?_;refine A2 [2,7,12,134] ?_
  refine A3 (fun ht134=>?_) (fun ht134=>?_)
  ·have hl:=cl hnd0.1 (AGf ht134)
   refine W.drawQ0 [0,1,3,7,15,31,63,127,31,287,799,2047,4095,4095,16383] 14 Aj (by kernel_rfl) ?_;refine An ?_
   refine An (h:=Ag (0) (A5 (ks.getD 0 0)) (fun _=>Ej (by omega))) (hr:=?_)
   refine Z34 ?_;refine Ga ?_
   refine Ga (h:=Ag (1) (A5 (ks.getD 1 0)) (fun _=>Ej (by omega))) (hr:=?_)
   refine Z72 ?_
   refine Ga (h:=Ag (0) (A5 (ks.getD 0 0)) (fun _=>Ej (by omega))) (hr:=?_)
   refine Ga ?_;refine H.call Tryz.call135 (fun hB=>Wr (ks.getD 1 0) (ks.getD 0 0) _) ?_;refine Q9 ?_;refine A4 ?_;refine Vd ?_
   unfold Fu
   simp only [ht17,ht23,ht40,ht94,ht102,ht110,ht134,Dy,Cw,Gv,Dd,Af,↓reduceIte]<;>rfl
  refine Z20 ?_;refine Z78 ?_;refine A2 [2,7,12,157] ?_
  refine A3 (fun ht157=>?_) (fun ht157=>?_)
  ·have hl:=cl hnd0.1 (AGf ht157)
   refine Z43 ?_
   refine A4 (h:=Ag (0) (A5 (ks.getD 0 0)) (fun _=>Ej (by omega))) (hr:=?_)
   refine AEz ?_;refine A4 ?_;refine B3 ?_
   refine B3 (h:=Ag (1) (A5 (ks.getD 1 0)) (fun _=>Ej (by omega))) (hr:=?_)
   refine B3 ?_;refine Bw Tryz.call135 (fun hB=>Wr (ks.getD 1 0) 2 _) ?_;refine Z11 ?_;refine Vd ?_
   unfold Fu
   simp only [ht17,ht23,ht40,ht94,ht102,ht110,ht134,ht157,Dy,Cw,Gv,Dd,Af,↓reduceIte]<;>rfl
  refine Z20 ?_;refine A2 [2,7,12,176] ?_
  refine A3 (fun ht176=>?_) (fun ht176=>?_)
  ·have hl:=cl hnd0.1 ht176
   rw [ht176,Cw] at ht110 ht134 ht157
   refine Z43 ?_
   refine A4 (h:=Ag (0) (A5 (ks.getD 0 0)) (fun _=>Ej (by omega))) (hr:=?_)
   refine AEy ?_;refine A4 ?_;refine B3 ?_
   refine B3 (h:=Ag (1) (A5 (ks.getD 1 0)) (fun _=>Ej (by omega))) (hr:=?_)
   refine B3 ?_;refine Bw Tryz.call135 (fun hB=>Wr (ks.getD 1 0) 1 _) ?_;refine Z11 ?_;refine Vd ?_
   unfold Fu
   simp only [ht17,ht23,ht40,ht94,ht102,ht110,ht134,ht157,ht176,Dy,Cw,Gv,Dd,Af,↓reduceIte]<;>rfl
  have hl0:=AGe hnd0.1 ht17 ht23 ht94 ht102 ht176
  unfold D5 at hl0
  refine Z20 ?_;refine Z78 ?_;refine A2 [2,7,12,190] ?_
  refine A3 (fun ht190=>?_) (fun ht190=>?_)
  ·have hl:e.kids.length=1:=by rw [hl0,if_pos ht190];rfl
   refine Z43 ?_
   refine A4 (h:=Ag (0) (A5 (ks.getD 0 0)) (fun _=>Ej (by omega))) (hr:=?_)
   refine AEz ?_;refine Z0 ?_;refine Vd ?_
   unfold Fu
   simp only [ht17,ht23,ht40,ht94,ht102,ht110,ht134,ht157,ht176,ht190,Dy,Cw,Gv,Dd,Af,↓reduceIte]<;>rfl
  rw [if_neg (by rw [ht190];simp)] at hl0
  refine Z20 ?_;refine A2 [2,7,12,203] ?_
  refine A3 (fun ht203=>?_) (fun ht203=>?_)
  ·have hl:e.kids.length=1:=by rw [hl0,if_pos ht203];rfl
   refine Z43 ?_
   refine A4 (h:=Ag (0) (A5 (ks.getD 0 0)) (fun _=>Ej (by omega))) (hr:=?_)
   refine AEy ?_;refine Z0 ?_;refine Vd ?_
   unfold Fu
   simp only [ht17,ht23,ht40,ht94,ht102,ht110,ht134,ht157,ht176,ht190,ht203,Dy,Cw,Gv,Dd,Af,↓reduceIte]<;>rfl
  rw [if_neg (by rw [ht203];simp)] at hl0
  refine Z20 ?_;refine Z78 ?_;refine A2 [2,7,12,211] ?_
  refine A3 (fun ht211=>?_) (fun ht211=>?_)
  ·have hl:e.kids.length=2:=by rw [hl0,if_pos ht211];rfl
   refine Z43 ?_
   refine A4 (h:=Ag (0) (A5 (ks.getD 0 0)) (fun _=>Ej (by omega))) (hr:=?_)
   refine AEz ?_;refine A4 ?_;refine B3 ?_
   refine B3 (h:=Ag (1) (A5 (ks.getD 1 0)) (fun _=>Ej (by omega))) (hr:=?_)
   refine B3 ?_;refine Bw Tryz.call135 (fun hB=>Wr (ks.getD 1 0) 1 _) ?_;refine Z11 ?_;refine Vd ?_
   unfold Fu
   simp only [ht17,ht23,ht40,ht94,ht102,ht110,ht134,ht157,ht176,ht190,ht203,ht211,Dy,Cw,Gv,Dd,Af,↓reduceIte]<;>rfl
  rw [if_neg (by rw [ht211];simp)] at hl0
  refine Z20 ?_;refine A2 [2,7,12,230] ?_
  refine A3 (fun ht230=>?_) (fun ht230=>?_)
  ·have hl:e.kids.length=1:=by rw [hl0,if_pos ht230];rfl
   refine Z43 ?_;refine Vd ?_
   unfold Fu
   simp only [ht17,ht23,ht40,ht94,ht102,ht110,ht134,ht157,ht176,ht190,ht203,ht211,ht230,Dy,Cw,Gv,Dd,Af,↓reduceIte]<;>rfl
  rw [if_neg (by rw [ht230];simp)] at hl0
  have hl:2≤e.kids.length:=by rw [hl0];split<;>simp
  have hl3:=hok.2.1
  refine Ct [0,0,2,6,15,31,0,0,128,384,960,1984,63,8191] 13 Aj (by kernel_rfl) ?_;refine Z34 ?_
  rw [B6]
  refine An ?_
  refine An (h:=Ag ((ks.length-2)) (A5 (ks.getD (ks.length-2) 0)) (fun _=>Ej (by omega))) (hr:=?_)
  refine Z92 ?_
  rw [B6]
  refine An ?_
  refine An (h:=Ag ((ks.length-1)) (A5 (ks.getD (ks.length-1) 0)) (fun _=>Ej (by omega))) (hr:=?_)
  refine Q9 ?_;refine A4 ?_;refine A2 [2,7,13,14] ?_;refine Z13 ?_;refine Z6 ?_;refine Bw Tryz.call135 (fun hB=>Wr (ks.getD (ks.length-1) 0) (ks.getD (ks.length-2) 0) _) ?_;refine Z46 ?_;refine Z29 ?_
  refine B3 (h:=Ag (0) (A5 (ks.getD 0 0)) (fun _=>Ej (by omega))) (hr:=?_)
  refine B3 ?_;refine Bw Tryz.call135 (fun hB=>Wr (ks.getD 0 0) 3 _) ?_;refine B3 ?_;refine Z0 ?_;refine A2 [12,13,14] ?_;refine Z1 ?_;refine A2 [11,12,13,14] ?_;refine Z1 ?_;refine A2 [11,12,14,92] ?_
  refine A3 (fun ht92=>?_) (fun ht92=>?_)
  ·refine Z28 ?_;refine Vd ?_
   unfold Fu
   simp only [ht17,ht23,ht40,ht94,ht102,ht110,ht134,ht157,ht176,ht190,ht203,ht211,ht230,ht92,Dy,Cw,Gv,Dd,Af,↓reduceIte]<;>rfl
  refine Dg [11,12] ?_;refine G5 ?_;refine Z89 ?_;refine Bc ?_
  unfold Fu
  simp only [ht17,ht23,ht40,ht94,ht102,ht110,ht134,ht157,ht176,ht190,ht203,ht211,ht230,ht92,Dy,Cw,Gv,Dd,Af,↓reduceIte]<;>rfl
 refine Z8 ?_;refine A2 [11,235] ?_
 refine A3 (fun ht235=>?_) (fun ht235=>?_)
 ·refine px ?_;exact AJe
 refine Oh ?_;refine Z17 ?_;exact AJe
theorem c70 (n:Nat) (e:Expr) (hok:okE n e) (hn:n≤1048576) (hs:sizeE e≤1048576) (c:List Col) (hc:OkCols c) (Hp:List AObj):AFun Tryz.prog 70 [Ae e,Ce c] Hp (.tup [A5 (Db e c).1,A5 (Db e c).2]):=by
 refine Ah [.tmp 4,.tmp 5] [0,1] Tryz.func70 Tryz.ntmps70 (fun d=>?_)
 refine vt ?_;refine Z23 ?_;refine A7 Tryz.call69 (c69 n e hok hn hs _) ?_;refine N4 ?_;refine Bw Tryz.call34 (fun hB=>c34 c hc _) ?_;refine Z95 ?_;refine A2 [1,2,13] ?_
 refine A3 (fun ht13=>?_) (fun ht13=>?_)
 ·have hk:Db e c=(0,1):=by unfold Db;rw [Ds,Lz,if_pos ht13]
  refine Z1 ?_;exact AEt
 have hk:Db e c=Bg c e:=by unfold Db;rw [Ds,Lz,if_neg (by rw [ht13];simp)]
 have hr:C3 e=true:=by rw [Ds];simp only [Cv,Jt] at ht13;exact ht13.1
 refine Z88 ?_;refine A7 Tryz.call104 (AMi c hc n e hok (Ir hr) _) ?_;refine Z61 ?_;exact AIl

theorem i5 {e:Expr} {c:List Col} {w:Int} (h:((Db e c).2 != 0)=false):((((Db e c).1 != 0)&&((Db e c).1 != w))) = !P2 e c w:=by
 unfold P2
 have h0:(Db e c).2=0:=by simpa using h
 rw [h0]
 show (!((Db e c).1==0) && !((Db e c).1==w)) = !(true&&(((Db e c).1==w) || ((Db e c).1==0)))
 cases (Db e c).1==0<;>cases (Db e c).1==w<;>rfl
theorem c35 (n:Nat) (e:Expr) (hok:okE n e) (hn:n≤1048576) (hs:sizeE e≤1048576) (w:Int) (c:List Col) (hc:OkCols c) (Hp:List AObj):AFun Tryz.prog 35 [Ae e,A5 w,Ce c] Hp (A5 (li e c w)):=by
 refine Ah [.tmp 6] [0,1,2] Tryz.func35 Tryz.ntmps35 (fun d=>?_)
 refine Z1 ?_;refine A2 [1,2,3] ?_;refine Z1 ?_;refine A7 Tryz.call70 (c70 n e hok hn hs c hc _) ?_;refine Z86 ?_;refine A2 [1,7,8] ?_;refine Z8 ?_;refine A2 [1,7,8,16] ?_
 refine A3 (fun ht16=>?_) (fun ht16=>?_)
 ·have hm:li e c w=(Db e c).2:=if_pos ht16
  refine Z1 ?_;refine A2 [6] ?_;exact Z42
 refine L2 ?_;refine Z90 ?_;refine A2 [24] ?_
 refine A3 (fun ht24=>?_) (fun ht24=>?_)
 ·rw [i5 ht16] at ht24
  have hm:li e c w=10:=by unfold li;rw [if_neg (by rw [ht16];simp),if_pos ht24]
  refine pv ?_;exact Z42
 rw [i5 ht16] at ht24
 have hm:li e c w=0:=by unfold li;rw [if_neg (by rw [ht16];simp),if_neg (by rw [ht24];simp)]
 refine Z93 ?_;refine Ts ?_;exact ek

end Go.SX.Nb
namespace Go.SX
variable [GI:GlobInv]
open Classical
variable {P:Program} {d:Nat} {ops:Array Oper} {rest:List Oper} {sz:Nat} {fr:Nat→AV} {up own:List AObj} {dfs:List Nat} {rnd:Option Nat} {Q:St→Prop} {s:Nat} {ty:TypeId} {pos:String} {aft:Array Edge}
/-- Whether a slice is nil is known only of one that has elements. -/
theorem R.eqlNil {t e u:TypeId} {x y:Operand} {o:Bool} {k:Nat} {xs:List AV} (ht:P.underlying t=some (.slice e)) (hg:P.eqGuardType P.depth t=false)
  (hr:∀b:Bool,(b=true→xs=[])→ARun P d ops rest ⟨sz,A9 s (.v (.bool b)) fr,up,own,dfs,rnd⟩ Q)
  (hx:B9 fr x=.slice o k xs:=by exact sL0) (hy:B9 fr y=.nil:=by exact sL0) (hs:Nat.blt s sz=true:=by rfl):
  ARun P d ops (⟨some s,.binOp .eql t x y u,ty,pos,aft,none⟩::rest) ⟨sz,fr,up,own,dfs,rnd⟩ Q:=by
 refine m8 rfl (Q1:=fun s'=>∃b:Bool,(b=true→xs=[])∧s'=⟨sz,A9 s (.v (.bool b)) fr,up,own,dfs,rnd⟩) ?_ (by rintro _ ⟨b,hb,rfl⟩;exact hr b hb)
 intro G a w hrel Q'
 have h1:=hrel.eval x
 rw [show St.ev ⟨sz,fr,up,own,dfs,rnd⟩ x=.slice o k xs from hx] at h1
 have h2:=hrel.eval y
 rw [show St.ev ⟨sz,fr,up,own,dfs,rnd⟩ y=.nil from hy] at h2
 have key:∀b:Bool,(b=true→xs=[])→(execOp a.eval ⟨some s,.binOp .eql t x y u,ty,pos,aft,none⟩).run P w=.ok (.value (.bool b)) w →
   Oper.wpIn (Fr ((St.mk sz fr up own dfs rnd).rnd.map G.blk)) 0 P ⟨some s,.binOp .eql t x y u,ty,pos,aft,none⟩ a w (Post d ⟨sz,fr,up,own,dfs,rnd⟩ G w (fun s'=>∃b:Bool,(b=true→xs=[])∧s'=⟨sz,A9 s (.v (.bool b)) fr,up,own,dfs,rnd⟩)) Q':=fun b hb hv =>
  Df (by intro c h;cases h) hv ⟨G,_,hrel.put (y:=.v (.bool b)) (by simpa using hs) (.v _ _),Fp d G w,rfl,rfl,rfl,b,hb,rfl⟩
 generalize hya:a.eval y=vy at h2
 generalize hxa:a.eval x=vx at h1
 cases h2
 cases h1 with
 | slice0=>exact key true (fun _=>rfl) (by simp only [execOp,hxa,hya,eqGuard];simp [Lib.run_eql_slice_nil _ _ _ _ _ _ _ _ ht,hg])
 | sliceE=>exact key false (fun h=>by cases h) (by simp only [execOp,hxa,hya,eqGuard];simp [Lib.run_eql_slice_nil _ _ _ _ _ _ _ _ ht,hg])
 | slice=>exact key false (fun h=>by cases h) (by simp only [execOp,hxa,hya,eqGuard];simp [Lib.run_eql_slice_nil _ _ _ _ _ _ _ _ ht,hg])
/-! A guarded slice that may be appended to. -/
end Go.SX
namespace Go.SX
variable [GI:GlobInv]
open Classical
section
variable {P:Program} {d:Nat}
end
section
variable {P:Program} {d:Nat} {ops:Array Oper} {rest:List Oper} {sz s:Nat} {fr:Nat→AV} {up own:List AObj} {dfs:List Nat} {rnd:Option Nat} {Q:St→Prop} {ty:TypeId} {pos:String} {aft:Array Edge}
end
end Go.SX
