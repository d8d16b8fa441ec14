/- On the way (part 6). -/
import Derived.ReadAgain
import Derived.ChangeSame
import Derived.ChangeArms
import Derived.ChangeOld
import Derived.ChangeFn
import Derived.MapPlaces
import Derived.DataReads
import Derived.OpenShut
import Derived.RowKit
import Derived.Deep.DeepHandedRow
import Derived.Test.YtdjhkihdmiednaaGreatDoorCards
import Derived.Test.YtdjhkihdmiednaaGreatDoorTie
import Derived.Lay
import Derived.Lib.LaidTab
import Derived.Stop.LaidErr
import Derived.Shelf.Vars
import Derived.ChangeBears
import Derived.Lib.ParseIntBTie
import Derived.Lib.AtoiAllCases
import Derived.Lib.AtoiTie
import Derived.Below
import Derived.Test.YtdjhkihdmiednaaGreatDoorLoadCallsCardSaidPart5
set_option linter.all false
namespace Go.SX
variable [GI:GlobInv]
open Classical Go.RowKit Go.ChangeShapes
section
variable {P:Program} {H:Type} {enc:TypeId×Value→H}

/-- The first ghost: whatever lies there is read for good. -/
noncomputable def G0 (W:World):Gh:=⟨fun b o=>if (W.cell? ⟨b,o,none⟩).isSome then .fix else .free,fun _=>0,0⟩
theorem mm {W:World} {b o:Nat} {u:Value} (h:W.cell? ⟨b,o,none⟩=some u):(G0 W).tag b o=.fix:=by simp [G0,h]
theorem N0 {W:World} {b:Nat} (h:b<W.heap.size):Hz (G0 W) W b:=⟨h,fun o=>by simp only [G0];split<;>simp,fun i hi=>absurd hi (Nat.not_lt_zero _)⟩
theorem j5 (W:World):HeapRel (G0 W) [] W:=⟨fun i x h=>by simp at h,rfl,fun i j hi=>absurd hi (Nat.not_lt_zero _)⟩
theorem j6 {W:World} (h:Fm W):TagOK (G0 W) W:=by
 refine ⟨fun b o hb=>?_,fun b o i hb=>?_,fun b o L hb=>?_,fun x hx=>?_⟩
 ·simp only [G0] at hb
  split at hb
  ·rename_i hs;exact Option.isSome_iff_exists.1 hs
  exact absurd rfl hb
 ·simp only [G0] at hb;split at hb<;>cases hb
 ·simp only [G0] at hb;split at hb<;>cases hb
 obtain ⟨v,h1,h2⟩:=h x hx
 exact ⟨N0 (J5.1 h1).1,v,h1,h2⟩

/-- What a datum of a plain type qr as. -/
inductive DRep (P:Program):TypeId→DataW H→AV→Prop
 | int {t:TypeId} {k:IntKind} {n:Int} (hu:P.underlying t=some (.int k)) (wf:(Lit.int k n).wf=true):DRep P t (.lit (.int k n)) (.v (.int k n))
 | bool {t:TypeId} {b:Bool} (hu:P.underlying t=some .bool):DRep P t (.lit (.bool b)) (.v (.bool b))
 | str {t:TypeId} {bs:List UInt8} (hu:P.underlying t=some .string):DRep P t (.lit (.string bs)) (.v (sv bs))
 | nil {t e:TypeId} (hu:P.underlying t=some (.slice e)):DRep P t .nil (.slice false (P.cellsOf e) [])
 | slice {t e:TypeId} {elems spare:List (DataW H)} {ys:List AV} (hu:P.underlying t=some (.slice e)) (hn:ys.length=elems.length)
   (h:∀(i:Nat) (d:DataW H) (y:AV),elems[i]? = some d→ys[i]? = some y→DRep P e d y):DRep P t (.slice elems spare) (.slice false (P.cellsOf e) ys)
 | struct {t:TypeId} {fs:Array Field} {parts:List (DataW H)} {ys:List AV} (hu:P.underlying t=some (.struct fs)) (hn:parts.length=fs.size) (hn':ys.length=fs.size)
   (h:∀(i:Nat) (f:Field) (d:DataW H) (y:AV),fs[i]? = some f→parts[i]? = some d→ys[i]? = some y→DRep P f.type d y):DRep P t (.agg parts) (.agg (ys.flatMap AV.cells))

/-- Types that are made of numbers, texts, bools, slices and structs alone. -/
structure PlainT (P:Program) (T:TypeId→Prop):Prop where
 look:∀t,T t→(P.cellsOf t=1∧((∃k,P.underlying t=some (.int k))∨P.underlying t=some .bool∨P.underlying t=some .string∨(∃e,P.underlying t=some (.slice e)∧T e∧0<P.cellsOf e))) ∨
  (∃fs,P.underlying t=some (.struct fs)∧(∀f∈fs.toList,T f.type)∧P.cellsOf t=(fs.toList.map fun f=>P.cellsOf f.type).sum ∧
   ∀(j:Nat) (f:Field),fs.toList[j]? = some f→f.offset=((fs.toList.take j).map fun f=>P.cellsOf f.type).sum)

/-- The reading of a row of cells. -/
def CRep (W:World) (y:AV) (cs:List Value):Prop:=
 y.cells.length=cs.length∧(∀c∈y.cells,c.one=true)∧∀(j:Nat) (c:AV) (v:Value),y.cells[j]? = some c→cs[j]? = some v→Rep (G0 W) W none c v

theorem CRep.v1 {W:World} {x:Value} (h:x.oneCell'=true):CRep W (.v x) [x]:=
 ⟨rfl,by simp [AV.cells,AV.one,h],fun j c v h1 h2=>by
  match j with
  | 0=>simp [AV.cells] at h1 h2;subst h1;subst h2;exact .v _ _
  | j+1=>simp [AV.cells] at h1⟩

theorem Vi {f:AV→List AV}:∀(ys:List AV) (j:Nat) (c:AV),(ys.flatMap f)[j]? = some c→∃(i:Nat) (y:AV) (q:Nat),ys[i]? = some y∧(f y)[q]? = some c∧j=((ys.take i).map fun y=>(f y).length).sum+q
 | [],j,c,h=>by simp at h
 | y::r,j,c,h=>by
  rw [Wj] at h
  rcases B0 j (f y).length with h'|h'
  ·rw [Cx h'] at h
   exact ⟨0,y,j,rfl,h,by simp⟩
  rw [Cp h'] at h
  obtain ⟨i,z,q,h1,h2,h3⟩:=Vi r _ c h
  exact ⟨i+1,z,q,h1,h2,by simp only [List.take_succ_cons,Cl,List.sum_cons];omega⟩
theorem Jw {α:Type} {R:Nat→α→Prop}:∀(n:Nat),(∀i,i<n→∃y,R i y)→∃ys:List α,ys.length=n∧∀(i:Nat) (y:α),ys[i]? = some y→R i y
 | 0,_=>⟨[],rfl,fun i y h=>by simp at h⟩
 | n+1,h=>by
  obtain ⟨ys,h1,h2⟩:=Jw n (fun i hi=>h i (by omega))
  obtain ⟨y,hy⟩:=h n (by omega)
  refine ⟨ys++[y],by simp [h1],fun i z hz=>?_⟩
  rcases B0 i n with h'|h'
  ·rw [Cx (by omega)] at hz;exact h2 i z hz
  rw [Cp (by omega)] at hz
  have:i=n:=by
   have:=(Ac.1 hz).1
   simp at this;omega
  subst this
  rw [h1] at hz
  simp at hz
  exact hz ▸ hy
theorem La {α β:Type} {f:α→Nat} {g:β→Nat}:∀(l:List α) (m:List β),l.length=m.length→(∀(i:Nat) (a:α) (b:β),l[i]? = some a→m[i]? = some b→f a=g b)→(l.map f).sum=(m.map g).sum
 | [],[],_,_=>rfl
 | [],b::m,h,_=>by simp at h
 | a::l,[],h,_=>by simp at h
 | a::l,b::m,h,hh=>by
  simp only [Cl,List.sum_cons]
  rw [hh 0 a b rfl rfl,La l m (by simpa using h) (fun i a b h1 h2=>hh (i+1) a b h1 h2)]

theorem fm {T:TypeId→Prop} (PT:PlainT P T) {W:World}:∀(n:Nat) (t:TypeId) (cs:List Value) (x:DataW H×List MemPlace),T t→DataW.trod enc P W 0 (fun _=>true) true n t cs=some x →
  ∃y,DRep P t x.1 y∧CRep W y cs∧cs.length=P.cellsOf t:=by
 intro n
 induction n with
 | zero=>intro t cs x _ h;simp [DataW.trod] at h
 | succ n ih =>
  intro t cs x hT h
  rcases PT.look t hT with ⟨hc1,⟨k,hu⟩|hu|hu|⟨e,hu,he,hz⟩⟩|⟨fs,hu,hf,hsum,hoff⟩
  ·obtain ⟨m,rfl,rfl,hw⟩:=DataW.trod_int hu h
   exact ⟨_,.int hu hw,.v1 rfl,hc1.symm⟩
  ·obtain ⟨b,rfl,rfl⟩:=DataW.trod_bool hu h
   exact ⟨_,.bool hu,.v1 rfl,hc1.symm⟩
  ·obtain ⟨s,rfl,rfl,_⟩:=DataW.trod_string hu h
   exact ⟨_,.str hu,.v1 rfl,hc1.symm⟩
  ·rcases DataW.trod_slice hu h with ⟨rfl,rfl⟩|⟨a,len,cap,elems,rest,m,hm,rfl,rfl,hb,hlc,hcm,hel,hE,_,_⟩
   ·refine ⟨_,.nil hu,⟨rfl,by simp [AV.cells,AV.one],fun j c v h1 h2=>?_⟩,hc1.symm⟩
    match j with
    | 0=>simp [AV.cells] at h1 h2;subst h1;subst h2;exact .slice0 _ _ _
    | j+1=>simp [AV.cells] at h1
   injection hm with hm
   subst hm
   subst hel
   have hEi:∀i,i<elems.length→∃y,(∀d,elems[i]? = some d→DRep P e d.1 y)∧∃ci,W.cells? 0 (a.add (i*P.cellsOf e)) (P.cellsOf e)=some ci∧CRep W y ci:=fun i hi=>by
    have h1:=hE i hi
    rw [Ad hi,Option.bind_eq_some_iff] at h1
    obtain ⟨ci,h2,h3⟩:=h1
    obtain ⟨y,h4,h5,_⟩:=ih e ci _ he h3
    exact ⟨y,fun d hd=>by rw [Ad hi] at hd;injection hd with hd;subst hd;exact h4,ci,h2,h5⟩
   obtain ⟨ys,hyl,hys⟩:=Jw elems.length hEi
   refine ⟨.slice false (P.cellsOf e) ys,.slice hu (by simp [hyl]) (fun i d y hd hy=>?_),⟨rfl,by simp [AV.cells,AV.one],fun j c v h1 h2=>?_⟩,hc1.symm⟩
   ·rw [C4,Da] at hd
    obtain ⟨d',hd',rfl⟩:=hd
    exact (hys i y hy).1 d' hd'
   match j with
   | j+1=>simp [AV.cells] at h1
   | 0 =>
    simp [AV.cells] at h1 h2
    subst h1;subst h2
    by_cases h0:elems.length=0
    ·have:ys=[]:=Sd (by omega)
     subst this
     rw [h0]
     exact .sliceE _ _ _ _
    have hspot:a.spot=none:=by
     obtain ⟨ci,hci,_⟩:=(hys 0 ys[0] (Ad (by omega))).2
     obtain ⟨_,g1,g2⟩:=World.cells?_some hci
     have g3:=g2 0 hz
     rw [Ad (by omega)] at g3
     simp only [Nat.zero_mul,Addr.add,if_true] at g3
     unfold World.cell? at g3
     split at g3
     ·split at g3
      ·cases g3
      rename_i hs;simpa using hs
     cases g3
    refine .slice _ false _ ys a _ cap (fun i j=>(W.cell? ⟨a.block,a.off+i*P.cellsOf e+j,none⟩).getD undef) hspot hyl.symm hlc (fun x hx=>?_) (fun x hx=>?_) (fun i x j y hx hy=>?_) (fun i x j y hx hy=>?_) (fun h=>by cases h)
    ·obtain ⟨i,hi⟩:=Cc hx
     obtain ⟨ci,hci,hcr⟩:=(hys i x hi).2
     rw [hcr.1]
     exact (World.cells?_some hci).2.1
    ·obtain ⟨i,hi⟩:=Cc hx
     obtain ⟨ci,hci,hcr⟩:=(hys i x hi).2
     exact hcr.2.1
    ·obtain ⟨ci,hci,hcr⟩:=(hys i x hx).2
     obtain ⟨_,g1,g2⟩:=World.cells?_some hci
     have hj:j<P.cellsOf e:=by
      have:=(Ac.1 hy).1
      rw [hcr.1] at this;omega
     have g3:=g2 j hj
     rw [Ad (by omega),Bu hspot,Bu rfl] at g3
     exact ⟨mm g3,by rw [g3];rfl⟩
    obtain ⟨ci,hci,hcr⟩:=(hys i x hx).2
    obtain ⟨_,g1,g2⟩:=World.cells?_some hci
    have hj:j<P.cellsOf e:=by
     have:=(Ac.1 hy).1
     rw [hcr.1] at this;omega
    have g3:=g2 j hj
    rw [Ad (by omega),Bu hspot,Bu rfl] at g3
    simp only at g3
    rw [g3]
    exact hcr.2.2 j y _ hy (Ad (by omega))
  obtain ⟨xs,m,hm,rfl,hcl,hxl,hX⟩:=DataW.trod_struct hu h
  injection hm with hm
  subst hm
  have hXi:∀i,i<fs.size→∃y,∀(f:Field),fs[i]? = some f→(∀d,xs[i]? = some d→DRep P f.type d.1 y)∧CRep W y ((cs.drop f.offset).take (P.cellsOf f.type))∧y.cells.length=P.cellsOf f.type:=fun i hi=>by
   have h1:=hX i fs[i] (Cz hi)
   rw [Ad (by omega)] at h1
   obtain ⟨y,h2,h3,h4⟩:=ih _ _ _ (hf _ (by simp)) h1
   refine ⟨y,fun f hf'=>?_⟩
   rw [Cz hi] at hf'
   injection hf' with hf'
   subst hf'
   exact ⟨fun d hd=>by rw [Ad (by omega)] at hd;injection hd with hd;subst hd;exact h2,h3,by rw [h3.1,h4]⟩
  obtain ⟨ys,hyl,hys⟩:=Jw fs.size hXi
  have hlenI:∀(i:Nat),((ys.take i).map fun y=>y.cells.length).sum=((fs.toList.take i).map fun f=>P.cellsOf f.type).sum:=fun i=>by
   refine La _ _ (by simp [hyl]) (fun j y f h1 h2=>?_)
   rw [Eo] at h1 h2
   split at h1
   ·rename_i hj
    rw [if_pos hj] at h2
    exact (hys j y h1 f (by simpa using h2)).2.2
   cases h1
  have htot:(ys.flatMap AV.cells).length=cs.length:=by
   rw [List.length_flatMap,hcl,hsum]
   refine La _ _ (by simp [hyl]) (fun j y f h1 h2=>(hys j y h1 f (by simpa using h2)).2.2)
  refine ⟨.agg (ys.flatMap AV.cells),.struct hu (by simp [hxl]) hyl (fun i f d y hf' hd hy=>?_),⟨htot,fun c hc=>?_,fun j c v h1 h2=>?_⟩,hcl⟩
  ·rw [C4,Da] at hd
   obtain ⟨d',hd',rfl⟩:=hd
   exact (hys i y hy f hf').1 d' hd'
  ·obtain ⟨y,hy,hcy⟩:=List.mem_flatMap.1 hc
   obtain ⟨i,hi⟩:=Cc hy
   have hlt:i<fs.size:=by rw [←hyl];exact (Ac.1 hi).1
   exact ((hys i y hi fs[i] (Cz hlt)).2.1).2.1 c hcy
  obtain ⟨i,y,q,g1,g2,rfl⟩:=Vi ys j c h1
  have hlt:i<fs.size:=by rw [←hyl];exact (Ac.1 g1).1
  obtain ⟨_,k2,k3⟩:=hys i y g1 fs[i] (Cz hlt)
  have hq:q<P.cellsOf (fs[i]).type:=by have:=(Ac.1 g2).1;omega
  refine k2.2.2 q c v g2 ?_
  rw [Eo,if_pos hq,Dl,hoff i fs[i] (by simp [hlt]),←hlenI i]
  exact h2

/-- A measure of data. -/
structure Bulk (B:DataW H→Nat):Prop where
 str:∀bs,bs.length≤B (.lit (.string bs))
 slice:∀elems spare,elems.length≤B (.slice elems spare)∧∀d∈elems,B d≤B (.slice elems spare)
 agg:∀parts,∀d∈parts,B d≤B (.agg parts)
theorem DRep.int' {t:TypeId} {k:IntKind} {d:DataW H} {y:AV} (hu:P.underlying t=some (.int k)) (h:DRep P t d y):∃n,d=.lit (.int k n)∧y=.v (.int k n)∧k.min≤n∧n≤k.max:=by
 cases h with
 | int hu' wf=>rw [hu] at hu';injection hu' with e;injection e with e;subst e;exact ⟨_,rfl,rfl,by simpa [Lit.wf] using wf⟩
 | _ hu'=>rw [hu] at hu';cases hu'
theorem DRep.str' {t:TypeId} {d:DataW H} {y:AV} (hu:P.underlying t=some .string) (h:DRep P t d y):∃s,d=.lit (.string s)∧y=.v (sv s):=by
 cases h with
 | str hu'=>exact ⟨_,rfl,rfl⟩
 | _ hu'=>rw [hu] at hu';cases hu'
theorem DRep.slice' {t e:TypeId} {d:DataW H} {y:AV} {B:DataW H→Nat} (hB:Bulk B) {α:Type} (A:α→AV) (R:α→Prop) {b:Nat} (hu:P.underlying t=some (.slice e)) (h:DRep P t d y) (hb:B d≤b)
  (hE:∀d y,B d≤b→DRep P e d y→∃x,y=A x∧R x):∃l:List α,y=.slice false (P.cellsOf e) (l.map A)∧l.length≤b∧∀x∈l,R x:=by
 cases h with
 | nil hu'=>rw [hu] at hu';injection hu' with e';injection e' with e';subst e';exact ⟨[],rfl,Aw _,fun x hx=>by cases hx⟩
 | slice hu' hn hh =>
  rw [hu] at hu';injection hu' with e';injection e' with e';subst e'
  rename_i elems spare ys
  obtain ⟨h1,h2⟩:=hB.slice elems spare
  have key:∀(ys:List AV) (es:List (DataW H)),ys.length=es.length→(∀d∈es,B d≤b)→(∀(i:Nat) (d:DataW H) (y:AV),es[i]? = some d→ys[i]? = some y→DRep P e d y)→∃l:List α,ys=l.map A∧∀x∈l,R x:=by
   intro ys
   induction ys with
   | nil=>exact fun es _ _ _=>⟨[],rfl,fun x hx=>by cases hx⟩
   | cons y ys ih =>
    intro es hl hb2 hr
    cases es with
    | nil=>simp at hl
    | cons d es =>
     obtain ⟨x,rfl,hx⟩:=hE d y (hb2 d (by simp)) (hr 0 d y rfl rfl)
     obtain ⟨l,rfl,hR⟩:=ih es (by simpa using hl) (fun d hd=>hb2 d (by simp [hd])) (fun i d y a c=>hr (i+1) d y a c)
     exact ⟨x::l,rfl,fun z hz=>by
      rcases Bt.1 hz with rfl|hz
      ·exact hx
      exact hR z hz⟩
  obtain ⟨l,rfl,hR⟩:=key ys elems hn (fun d hd=>Ob (h2 d hd) hb) hh
  exact ⟨l,rfl,by simp at hn;omega,hR⟩
 | _ hu'=>rw [hu] at hu';cases hu'
theorem DRep.struct' {t:TypeId} {fs:Array Field} {d:DataW H} {y:AV} {B:DataW H→Nat} (hB:Bulk B) (hu:P.underlying t=some (.struct fs)) (h:DRep P t d y):
  ∃ys:List AV,ys.length=fs.size∧y=.agg (ys.flatMap AV.cells)∧∀(i:Nat) (f:Field) (z:AV),fs[i]? = some f→ys[i]? = some z→∃d',B d'≤B d∧DRep P f.type d' z:=by
 cases h with
 | struct hu' hn hn' hh =>
  rw [hu] at hu';injection hu' with e';injection e' with e';subst e'
  rename_i parts ys
  refine ⟨ys,hn',rfl,fun i f z h1 h2=>?_⟩
  have hlt:i<parts.length:=by rw [hn];exact (J5.1 h1).1
  exact ⟨parts[i],hB.agg parts _ (C7 hlt),hh i f parts[i] z h1 (Ad hlt) h2⟩
 | _ hu'=>rw [hu] at hu';cases hu'

/-- An argument's reading. -/
theorem j7 {T:TypeId→Prop} (PT:PlainT P T) {W:World} {t:TypeId} {v:Value} {d:DataW H} {ps:List MemPlace} {b0:Nat} (hT:T t) (hok:Value.okWide P W .any b0 t v) (h:DataW.Trod enc P W 0 (fun _=>true) true t v d ps):
  ∃y,DRep P t d y∧Rep (G0 W) W none y v:=by
 obtain ⟨n,hn⟩:=h
 obtain ⟨y,h1,h2,h3⟩:=fm PT n t _ _ hT hn
 refine ⟨y,h1,?_⟩
 rcases PT.look t hT with ⟨hc1,hone⟩|⟨fs,hu,_⟩
 ·have hva:∀cs,v≠.agg cs:=fun cs e=>by
   subst e
   rcases hone with ⟨k,hu⟩|hu|hu|⟨e,hu,he,hz⟩<;>simp [Value.okWide,hu,Cell.okWide,Cell.ok] at hok
  have hvc:v.cells=#[v]:=by cases v<;>first|rfl|exact absurd rfl (hva _)
  have hyc:y.cells=[y]:=by
   cases h1 with
   | struct hu=>rcases hone with ⟨k,hu'⟩|hu'|hu'|⟨e,hu',he,hz⟩<;>rw [hu] at hu'<;>cases hu'
   | _=>rfl
  have:=h2.2.2 0 y v (by rw [hyc];rfl) (by rw [hvc];rfl)
  exact this
 obtain ⟨cs,rfl,hsz,_⟩:∃cs,v=.agg cs∧cs.size=P.cellsOf t∧Row.okWide P W .any b0 t cs:=by
  simp only [Value.okWide,hu] at hok
  exact hok
 cases h1 with
 | struct hu' hn1 hn2 hh =>
  refine .agg _ _ _ (by have:=h2.1;simp only [AV.cells,Value.cells,Array.length_toList] at this;exact this.symm) h2.2.1 (fun i c u a b=>h2.2.2 i c u a (by simpa [Value.cells] using b))
 | int hu'=>rw [hu] at hu';cases hu'
 | bool hu'=>rw [hu] at hu';cases hu'
 | str hu'=>rw [hu] at hu';cases hu'
 | nil hu'=>rw [hu] at hu';cases hu'
 | slice hu'=>rw [hu] at hu';cases hu'

def DReps (P:Program):List TypeId→List (DataW H)→List AV→Prop
 | [],[],[]=>True
 | t::ts,d::ds,y::ys=>DRep P t d y∧DReps P ts ds ys
 | _,_,_=>False

theorem DReps.cons' {t:TypeId} {ts:List TypeId} {ds:List (DataW H)} {ys:List AV} (h:DReps P (t::ts) ds ys):∃d ds' y ys',ds=d::ds'∧ys=y::ys'∧DRep P t d y∧DReps P ts ds' ys':=by
 match ds,ys,h with
 | d::ds',y::ys',⟨h1,h2⟩=>exact ⟨d,ds',y,ys',rfl,rfl,h1,h2⟩
 | [],_,h=>simp [DReps] at h
 | _::_,[],h=>simp [DReps] at h
theorem DReps.nil' {ds:List (DataW H)} {ys:List AV} (h:DReps P [] ds ys):ds=[]∧ys=[]:=by
 match ds,ys,h with
 | [],[],_=>exact ⟨rfl,rfl⟩
 | [],_::_,h=>simp [DReps] at h
 | _::_,_,h=>simp [DReps] at h
theorem Rs {T:TypeId→Prop} (PT:PlainT P T) {W:World} {b0:Nat}:∀(ts:List TypeId) (vs:List Value) (ds:List (DataW H)) (ps:List MemPlace),(∀t∈ts,T t) →
  (∀(j:Nat) t v,ts[j]? = some t→vs[j]? = some v→Value.okWide P W .any b0 t v)→DataW.TrodAll enc P W 0 (fun _=>true) true ts vs ds ps →
  ∃ys,DReps P ts ds ys∧ys.length=vs.length∧∀(i:Nat) (y:AV) (u:Value),ys[i]? = some y→vs[i]? = some u→Rep (G0 W) W none y u
 | [],[],[],_,_,_,_=>⟨[],trivial,rfl,fun i y u h=>by simp at h⟩
 | t::ts,v::vs,d::ds,ps,hT,hok,⟨p,q,h1,h2,_⟩=>by
  obtain ⟨y,k1,k2⟩:=j7 PT (hT t (by simp)) (hok 0 t v rfl rfl) h1
  obtain ⟨ys,k3,k4,k5⟩:=Rs PT ts vs ds q (fun t ht=>hT t (by simp [ht])) (fun j t v a b=>hok (j+1) t v a b) h2
  refine ⟨y::ys,⟨k1,k3⟩,by simp [k4],fun i z u a b=>?_⟩
  match i with
  | 0=>simp at a b;subst a;subst b;exact k2
  | i+1=>exact k5 i z u a b
 | [],_::_,_,_,_,_,h=>by simp [DataW.TrodAll] at h
 | [],[],_::_,_,_,_,h=>by simp [DataW.TrodAll] at h
 | _::_,[],_,_,_,_,h=>by simp [DataW.TrodAll] at h
 | _::_,_::_,[],_,_,_,h=>by simp [DataW.TrodAll] at h

theorem Nq {W:World} {sp:Nat→Bool} {hd:Bool}:∀{ts:List TypeId} {vs:List Value} {ds:List (DataW H)} {ps:List MemPlace},DataW.TrodAll enc P W 0 sp hd ts vs ds ps→ds.length=ts.length
 | [],[],[],_,_=>rfl
 | _::_,_::_,_::_,_,⟨_,_,_,h,_⟩=>by rw [Ar,Ar,Nq h]
 | [],_::_,_,_,h=>by simp [DataW.TrodAll] at h
 | [],[],_::_,_,h=>by simp [DataW.TrodAll] at h
 | _::_,[],_,_,h=>by simp [DataW.TrodAll] at h
 | _::_,_::_,[],_,h=>by simp [DataW.TrodAll] at h
theorem Jx {W W':World} {sp:Nat→Bool}:∀{ts:List TypeId} {vs:List Value} {ds:List (DataW H)} {ps:List MemPlace},DataW.TrodAll enc P W 0 sp true ts vs ds ps→(∀p∈ps,W.sameAt W' p)→DataW.TrodAll enc P W' 0 sp true ts vs ds ps
 | [],[],[],_,h,_=>h
 | _::_,_::_,_::_,_,⟨p,q,⟨n,hn⟩,h2,e⟩,hs=>⟨p,q,⟨n,DataW.trod_carry n _ _ _ hn (fun x hx=>hs x (by rw [e];exact Oy _ hx))⟩,Jx h2 (fun x hx=>hs x (by rw [e];exact Kv _ hx)),e⟩
 | [],_::_,_,_,h,_=>by simp [DataW.TrodAll] at h
 | [],[],_::_,_,h,_=>by simp [DataW.TrodAll] at h
 | _::_,[],_,_,h,_=>by simp [DataW.TrodAll] at h
 | _::_,_::_,[],_,h,_=>by simp [DataW.TrodAll] at h

/-- **A law that answers true, for whatever can be read.** -/
theorem bf {f:FuncId} {fn:Func} {s:ChangeSpec} {T:TypeId→Prop} {tb:TypeId} {W:World} {base:Nat} {args:Array Value} {ds gs:List (DataW H)} {before:List MemPlace} (K:Kids P (·<P.types.size)) (hz:∀t e,t<P.types.size→P.underlying t=some (.slice e)→0<P.cellsOf e)
  (PT:PlainT P T) (hT:∀t∈fn.params.toList,T t∧t<P.types.size) (hb:P.underlying tb=some .bool) (hres:fn.resultTypes=#[tb]) (hvars:s.vars=[])
  (hspec:∀ds:List (DataW H),ds.length=fn.params.size→s.fn H ds={ results:=[.lit (.bool true)],args:=ds })
  (hval:∀(j:Nat) t v,fn.params[j]? = some t→args[j]? = some v→Value.okWide P W .any base t v) (hW:DataW.Whole enc P fn.params.toList s.vars false W args.toList ds gs before)
  (hglob:Fm W)
  (main:∀ys:List AV,DReps P fn.params.toList ds ys→AFun P f ys [] (.v (.bool true))) (hbd:GI.bd≤0:=by exact Ah 0):
  Calls P f args W (fun e W'=>∃v,e=.returned v∧s.post enc P fn false true false false W args v W'):=by
 have hW0:=hW
 obtain ⟨p,q,hA,hV,hpq,hfz,hnd⟩:=hW
 rw [hvars] at hV
 obtain ⟨rfl,rfl⟩:=trodVars_none hV
 rw [Hw] at hpq
 subst hpq
 obtain ⟨ys,h1,h2,h3⟩:=Rs PT _ _ _ _ (fun t ht=>(hT t ht).1) (fun j t v a b=>hval j t v (by simpa using a) (by simpa using b)) hA
 have hlen:=Nq hA
 have hc:=main ys h1 0 (G0 W) W args (by simpa using h2.symm) (fun i y u a b=>(h3 i y u a (by simpa using b)).lift) (j5 W) (j6 hglob)
 refine (callsIn_wide.1 (hc hbd)).mono ?_
 rintro e W' ⟨v,G',r,H',rfl,hr,hH,hTg,hk,hl,rfl,rfl⟩
 have hv:=J1 hr
 subst hv
 refine ⟨_,rfl,ds,[],before,[],before,[],hW0,?_,?_,?_,?_,fun h=>by cases h⟩
 ·rw [hres,Hw,hspec ds (by simpa using hlen)]
  exact trodAll_cons_mk (p:=[]) (shut_bool hb true) trodAll_mk0
 ·rw [Hw,hspec ds (by simpa using hlen)]
  refine Jx (DataW.TrodAll.respare K hz (fun t ht=>(hT t ht).2) hA (fun p hp=>by simpa using hW0.lt p hp)) (fun p hp=>?_)
  have hlt:=hW0.lt p hp
  have hb:=(hk.old _ (N0 hlt)).1
  cases p with
  | cell b o=>exact Gp hb
  | map b=>exact hb
 ·rw [hvars,Hw,hspec ds (by simpa using hlen)]
  rfl
 refine ⟨hk.os,hk.output,fun i hi=>?_⟩
 have hb:=(hk.old i (N0 hi)).1
 rw [hb]
 cases ho:W.heap[i]? with
 | none=>simp
 | some o=>cases o<;>simp
end
end Go.SX
namespace Go.Proofs.YtdjhkihdmiednaaGreatDoor
open Go Go.SX Go.SX.Nb Go.ChangeShapes Go.RowKit
set_option maxRecDepth 100000

theorem own:ownKnob Tryz.prog.godebug=none:=by kernel_rfl
theorem kids:Kids Tryz.prog (·<Tryz.prog.types.size):=kids_rows (by kernel_rfl) (by kernel_rfl)
theorem full:∀t e,t<Tryz.prog.types.size→Tryz.prog.underlying t=some (.slice e)→0<Tryz.prog.cellsOf e:=slices_full_of Tryz.prog (by kernel_rfl)
theorem fp {H:Type}:∀d:DataW H,1≤Rows.uptoBulk d
 | .lit (.string b)=>by rw [Rows.uptoBulk];omega
 | .lit (.bool _)=>by simp [Rows.uptoBulk]
 | .lit (.int _ _)=>by simp [Rows.uptoBulk]
 | .lit (.float _ _)=>by simp [Rows.uptoBulk]
 | .lit .nil=>by simp [Rows.uptoBulk]
 | .nil=>by simp [Rows.uptoBulk]
 | .ptr d=>by rw [Rows.uptoBulk];omega
 | .slice a b=>by rw [Rows.uptoBulk];omega
 | .agg a=>by rw [Rows.uptoBulk];omega
 | .iface _ d=>by rw [Rows.uptoBulk];omega
 | .map a=>by rw [Rows.uptoBulk];omega
 | .held _=>by simp [Rows.uptoBulk]
theorem Pt {H:Type}:∀l:List (DataW H),l.length≤Rows.uptoBulkAll l∧∀d∈l,Rows.uptoBulk d≤Rows.uptoBulkAll l
 | []=>⟨Nat.zero_le _,fun d h=>by cases h⟩
 | d::r=>by
  obtain ⟨h1,h2⟩:=Pt r
  have:=fp d
  rw [Rows.uptoBulkAll,List.length_cons]
  refine ⟨by omega,fun x hx=>?_⟩
  rcases List.mem_cons.1 hx with rfl|hx
  ·omega
  have:=h2 x hx;omega
theorem pm {H:Type}:Bulk (Rows.uptoBulk (H:=H)) where
 str:=fun bs=>by rw [Rows.uptoBulk];omega
 slice:=fun elems spare=>by
  obtain ⟨h1,h2⟩:=Pt elems
  rw [Rows.uptoBulk]
  exact ⟨by omega,fun d hd=>by have:=h2 d hd;omega⟩
 agg:=fun parts d hd=>by
  have:=(Pt parts).2 d hd
  rw [Rows.uptoBulk]
  omega

/-- What the rows of this seat list. -/
def Yn:List (String×DataW Unit):=Rows.loadCallsUptoRow.laid
theorem Rt:∀u,Tryz.prog.typeName? 3 u=some "*errors.errorString" → u=269:=by
 intro u hu
 exact typeName_ptr_named (nm := "errors.errorString") (by kernel_rfl) (by kernel_rfl) (by decide) u hu
theorem j8 {W:World} (h:laidMet Tryz.prog Yn W):∃a:Addr,W.var? Tryz.prog "strconv.ErrRange" = some #[.iface 269 (.pointer (some a))]:=by
 have h':=h.tail.tail.tail.tail
 obtain ⟨a,s,h1,_⟩:=laid_sentinel (g:=2) (ti:=141) (tp:=269) (te:=271) (ts:=9) h' (by kernel_rfl) (by kernel_rfl) Tryz.underlying141 Rt Tryz.underlying269 Tryz.underlying271 rfl rfl Tryz.underlying9 (by kernel_rfl) (by kernel_rfl)
 exact ⟨a,h1⟩
theorem fq {W:World} (h:laidMet Tryz.prog Yn W):∃a:Addr,W.var? Tryz.prog "strconv.ErrSyntax" = some #[.iface 269 (.pointer (some a))]:=by
 have h':=h.tail.tail.tail.tail.tail
 obtain ⟨a,s,h1,_⟩:=laid_sentinel (g:=3) (ti:=141) (tp:=269) (te:=271) (ts:=9) h' (by kernel_rfl) (by kernel_rfl) Tryz.underlying141 Rt Tryz.underlying269 Tryz.underlying271 rfl rfl Tryz.underlying9 (by kernel_rfl) (by kernel_rfl)
 exact ⟨a,h1⟩
theorem j9 {W:World} (h:laidMet Tryz.prog Yn W):Lib.TabIs Tryz.prog W "internal/strconv.uint64pow10" .u64 Lib.pow10Tab:=
 Lib.tabIs_of_head (g:=1) (t:=201) (e:=22) (n:=20) (by kernel_rfl) (by kernel_rfl) (by kernel_rfl) (by kernel_rfl) (by kernel_rfl) (by kernel_rfl) h.tail.tail
theorem N1 {P:Program} {W:World} {n:String} {g:Nat} {cs:Array Value} (hg:P.globalNamed n=some g) (h:W.var? P n=some cs):∃t f,W.heap[g]? = some (.cells cs t f):=by
 unfold World.var? at h
 rw [hg] at h
 simp only [Option.bind_some] at h
 split at h
 ·rename_i cs' t f e
  injection h with h
  subst h
  exact ⟨t,f,e⟩
 cases h
theorem glob {W:World} [E:ErrAt] (h:W.ShapedOpen Tryz.prog) (hl:laidMet Tryz.prog Yn W) (he:W.var? Tryz.prog "strconv.ErrRange" = some #[.iface 269 (.pointer (some E.b))]) (he2:W.var? Tryz.prog "strconv.ErrSyntax" = some #[.iface 269 (.pointer (some E.bs))]):Fm W:=by
 intro x hx
 have hx':x∈P9:=hx
 unfold P9 at hx'
 simp only [List.mem_cons,List.mem_nil_iff,or_false] at hx'
 rcases hx' with rfl|rfl|rfl|rfl
 ·obtain ⟨m,hm⟩:=cell_of_shapedOpen_int (g:=0) (t:=3) (zero:=#[.int .i64 0]) (k:=.i64) h (of_decide_eq_true (by kernel_rfl)) (by kernel_rfl) rfl (by kernel_rfl) (by kernel_rfl) Tryz.underlying3
  obtain ⟨cs,hh,hs,_⟩:=h.1 0 #[.int .i64 0] 3 (of_decide_eq_true (by kernel_rfl)) (by kernel_rfl)
  have hs':cs.size=1:=hs
  have h1:0<cs.size:=by omega
  have hc:cs[0]=.int .i64 m:=by
   simp [World.cell?,hh,h1] at hm
   exact hm
  have:cs=#[.int .i64 m]:=by
   apply Array.ext
   ·simpa using hs'
   intro i h1 h2
   have:i=0:=by omega
   subst this
   simpa using hc
  rw [this] at hh
  exact ⟨_,hh,m,3,_,rfl⟩
 ·obtain ⟨t,f,e⟩:=N1 (g:=2) (by kernel_rfl) he
  exact ⟨_,e,t,f,rfl⟩
 ·obtain ⟨t,f,e⟩:=N1 (g:=3) (by kernel_rfl) he2
  exact ⟨_,e,t,f,rfl⟩
 obtain ⟨t,f,e⟩:=N1 (g:=1) (by kernel_rfl) (j9 hl)
 exact ⟨_,e,t,f,rfl⟩
end Go.Proofs.YtdjhkihdmiednaaGreatDoor
namespace Go.SX.Nb
open Go Go.SX Go.Proofs
variable [ErrAt]
set_option maxRecDepth 4000
/-- The lexer from a place between two words on. -/
def s9 (f q:Nat) (s:Str):List (Tok×Int):=Gb f (q+gapM s) (s.drop (gapM s))
theorem Vj {f q:Nat} {s:Str} (h:s≠[]):∃(n:Nat),Gb (f+1) q s=(⟨(Bj s).1,(Bj s).2.1,q⟩,(Bj s).2.2.2)::(if (Bj s).2.2.2=0 then s9 f (q+n) (s.drop n) else [])∧((Bj s).2.2.2=0→(Bj s).2.2.1=(n:Int)∧1≤n∧n≤s.length):=by
 refine ⟨(Bj s).2.2.1.toNat,?_,fun he=>?_⟩
 ·rw [Ju h]
  simp only [beq_iff_eq]
  rfl
 obtain ⟨n,h1,h2,h3⟩:=Yl (s:=s) (by cases s with|nil=>exact absurd rfl h|cons c r=>simp) he
 rw [h1]
 exact ⟨rfl,by simpa using h2,by simpa using h3⟩
/-! ### Gaps -/
/-! ### Words -/
theorem ja {s:Str} (h:(B4 s).2.1=0):s.length≤4000∧(∀it∈Bi s,it.2=0)∧B4 s=((Bi s).map (·.1)++[⟨0,[],s.length⟩],0,0):=by
 unfold B4 at h ⊢
 split at h
 ·exact absurd h (show ¬(3:Int)=0 by decide)
 rename_i hl
 rw [if_neg hl]
 cases hf:(Bi s).find? (fun it=>it.2 != 0) with
 | some it =>
  rw [hf] at h
  have:=List.find?_some hf
  simp at this
  exact absurd h this
 | none =>
  rw [Se] at hf
  refine ⟨by omega,fun it hit=>by simpa using hf it hit,rfl⟩
theorem Jy {n:Int} (h1:0≤n) (h2:n<18446744073709551616):IntKind.u64.wrap n=n:=by
 have e1:(2 ^ IntKind.u64.bits:Int)=18446744073709551616:=rfl
 have e3:IntKind.u64.signed=false:=rfl
 unfold IntKind.wrap
 simp only [e1,e3,Ot]
 simp
 omega
theorem N2 (n:Int):0≤IntKind.u64.wrap n∧IntKind.u64.wrap n<18446744073709551616:=by
 have e1:(2 ^ IntKind.u64.bits:Int)=18446744073709551616:=rfl
 have e3:IntKind.u64.signed=false:=rfl
 unfold IntKind.wrap
 simp only [e1,e3,Ot]
 simp
 omega
def A5 (s:Int):Int:=IntKind.u64.wrap (IntKind.u64.wrap (s*6364136223846793005)+1442695040888963407)
def Ak (s n:Int):Int:=(s / 8589934592) % n
theorem Vk (s:Int):0≤A5 s∧A5 s<18446744073709551616:=N2 _
theorem Bn (s n:Int) (h:0<n):0≤Ak s n∧Ak s n<n:=⟨Int.emod_nonneg _ (by omega),Int.emod_lt_of_pos _ h⟩
theorem pq {s n:Int} (hs:0≤s∧s<18446744073709551616) (h:0<n) (h2:n≤1099511627776):IntKind.i64.wrap ((IntKind.u64.wrap (s.tdiv 8589934592)).tmod (IntKind.u64.wrap n))=Ak s n:=by
 have e1:s.tdiv 8589934592=s / 8589934592:=Int.tdiv_eq_ediv_of_nonneg hs.1
 rw [e1,Jy (by omega) (by omega),Jy (by omega) (by omega),Wf (by omega)]
 have:=Bn s n h
 unfold Ak at this ⊢
 exact Jh (by omega) (by omega)
theorem mn {s n:Int} (hs:0≤s∧s<18446744073709551616) (h:0<n) (h2:n≤1099511627776):IntKind.i64.wrap ((s.fdiv (2 ^ 33)).tmod (IntKind.u64.wrap n))=Ak s n:=by
 have e1:s.fdiv (2 ^ 33)=s / 8589934592:=Int.fdiv_eq_ediv_of_nonneg _ (by decide)
 rw [e1,Jy (by omega) (by omega),Wf (by omega)]
 have:=Bn s n h
 unfold Ak at this ⊢
 exact Jh (by omega) (by omega)
theorem To {n:Int} (h:0<n) (h2:n≤1099511627776):IntKind.u64.wrap n≠0:=by rw [Jy (by omega) (by omega)];omega
theorem c26 (s n:Int) (h1:0<n) (h2:n≤1099511627776) (Hp:List AObj):AFun Tryz.prog 26 [Cf s,A3 n] Hp (.tup [Cf (A5 s),A3 (Ak (A5 s) n)]):=by
 refine Ai [.tmp 4,.tmp 5] [0,1] Tryz.func26 Tryz.ntmps26 (fun d=>?_)
 refine ec ?_;refine Z1 ?_
 refine A4 (h:=Q.add) (hr:=?_)
 refine A4 ?_;refine A2 [0,1] ?_;refine W.draw [0,0,2,0,8,30,62,1,255] 8 Av (by kernel_rfl) ?_;refine Z11 ?_;refine Z34 ?_
 refine Bb (h:=Q.rem (h0:=fun _=>To h1 h2)) (hr:=?_)
 refine Z11 ?_;refine In ?_;refine A4 ?_;refine Z91 ?_;exact A9 (Cr A7 A7) ⟨by rw [pq (N2 _) h1 h2];rfl,rfl⟩

theorem c33 (i:Nat) (s n:Int) (h1:0<n) (h2:n≤1099511627776) (Hp:List AObj) (hi:Hp[i]? = some (.cells 55 [Cf s])):ACall Tryz.prog 33 [.ptr i 0,A3 n] Hp (fun r H'=>r=A3 (Ak (A5 s) n)∧H'=Hp.set i (.cells 55 [Cf (A5 s)])):=by
 refine Ai [.tmp 4] [0,1] Tryz.func33 Tryz.ntmps33 (fun d=>?_)
 refine Z39 ?_;refine Z21 ?_
 refine A4 (h:=Bp hi) (hr:=?_)
 refine A4 ?_
 refine A4 (h:=Q.add) (hr:=?_)
 refine Z0 ?_
 refine Di jS hi ?_ ?_
 ·simp
 refine A2 [0,1] ?_;refine Df ?_
 have hi2:(Hp.set i (.cells 55 [.v (.int .u64 (A5 s))]))[i]? = some (.cells 55 [.v (.int .u64 (A5 s))]):=by rw [Wl (Ac.1 hi).1]
 refine Z6 ?_
 refine A4 (h:=Bp hi2) (hr:=?_)
 refine A4 (h:=Q.shr 33) (hr:=?_)
 refine Z0 ?_
 refine A4 (h:=Q.rem (h0:=fun _=>To h1 h2)) (hr:=?_)
 refine Uv ?_;exact A9 (Af A7) ⟨by rw [mn (Vk s) h1 h2],rfl⟩

def texts:List Str:=[[],[55],[49,50],[120]]
def Ru (n:Int):Str:=texts.getD n.toNat []
theorem Rv {n:Nat} (h:n<4):(texts.map A8)[n]? = some (A8 (texts.getD n [])):=by
 match n,h with
 | 0,_=>rfl
 | 1,_=>rfl
 | 2,_=>rfl
 | 3,_=>rfl
theorem sa (n:Int) (h:0≤n∧n<4) (Hp:List AObj):AFun Tryz.prog 152 [A3 n] Hp (A8 (Ru n)):=by
 refine Ai [.tmp 2] [0] Tryz.func152 Tryz.ntmps152 (fun d=>?_)
 refine Z31 ?_;refine Df ?_;refine R.buildArr jU Tryz.sizeOf9 Tryz.zeroValue222 ?_;refine A4 ?_
 refine A4 (h:=Q.indexArr (n.toNat) (A8 (texts.getD n.toNat [])) (fun _=>by omega) (fun _=>Rv (by omega))) (hr:=?_)
 exact ip

def Fp (s kind:Int):Int×Val:=
 if Ak (A5 s) 8=0 then (A5 s,⟨0,0,[]⟩)
 else if kind=1 then (A5 (A5 s),⟨1,Ak (A5 (A5 s)) 100-20,[]⟩)
 else if kind=2 then (A5 (A5 s),⟨2,0,Ru (Ak (A5 (A5 s)) 4)⟩)
 else (A5 (A5 s),⟨kind,Ak (A5 (A5 s)) 2,[]⟩)
theorem sb (i:Nat) (s kind:Int) (Hp:List AObj) (hi:Hp[i]? = some (.cells 55 [Cf s])):ACall Tryz.prog 103 [.ptr i 0,A3 kind] Hp (fun r H'=>r=Fo (Fp s kind).2∧H'=Hp.set i (.cells 55 [Cf (Fp s kind).1])):=by
 refine Ai [.cell 4 35] [0,1] Tryz.func103 Tryz.ntmps103 (fun d=>?_)
 refine Z18 ?_;refine A2 [0,1,4] ?_;refine Z19 ?_;refine Bf Tryz.call33 hi (by simp) Lr (c33 i (s) 8 (by decide) (by decide) _ (An hi)) ?_;refine A4 ?_;refine A2 [0,1,4,8] ?_
 refine A6 (fun ht8=>?_) (fun ht8=>?_)
 ·refine Z26 ?_;refine Z75 ?_;refine Dn ?_;exact A9 (Af (B3 jA jS)) ⟨by simp at ht8;simp [Fp,ht8],by simp at ht8;simp [Fp,ht8]⟩
 have hi2:(Hp.set i (.cells 55 [Cf (A5 s)]))[i]? = some (.cells 55 [Cf (A5 s)]):=Az hi
 refine Z73 ?_;refine oc ?_;refine A2 [0,1,4,5] ?_;refine Z19 ?_;refine A2 [0,4,5,12] ?_;refine Z97 ?_;refine A2 [0,4,5,12,16] ?_
 refine A6 (fun ht16=>?_) (fun ht16=>?_)
 ·refine Z27 ?_;refine Bf Tryz.call33 hi2 (by simp) Lr (c33 i (A5 s) 100 (by decide) (by decide) _ (An hi2)) ?_
  have hk:=Bn (A5 (A5 s)) 100 (by decide)
  refine Z0 ?_;refine ie ?_;refine Z12 ?_;refine Z2 ?_;refine Z75 ?_;exact A9 (Af (B3 jA jS)) ⟨by simp at ht8 ht16;simp [Fp,ht8,ht16],by simp at ht8 ht16;simp [Fp,ht8,ht16]⟩
 refine Z1 ?_;refine A2 [0,4,5,22] ?_
 refine A6 (fun ht22=>?_) (fun ht22=>?_)
 ·refine Z27 ?_;refine om ?_;refine Ab Tryz.call152 (sa _ (Bn _ _ (by decide)) _) ?_;refine A4 ?_;refine ie ?_;refine Z12 ?_;refine Z2 ?_;exact Z78
 refine Z27 ?_;refine Bf Tryz.call33 hi2 (by simp) Lr (c33 i (A5 s) 2 (by decide) (by decide) _ (An hi2)) ?_;refine A4 ?_;refine ie ?_;refine Z12 ?_;refine Z2 ?_;exact Z78

def As:Int→List Col→Int×List Val
 | s,[]=>(s,[])
 | s,c::r=>((As (Fp s c.kind).1 r).1,(Fp s c.kind).2::(As (Fp s c.kind).1 r).2)
theorem Nr (y:Col):∀(a:List Col) (s:Int),As s (a++[y])=((Fp (As s a).1 y.kind).1,(As s a).2++[(Fp (As s a).1 y.kind).2])
 | [],s=>rfl
 | c::r,s=>by simp only [Dd,As,Nr y r]
theorem Gd:∀(a:List Col) (s:Int),(As s a).2.length=a.length
 | [],s=>rfl
 | c::r,s=>by simp only [As,Ar,Gd r]
theorem Ns (s:Int) (c:List Col) {x:Nat} (h:x<c.length):As s (c.take (x+1))=((Fp (As s (c.take x)).1 c[x].kind).1,(As s (c.take x)).2++[(Fp (As s (c.take x)).1 c[x].kind).2]):=by
 rw [K8 h,Nr]
theorem c65 (i:Nat) (s:Int) (c:List Col) (hc:OkCols c) (Hp:List AObj) (hi:Hp[i]? = some (.cells 55 [Cf s])):ACall Tryz.prog 65 [.ptr i 0,Cu c] Hp (fun r H'=>r=Ia (As s c).2∧H'=Hp.set i (.cells 55 [Cf (As s c).1])):=by
 refine Ai [.tmp 4] [0,1] Tryz.func65 Tryz.ntmps65 (fun d=>?_)
 refine Z39 ?_;refine Z2 ?_;refine Ta ?_;refine Z53 ?_;refine R.nilSl 5 3 ?_;refine Z6 ?_;refine A2 [0,5,8,9,10] ?_
 refine C8 (α:=Nat) (fun x=>⟨23,Aa 0 (.ptr i 0) (Aa 5 (.slice true 3 ((As s (c.take x)).2.map Fo)) (Aa 8 (Cu c) (Aa 9 (A3 c.length) (Aa 10 (A3 (x:Nat)) (fun _=>.any))))),Hp.set i (.cells 55 [Cf (As s (c.take x)).1]),[],[],none⟩) (fun x=>x≤c.length) (fun x=>c.length-x) (0) (Aw _) (C1 (by simp [As,Bv hi])) rfl (fun x hx=>?_)
 refine Z2 ?_;refine A2 [0,5,8,9,10,11] ?_
 refine Fl (fun ht11=>?_) (fun ht11=>?_)
 ·have hlt:x<c.length:=by simpa using ht11
  have hil:i<Hp.length:=(Ac.1 hi).1
  have hcl:=hc.len
  have hi2:(Hp.set i (.cells 55 [Cf (As s (c.take x)).1]))[i]? = some (.cells 55 [Cf (As s (c.take x)).1]):=Az hi
  refine Ut ?_
  refine A4 (h:=Ay (x) (Jp c[x]) (fun _=>Bg hlt)) (hr:=?_)
  refine X5 ?_;refine A2 [0,5,7,8,9,10] ?_;refine Z56 ?_;refine Z6 ?_;refine Bf Tryz.call103 hi2 (by simp) Lr (sb i (As s (c.take x)).1 c[x].kind _ (An hi2)) ?_;refine O5 ?_
  refine F6 jU Tryz.type35 ?_ ?_ ?_
  ·simp [Gd,Tryz.t35];omega
  ·simp [Gd,Tryz.t35];omega
  refine G5 ?_;refine A2 [0,5,8,9,10] ?_;refine X8 ?_;refine A2 [0,5,8,9,10] ?_;refine el ?_
  simp only [Ns s c hlt,Ba,Dy,Cl,H9]
  exact Dj (own:=[]) (fun _=>.refl _) (by repeat (first|exact Bx|refine Bw (by simp [hil,or_imp,forall_and]) ?_)) (by simp) (by simp)
 have hxe:c.take x=c:=E3 (by simp at ht11;omega)
 refine Z23 ?_;refine Z1 ?_;refine Z13 ?_;exact A9 (Af A7) ⟨by rw [hxe],by rw [hxe]⟩

def bg (k:Int):Int:=if k=1 then 100 else 2
def nOf (k:Int):Int:=if k=2 then 4 else bg k
theorem Tp (k:Int):0<nOf k:=by unfold nOf bg;split<;>(try split)<;>decide
theorem fu (k:Int):nOf k≤1099511627776:=by unfold nOf bg;split<;>(try split)<;>decide
theorem pt:nOf 2=4:=rfl
theorem pu:nOf 1=100:=rfl
theorem pv {k:Int} (h1:k≠1) (h2:k≠2):nOf k=2:=by simp [nOf,bg,h1,h2]
theorem c27 (s:Int) (c:List Col) (hc:OkCols c) (Hp:List AObj):AFun Tryz.prog 27 [Cf s,Cu c] Hp (.tup [Cf (As s c).1,Ia (As s c).2]):=by
 refine Ai [.tmp 4,.tmp 5] [0,1] Tryz.func27 Tryz.ntmps27 (fun d=>?_)
 refine ec ?_;refine ee ?_;refine A2 [0,1,6] ?_;refine Z19 ?_;refine A2 [0,1,6,7] ?_
 refine C8 (α:=Nat) (fun x=>⟨80,Aa 0 (Cf (As s (c.take x)).1) (Aa 1 (Cu c) (Aa 6 (.slice true 3 ((As s (c.take x)).2.map Fo)) (Aa 7 (A3 (x:Nat)) (fun _=>.any)))),Hp,[],[],none⟩) (fun x=>x≤c.length) (fun x=>c.length-x) (0) (Aw _) (Es _) rfl (fun x hx=>?_)
 refine Z36 ?_;refine A2 [0,1,6,7,17] ?_
 refine A6 (fun ht17=>?_) (fun ht17=>?_)
 ·have hlt:x<c.length:=by simpa using ht17
  have hcl:=hc.len
  refine Z51 ?_;refine Z2 ?_;refine Ab Tryz.call26 (c26 (As s (c.take x)).1 8 (by decide) (by decide) _) ?_;refine Z33 ?_;refine A2 [1,6,7,8,9] ?_;refine Z1 ?_;refine A2 [0,1,6,7,9] ?_;refine Z26 ?_;refine Z8 ?_;refine A2 [0,1,6,7,9,10] ?_
  refine Jo ⟨80,Aa 0 (Cf (Fp (As s (c.take x)).1 c[x].kind).1) (Aa 1 (Cu c) (Aa 6 (.slice true 3 ((As s (c.take x)).2.map Fo)) (Aa 7 (A3 (x:Nat)) (Aa 10 (.ptr (oid Hp.length 0) 0) (fun _=>.any))))),Hp,[.cells 35 [A3 (Fp (As s (c.take x)).1 c[x].kind).2.kind,A3 (Fp (As s (c.take x)).1 c[x].kind).2.n,A8 (Fp (As s (c.take x)).1 c[x].kind).2.s]],[],none⟩ ?_ ?_
  ·refine Z1 ?_;refine A2 [0,1,6,7,10,28] ?_
   refine A6 (fun ht28=>?_) (fun ht28=>?_)
   ·have hk0:¬(Ak (A5 (As s (c.take x)).1) 8=0):=by simp at ht28;omega
    refine Z1 ?_
    refine A4 (h:=Ay (x) (Jp c[x]) (fun _=>Bg hlt)) (hr:=?_)
    refine Z6 ?_;refine np ?_;refine Z2 ?_;refine A2 [0,1,6,7,10,11] ?_
    refine Jo ⟨80,Aa 0 (Cf (A5 (As s (c.take x)).1)) (Aa 1 (Cu c) (Aa 6 (.slice true 3 ((As s (c.take x)).2.map Fo)) (Aa 7 (A3 (x:Nat)) (Aa 10 (.ptr (oid Hp.length 0) 0) (Aa 11 (A3 (bg c[x].kind)) (fun _=>.any)))))),Hp,[.cells 35 [A3 c[x].kind,A3 0,A8 []]],[],none⟩ ?_ ?_
    ·refine Z1 ?_
     refine A4 (h:=Ay (x) (Jp c[x]) (fun _=>Bg hlt)) (hr:=?_)
     refine Z6 ?_;refine A2 [0,1,6,7,10,11,40] ?_
     refine A6 (fun ht40=>?_) (fun ht40=>?_)
     ·refine Z27 ?_;refine A2 [0,1,6,7,10,11] ?_;exact nv
     refine F9 [0,1,6,7,10,11] ?_;refine G4 ?_;exact nv
    refine Jo ⟨80,Aa 0 (Cf (A5 (As s (c.take x)).1)) (Aa 1 (Cu c) (Aa 6 (.slice true 3 ((As s (c.take x)).2.map Fo)) (Aa 7 (A3 (x:Nat)) (Aa 10 (.ptr (oid Hp.length 0) 0) (Aa 11 (A3 (nOf c[x].kind)) (fun _=>.any)))))),Hp,[.cells 35 [A3 c[x].kind,A3 0,A8 []]],[],none⟩ ?_ ?_
    ·refine Z1 ?_
     refine A4 (h:=Ay (x) (Jp c[x]) (fun _=>Bg hlt)) (hr:=?_)
     refine Z6 ?_;refine A2 [0,1,6,7,10,11,46] ?_
     refine A6 (fun ht46=>?_) (fun ht46=>?_)
     ·refine Z27 ?_;refine A2 [0,1,6,7,10,11] ?_;exact nw
     refine F9 [0,1,6,7,10,11] ?_;refine G4 ?_;exact nw
    refine Z1 ?_;refine Ab Tryz.call26 (c26 (A5 (As s (c.take x)).1) (nOf c[x].kind) (Tp _) (fu _) _) ?_;refine Z33 ?_;refine A2 [1,6,7,8,9,10] ?_;refine Z1 ?_;refine A2 [0,1,6,7,9,10] ?_;refine Z1 ?_
    refine A4 (h:=Ay (x) (Jp c[x]) (fun _=>Bg hlt)) (hr:=?_)
    refine Z0 ?_;refine A2 [0,1,6,7,9,10,58] ?_;refine Z97 ?_;refine A2 [0,1,6,7,9,10,58,61] ?_
    refine A6 (fun ht61=>?_) (fun ht61=>?_)
    ·have hk1:c[x].kind=1:=by simpa using ht61
     have hkr:=Bn (A5 (A5 (As s (c.take x)).1)) (nOf c[x].kind) (Tp _)
     have hkl:=fu c[x].kind
     have e:Fp (As s (c.take x)).1 c[x].kind=(A5 (A5 (As s (c.take x)).1),⟨c[x].kind,Ak (A5 (A5 (As s (c.take x)).1)) (nOf c[x].kind)-20,[]⟩):=by simp [Fp,hk0,hk1,pu]
     refine Z58 ?_;exact m3
    refine Z1 ?_;refine A2 [0,1,6,7,9,10,66] ?_
    refine A6 (fun ht66=>?_) (fun ht66=>?_)
    ·have hk2:c[x].kind=2:=by simpa using ht66
     have hkr:=Bn (A5 (A5 (As s (c.take x)).1)) (nOf c[x].kind) (Tp _)
     have hkl:nOf c[x].kind=4:=by rw [hk2];rfl
     have e:Fp (As s (c.take x)).1 c[x].kind=(A5 (A5 (As s (c.take x)).1),⟨c[x].kind,0,Ru (Ak (A5 (A5 (As s (c.take x)).1)) (nOf c[x].kind))⟩):=by simp [Fp,hk0,hk2,pt]
     refine ee ?_;refine A2 [0,1,6,7,9,10,12] ?_;refine Z41 ?_
     refine A4 (h:=Ay ((Ak (A5 (A5 (As s (c.take x)).1)) (nOf c[x].kind)).toNat) (A8 (Ru (Ak (A5 (A5 (As s (c.take x)).1)) (nOf c[x].kind)))) (fun _=>Rv (by omega))) (hr:=?_)
     refine Z0 ?_;exact m3
    have hk1:¬(c[x].kind=1):=by simpa using ht61
    have hk2:¬(c[x].kind=2):=by simpa using ht66
    have e:Fp (As s (c.take x)).1 c[x].kind=(A5 (A5 (As s (c.take x)).1),⟨c[x].kind,Ak (A5 (A5 (As s (c.take x)).1)) (nOf c[x].kind),[]⟩):=by simp [Fp,hk0,hk1,hk2,pv hk1 hk2]
    refine Z41 ?_;exact m3
   have hk0:Ak (A5 (As s (c.take x)).1) 8=0:=by have:=Bn (A5 (As s (c.take x)).1) 8 (by decide);simp at ht28;omega
   have e:Fp (As s (c.take x)).1 c[x].kind=(A5 (As s (c.take x)).1,⟨0,0,[]⟩):=by simp [Fp,hk0]
   refine F9 [0,1,6,7,10] ?_;refine G4 ?_;exact Z98
  refine Z56 ?_;refine Z74 ?_
  refine F6 jU Tryz.type35 ?_ ?_ ?_
  ·simp [Gd,Tryz.t35];omega
  ·simp [Gd,Tryz.t35];omega
  refine G5 ?_;refine A2 [0,1,6,7] ?_;refine Z17 ?_;refine Z6 ?_;refine A2 [0,1,6,7] ?_;refine el ?_
  simp only [Ns s c hlt,Dy,Cl,H9]
  exact Dj (own:=[]) (fun _=>.refl _) (by repeat (first|exact Bx|refine Bw (by simp [or_imp,forall_and]) ?_)) (by simp) (by simp)
 have hxe:c.take x=c:=E3 (by simp at ht17;omega)
 refine Z59 ?_;refine Z21 ?_;refine Z91 ?_;exact A9 (Cr A7 A7) ⟨by rw [hxe],rfl⟩

def Ca (s:Int):List Int→Int×List Int
 | []=>(s,[])
 | n::r=>if 0<n then ((Ca (A5 s) r).1,Ak (A5 s) n::(Ca (A5 s) r).2) else ((Ca s r).1,0::(Ca s r).2)
theorem Nt (n:Int):∀(a:List Int) (s:Int),Ca s (a++[n])=(if 0<n then (A5 (Ca s a).1,(Ca s a).2++[Ak (A5 (Ca s a).1) n]) else ((Ca s a).1,(Ca s a).2++[0]))
 | [],s=>by simp only [F1,Ca]
 | m::r,s=>by
  simp only [Dd,Ca,Nt n r]
  split<;>split<;>rfl
theorem Lc:∀(a:List Int) (s:Int),(Ca s a).2.length=a.length
 | [],_=>rfl
 | n::r,s=>by simp only [Ca];split<;>simp [Lc r]
theorem Vl (s:Int) (l:List Int) {x:Nat} (h:x<l.length):Ca s (l.take (x+1))=(if 0<l[x] then (A5 (Ca s (l.take x)).1,(Ca s (l.take x)).2++[Ak (A5 (Ca s (l.take x)).1) l[x]]) else ((Ca s (l.take x)).1,(Ca s (l.take x)).2++[0])):=by
 rw [K8 h,Nt]
theorem c12 (s:Int) (l:List Int) (hl:l.length≤1048576) (hb:∀n∈l,n≤1099511627776) (Hp:List AObj):AFun Tryz.prog 12 [Cf s,.slice false 1 (l.map A3)] Hp (.slice false 1 ((Ca s l).2.map A3)):=by
 refine Ai [.tmp 4] [0,1] Tryz.func12 Tryz.ntmps12 (fun d=>?_)
 refine Z39 ?_;refine Z2 ?_;refine Jk (places:=#[(0,1)]) jU (fun w=>by simp) jZ ?_;refine R.box ?_;refine A4 ?_;refine A2 [1,5] ?_;refine Z2 ?_;refine A2 [1,5,6] ?_;refine Z53 ?_;refine R.nilSl 6 1 ?_;refine Z6 ?_;refine A2 [5,6,13,14,15] ?_
 refine C8 (α:=Nat) (fun x=>⟨30,Aa 5 (.ptr (oid Hp.length 0) 0) (Aa 6 (.slice true 1 ((Ca s (l.take x)).2.map A3)) (Aa 13 (.slice false 1 (l.map A3)) (Aa 14 (A3 l.length) (Aa 15 (A3 (x:Nat)) (fun _=>.any))))),Hp,[.cells 55 [Cf (Ca s (l.take x)).1]],[],none⟩) (fun x=>x≤l.length) (fun x=>l.length-x) (0) (Aw _) (C1 (by simp [Ca])) rfl (fun x hx=>?_)
 refine Z2 ?_;refine A2 [5,6,13,14,15,16] ?_
 refine Fl (fun ht16=>?_) (fun ht16=>?_)
 ·have hlt:x<l.length:=by simpa using ht16
  refine Ut ?_
  refine A4 (h:=Ay (x) (A3 l[x]) (fun _=>Bg hlt)) (hr:=?_)
  refine Z0 ?_;refine A2 [5,6,8,13,14,15] ?_;refine Z2 ?_;refine A2 [5,6,8,9,13,14,15] ?_
  refine Jo ⟨30,Aa 5 (.ptr (oid Hp.length 0) 0) (Aa 6 (.slice true 1 ((Ca s (l.take x)).2.map A3)) (Aa 9 (A3 (if 0<l[x] then Ak (A5 (Ca s (l.take x)).1) l[x] else 0)) (Aa 13 (.slice false 1 (l.map A3)) (Aa 14 (A3 l.length) (Aa 15 (A3 (x:Nat)) (fun _=>.any)))))),Hp,[.cells 55 [Cf (if 0<l[x] then A5 (Ca s (l.take x)).1 else (Ca s (l.take x)).1)]],[],none⟩ ?_ ?_
  ·refine Z1 ?_;refine A2 [5,6,8,9,13,14,15,20] ?_
   refine A6 (fun ht20=>?_) (fun ht20=>?_)
   ·have h0:0<l[x]:=by simpa using ht20
    refine Z41 ?_;refine Jl Tryz.call33 (c33 (oid Hp.length 0) (Ca s (l.take x)).1 l[x] h0 (hb _ (C7 hlt)) _ (by simp [oid])) ?_;refine A4 ?_;refine A2 [5,6,9,13,14,15] ?_;exact ny
   have h0:¬(0<l[x]):=by simpa using ht20
   refine F9 [5,6,9,13,14,15] ?_;refine G4 ?_;exact ny
  refine Z56 ?_;refine Z74 ?_
  refine F6 jU Tryz.type3 ?_ ?_ ?_
  ·simp [Lc,Tryz.t3];omega
  ·simp [Lc,Tryz.t3];omega
  refine G5 ?_;refine A2 [5,6,13,14,15] ?_;refine X8 ?_;refine A2 [5,6,13,14,15] ?_
  refine C0 (x+1) hlt (by omega) (Cm ?_)
  simp only [Vl s l hlt]
  split<;>simp<;>rfl
 have hxe:l.take x=l:=E3 (by simp at ht16;omega)
 refine Z23 ?_;refine Z1 ?_;refine Z13 ?_;exact A9 (Af A7) ⟨by rw [hxe],rfl⟩

theorem c4 (Hp:List AObj):AFun Tryz.prog 4 [] Hp (Aj true):=by
 refine Ai [.tmp 0] [] Tryz.func4 Tryz.ntmps4 (fun d=>?_)
 refine Z2 ?_;refine A2 [] ?_;refine Z81 ?_;refine Ab Tryz.call12 (c12 0 [1000] (by decide) (by decide) _) ?_;refine A4 ?_;refine A2 [1] ?_;refine aq ?_
 refine B9 (h:=Ay (0) (A3 807) (fun _=>rfl)) (hr:=?_)
 refine Z3 ?_;refine Z0 ?_;refine A2 [0] ?_;refine Dg ?_;exact ar

def O6 (c:UInt8):Str:=if c=39 then [39,39] else [c]
def Ch (t:Str):Str:=t.flatMap O6
theorem Lz:∀t:Str,(Ch t).length≤2*t.length
 | []=>Ah _
 | c::r=>by
  have:=Lz r
  unfold Ch at this ⊢
  rw [Wj,Am,Ar]
  have h:(O6 c).length≤2:=by unfold O6;split<;>simp
  omega
theorem Rw {t:Str} {x:Nat} (h:x<t.length):Ch (t.take (x+1))=Ch (t.take x)++O6 t[x]:=by
 unfold Ch
 rw [List.take_succ,Ad h,List.flatMap_append]
 simp
abbrev Xx (l:Str):AV:=.slice true 1 (l.map u8A)
theorem hlb {t:Str} (ht:t.length≤1048576) (x:Nat):(Ch (t.take x)).length≤2097152:=by
 have:=Lz (t.take x)
 have h2:(t.take x).length≤t.length:=by rw [Gt];omega
 omega
theorem H8 (c:UInt8) (r:Str):Ch (c::r)=O6 c++Ch r:=by unfold Ch;rw [Wj]
theorem Yo:∀s:Str,(Lib.index s [39] = -1∧Ch s=s)∨∃i:Nat,Lib.index s [39]=(i:Int)∧i<s.length∧Ch s=s.take i++[39,39]++Ch (s.drop (i+1))
 | []=>.inl ⟨rfl,rfl⟩
 | b::l=>by
  by_cases hb:b=39
  ·subst hb
   refine .inr ⟨0,by simp [Lib.index,List.isPrefixOf],by simp,?_⟩
   rw [H8]
   simp [O6]
  have hp:([39]:Str).isPrefixOf (b::l)=false:=by
   simp [List.isPrefixOf,Ne.symm hb]
  have hd:Ch (b::l)=b::Ch l:=by
   rw [H8,O6,if_neg hb]
   rfl
  rcases Yo l with ⟨h1,h2⟩|⟨i,h1,h2,h3⟩
  ·refine .inl ⟨?_,by rw [hd,h2]⟩
   rw [Lib.index,hp,h1];rfl
  refine .inr ⟨i+1,?_,by simp;omega,?_⟩
  ·rw [Lib.index,hp,h1,if_neg (by simp),if_neg (by simp)]
   rfl
  rw [hd,h3]
  simp
theorem M0:∀(n:Nat) (s:Str),s.length≤n→Lib.replaceK [39] [39,39] (Lib.count s [39]) s=Ch s
 | n,s,hn=>by
  rcases Yo s with ⟨h1,h2⟩|⟨i,h1,h2,h3⟩
  ·rw [Lib.count_miss h1,h2];rfl
  cases n with
  | zero=>omega
  | succ n =>
   rw [Lib.count_hit (by decide) h1,Sj,Lib.replaceK_hit _ _ _ _ i h1]
   have e:i+([39]:Str).length=i+1:=rfl
   rw [e,M0 n (s.drop (i+1)) (by rw [Ep];omega),h3]
theorem Jz (s:Str):Lib.replaceAll s [39] [39,39]=Ch s:=by
 unfold Lib.replaceAll Lib.replace
 rw [if_neg (by decide)]
 have e:Lib.replaceNum s [39] (-1)=Lib.count s [39]:=by unfold Lib.replaceNum;rw [if_pos (.inl (by decide))]
 rw [e]
 exact M0 _ s (Ah _)
def Yp (t:Tok):Str:=if t.kind=4 then [39]++Ch t.text++[39] else t.text
theorem Xy {q:Str} (h0:q.headD 0=39) (h1:1≤q.length) (h:(Eb q).2=0):[39]++Ch (Eb q).1.s++[39]=q:=by
 cases q with
 | nil=>simp at h1
 | cons c r =>
  have hc:c=39:=h0
  subst hc
  unfold Eb at h ⊢
  have n1:((39::r:Str)==[110,117,108,108])=false:=by rw [beq_eq_false_iff_ne];intro e;injection e with e;exact absurd e (by decide)
  have n2:((39::r:Str)==[116,114,117,101])=false:=by rw [beq_eq_false_iff_ne];intro e;injection e with e;exact absurd e (by decide)
  have n3:((39::r:Str)==[102,97,108,115,101])=false:=by rw [beq_eq_false_iff_ne];intro e;injection e with e;exact absurd e (by decide)
  rw [n1,n2,n3] at h ⊢
  simp only [Co,if_false,Bool.or_self] at h ⊢
  by_cases hq:Nm (39::r)=true
  ·rw [if_pos hq] at h ⊢
   unfold Ri at h ⊢
   split at h
   ·exact absurd h (show ¬(7:Int)=0 by decide)
   rename_i hp
   rw [if_neg hp]
   have hp':At (Lv (39::r))=39::r:=by simpa using hp
   have hk:(Lv (39::r)).kind=2:=rfl
   show [39]++Ch (Lv (39::r)).s++[39]=39::r
   generalize Lv (39::r)=v at hp' hk
   have hne:At v≠[]:=by rw [hp'];simp
   rw [←hp']
   unfold At at hne ⊢
   split at hne
   ·exact absurd rfl hne
   rename_i hpl
   rw [if_neg hpl,hk,if_neg (by decide),if_pos (by decide),Jz]
  rw [if_neg hq] at h
  have hd:Fa (39::r)=true:=by
   unfold Fa
   have e:J3 (39::r)=39::r:=by
    rcases Ni (39::r) with ⟨_,h4⟩|⟨r',h3,_⟩
    ·exact h4
    injection h3 with h3;exact absurd h3 (by decide)
   rw [e]
   have:(Lib.trimS (39::r) digs==[])=false:=by
    rw [beq_eq_false_iff_ne]
    intro e
    rw [Re] at e
    exact absurd (e 39 (by simp)) (by decide)
   rw [this]
   simp
  have hn:C9 (39::r)=(0,6):=by unfold C9;rw [if_pos hd]
  rw [hn] at h
  simp at h
theorem R5 (s:Str) (m:Nat):s.take (s.take m).length=s.take m:=by
 rw [Gt]
 rcases Nat.le_total m s.length with h|h
 ·rw [Nat.min_eq_left h]
 rw [Nat.min_eq_right h,E3 (Ah _),E3 h]
theorem K0 (s of:Str):s.take (Cg s of).length=Cg s of:=by
 unfold Cg
 exact R5 s _
/-- What a word's print spells is what was read. -/
theorem Xz {s:Str} {n p:Nat} (h0:1≤s.length) (he:(Bj s).2.2.2=0) (hn:(Bj s).2.2.1=(n:Int)):Yp ⟨(Bj s).1,(Bj s).2.1,p⟩=s.take n:=by
 cases s with
 | nil=>simp at h0
 | cons c r =>
  unfold Bj at he hn ⊢
  by_cases c1:decide (0<Lu ((c::r).take 1) letters)=true
  ·rw [if_pos c1] at he hn
   simp only [if_pos c1]
   unfold L7 at he hn ⊢
   by_cases r1:Ej (Cg (c::r) tails)=true
   ·rw [if_pos r1] at hn
    simp only [if_pos r1]
    have hn':(((Cg (c::r) tails).length:Nat):Int)=n:=hn
    have e:n=(Cg (c::r) tails).length:=by omega
    rw [e,K0]
    rfl
   rw [if_neg r1] at he hn
   simp only [if_neg r1]
   by_cases r2:(!Ew (Cg (c::r) tails))=true
   ·rw [if_pos r2] at he;exact absurd he (show ¬(3:Int)=0 by decide)
   rw [if_neg r2] at hn
   simp only [if_neg r2]
   have hn':(((Cg (c::r) tails).length:Nat):Int)=n:=hn
   have e:n=(Cg (c::r) tails).length:=by omega
   rw [e,K0]
   rfl
  rw [if_neg c1] at he hn
  simp only [if_neg c1]
  by_cases c2:decide (0<Lu ((c::r).take 1) digs)=true
  ·rw [if_pos c2] at he hn
   simp only [if_pos c2]
   have hn':(((Cg (c::r) digs).length:Nat):Int)=n:=hn
   have e:n=(Cg (c::r) digs).length:=by omega
   rw [e,K0]
   rfl
  rw [if_neg c2] at he hn
  simp only [if_neg c2]
  by_cases c3:(((((c::r)).getD 0 0).toNat:Int)==39)=true
  ·rw [if_pos c3] at he hn
   simp only [if_pos c3]
   have hc:c=39:=by
    have c3':((c.toNat:Int)==39)=true:=c3
    exact Fi.1 (by have:(39:UInt8).toNat=39:=rfl;simp at c3';omega)
   unfold Hu at he hn ⊢
   cases hq:C5 ((c::r).drop 1) with
   | none=>rw [hq] at he;exact absurd he (show ¬(7:Int)=0 by decide)
   | some m =>
    rw [hq] at he hn
    simp only at he hn ⊢
    split at he
    ·exact absurd he (show ¬(3:Int)=0 by decide)
    rename_i hr
    rw [if_neg hr] at hn
    simp only [if_neg hr]
    have hm':(((m+1:Nat)):Int)=n:=hn
    have hm:n=m+1:=by omega
    subst hm
    have hr':(Eb ((c::r).take (m+1))).2=0:=by simpa using hr
    have:=Xy (q:=(c::r).take (m+1)) (by rw [hc];rfl) (by simp) hr'
    unfold Yp
    rw [if_pos rfl]
    exact this
  rw [if_neg c3] at he hn
  simp only [if_neg c3]
  unfold Ph at he hn ⊢
  split at hn
  ·rename_i h2
   simp only [if_pos h2]
   have hn':(2:Int)=n:=hn
   have:n=2:=by omega
   subst this
   rfl
  rename_i h2
  rw [if_neg h2] at he
  simp only [if_neg h2]
  split at hn
  ·rename_i h3
   simp only [if_pos h3]
   have hn':(1:Int)=n:=hn
   have:n=1:=by omega
   subst this
   rfl
  rename_i h3
  rw [if_neg h3] at he
  exact absurd he (show ¬(7:Int)=0 by decide)
theorem Yq:∀t:Str,t.length≤(Ch t).length
 | []=>Ah _
 | c::r=>by
  have:=Yq r
  rw [H8,Am,Ar]
  have h:1≤(O6 c).length:=by unfold O6;split<;>simp
  omega
theorem jb (t:Tok):t.text.length≤(Yp t).length:=by
 unfold Yp
 split
 ·have:=Yq t.text
  simp only [Am,Ar,Bd]
  omega
 exact Ah _
/-- Words with an end. -/
structure TokEnd (l:List Tok):Prop where
 split:∃L z,l=L++[z]∧z.kind=0∧∀t∈L,t.kind≠0
 texts:∀t∈l,t.text.length≤1048576
theorem TokEnd.pos {l:List Tok} (h:TokEnd l):1≤l.length:=by
 obtain ⟨L,z,rfl,_,_⟩:=h.split
 simp
theorem TokEnd.text {l:List Tok} (h:TokEnd l) (i:Nat):(Ae l i).text.length≤1048576:=by
 unfold Ae
 rcases B0 i l.length with hi|hi
 ·rw [Dw,Ad hi]
  exact h.texts _ (C7 hi)
 rw [Dw,Dx hi]
 exact Aw _
theorem jc (s:Str) (he:(Bj s).2.2.2=0):(Bj s).1≠0:=by
 revert he
 unfold Bj L7 Tj Hu Ph
 repeat' split
 all_goals simp
theorem Vm:∀(f q:Nat) (s:Str),(∀it∈Gb f q s,it.2=0)→∀it∈Gb f q s,it.1.kind≠0∧it.1.text.length≤s.length
 | 0,_,_,_,it,hm=>by cases hm
 | f+1,q,s,h,it,hm=>by
  by_cases hs:s=[]
  ·subst hs;cases hm
  obtain ⟨n,h1,h2⟩:=Vj (f:=f) (q:=q) hs
  rw [h1] at hm h
  have h0:(Bj s).2.2.2=0:=h (⟨(Bj s).1,(Bj s).2.1,q⟩,(Bj s).2.2.2) (Ef ..)
  obtain ⟨hn,hn1,hn2⟩:=h2 h0
  rw [if_pos h0] at hm h
  rcases Bt.1 hm with rfl|hm
  ·refine ⟨jc s h0,?_⟩
   have hs1:1≤s.length:=by cases s with|nil=>exact absurd rfl hs|cons c r=>simp
   have:=Xz (p:=q) hs1 h0 hn
   have h3:=jb ⟨(Bj s).1,(Bj s).2.1,q⟩
   rw [this] at h3
   simp only [Gt] at h3
   show (Bj s).2.1.length≤s.length
   omega
  have:=Vm f _ _ (fun it hit=>h it (Hy _ hit)) it hm
  simp only [Ep] at this
  exact ⟨this.1,by omega⟩
theorem jd {s:Str} (h:(B4 s).2.1=0):TokEnd (B4 s).1:=by
 by_cases h4:4000<s.length
 ·unfold B4 at h
  rw [if_pos h4] at h
  exact ej
 have e:B4 s=((Bi s).map (·.1)++[⟨0,[],s.length⟩],0,0)∧∀it∈Bi s,it.2=0:=by
  unfold B4 at h ⊢
  rw [if_neg h4] at h ⊢
  cases hf:(Bi s).find? (fun it=>it.2 != 0) with
  | none =>
   rw [Se] at hf
   exact ⟨rfl,fun it hit=>by simpa using hf it hit⟩
  | some it =>
   rw [hf] at h
   have:=List.find?_some hf
   simp only [bne_iff_ne] at this
   exact absurd h this
 obtain ⟨e,hz⟩:=e
 have hnz:=Vm _ _ _ hz
 rw [e]
 refine ⟨⟨_,_,rfl,rfl,fun t ht=>?_⟩,fun t ht=>?_⟩
 ·obtain ⟨it,hit,rfl⟩:=E2.1 ht
  exact (hnz it hit).1
 rcases D6.1 ht with ht|ht
 ·obtain ⟨it,hit,rfl⟩:=E2.1 ht
  have:=(hnz it hit).2
  simp only [Ep] at this
  omega
 have e:t=⟨0,[],s.length⟩:=by simpa using ht
 subst e
 exact Aw _
/-- Where a parser of expressions stands: its word, its nest, its fault. -/
structure PS where
 i:Nat
 nest:Nat
 code:Int
 at_:Int
def noV:Val:=⟨0,0,[]⟩
def Cb:Expr:=.mk 0 [] noV []
def D4 (e a:Int) (S:PS):PS:=if S.code==0 then ⟨S.i,S.nest,e,a⟩ else S
def isM (l:List Tok) (of:Str) (S:PS):Bool:=(((Ae l S.i).kind==5) || ((Ae l S.i).kind==2))&&Te (Ae l S.i).text of
def Ag (S:PS):PS:=⟨S.i+1,S.nest,S.code,S.at_⟩
def C6 (S:PS):PS:=⟨S.i,S.nest+1,S.code,S.at_⟩
def Rx (S:PS):PS:=⟨S.i,S.nest-1,S.code,S.at_⟩
def Dq (l:List Tok) (s:Str) (S:PS):PS:=if S.code != 0 then S else if ((Ae l S.i).kind != 5) || !((Ae l S.i).text==s) then D4 8 (Ae l S.i).at_ S else Ag S
/-- What stands one nest deeper. -/
structure Fam where
 ei:PS→Expr×PS
 no:PS→Expr×PS
 ne:PS→Expr×PS
def Bq (a:Int) (f:PS→Expr×PS) (S:PS):Expr×PS:=if (S.nest:Int)==30 then (Cb,D4 18 a S) else ((f (C6 S)).1,Rx (f (C6 S)).2)
def Ld (t:Str) (x y:Expr):Expr:=.mk 5 t noV [x,y]
def Vn (l:List Tok) (of:Str) (f:PS→Expr×PS):Nat→Expr×PS→Expr×PS
 | 0,r=>r
 | n+1,r=>if (r.2.code==0)&&isM l of r.2 then Vn l of f n (Ld (Ae l r.2.i).text r.1 (f (Ag r.2)).1,(f (Ag r.2)).2) else r
def Em (l:List Tok) (of:Str) (f:PS→Expr×PS) (S:PS):Expr×PS:=Vn l of f l.length (f S)
def Pu:Str:=[32,44,32]
def argsF (l:List Tok) (f:PS→Expr×PS):Nat→List Expr×PS→List Expr×PS
 | 0,r=>r
 | n+1,r=>if (r.2.code==0)&&isM l Pu r.2 then argsF l f n (r.1++[(f (Ag r.2)).1],(f (Ag r.2)).2) else r
def Fw (l:List Tok) (f:PS→Expr×PS) (S:PS):List Expr×PS:=argsF l f l.length ([(f S).1],(f S).2)
def Nu (l:List Tok) (a:Int) (f:PS→Expr×PS) (S:PS):List Expr×PS:=if (S.nest:Int)==30 then ([],D4 18 a S) else ((Fw l f (C6 S)).1,Rx (Fw l f (C6 S)).2)
def Dp:Str:=[41]
def Ci (l:List Tok) (D:Fam) (S:PS):List Expr×PS:=Nu l (Ae l S.i).at_ D.ei (Ag S)
def Fx (l:List Tok) (D:Fam) (t:Tok) (S:PS):Expr×PS:=
 if Jt t.text<0 then (Cb,D4 9 t.at_ S)
 else if ((Dq l Dp (Ci l D S).2).code==0) && !(((Ci l D S).1.length:Int)==Jt t.text) then (Cb,D4 8 t.at_ (Dq l Dp (Ci l D S).2))
 else (.mk 6 t.text noV (Ci l D S).1,Dq l Dp (Ci l D S).2)
def orT:Str:=[32,111,114,32]
def fw:Str:=[32,97,110,100,32]
def mo:Str:=[32,110,111,116,32]
def mp:Str:=[32,61,32,33,61,32,60,32,60,61,32,62,32,62,61,32]
def fx:Str:=[32,43,32,45,32,38,32]
def Vo:Str:=[32,42,32,47,32,37,32]
def mq:Str:=[32,45,32]
def opT:Str:=[32,40,32]
def mr:Str:=[32,116,114,117,101,32,102,97,108,115,101,32,110,117,108,108,32]
def Pv (v:Val):Expr:=.mk 1 [] v []
def Ex (l:List Tok) (D:Fam) (S:PS):Expr×PS:=
 if S.code != 0 then (Cb,S)
 else if ((Ae l S.i).kind==3) || isM l mr S then (Pv (Eb (Ae l S.i).text).1,Ag S)
 else if (Ae l S.i).kind==4 then (Pv ⟨2,0,(Ae l S.i).text.take 200⟩,Ag S)
 else if (Ae l S.i).kind==1 then (if isM l opT (Ag S) then Fx l D (Ae l S.i) (Ag S) else (Hg (Ae l S.i).text,Ag S))
 else if isM l opT S then ((Bq (Ae l S.i).at_ D.ei (Ag S)).1,Dq l Dp (Bq (Ae l S.i).at_ D.ei (Ag S)).2)
 else (Cb,D4 8 (Ae l S.i).at_ S)
def M1 (op:Int) (x:Expr):Expr:=.mk op [] noV [x]
def Pw (l:List Tok) (D:Fam) (S:PS):Expr×PS:=if !isM l mq S then Ex l D S else (M1 3 (Bq (Ae l S.i).at_ D.ne (Ag S)).1,(Bq (Ae l S.i).at_ D.ne (Ag S)).2)
def Yr (l:List Tok) (D:Fam):PS→Expr×PS:=Em l Vo (Pw l D)
def Dc (l:List Tok) (D:Fam):PS→Expr×PS:=Em l fx (Yr l D)
def Ec (l:List Tok) (D:Fam) (S:PS):Expr×PS:=
 if ((Dc l D S).2.code != 0) || !isM l mp (Dc l D S).2 then Dc l D S
 else (Ld (Ae l (Dc l D S).2.i).text (Dc l D S).1 (Dc l D (Ag (Dc l D S).2)).1,(Dc l D (Ag (Dc l D S).2)).2)
def Px (l:List Tok) (D:Fam) (S:PS):Expr×PS:=if !isM l mo S then Ec l D S else (M1 4 (Bq (Ae l S.i).at_ D.no (Ag S)).1,(Bq (Ae l S.i).at_ D.no (Ag S)).2)
def Ys (l:List Tok) (D:Fam):PS→Expr×PS:=Em l fw (Px l D)
def Tq (l:List Tok) (D:Fam):PS→Expr×PS:=Em l orT (Ys l D)
def Dr (l:List Tok):Nat→Fam
 | 0=>⟨fun S=>(Cb,S),fun S=>(Cb,S),fun S=>(Cb,S)⟩
 | d+1=>⟨Tq l (Dr l d),Px l (Dr l d),Pw l (Dr l d)⟩

/-! What is so of them. -/
theorem Ge:∀{n m:Nat},n≤m→∀{e:Expr},okE n e→okE m e
 | 0,_,_,_,h=>h.elim
 | n+1,0,h,_,_=>by omega
 | n+1,m+1,h,_,ho=>⟨ho.1,ho.2.1,fun y hy=>Ge (by omega) (ho.2.2 y hy)⟩
theorem Py:sizeE Cb=1:=rfl
theorem bh (t:Str) (a b:Expr):sizeE (Ld t a b)=1+(sizeE a+(sizeE b+0)):=by rw [Ld,sizeE,El,El,El]
theorem bi (o:Int) (a:Expr):sizeE (M1 o a)=1+(sizeE a+0):=by rw [M1,sizeE,El,El]
theorem Ry:∀a b:List Expr,El (a++b)=El a+El b
 | [],b=>by rw [F1,El,B7]
 | e::r,b=>by rw [Dd,El,El,Ry r b,Ho]
theorem M2 {n:Nat} (h:1≤n):okE n Cb:=Ge h ⟨by decide,by decide,fun y hy=>by cases hy⟩
theorem Yt {n:Nat} (h:1≤n) (v:Val):okE n (Pv v):=Ge h ⟨by simp [Pv,Expr.text],by simp [Pv,Expr.kids],fun y hy=>by cases hy⟩
structure Fact (l:List Tok) (S:PS) (r:Expr×PS):Prop where
 le:S.i≤r.2.i
 lt:r.2.i<l.length
 nest:r.2.nest=S.nest
 ok:okE (2*(r.2.i-S.i)+1) r.1
 sz:sizeE r.1≤2*(r.2.i-S.i)+1
def D8 (l:List Tok) (n:Nat) (f:PS→Expr×PS):Prop:=∀S,S.i<l.length→S.nest=n→Fact l S (f S)
theorem TokEnd.step {l:List Tok} (h:TokEnd l) {i:Nat} (hi:i<l.length) (hk:(Ae l i).kind≠0):i+1<l.length:=by
 obtain ⟨L,z,rfl,hz,_⟩:=h.split
 rcases B0 i L.length with h1|h1
 ·simp only [Am,Ar,Bd];omega
 have:i=L.length:=by simp only [Am,Ar,Bd] at hi;omega
 subst this
 exact absurd (by unfold Ae;simpa using hz) hk
theorem g0 {l:List Tok} {of:Str} {S:PS} (h:isM l of S=true):(Ae l S.i).kind≠0:=by
 unfold isM at h
 simp only [B1,Fg,beq_iff_eq] at h
 omega
theorem TokEnd.stepIs {l:List Tok} (h:TokEnd l) {of:Str} {S:PS} (hi:S.i<l.length) (hk:isM l of S=true):(Ag S).i<l.length:=h.step hi (g0 hk)
theorem failM_i {e a:Int} {S:PS}:(D4 e a S).i=S.i∧(D4 e a S).nest=S.nest:=by unfold D4;split<;>exact ⟨rfl,rfl⟩
theorem Yu {l:List Tok} (hl:TokEnd l) {s:Str} {S:PS} (hi:S.i<l.length):S.i≤(Dq l s S).i∧(Dq l s S).i<l.length∧(Dq l s S).nest=S.nest:=by
 unfold Dq
 split
 ·exact ⟨Ah _,hi,rfl⟩
 split
 ·rw [failM_i.1,failM_i.2];exact ⟨Ah _,hi,rfl⟩
 rename_i h
 simp only [Fg,bne_iff_ne,ne_eq,not_or,Classical.not_not] at h
 have:=hl.step hi (by rw [h.1];decide)
 exact ⟨Hq _,this,rfl⟩
theorem M3 {l:List Tok} {S S0:PS} (h0:S0.i≤S.i) (h1:S.i<l.length) (h2:S.nest=S0.nest) (e a:Int):Fact l S0 (Cb,D4 e a S):=by
 refine ⟨?_,?_,?_,M2 (by omega),by rw [Py];omega⟩
 ·show _≤(D4 e a S).i;rw [failM_i.1];exact h0
 ·show (D4 e a S).i<_;rw [failM_i.1];exact h1
 show (D4 e a S).nest=_;rw [failM_i.2];exact h2
/-- A state of a loop of marks. -/
structure LeftAt (l:List Tok) (of:Str) (f:PS→Expr×PS) (S:PS) (r:Expr×PS):Prop where
 fact:Fact l S r
 eq:∃n,l.length≤r.2.i+n∧Em l of f S=Vn l of f n r
theorem LeftAt.start {l:List Tok} {of:Str} {f:PS→Expr×PS} {S:PS} (h:Fact l S (f S)):LeftAt l of f S (f S):=⟨h,l.length,by omega,rfl⟩
theorem Yv {l:List Tok} {S:PS} {r q:Expr×PS} (h:Fact l S r) (hq:Fact l (Ag r.2) q) (hl:TokEnd l):Fact l S (Ld (Ae l r.2.i).text r.1 q.1,q.2):=by
 have h1:=h.le
 have h2:r.2.i+1≤q.2.i:=hq.le
 refine ⟨by show S.i≤q.2.i;omega,hq.lt,by show q.2.nest=S.nest;rw [hq.nest];exact h.nest,?_,?_⟩
 rotate_left
 ·have s1:=h.sz
  have s2:sizeE q.1≤2*(q.2.i-(r.2.i+1))+1:=hq.sz
  show sizeE (Ld _ r.1 q.1)≤2*(q.2.i-S.i)+1
  rw [bh]
  omega
 show okE (2*(q.2.i-S.i)+1) _
 refine ⟨hl.text _,by simp [Ld,Expr.kids],fun y hy=>?_⟩
 have hy':y=r.1∨y=q.1:=by simpa [Ld,Expr.kids] using hy
 rcases hy' with rfl|rfl
 ·exact Ge (by omega) h.ok
 exact Ge (by show 2*(q.2.i-(r.2.i+1))+1≤_;omega) hq.ok
theorem LeftAt.on {l:List Tok} {of:Str} {f:PS→Expr×PS} {S:PS} {r:Expr×PS} (hl:TokEnd l) (h:LeftAt l of f S r) (hc:((r.2.code==0)&&isM l of r.2)=true) (hf:D8 l S.nest f):(Ag r.2).i<l.length∧Fact l (Ag r.2) (f (Ag r.2))∧LeftAt l of f S (Ld (Ae l r.2.i).text r.1 (f (Ag r.2)).1,(f (Ag r.2)).2):=by
 have hi:=hl.stepIs h.fact.lt (cv.1 hc).2
 have hq:=hf (Ag r.2) hi h.fact.nest
 obtain ⟨n,hn,e⟩:=h.eq
 have h1:=h.fact.lt
 have h2:r.2.i+1≤(f (Ag r.2)).2.i:=hq.le
 obtain ⟨m,rfl⟩:∃m,n=m+1:=⟨n-1,by omega⟩
 refine ⟨hi,hq,Yv h.fact hq hl,m,by show l.length≤(f (Ag r.2)).2.i+m;omega,?_⟩
 rw [e,Vn,if_pos hc]
theorem LeftAt.out {l:List Tok} {of:Str} {f:PS→Expr×PS} {S:PS} {r:Expr×PS} (h:LeftAt l of f S r) (hc:¬((r.2.code==0)&&isM l of r.2)=true):Em l of f S=r:=by
 obtain ⟨n,hn,e⟩:=h.eq
 have h1:=h.fact.lt
 obtain ⟨m,rfl⟩:∃m,n=m+1:=⟨n-1,by omega⟩
 rw [e,Vn,if_neg hc]
theorem Vp {l:List Tok} {of:Str} {f:PS→Expr×PS} {S:PS} (hl:TokEnd l) (hf:D8 l S.nest f):∀(k:Nat) (r:Expr×PS),l.length-r.2.i≤k→LeftAt l of f S r→Fact l S (Em l of f S)
 | 0,r,hk,h=>by have:=h.fact.lt;omega
 | k+1,r,hk,h=>by
  by_cases hc:((r.2.code==0)&&isM l of r.2)=true
  ·obtain ⟨h1,h2,h3⟩:=h.on hl hc hf
   have h4:r.2.i+1≤(f (Ag r.2)).2.i:=h2.le
   exact Vp hl hf k _ (by show l.length-(f (Ag r.2)).2.i≤k;have:=h.fact.lt;omega) h3
  rw [h.out hc];exact h.fact
theorem Fb {l:List Tok} {of:Str} {f:PS→Expr×PS} {n:Nat} (hl:TokEnd l) (hf:D8 l n f):D8 l n (Em l of f):=fun S hi hn=>Vp hl (hn ▸ hf) l.length (f S) (by omega) (.start (hf S hi hn))
theorem H4 {l:List Tok} {f:PS→Expr×PS} {S:PS} (a:Int) (hi:S.i<l.length) (hf:S.nest≠30→D8 l (S.nest+1) f):Fact l S (Bq a f S):=by
 unfold Bq
 split
 ·exact M3 (Ah _) hi rfl _ _
 rename_i h
 have h30:S.nest≠30:=fun e=>h (by rw [e];rfl)
 have:=hf h30 (C6 S) hi rfl
 refine ⟨this.le,this.lt,?_,this.ok,this.sz⟩
 show (f (C6 S)).2.nest-1=S.nest
 rw [this.nest]
 rfl
/-- What is so of some kids. -/
structure KFact (l:List Tok) (S:PS) (r:List Expr×PS):Prop where
 le:S.i≤r.2.i
 lt:r.2.i<l.length
 nest:r.2.nest=S.nest
 len:r.1.length≤r.2.i-S.i+1
 ok:∀y∈r.1,okE (2*(r.2.i-S.i)+1) y
 sz:El r.1≤2*(r.2.i-S.i)+1
structure ArgsAt (l:List Tok) (f:PS→Expr×PS) (S:PS) (r:List Expr×PS):Prop where
 fact:KFact l S r
 eq:∃n,l.length≤r.2.i+n∧Fw l f S=argsF l f n r
theorem ArgsAt.start {l:List Tok} {f:PS→Expr×PS} {S:PS} (h:Fact l S (f S)):ArgsAt l f S ([(f S).1],(f S).2):=⟨⟨h.le,h.lt,h.nest,by simp,fun y hy=>by rw [Cn.1 hy];exact h.ok,by have:=h.sz;show sizeE (f S).1+0≤_;exact this⟩,l.length,by omega,rfl⟩
theorem ArgsAt.on {l:List Tok} {f:PS→Expr×PS} {S:PS} {r:List Expr×PS} (hl:TokEnd l) (h:ArgsAt l f S r) (hc:((r.2.code==0)&&isM l Pu r.2)=true) (hf:D8 l S.nest f):(Ag r.2).i<l.length∧Fact l (Ag r.2) (f (Ag r.2))∧ArgsAt l f S (r.1++[(f (Ag r.2)).1],(f (Ag r.2)).2):=by
 have hi:=hl.stepIs h.fact.lt (cv.1 hc).2
 have hq:=hf (Ag r.2) hi h.fact.nest
 obtain ⟨n,hn,e⟩:=h.eq
 have h1:=h.fact.lt
 have h0:=h.fact.le
 have h2:r.2.i+1≤(f (Ag r.2)).2.i:=hq.le
 obtain ⟨m,rfl⟩:∃m,n=m+1:=⟨n-1,by omega⟩
 refine ⟨hi,hq,⟨by show S.i≤(f (Ag r.2)).2.i;omega,hq.lt,by show (f (Ag r.2)).2.nest=_;rw [hq.nest];exact h.fact.nest,?_,fun y hy=>?_,?_⟩,m,by show l.length≤(f (Ag r.2)).2.i+m;omega,?_⟩
 ·have:=h.fact.len
  show (r.1++_).length≤(f (Ag r.2)).2.i-S.i+1
  simp only [Am,Ar,Bd]
  omega
 ·show okE (2*((f (Ag r.2)).2.i-S.i)+1) y
  rcases D6.1 hy with hy|hy
  ·exact Ge (by omega) (h.fact.ok y hy)
  rw [Cn.1 hy]
  exact Ge (by show 2*((f (Ag r.2)).2.i-(r.2.i+1))+1≤_;omega) hq.ok
 ·have s1:=h.fact.sz
  have s2:sizeE (f (Ag r.2)).1≤2*((f (Ag r.2)).2.i-(r.2.i+1))+1:=hq.sz
  show El (r.1++[(f (Ag r.2)).1])≤2*((f (Ag r.2)).2.i-S.i)+1
  rw [Ry,El,El]
  omega
 rw [e,argsF,if_pos hc]
theorem ArgsAt.out {l:List Tok} {f:PS→Expr×PS} {S:PS} {r:List Expr×PS} (h:ArgsAt l f S r) (hc:¬((r.2.code==0)&&isM l Pu r.2)=true):Fw l f S=r:=by
 obtain ⟨n,hn,e⟩:=h.eq
 have h1:=h.fact.lt
 obtain ⟨m,rfl⟩:∃m,n=m+1:=⟨n-1,by omega⟩
 rw [e,argsF,if_neg hc]
theorem Vq {l:List Tok} {f:PS→Expr×PS} {S:PS} (hl:TokEnd l) (hf:D8 l S.nest f):∀(k:Nat) (r:List Expr×PS),l.length-r.2.i≤k→ArgsAt l f S r→KFact l S (Fw l f S)
 | 0,r,hk,h=>by have:=h.fact.lt;omega
 | k+1,r,hk,h=>by
  by_cases hc:((r.2.code==0)&&isM l Pu r.2)=true
  ·obtain ⟨h1,h2,h3⟩:=h.on hl hc hf
   have h4:r.2.i+1≤(f (Ag r.2)).2.i:=h2.le
   exact Vq hl hf k _ (by show l.length-(f (Ag r.2)).2.i≤k;have:=h.fact.lt;omega) h3
  rw [h.out hc];exact h.fact
theorem Pz {l:List Tok} {f:PS→Expr×PS} {S:PS} (hl:TokEnd l) (hi:S.i<l.length) (hf:D8 l S.nest f):KFact l S (Fw l f S):=Vq hl hf l.length _ (by show l.length-(f S).2.i≤_;omega) (.start (hf S hi rfl))
theorem Q0 {l:List Tok} {f:PS→Expr×PS} {S:PS} (hl:TokEnd l) (a:Int) (hi:S.i<l.length) (hf:S.nest≠30→D8 l (S.nest+1) f):KFact l S (Nu l a f S):=by
 unfold Nu
 split
 ·refine ⟨?_,?_,?_,by simp,fun y hy=>(by cases hy),by simp [El]⟩
  ·show _≤(D4 _ _ S).i;rw [failM_i.1];exact Ah _
  ·show (D4 _ _ S).i<_;rw [failM_i.1];exact hi
  show (D4 _ _ S).nest=_;rw [failM_i.2]
 rename_i h
 have h30:S.nest≠30:=fun e=>h (by rw [e];rfl)
 have:=Pz (S:=C6 S) hl hi (hf h30)
 refine ⟨this.le,this.lt,?_,this.len,this.ok,this.sz⟩
 show (Fw l f (C6 S)).2.nest-1=S.nest
 rw [this.nest]
 rfl
theorem Y0 {l:List Tok} {D:Fam} {S:PS} (hl:TokEnd l) (hll:l.length≤1048576) {t:Tok} (ht:t.text.length≤1048576) (hi:(Ag S).i<l.length) (hf:S.nest≠30→D8 l (S.nest+1) D.ei):Fact l S (Fx l D t S):=by
 have hk:KFact l (Ag S) (Ci l D S):=Q0 hl _ hi hf
 have h1:S.i+1≤(Ci l D S).2.i:=hk.le
 obtain ⟨w1,w2,w3⟩:=Yu (s:=Dp) hl hk.lt
 unfold Fx
 split
 ·exact M3 (Ah _) (by show S.i<_;have:S.i+1<l.length:=hi;omega) rfl _ _
 split
 ·exact M3 (show S.i≤(Dq l Dp (Ci l D S).2).i by omega) w2 (w3.trans hk.nest) 8 t.at_
 refine ⟨by show S.i≤(Dq l Dp (Ci l D S).2).i;omega,w2,w3.trans hk.nest,?_,?_⟩
 rotate_left
 ·have s1:El (Ci l D S).1≤2*((Ci l D S).2.i-(S.i+1))+1:=hk.sz
  show sizeE (.mk 6 t.text noV (Ci l D S).1)≤2*((Dq l Dp (Ci l D S).2).i-S.i)+1
  rw [sizeE]
  omega
 show okE (2*((Dq l Dp (Ci l D S).2).i-S.i)+1) _
 refine ⟨ht,?_,fun y hy=>?_⟩
 ·have h5:(Ci l D S).1.length≤(Ci l D S).2.i-(Ag S).i+1:=hk.len
  have h6:=hk.lt
  show (Ci l D S).1.length≤1048576
  omega
 exact Ge (by show 2*((Ci l D S).2.i-(S.i+1))+1≤_;omega) (hk.ok y hy)
theorem Y1 {l:List Tok} {D:Fam} {n:Nat} (hl:TokEnd l) (hll:l.length≤1048576) (hf:n≠30→D8 l (n+1) D.ei):D8 l n (Ex l D):=by
 intro S hi hn
 subst hn
 unfold Ex
 have leaf:∀e:Expr,okE 1 e→sizeE e=1→(Ae l S.i).kind≠0→Fact l S (e,Ag S):=fun e he hs hk=>⟨Hq _,hl.step hi hk,rfl,Ge (by omega) he,by show sizeE e≤_;omega⟩
 split
 ·exact ⟨Ah _,hi,rfl,M2 (by omega),by show sizeE Cb≤_;rw [Py];omega⟩
 split
 ·rename_i h
  refine leaf _ (Yt (Ah _) _) rfl ?_
  rcases Bool.or_eq_true_iff.1 h with h|h
  ·rw [beq_iff_eq] at h;rw [h];decide
  exact g0 h
 split
 ·rename_i h
  rw [beq_iff_eq] at h
  exact leaf _ (Yt (Ah _) _) rfl (by rw [h];decide)
 split
 ·rename_i h
  rw [beq_iff_eq] at h
  have hk:(Ae l S.i).kind≠0:=by rw [h];decide
  split
  ·rename_i h2
   have hi1:(Ag S).i<l.length:=hl.step hi hk
   have:=Y0 (S:=Ag S) (D:=D) hl hll (hl.text S.i) (hl.stepIs hi1 h2) hf
   have h3:S.i+1≤(Fx l D (Ae l S.i) (Ag S)).2.i:=this.le
   have h4:sizeE (Fx l D (Ae l S.i) (Ag S)).1≤2*((Fx l D (Ae l S.i) (Ag S)).2.i-(S.i+1))+1:=this.sz
   exact ⟨by omega,this.lt,this.nest,Ge (by show 2*((Fx l D (Ae l S.i) (Ag S)).2.i-(S.i+1))+1≤_;omega) this.ok,by omega⟩
  exact leaf _ (Vf _ (hl.text _)) rfl hk
 split
 ·rename_i h
  have hi1:(Ag S).i<l.length:=hl.stepIs hi h
  have:=H4 (S:=Ag S) (l:=l) (f:=D.ei) (Ae l S.i).at_ hi1 hf
  obtain ⟨w1,w2,w3⟩:=Yu (s:=Dp) hl this.lt
  have h3:S.i+1≤(Bq (Ae l S.i).at_ D.ei (Ag S)).2.i:=this.le
  have h4:sizeE (Bq (Ae l S.i).at_ D.ei (Ag S)).1≤2*((Bq (Ae l S.i).at_ D.ei (Ag S)).2.i-(S.i+1))+1:=this.sz
  refine ⟨by show S.i≤(Dq l Dp _).i;omega,w2,w3.trans this.nest,Ge ?_ this.ok,by show sizeE (Bq (Ae l S.i).at_ D.ei (Ag S)).1≤2*((Dq l Dp (Bq (Ae l S.i).at_ D.ei (Ag S)).2).i-S.i)+1;omega⟩
  show 2*((Bq (Ae l S.i).at_ D.ei (Ag S)).2.i-(S.i+1))+1≤2*((Dq l Dp (Bq (Ae l S.i).at_ D.ei (Ag S)).2).i-S.i)+1
  omega
 exact M3 (Ah _) hi rfl _ _
theorem Yw {l:List Tok} {S:PS} {r:Expr×PS} (h:Fact l (Ag S) r) (op:Int):Fact l S (M1 op r.1,r.2):=by
 have h1:S.i+1≤r.2.i:=h.le
 refine ⟨by show S.i≤r.2.i;omega,h.lt,h.nest,?_,?_⟩
 rotate_left
 ·have s1:sizeE r.1≤2*(r.2.i-(S.i+1))+1:=h.sz
  show sizeE (M1 op r.1)≤2*(r.2.i-S.i)+1
  rw [bi]
  omega
 show okE (2*(r.2.i-S.i)+1) _
 refine ⟨by simp [M1,Expr.text],by simp [M1,Expr.kids],fun y hy=>?_⟩
 have hy':y=r.1:=by simpa [M1,Expr.kids] using hy
 subst hy'
 exact Ge (by show 2*(r.2.i-(S.i+1))+1≤_;omega) h.ok
theorem N3 {l:List Tok} {D:Fam} {n:Nat} (hl:TokEnd l) (hll:l.length≤1048576) (hf:n≠30→D8 l (n+1) D.ei) (hg:n≠30→D8 l (n+1) D.ne):D8 l n (Pw l D):=by
 intro S hi hn
 unfold Pw
 split
 ·exact Y1 hl hll hf S hi hn
 rename_i h
 subst hn
 exact Yw (H4 (S:=Ag S) _ (hl.stepIs hi (by simpa using h)) hg) 3
theorem Rz {l:List Tok} {D:Fam} {n:Nat} (hl:TokEnd l) (hll:l.length≤1048576) (hf:n≠30→D8 l (n+1) D.ei) (hg:n≠30→D8 l (n+1) D.ne):D8 l n (Dc l D):=Fb hl (Fb hl (N3 hl hll hf hg))
theorem Kp {l:List Tok} {D:Fam} {n:Nat} (hl:TokEnd l) (hll:l.length≤1048576) (hf:n≠30→D8 l (n+1) D.ei) (hg:n≠30→D8 l (n+1) D.ne):D8 l n (Ec l D):=by
 intro S hi hn
 have h1:=Rz hl hll hf hg S hi hn
 unfold Ec
 split
 ·exact h1
 rename_i h
 simp only [Fg,not_or,Bool.not_eq_true,Md] at h
 exact Yv h1 (Rz hl hll hf hg _ (hl.stepIs h1.lt h.2) (h1.nest.trans hn)) hl
theorem S1 {l:List Tok} {D:Fam} {n:Nat} (hl:TokEnd l) (hll:l.length≤1048576) (hf:n≠30→D8 l (n+1) D.ei) (hg:n≠30→D8 l (n+1) D.ne) (hh:n≠30→D8 l (n+1) D.no):D8 l n (Px l D):=by
 intro S hi hn
 unfold Px
 split
 ·exact Kp hl hll hf hg S hi hn
 rename_i h
 subst hn
 exact Yw (H4 (S:=Ag S) _ (hl.stepIs hi (by simpa using h)) hh) 4
theorem N4 {l:List Tok} (hl:TokEnd l) (hll:l.length≤1048576):∀(d n:Nat),n+d=31→n≠31→D8 l n (Dr l d).ei∧D8 l n (Dr l d).no∧D8 l n (Dr l d).ne
 | 0,n,h,h2=>by omega
 | d+1,n,h,_=>by
  have ih:n≠30→_:=fun h30=>N4 hl hll d (n+1) (by omega) (by omega)
  have hn:=S1 (D:=Dr l d) (n:=n) hl hll (fun h=>(ih h).1) (fun h=>(ih h).2.2) (fun h=>(ih h).2.1)
  exact ⟨Fb hl (Fb hl hn),hn,N3 hl hll (fun h=>(ih h).1) (fun h=>(ih h).2.2)⟩
mutual
def depthE:Expr→Nat
 | .mk _ _ _ k=>Q2 k+1
def Q2:List Expr→Nat
  | []=>0
  | e::r=>max (depthE e) (Q2 r)
 end
mutual
def bj (p:Expr→Bool):Expr→Bool
 | .mk o t v k=>p (.mk o t v k)&&je p k
def je (p:Expr→Bool):List Expr→Bool
  | []=>true
  | e::r=>bj p e&&je p r
 end
mutual
def Q3:Expr→List Expr
 | .mk o t v k=>.mk o t v k::N5 k
def N5:List Expr→List Expr
  | []=>[]
  | e::r=>Q3 e++N5 r
 end
mutual
theorem Ed:∀(d:Int) (e:Expr),(B5 d e).length=sizeE e
 | d,.mk o t v k=>by rw [B5,sizeE,Ar,Q4 (d+1) k,Sj]
theorem Q4:∀(d:Int) (l:List Expr),(B2 d l).length=El l
  | d,[]=>rfl
  | d,e::r=>by rw [B2,El,Am,Ed d e,Q4 d r]
 end
mutual
theorem Q5:∀(d:Int) (e:Expr),(B5 d e).map (·.2)=Q3 e
 | d,.mk o t v k=>by rw [B5,Q3,Cl,Q6 (d+1) k]
theorem Q6:∀(d:Int) (l:List Expr),(B2 d l).map (·.2)=N5 l
  | d,[]=>rfl
  | d,e::r=>by rw [B2,N5,Dy,Q5 d e,Q6 d r]
 end
mutual
theorem S3 (p:Expr→Bool):∀e:Expr,(Q3 e).all p=bj p e
 | .mk o t v k=>by rw [Q3,bj,List.all_cons,Q7 p k]
theorem Q7 (p:Expr→Bool):∀l:List Expr,(N5 l).all p=je p l
  | []=>rfl
  | e::r=>by rw [N5,je,List.all_append,S3 p e,Q7 p r]
 end
theorem bm (p:Expr→Bool) (d:Int) (e:Expr):((B5 d e).all fun it=>p it.2)=bj p e:=by
 rw [←S3 p e,←Q5 d e,List.all_map]
 rfl
def Dk (m:Int) (L:List (Int×Expr)):Int:=L.foldl (fun m it=>max m it.1) m
mutual
theorem Q8:∀(d m:Int) (e:Expr),Dk m (B5 d e)=max m (d-1+depthE e)
 | d,m,.mk o t v k=>by
  rw [B5,depthE]
  show Dk (max m d) (B2 (d+1) k)=_
  rw [Q9 (d+1) (max m d) k (by omega)]
  omega
theorem Q9:∀(d m:Int) (l:List Expr),d-1≤m→Dk m (B2 d l)=max m (d-1+Q2 l)
  | d,m,[],h=>by
    rw [B2,Q2]
    show m=_
    omega
  | d,m,e::r,h=>by
    rw [B2,Q2]
    unfold Dk
    rw [Wk]
    show Dk (Dk m (B5 d e)) (B2 d r)=_
    rw [Q8 d m e,Q9 d _ r (by omega)]
    omega
 end
theorem Nv (e:Expr):Dk 0 (B5 1 e)=depthE e:=by rw [Q8];omega
theorem Vr:∀(L:List (Int×Expr)) (m b:Int),m≤b→(Dk m L≤b↔∀it∈L,it.1≤b)
 | [],m,b,h=>by simp [Dk,h]
 | it::r,m,b,h=>by
  show Dk (max m it.1) r≤b↔_
  rcases Decidable.em (it.1≤b) with h1|h1
  ·rw [Vr r (max m it.1) b (by omega)]
   simp [h1]
  constructor
  ·intro h2
   have:∀(r:List (Int×Expr)) (m:Int),m≤Dk m r:=by
    intro r
    induction r with
    | nil=>intro m;exact Int.le_refl _
    | cons a r ih=>intro m;have:=ih (max m a.1);show m≤Dk (max m a.1) r;omega
   have:=this r (max m it.1)
   omega
  intro h2
  exact absurd (h2 it (by simp)) h1
theorem jf (e:Expr) {b:Nat}:(∀it∈B5 1 e,it.1≤(b:Int))↔depthE e≤b:=by
 rw [←Vr (B5 1 e) 0 b (by omega),Nv]
 omega
def Ke (e:Expr):Bool:=(decide (depthE e≤30)&&decide (sizeE e≤300))&&bj Ko e
theorem Tr (e:Expr):Do e=Ke e:=by
 have hpos:1≤sizeE e:=by rw [fh];omega
 rw [We]
 unfold Do Ke
 rw [Ap]
 simp only [B1,decide_eq_true_eq,Dm,Ed]
 rw [←jf e,←bm Ko 1 e,Ap]
 constructor
 ·intro h
  have key:∀(k:Nat) (hk:k<(B5 1 e).length),Ko (B5 1 e)[k].2=true∧(B5 1 e)[k].1≤30∧(k:Int)+1≤300:=fun k hk=>by
   have:=h k (by rw [Ed] at hk;exact hk)
   rw [Tk (Ad hk)] at this
   simp only [If,Kt,Md,decide_eq_false_iff_not] at this
   exact ⟨this.1.1,by have:=this.1.2;omega,by have:=this.2;omega⟩
  refine ⟨⟨fun it hit=>?_,?_⟩,fun it hit=>?_⟩
  ·obtain ⟨k,hk,rfl⟩:=Sh hit
   exact (key k hk).2.1
  ·have:=(key (sizeE e-1) (by rw [Ed];omega)).2.2
   omega
  obtain ⟨k,hk,rfl⟩:=Sh hit
  exact (key k hk).1
 rintro ⟨⟨h1,h2⟩,h3⟩ k hk
 have hk':k<(B5 1 e).length:=by rw [Ed];exact hk
 rw [Tk (Ad hk')]
 have a1:=h1 _ (C7 hk')
 have a3:=h3 _ (C7 hk')
 have a3':Ko (B5 1 e)[k].2=true:=a3
 rw [a3']
 simp only [If,Kt,Ig,decide_eq_false_iff_not]
 exact ⟨⟨trivial,by have:(B5 1 e)[k].1≤(30:Int):=a1;omega⟩,by omega⟩
/-- Its number is one of 64 bits. -/
def sc (e:Expr):Bool:=decide (-9223372036854775808≤e.val.n)&&decide (e.val.n≤9223372036854775807)
/-! Names. -/
mutual
def eqE:Expr→Expr→Bool
 | .mk o t v k,.mk o' t' v' k'=>((((o==o')&&(t==t'))&&((v.kind==v'.kind&&v.n==v'.n)&&v.s==v'.s)))&&eqL k k'
def eqL:List Expr→List Expr→Bool
  | [],[]=>true
  | e::r,e'::r'=>eqE e e'&&eqL r r'
  | _,_=>false
 end
theorem g7 (x y:Expr):eqE x y=((((x.op==y.op)&&(x.text==y.text))&&((x.val.kind==y.val.kind&&x.val.n==y.val.n)&&x.val.s==y.val.s))&&eqL x.kids y.kids):=by
 cases x;cases y;rw [eqE];rfl
mutual
theorem Ts:∀x y:Expr,eqE x y=true↔x=y
 | .mk o t v k,.mk o' t' v' k'=>by
  rw [eqE]
  simp only [B1,beq_iff_eq,M4 k k',Expr.mk.injEq]
  constructor
  ·rintro ⟨⟨⟨rfl,rfl⟩,⟨h1,h2⟩,h3⟩,rfl⟩
   refine ⟨rfl,rfl,?_,rfl⟩
   cases v;cases v'
   simp_all
  rintro ⟨rfl,rfl,rfl,rfl⟩
  exact ⟨⟨⟨rfl,rfl⟩,⟨rfl,rfl⟩,rfl⟩,rfl⟩
theorem M4:∀x y:List Expr,eqL x y=true↔x=y
  | [],[]=>by simp [eqL]
  | [],e::r=>by simp [eqL]
  | e::r,[]=>by simp [eqL]
  | e::r,e'::r'=>by rw [eqL,B1,Ts e e',M4 r r',S9]
 end
theorem jg:∀{x y:List Expr},eqL x y=true→x.length=y.length:=fun h=>by rw [(M4 _ _).1 h]
theorem Vs (x:Expr):eqE x x=true:=(Ts x x).2 rfl
/-! A node by itself, and marks. -/
/-! What is wide. -/
/-! What is printed of columns, word by word. -/
structure ColOk (x:Col):Prop where
 name:Ew x.name=true
 lo:1≤x.kind
 hi:x.kind≤3
set_option maxRecDepth 8000
theorem Yx:∀d,d<10→digs.contains (UInt8.ofNat (48+d))=true:=by decide
theorem jh:∀d,d<10→(UInt8.ofNat (48+d)).toNat=48+d:=by decide
theorem ms:∀d,d<10→1≤d→UInt8.ofNat (48+d)≠48:=by decide
theorem Qa {u:Nat} (h:¬u<10):Lib.decDigits u=Lib.decDigits (u / 10)++[UInt8.ofNat (48+u % 10)]:=by rw [Lib.decDigits,dif_neg h]
theorem Tt:∀(u:Nat),∀c∈Lib.decDigits u,digs.contains c=true:=by
 intro u
 induction u using Nat.strongRecOn with
 | _ u ih =>
  intro c hc
  by_cases h:u<10
  ·rw [Lib.decDigits_one h,Cn] at hc
   subst hc
   exact Yx u h
  rw [Qa h] at hc
  rcases D6.1 hc with hc|hc
  ·exact ih (u / 10) (by omega) c hc
  rw [Cn.1 hc]
  exact Yx _ (Oc _ (by decide))
theorem Qb:∀(u:Nat),∃c r,Lib.decDigits u=c::r∧(1≤u→c≠48):=by
 intro u
 induction u using Nat.strongRecOn with
 | _ u ih =>
  by_cases h:u<10
  ·exact ⟨_,_,Lib.decDigits_one h,fun h1=>ms u h h1⟩
  obtain ⟨c,r,e,h1⟩:=ih (u / 10) (by omega)
  exact ⟨c,r++[UInt8.ofNat (48+u % 10)],by rw [Qa h,e];rfl,fun _=>h1 (by omega)⟩
theorem Kq (M:Nat):∀(a:Str) (acc v:Nat) (b:Str),Lib.parseUintM M acc a=.ok v→Lib.parseUintM M acc (a++b)=Lib.parseUintM M v b
 | [],acc,v,b,h=>by
  rw [Lib.parseUintM] at h
  injection h with h
  subst h
  rfl
 | c::r,acc,v,b,h=>by
  rw [Dd,Lib.parseUintM]
  rw [Lib.parseUintM] at h
  split at h
  ·rename_i h1
   rw [if_pos h1]
   split at h
   ·cases h
   rename_i h2
   rw [if_neg h2]
   split at h
   ·cases h
   rename_i h3
   rw [if_neg h3]
   exact Kq M r _ v b h
  cases h
theorem Qc {M:Nat} (hM:M≤18446744073709551615):∀(u:Nat),u≤M→Lib.parseUintM M 0 (Lib.decDigits u)=.ok u:=by
 intro u
 induction u using Nat.strongRecOn with
 | _ u ih =>
  intro hu
  have one:∀acc d,d<10→acc≤1844674407370955161→acc*10+d≤M→Lib.parseUintM M acc [UInt8.ofNat (48+d)]=.ok (acc*10+d):=fun acc d hd ha hm=>by
   have e:=jh d hd
   rw [Lib.parseUintM,e,if_pos (by omega),if_neg (by omega),if_neg (by omega),Lib.parseUintM]
   congr 1
   omega
  by_cases h:u<10
  ·rw [Lib.decDigits_one h,one 0 u h (by omega) (by omega)]
   congr 1
   omega
  rw [Qa h,Kq M _ 0 (u / 10) _ (ih (u / 10) (by omega) (by omega)),one (u / 10) (u % 10) (Oc _ (by decide)) (by omega) (by omega)]
  congr 1
  omega
theorem g8:∀c:UInt8,digs.contains c=true→c≠45∧c≠43∧c≠39∧c≠110∧c≠116∧c≠102:=by
 have h:((List.range 256).all fun n => !digs.contains (UInt8.ofNat n) || decide (UInt8.ofNat n≠45∧UInt8.ofNat n≠43∧UInt8.ofNat n≠39∧UInt8.ofNat n≠110∧UInt8.ofNat n≠116∧UInt8.ofNat n≠102))=true:=by kernel_rfl
 intro c hc
 have:=Ap.1 h c.toNat (Dm.2 c.toNat_lt)
 rw [show UInt8.ofNat c.toNat=c by simp,hc] at this
 simpa using this
theorem ji (u:Nat) (h1:u≤9223372036854775807):C9 (Lib.decDigits u)=((u:Int),0):=by
 obtain ⟨c,r,e,h0⟩:=Qb u
 have hc:digs.contains c=true:=Tt u c (by rw [e];simp)
 obtain ⟨n45,n43,_⟩:=g8 c hc
 have hds:J3 (Lib.decDigits u)=Lib.decDigits u:=by
  unfold J3 Lib.trimPrefix
  rw [if_neg]
  rw [e]
  unfold Lib.hasPrefix
  simp [Ne.symm n45]
 have hb:Fa (Lib.decDigits u)=false:=by
  unfold Fa
  rw [hds]
  have a1:(Lib.decDigits u==[])=false:=by rw [e];rfl
  have a2:Lib.trimS (Lib.decDigits u) digs=[]:=by
   unfold Lib.trimS Lib.trimRightS
   have:(Lib.decDigits u).reverse.dropWhile (fun x=>digs.contains x)=[]:=by
    rw [Td]
    intro b hb
    exact Tt u b (by simpa using hb)
   rw [this]
   rfl
  have a3:(((Lib.decDigits u).headD 0==48)&&decide (1<(Lib.decDigits u).length))=false:=by
   by_cases hu:u<10
   ·rw [Lib.decDigits_one hu];simp
   rw [e]
   have:(c==48)=false:=by simpa using h0 (by omega)
   simp [this]
  rw [a1,a2,a3]
  rfl
 have hp:Lib.parseIntB 64 (Lib.decDigits u)=.ok (u:Int):=by
  have hu:Lib.parseUintB 64 (Lib.decDigits u)=.ok u:=by
   unfold Lib.parseUintB
   rw [if_neg (by rw [e];simp)]
   exact Qc (by decide) u (by
    have:(2:Nat) ^ 64-1=18446744073709551615:=by decide
    omega)
  have n45':c.toNat≠45:=fun h=>n45 (Fi.1 (by rw [h];rfl))
  have n43':c.toNat≠43:=fun h=>n43 (Fi.1 (by rw [h];rfl))
  have e63:(2:Nat) ^ (64-1)=9223372036854775808:=by decide
  rw [e] at hu ⊢
  simp only [Lib.parseIntB,n43',n45',or_self,if_false,hu,e63]
  simp
  omega
 unfold C9
 rw [hb,hp]
 rfl
/-! The parser from a word on, and of a source. -/
def atS (l:List Tok) (i:Nat) (r:Expr×PS):PS:=if r.2.code != 0 then r.2 else if decide ((30:Int)<depthE r.1) then D4 18 (Ae l i).at_ r.2 else if decide ((300:Int)<sizeE r.1) then D4 3 (Ae l i).at_ r.2 else r.2
def atR (l:List Tok) (i:Nat):Expr×PS:=Tq l (Dr l 30) ⟨i,0,0,0⟩
/-- The tree, the word behind it, the fault. -/
def atM (l:List Tok) (i:Nat):Expr×Int×Int×Int:=if (atS l i (atR l i)).code != 0 then (Cb,0,(atS l i (atR l i)).code,(atS l i (atR l i)).at_) else ((atR l i).1,((atS l i (atR l i)).i:Int),0,0)
set_option maxRecDepth 4000
/-! What is printed of a schema is read. -/
/-- What goes together: names of their own. -/
theorem g9 {c:List Col} (h:Nk c=true):(∀y∈c,ColOk y)∧(c.map (·.name)).Nodup:=by
 rw [colsM_true] at h
 have hat:∀(j:Nat) (y:Col),c[j]? = some y→Nj y.name=true∧1≤y.kind∧y.kind≤3∧Kn y.name c=(j:Int):=by
  intro j y hj
  have:=h j y hj
  unfold Pc at this
  simp only [If,Kt,Md,decide_eq_false_iff_not,bne_eq_false_iff_eq] at this
  obtain ⟨⟨⟨h1,h2⟩,h3⟩,h4⟩:=this
  exact ⟨h1,by omega,by omega,h4⟩
 refine ⟨fun y hy=>?_,?_⟩
 ·obtain ⟨j,hj⟩:=Cc hy
  obtain ⟨h1,h2,h3,_⟩:=hat j y hj
  exact ⟨by rw [Pr];exact h1,h2,h3⟩
 show List.Pairwise _ _
 rw [List.pairwise_iff_getElem]
 intro i j hi hj hij e
 simp only [Bs] at hi hj
 simp only [Wn] at e
 have e1:=(hat i c[i] (Ad hi)).2.2.2
 have e2:=(hat j c[j] (Ad hj)).2.2.2
 rw [e] at e1
 omega
theorem ga {c:List Col} (h:Iv c=true):c.length≤12∧(∀y∈c,ColOk y)∧(c.map (·.name)).Nodup:=by
 rw [Ps] at h
 unfold Is at h
 rw [B1] at h
 obtain ⟨h1,h2⟩:=h
 have:=of_decide_eq_true h1
 exact ⟨by omega,g9 h2⟩
theorem sd (c:List Col) (Hp:List AObj):AFun Tryz.prog 5 [Cu c] Hp (Aj (Lt c)):=by
 refine Ai [.tmp 2] [0] Tryz.func5 Tryz.ntmps5 (fun d=>?_)
 refine Z31 ?_;refine Z30 ?_;refine A2 [0,6] ?_
 refine A6 (fun ht6=>?_) (fun ht6=>?_)
 ·refine ap ?_;exact A9 (Af A7) ⟨by simp [Lt] at ht6 ⊢;omega,rfl⟩
 refine Z82 ?_;refine Ki ?_
 refine C8 (α:=Nat) (fun x=>⟨20,Aa 0 (Cu c) (Aa 3 (A3 (x:Nat)) (fun _=>.any)),Hp,[],[],none⟩) (fun x=>x≤c.length∧∀(j:Nat) (y:Col),j<x→c[j]? = some y→decide ((100:Int)<y.name.length)=false) (fun x=>c.length-x) (0) (by simp) (Es _) rfl (fun x hx=>?_)
 refine Z36 ?_;refine A2 [0,3,10] ?_
 refine A6 (fun ht10=>?_) (fun ht10=>?_)
 ·have hlt:x<c.length:=by simpa using ht10
  have hcl:c.length≤50:=by simp at ht6;omega
  refine T9 ?_
  refine A4 (h:=Ay (x) (Jp c[x]) (fun _=>Bg hlt)) (hr:=?_)
  refine Z66 ?_;refine A2 [0,3,19] ?_
  refine A6 (fun ht19=>?_) (fun ht19=>?_)
  ·refine Z45 ?_;refine Z61 ?_;exact A9 (Af A7) ⟨by rw [show Lt c=true from by unfold Lt;rw [er (p:=fun y:Col=>decide ((100:Int)<y.name.length)) hlt ht19,Bool.or_true]],rfl⟩
  refine Z77 ?_;refine Ki ?_;exact C0 (x+1) ⟨hlt,G8 hlt hx.2 ht19⟩ (by omega) (Cm rfl)
 refine Z59 ?_;refine Z45 ?_;exact A9 (Af A7) ⟨by rw [show Lt c=false from by unfold Lt;rw [V4 (Ib (by simp at ht10;omega) hx.2)];simpa using ht6],rfl⟩
theorem jj {c:List Col} (h:Lt c=false):OkCols c:=by
 unfold Lt at h
 simp only [Kt,decide_eq_false_iff_not,List.any_eq_false,decide_eq_true_eq] at h
 refine ⟨by omega,fun y hy=>?_⟩
 have:=h.2 y hy
 omega
/-! What went and came, taken back: the same columns. -/
set_option maxRecDepth 8000
/-! The words of a print. -/
/-! The signs have as many as the nodes have kids. -/
/-! More columns. -/
/-! A tree in a column's place. -/
set_option maxRecDepth 4000
abbrev pr (l:List Tok) (S:PS):AObj:=.cells 243 [.slice false 3 (l.map Ga),A3 (S.i:Int),A3 (S.nest:Int),A3 S.code,A3 S.at_]
theorem C3 {n:Nat} {l:List Tok} {S:PS}:ObjLow n (pr l S):=by
 show ∀y∈[AV.slice false 3 (l.map Ga),A3 (S.i:Int),A3 (S.nest:Int),A3 S.code,A3 S.at_],Low n y
 intro y hy
 simp only [Bt,Fh,or_false] at hy
 rcases hy with rfl|rfl|rfl|rfl|rfl
 ·simp [or_imp,forall_and]
 all_goals simp
theorem Vt (o:Int) (t:Str) (v:Val):Le (.agg [A3 o,A8 t,A3 v.kind,A3 v.n,A8 v.s,.nil]) (Aq (.mk o t v [])):=by
 rw [Ao]
 refine .agg _ _ rfl (by simp [AV.one,Value.oneCell',sv]) fun i y y' h1 h2=>?_
 match i with
 | 0=>simp at h1 h2;subst h1;subst h2;exact .inl rfl
 | 1=>simp at h1 h2;subst h1;subst h2;exact .inl rfl
 | 2=>simp at h1 h2;subst h1;subst h2;exact .inl rfl
 | 3=>simp at h1 h2;subst h1;subst h2;exact .inl rfl
 | 4=>simp at h1 h2;subst h1;subst h2;exact .inl rfl
 | 5=>simp at h1 h2;subst h1;subst h2;exact .inr ⟨rfl,6,rfl⟩
 | i+6=>simp at h1
theorem M5:Le (.agg [A3 0,A8 [],A3 0,A3 0,A8 [],.nil]) (Aq Cb):=Vt 0 [] noV
theorem se (l:List Tok) (S:PS) (o:Nat) (Hp:List AObj) (ho:Hp[o]? = some (pr l S)) (hi:S.i<l.length):AFun Tryz.prog 246 [.ptr o 0] Hp (Ga (Ae l S.i)):=by
 refine Ai [.cell 2 102] [0] Tryz.func246 Tryz.ntmps246 (fun d=>?_)
 refine Z50 ?_;refine Hf [0,1,3,7,0,16,48,112,255,511,1023] 8 Av (by kernel_rfl) ?_;refine Z34 ?_
 refine Bb (h:=Bp ho) (hr:=?_)
 refine Z34 ?_
 refine Bb (h:=Bp ho) (hr:=?_)
 refine In ?_
 refine A4 (h:=Ay (S.i) (Ga (Ae l S.i)) (fun _=>Iw hi)) (hr:=?_)
 refine A4 ?_;exact lr

theorem Vu (l:List Tok) (S:PS) (of:Str) (o:Nat) (Hp:List AObj) (ho:Hp[o]? = some (pr l S)) (hi:S.i<l.length) (hl:TokEnd l) (hof:of.length≤1048576):AFun Tryz.prog 243 [.ptr o 0,A8 of] Hp (Aj (isM l of S)):=by
 refine Ai [.tmp 4] [0,1] Tryz.func243 Tryz.ntmps243 (fun d=>?_)
 refine Z39 ?_;refine Z2 ?_;refine Z84 ?_;refine A2 [1,5] ?_;refine Z1 ?_;refine Qy ?_;refine Qy ?_;refine Bh Tryz.call195 (fun hB=>pi (Ae l S.i).text of (hl.text _) hof _) ?_;exact lw

theorem gb (l:List Tok) (S:PS) (o:Nat) (Hp:List AObj) (ho:Hp[o]? = some (pr l S)) (hi:S.i<l.length) (hll:l.length≤1048576):ACall Tryz.prog 244 [.ptr o 0] Hp (fun r H'=>r=Ga (Ae l S.i)∧H'=Hp.set o (pr l (Ag S))):=by
 refine Ai [.cell 2 102] [0] Tryz.func244 Tryz.ntmps244 (fun d=>?_)
 refine Z50 ?_;refine Z2 ?_;refine Z84 ?_;refine Tb ?_;refine Z16 ?_
 refine A4 (h:=Bp ho) (hr:=?_)
 refine Z6 ?_
 refine Di jS ho ?_ ?_
 ·simp
 refine A2 [2,3] ?_;refine Z2 ?_;exact lr

theorem bn (l:List Tok) (S:PS) (e a:Int) (o:Nat) (Hp:List AObj) (ho:Hp[o]? = some (pr l S)):ACall Tryz.prog 224 [.ptr o 0,A3 e,A3 a] Hp (fun r H'=>r=Aq Cb∧H'=Hp.set o (pr l (D4 e a S))):=by
 refine Ai [.cell 6 38] [0,1,2] Tryz.func224 Tryz.ntmps224 (fun d=>?_)
 refine ii ?_;refine Z36 ?_
 refine A4 (h:=Bp ho) (hr:=?_)
 refine A4 ?_;refine A2 [0,1,2,6,12] ?_
 refine A6 (fun ht12=>?_) (fun ht12=>?_)
 ·have e:D4 e a S=⟨S.i,S.nest,e,a⟩:=if_pos ht12
  refine Z58 ?_;refine m4 ?_;refine Z0 ?_
  refine Di jS ho ?_ ?_
  ·simp
  refine A2 [6] ?_;refine G6 ?_;refine Z80 ?_;refine R.wk 19 _ M5 ?_;refine Z48 ?_;refine Dg ?_;exact A9 (Af (B3 jA jS)) ⟨rfl,by rw [e]⟩ (hlow:=Au _ Cb)
 have e:D4 e a S=S:=if_neg (by rw [ht12];simp)
 refine Z5 ?_;refine Z80 ?_;refine R.wk 19 _ M5 ?_;refine Z48 ?_;refine Dg ?_;exact A9 (Af (B3 jA jS)) ⟨rfl,by rw [e];exact (Bv ho).symm⟩ (hlow:=Au _ Cb)

theorem pw (v:Val) (Hp:List AObj):AFun Tryz.prog 253 [Fo v] Hp (Aq (Pv v)):=by
 refine Ai [.cell 2 38] [0] Tryz.func253 Tryz.ntmps253 (fun d=>?_)
 refine Z2 ?_;refine I1 jZ ?_;refine A2 [1,2] ?_;refine Z2 ?_;refine en ?_;refine R.wk 4 _ (Vt 1 [] v) ?_;refine Z22 ?_;exact A9 (Af (B3 jA jS)) ⟨rfl,rfl⟩ (hlow:=Au _ (Pv v))

theorem px (l:List Tok) (S:PS) (s:Str) (o:Nat) (Hp:List AObj) (ho:Hp[o]? = some (pr l S)) (hi:S.i<l.length) (hll:l.length≤1048576):ACall Tryz.prog 255 [.ptr o 0,A8 s] Hp (fun r H'=>r=.v (.tuple #[])∧H'=Hp.set o (pr l (Dq l s S))):=by
 refine Ai [] [0,1] Tryz.func255 Tryz.ntmps255 (fun d=>?_)
 refine Z36 ?_
 refine A4 (h:=Bp ho) (hr:=?_)
 refine A4 ?_;refine A2 [0,1,10] ?_
 refine A6 (fun ht10=>?_) (fun ht10=>?_)
 ·have e:Dq l s S=S:=if_pos ht10
  refine Z28 ?_;exact A9 .nores (hp:=⟨rfl,by rw [e];exact (Bv ho).symm⟩)
 have e0:¬(S.code != 0)=true:=by rw [ht10];simp
 refine Z82 ?_;refine Z84 ?_;refine A2 [0,1,4] ?_;refine Z1 ?_;refine Z24 ?_;refine A4 ?_;refine A2 [0,4,21] ?_
 refine A6 (fun ht21=>?_) (fun ht21=>?_)
 ·have e:Dq l s S=D4 8 (Ae l S.i).at_ S:=by unfold Dq;rw [if_neg e0,if_pos ht21]
  refine o0 ?_;refine A2 [] ?_;refine Z28 ?_;exact A9 .nores (hp:=⟨rfl,by rw [e]⟩)
 have e:Dq l s S=Ag S:=by unfold Dq;rw [if_neg e0,if_neg (by rw [ht21];simp)]
 refine Z5 ?_;refine Z58 ?_
 refine A4 (h:=Bp ho) (hr:=?_)
 refine Z6 ?_
 refine Di jS ho ?_ ?_
 ·simp
 refine A2 [] ?_;exact L2 .nores (hp:=⟨rfl,by rw [e];rfl⟩)

/-- The contract of one of the parser's functions. -/
def PC (g:FuncId) (l:List Tok) (f:PS→Expr×PS) (n:Nat):Prop:=∀(o:Nat) (Hp:List AObj) (S:PS),Hp[o]? = some (pr l S)→S.i<l.length→S.nest=n→ACall Tryz.prog g [.ptr o 0] Hp (fun r H'=>r=Aq (f S).1∧H'=Hp.set o (pr l (f S).2))
abbrev I3:AObj:=.cells 38 [A3 0,A8 [],A3 0,A3 0,A8 [],.nil]
theorem Yy {n:Nat}:ObjLow n I3:=by
 show ∀y∈[A3 0,A8 [],A3 0,A3 0,A8 [],AV.nil],Low n y
 simp
theorem jk {n:Nat} (e:Expr):ObjLow n (.cells 38 (Gs e)):=by
 have h:=Au n e
 rw [Ao] at h
 show ∀y∈Gs e,Low n y
 intro y hy
 cases h with
 | agg _ h=>exact h y hy
theorem jl (l:List Tok) (S:PS) (a:Int) (g:FuncId) (first caps:List AV) (x:Expr) (S2:PS) (o:Nat) (Hp Hx:List AObj) (ho:Hp[o]? = some (pr l S)) (hnl:S.nest≤1048576) (hgc:∀args w,(callFunc g args).run Tryz.prog w=.ok (.enter g args) w) (hxl:Hx.length=Hp.length) (hxo:Hx[o]? = some (pr l S2)) (hn2:S2.nest=S.nest+1) (hlow:(∀y∈Hp.set o (pr l (C6 S)),ObjLow Hp.length y)→∀y∈Hx,ObjLow Hp.length y) (hcf:S.nest≠30→∀own,ACall Tryz.prog g (first++caps) (Hp.set o (pr l (C6 S))++own) (fun y H'=>y=Aq x∧H'=Hx++own)):ACall Tryz.prog 248 [.ptr o 0,A3 a,.fn (.func g) first caps] Hp (fun r H'=>(S.nest=30→r=Aq Cb∧H'=Hp.set o (pr l (D4 18 a S)))∧(S.nest≠30→r=Aq x∧H'=Hx.set o (pr l (Rx S2)))):=by
 refine Ai [.cell 6 38] [0,1,2] Tryz.func248 Tryz.ntmps248 (fun d=>?_)
 refine ii ?_;refine Z30 ?_
 refine A4 (h:=Bp ho) (hr:=?_)
 refine A4 ?_;refine A2 [0,1,2,6,12] ?_
 refine A6 (fun ht12=>?_) (fun ht12=>?_)
 ·have hn30:S.nest=30:=by have:=ht12;simp at this;omega
  refine Z1 ?_;refine Bf Tryz.call224 ho (by simp) C3 (bn l S 18 a o _ (An ho)) ?_;refine Z48 ?_;refine Z28 ?_;exact A9 (Af (B3 jA jS)) ⟨fun _=>⟨by rw [Ao],rfl⟩,fun h=>absurd hn30 h⟩ (hlow:=by have:=Au Hp.length Cb;rw [Ao] at this;simpa using this)
 have hn30:S.nest≠30:=by have:=ht12;simp at this;omega
 refine Z5 ?_;refine Z16 ?_
 refine A4 (h:=Bp ho) (hr:=?_)
 refine Z6 ?_
 refine Di jS ho ?_ ?_
 ·simp
 refine A2 [0,2,6] ?_;refine Z2 ?_
 refine R.callVX (up':=Hx) (own':=[I3]) hgc (hcf hn30 [I3]) (by simpa using hxl) (by rw [Cy];exact hlow) ?_
 rw [←hxl]
 refine Z8 ?_;refine A2 [0,6,7] ?_;refine Z16 ?_
 refine A4 (h:=Bp hxo) (hr:=?_)
 refine Z6 ?_
 refine Di jS hxo ?_ ?_
 ·simp
 refine A2 [6,7] ?_;refine Z2 ?_;refine Z48 ?_;refine Dg ?_;exact A9 (Af (B3 jA jS)) ⟨fun h=>absurd h hn30,fun _=>⟨by rw [Ao],by rw [show ((S2.nest:Int)-1)=((Rx S2).nest:Int) by show _=((S2.nest-1:Nat):Int);omega];rfl⟩⟩ (hlow:=by have:=Au Hx.length x;rw [Ao] at this;simpa using this)

theorem bo (t:Str) (a b:Expr):Gs (Ld t a b)=[A3 5,.v (sv t),A3 0,A3 0,A8 [],.slice false 6 [Aq a,Aq b]]:=rfl
theorem jm {n:Nat} (t:Str) (a b:Expr):ObjLow n (.cells 38 [A3 5,.v (sv t),A3 0,A3 0,A8 [],.slice false 6 [Aq a,Aq b]]):=jk (Ld t a b)
theorem jn {n:Nat} {U:List AObj} {i:Nat} {x:AObj} (h:∀y∈U,ObjLow n y) (hx:ObjLow n x):∀y∈U.set i x,ObjLow n y:=by
 intro y hy
 rcases Lj hy with h1|h1
 ·exact h y h1
 rw [h1];exact hx
/-- within, with a method's value. -/
theorem gc {g:FuncId} (hgc:∀args w,(callFunc g args).run Tryz.prog w=.ok (.enter g args) w) (l:List Tok) (S:PS) (a:Int) (f:PS→Expr×PS) (o:Nat) (Hp:List AObj) (ho:Hp[o]? = some (pr l S)) (hi:S.i<l.length) (hnl:S.nest≤30) (hf:S.nest≠30→D8 l (S.nest+1) f) (hcf:S.nest≠30→PC g l f (S.nest+1)):
  ACall Tryz.prog 248 [.ptr o 0,A3 a,.fn (.func g) [.ptr o 0] []] Hp (fun r H'=>r=Aq (Bq a f S).1∧H'=Hp.set o (pr l (Bq a f S).2)):=by
 have hlt:=(Ac.1 ho).1
 by_cases h30:S.nest=30
 ·refine (jl l S a g [.ptr o 0] [] Cb (C6 S) o Hp (Hp.set o (pr l (C6 S))) ho (by omega) hgc (by simp) (by simp [hlt]) rfl (fun h=>h) (fun h=>absurd h30 h)).mono fun r H' h=>?_
  have e:Bq a f S=(Cb,D4 18 a S):=if_pos (by rw [h30];rfl)
  rw [e]
  exact h.1 h30
 have hq:=hf h30 (C6 S) hi rfl
 refine (jl l S a g [.ptr o 0] [] (f (C6 S)).1 (f (C6 S)).2 o Hp (Hp.set o (pr l (f (C6 S)).2)) ho (by omega) hgc (by simp) (by simp [hlt]) hq.nest (fun h y hy=>?_) (fun _ own=>?_)).mono fun r H' h=>?_
 ·rcases Lj hy with h1|h1
  ·obtain ⟨i,hi',rfl⟩:=Sh h1
   by_cases hio:i=o
   ·subst hio
    have:Hp[i]=pr l S:=by rw [Ad hi'] at ho;injection ho
    rw [this];exact C3
   refine h _ ?_
   rw [Y9]
   exact ⟨i,by rw [Cd (Ne.symm hio),Ad hi']⟩
  rw [h1];exact C3
 ·have hg:(Hp.set o (pr l (C6 S))++own)[o]? = some (pr l (C6 S)):=An (by simp [hlt])
  refine (hcf h30 o (Hp.set o (pr l (C6 S))++own) (C6 S) hg hi rfl).mono fun r H' h=>⟨h.1,h.2.trans ?_⟩
  rw [K6 _ _ (by simpa using hlt),Ba]
 have e:Bq a f S=((f (C6 S)).1,Rx (f (C6 S)).2):=if_neg (by
  show ¬(((S.nest:Int)==30)=true)
  simp
  omega)
 rw [e]
 obtain ⟨h1,h2⟩:=h.2 h30
 exact ⟨h1,by rw [h2,Ba]⟩
theorem jo {g:FuncId} (hgc:∀args w,(callFunc g args).run Tryz.prog w=.ok (.enter g args) w) (l:List Tok) (S:PS) (of:Str) (hof:of.length≤1048576) (f:PS→Expr×PS) (o:Nat) (Hp:List AObj) (ho:Hp[o]? = some (pr l S)) (hi:S.i<l.length) (hl:TokEnd l) (hll:l.length≤1048576) (hf:D8 l S.nest f) (hcf:PC g l f S.nest):ACall Tryz.prog 238 [.ptr o 0,A8 of,.fn (.func g) [.ptr o 0] []] Hp (fun r H'=>r=Aq (Em l of f S).1∧H'=Hp.set o (pr l (Em l of f S).2)):=by
 have holt:=(Ac.1 ho).1
 refine Ai [.cell 6 38] [0,1,2] Tryz.func238 Tryz.ntmps238 (fun d=>?_)
 refine ii ?_;refine Z2 ?_;refine R.callVUp hgc ho (by simp) C3 (hcf o _ S (An ho) hi rfl) ?_;refine Z8 ?_;refine A2 [0,1,2,6,7] ?_;refine W.seq ?_
 refine C8 (α:=Expr×PS) (fun r=>⟨32,Aa 0 (.ptr o 0) (Aa 1 (A8 of) (Aa 2 (.fn (.func g) [.ptr o 0] []) (Aa 6 (.ptr (oid Hp.length 0) 0) (Aa 7 (.ptr (oid Hp.length 1) 0) (fun _=>.any))))),Hp.set o (pr l r.2),[.cells 38 [A3 0,A8 [],A3 0,A3 0,A8 [],.nil],.cells 38 (Gs r.1)],[],none⟩) (fun r=>LeftAt l of f S r) (fun r=>l.length-r.2.i) (f S) (.start (hf S hi rfl)) (C1 (by simp)) rfl (fun r hx=>?_)
 refine Z36 ?_
 refine A4 (h:=Bp (Az ho)) (hr:=?_)
 refine Z15 ?_;refine Bh Tryz.call243 (fun hB=>Vu l r.2 of o _ (An (Az ho)) hx.fact.lt hl hof) ?_;refine A4 ?_;refine A2 [0,1,2,6,7,21] ?_
 refine A6 (fun ht21=>?_) (fun ht21=>?_)
 ·have hon:=hx.on hl ht21 hf
  have hle:=hon.2.1.le
  have hlt0:=hx.fact.lt
  have hU1:(Hp.set o (pr l r.2)).set o (pr l (Ag r.2))=Hp.set o (pr l (Ag r.2)):=Ba ..
  refine Z5 ?_;refine Gy ?_;refine Z2 ?_;refine Bf Tryz.call244 (Az ho) (by simp) C3 (gb l r.2 o _ (An (Az ho)) hx.fact.lt hll) ?_;refine Z8 ?_;refine A2 [0,1,2,6,7,8] ?_;refine W.drawY0 [0,1,0,0,8,28,63,127] [4] [.q 4 [] [],.s [28] (some 0) [] [],.q 1 [0] []] (fun B=>Hp.set o (if B 0=true then pr l (f (Ag r.2)).2 else pr l (Ag r.2))) (fun _=>[.cells 38 [A3 0,A8 [],A3 0,A3 0,A8 [],.nil],.cells 38 (Gs r.1),.cells 102 [A3 (Ae l r.2.i).kind,A8 (Ae l r.2.i).text,A3 (Ae l r.2.i).at_]]) Av (by kernel_rfl) (by simp [Ba]) rfl (fun B=>by simp) ?_
  apply Y.q
  ·intro B hT hF
   exact Z99
  case hTF=>decide
  refine Y.callVUp (r:=Aq (f (Ag r.2)).1) (o:=o) (x0:=pr l (Ag r.2)) (x:=pr l (f (Ag r.2)).2) hgc (fun B hT hF hB=>⟨by simp only [hB];exact Az ho,by simp [upd],rfl,C3,?_⟩) ?_
  ·simp only [hB]
   exact hcf o _ (Ag r.2) (An (Az ho)) hon.1 hx.fact.nest
  apply Y.q
  ·intro B hT hF
   exact Z72
  case hTF=>decide
  refine Et (tn:=[4]) (U:=Hp.set o (pr l (f (Ag r.2)).2)) ?_;refine en ?_;refine Fu ?_;refine A2 [0,1,2,6,7] ?_;refine F8 ?_
  refine C0 (Ld (Ae l r.2.i).text r.1 (f (Ag r.2)).1,(f (Ag r.2)).2) hon.2.2 (by show l.length-(f (Ag r.2)).2.i<l.length-r.2.i;have:r.2.i+1≤(f (Ag r.2)).2.i:=hle;omega) ?_
  simp only [bo]
  have hlow2:=fun n=>jm (n:=n) (Ae l r.2.i).text r.1 (f (Ag r.2)).1
  simp only [Ao] at hlow2 ⊢
  exact Dj (fun _=>.refl _) (by repeat (first|exact Bx|refine Bw (by simp [oid]<;>omega) ?_)) (by intro y hy;rcases Bt.1 hy with rfl|hy;exact Yy;rw [Cn.1 hy];exact hlow2 _) (by simp)
 have hout:=hx.out (by rw [ht21];simp)
 refine Z59 ?_;refine Z2 ?_;refine Z48 ?_;refine Dg ?_;exact A9 (Af (B3 jA jS)) ⟨by rw [hout,Ao],by rw [hout]⟩ (hlow:=by have:=Au (Hp.set o (pr l r.2)).length r.1;rw [Ao] at this;simpa using this)

theorem sg (l:List Tok) (S:PS) (f:PS→Expr×PS) (o:Nat) (Hp:List AObj) (ho:Hp[o]? = some (pr l S)) (hi:S.i<l.length) (hl:TokEnd l) (hll:l.length≤1048576) (hf:D8 l S.nest f) (hcf:PC 239 l f S.nest):ACall Tryz.prog 222 [.ptr o 0] Hp (fun r H'=>r=Aq (Em l orT f S).1∧H'=Hp.set o (pr l (Em l orT f S).2)):=by
 refine Ai [.cell 2 38] [0] Tryz.func222 Tryz.ntmps222 (fun d=>?_)
 refine Z50 ?_;refine Z1 ?_;refine Hc ?_;refine Bf Tryz.call238 ho (by simp) C3 (jo Tryz.call239 l S orT (by decide) f o _ (An ho) hi hl hll hf hcf) ?_;refine Z22 ?_;exact A9 (Af (B3 jA jS)) ⟨by rw [Ao],rfl⟩ (hlow:=by have:=Au Hp.length (Em l orT f S).1;rw [Ao] at this;simpa using this)

theorem sh (l:List Tok) (S:PS) (f:PS→Expr×PS) (o:Nat) (Hp:List AObj) (ho:Hp[o]? = some (pr l S)) (hi:S.i<l.length) (hl:TokEnd l) (hll:l.length≤1048576) (hf:D8 l S.nest f) (hcf:PC 245 l f S.nest):ACall Tryz.prog 239 [.ptr o 0] Hp (fun r H'=>r=Aq (Em l fw f S).1∧H'=Hp.set o (pr l (Em l fw f S).2)):=by
 refine Ai [.cell 2 38] [0] Tryz.func239 Tryz.ntmps239 (fun d=>?_)
 refine Z50 ?_;refine Z1 ?_;refine Hc ?_;refine Bf Tryz.call238 ho (by simp) C3 (jo Tryz.call245 l S fw (by decide) f o _ (An ho) hi hl hll hf hcf) ?_;refine Z22 ?_;exact A9 (Af (B3 jA jS)) ⟨by rw [Ao],rfl⟩ (hlow:=by have:=Au Hp.length (Em l fw f S).1;rw [Ao] at this;simpa using this)

theorem si (l:List Tok) (S:PS) (f:PS→Expr×PS) (o:Nat) (Hp:List AObj) (ho:Hp[o]? = some (pr l S)) (hi:S.i<l.length) (hl:TokEnd l) (hll:l.length≤1048576) (hf:D8 l S.nest f) (hcf:PC 250 l f S.nest):ACall Tryz.prog 249 [.ptr o 0] Hp (fun r H'=>r=Aq (Em l fx f S).1∧H'=Hp.set o (pr l (Em l fx f S).2)):=by
 refine Ai [.cell 2 38] [0] Tryz.func249 Tryz.ntmps249 (fun d=>?_)
 refine Z50 ?_;refine Z1 ?_;refine Hc ?_;refine Bf Tryz.call238 ho (by simp) C3 (jo Tryz.call250 l S fx (by decide) f o _ (An ho) hi hl hll hf hcf) ?_;refine Z22 ?_;exact A9 (Af (B3 jA jS)) ⟨by rw [Ao],rfl⟩ (hlow:=by have:=Au Hp.length (Em l fx f S).1;rw [Ao] at this;simpa using this)

theorem sj (l:List Tok) (S:PS) (f:PS→Expr×PS) (o:Nat) (Hp:List AObj) (ho:Hp[o]? = some (pr l S)) (hi:S.i<l.length) (hl:TokEnd l) (hll:l.length≤1048576) (hf:D8 l S.nest f) (hcf:PC 251 l f S.nest):ACall Tryz.prog 250 [.ptr o 0] Hp (fun r H'=>r=Aq (Em l Vo f S).1∧H'=Hp.set o (pr l (Em l Vo f S).2)):=by
 refine Ai [.cell 2 38] [0] Tryz.func250 Tryz.ntmps250 (fun d=>?_)
 refine Z50 ?_;refine Z1 ?_;refine Hc ?_;refine Bf Tryz.call238 ho (by simp) C3 (jo Tryz.call251 l S Vo (by decide) f o _ (An ho) hi hl hll hf hcf) ?_;refine Z22 ?_;exact A9 (Af (B3 jA jS)) ⟨by rw [Ao],rfl⟩ (hlow:=by have:=Au Hp.length (Em l Vo f S).1;rw [Ao] at this;simpa using this)

/-- What is so of the functions one nest deeper. -/
structure DeepC (l:List Tok) (Dv:Fam) (n:Nat):Prop where
 ei:n≠30→D8 l (n+1) Dv.ei∧PC 222 l Dv.ei (n+1)
 no:n≠30→D8 l (n+1) Dv.no∧PC 245 l Dv.no (n+1)
 ne:n≠30→D8 l (n+1) Dv.ne∧PC 251 l Dv.ne (n+1)
theorem Ok (op:Int) (x:Expr):Aq (M1 op x)=.agg [A3 op,A8 [],A3 0,A3 0,A8 [],.slice false 6 [Aq x]]:=by rw [Ao];rfl
theorem Yz (t:Str) (a b:Expr):Aq (Ld t a b)=.agg [A3 5,.v (sv t),A3 0,A3 0,A8 [],.slice false 6 [Aq a,Aq b]]:=by rw [Ao];rfl
theorem low_agg {n:Nat} (e:Expr):Low n (.agg [.v (.int .i64 e.op),.v (sv e.text),.v (.int .i64 e.val.kind),.v (.int .i64 e.val.n),.v (sv e.val.s),.slice false 6 (e.kids.map Aq)]):=by
 have:=Au n e
 rwa [Ao] at this
theorem sk (l:List Tok) (S:PS) (Dv:Fam) (o:Nat) (Hp:List AObj) (ho:Hp[o]? = some (pr l S)) (hi:S.i<l.length) (hl:TokEnd l) (hll:l.length≤1048576) (hnl:S.nest≤30) (hd:DeepC l Dv S.nest) (hc:PC 252 l (Ex l Dv) S.nest):ACall Tryz.prog 251 [.ptr o 0] Hp (fun r H'=>r=Aq (Pw l Dv S).1∧H'=Hp.set o (pr l (Pw l Dv S).2)):=by
 refine Ai [.cell 2 38] [0] Tryz.func251 Tryz.ntmps251 (fun d=>?_)
 refine Z50 ?_;refine Z19 ?_;refine Ab Tryz.call243 (Vu l S mq o _ (An ho) hi hl (by decide)) ?_;refine A4 ?_;refine A2 [0,2,6] ?_
 refine A6 (fun ht6=>?_) (fun ht6=>?_)
 ·have e:Pw l Dv S=Ex l Dv S:=if_pos ht6
  refine Z2 ?_;refine Bf Tryz.call252 ho (by simp) C3 (hc o _ S (An ho) hi rfl) ?_;refine Z22 ?_;exact Z43
 have his:isM l mq S=true:=by simpa using ht6
 have hi1:(Ag S).i<l.length:=hl.stepIs hi his
 have e:Pw l Dv S=(M1 3 (Bq (Ae l S.i).at_ Dv.ne (Ag S)).1,(Bq (Ae l S.i).at_ Dv.ne (Ag S)).2):=if_neg (by rw [ht6];simp)
 refine Z5 ?_;refine Z32 ?_;refine Z8 ?_;refine Tb ?_;refine Z21 ?_;refine Hc ?_;refine Bf Tryz.call248 (Az ho) (by simp) C3 (gc Tryz.call251 l (Ag S) (Ae l S.i).at_ Dv.ne o _ (An (Az ho)) hi1 hnl (fun h=>(hd.ne h).1) (fun h=>(hd.ne h).2)) ?_;refine O5 ?_;refine Z85 ?_;exact A9 (Af (B3 jA jS)) ⟨by rw [e,Ok];simp only [Ao],by rw [e,Ba]⟩ (hlow:=by have:=Au Hp.length (M1 3 (Bq (Ae l S.i).at_ Dv.ne (Ag S)).1);rw [Ok] at this;simp only [Ao] at this;simpa only [Cy] using this)

theorem sm (l:List Tok) (S:PS) (Dv:Fam) (o:Nat) (Hp:List AObj) (ho:Hp[o]? = some (pr l S)) (hi:S.i<l.length) (hl:TokEnd l) (hll:l.length≤1048576) (hnl:S.nest≤30) (hd:DeepC l Dv S.nest) (hc:PC 247 l (Ec l Dv) S.nest):ACall Tryz.prog 245 [.ptr o 0] Hp (fun r H'=>r=Aq (Px l Dv S).1∧H'=Hp.set o (pr l (Px l Dv S).2)):=by
 refine Ai [.cell 2 38] [0] Tryz.func245 Tryz.ntmps245 (fun d=>?_)
 refine Z50 ?_;refine Z19 ?_;refine Ab Tryz.call243 (Vu l S mo o _ (An ho) hi hl (by decide)) ?_;refine A4 ?_;refine A2 [0,2,6] ?_
 refine A6 (fun ht6=>?_) (fun ht6=>?_)
 ·have e:Px l Dv S=Ec l Dv S:=if_pos ht6
  refine Z2 ?_;refine Bf Tryz.call247 ho (by simp) C3 (hc o _ S (An ho) hi rfl) ?_;refine Z22 ?_;exact Z43
 have his:isM l mo S=true:=by simpa using ht6
 have hi1:(Ag S).i<l.length:=hl.stepIs hi his
 have e:Px l Dv S=(M1 4 (Bq (Ae l S.i).at_ Dv.no (Ag S)).1,(Bq (Ae l S.i).at_ Dv.no (Ag S)).2):=if_neg (by rw [ht6];simp)
 refine Z5 ?_;refine Z32 ?_;refine Z8 ?_;refine Tb ?_;refine Z21 ?_;refine Hc ?_;refine Bf Tryz.call248 (Az ho) (by simp) C3 (gc Tryz.call245 l (Ag S) (Ae l S.i).at_ Dv.no o _ (An (Az ho)) hi1 hnl (fun h=>(hd.no h).1) (fun h=>(hd.no h).2)) ?_;refine O5 ?_;refine Z85 ?_;exact A9 (Af (B3 jA jS)) ⟨by rw [e,Ok];simp only [Ao],by rw [e,Ba]⟩ (hlow:=by have:=Au Hp.length (M1 4 (Bq (Ae l S.i).at_ Dv.no (Ag S)).1);rw [Ok] at this;simp only [Ao] at this;simpa only [Cy] using this)

theorem so (l:List Tok) (S:PS) (Dv:Fam) (o:Nat) (Hp:List AObj) (ho:Hp[o]? = some (pr l S)) (hi:S.i<l.length) (hl:TokEnd l) (hll:l.length≤1048576) (hnl:S.nest≤30) (hd:DeepC l Dv S.nest) (hg:D8 l S.nest (Dc l Dv)) (hc:PC 249 l (Dc l Dv) S.nest):ACall Tryz.prog 247 [.ptr o 0] Hp (fun r H'=>r=Aq (Ec l Dv S).1∧H'=Hp.set o (pr l (Ec l Dv S).2)):=by
 have hq:=hg S hi rfl
 refine Ai [.cell 2 38] [0] Tryz.func247 Tryz.ntmps247 (fun d=>?_)
 refine Z50 ?_;refine Z2 ?_;refine Bf Tryz.call249 ho (by simp) C3 (hc o _ S (An ho) hi rfl) ?_;refine Z8 ?_;refine Tb ?_;refine Z36 ?_
 refine A4 (h:=Bp (Az ho)) (hr:=?_)
 refine Z88 ?_;refine Bh Tryz.call243 (fun hB=>Vu l (Dc l Dv S).2 mp o _ (An (Az ho)) hq.lt hl (by decide)) ?_;refine Z57 ?_;refine A2 [0,2,3,17] ?_
 refine A6 (fun ht17=>?_) (fun ht17=>?_)
 ·have e:Ec l Dv S=Dc l Dv S:=if_pos ht17
  refine Z2 ?_;refine Z22 ?_;exact Z43
 have his:isM l mp (Dc l Dv S).2=true:=by
  have:=ht17
  simp only [Kt,Md] at this
  exact this.2
 have hi1:(Ag (Dc l Dv S).2).i<l.length:=hl.stepIs hq.lt his
 have e:Ec l Dv S=(Ld (Ae l (Dc l Dv S).2.i).text (Dc l Dv S).1 (Dc l Dv (Ag (Dc l Dv S).2)).1,(Dc l Dv (Ag (Dc l Dv S).2)).2):=if_neg (by rw [ht17];simp)
 refine Z73 ?_;refine Bf Tryz.call244 (Az ho) (by simp) C3 (gb l (Dc l Dv S).2 o _ (An (Az ho)) hq.lt hll) ?_;refine Z8 ?_;refine A2 [0,2,3,4] ?_;refine F7 [0,1,0,0,8,28,63,127] [4] [.q 4 [] [],.s [25] (some 0) [] [],.q 1 [0] []] (fun B=>Hp.set o (if B 0=true then pr l (Dc l Dv (Ag (Dc l Dv S).2)).2 else pr l (Ag (Dc l Dv S).2))) (fun _=>[.cells 38 [A3 0,A8 [],A3 0,A3 0,A8 [],.nil],.cells 38 (Gs (Dc l Dv S).1),.cells 102 [A3 (Ae l (Dc l Dv S).2.i).kind,A8 (Ae l (Dc l Dv S).2.i).text,A3 (Ae l (Dc l Dv S).2.i).at_]]) Av (by kernel_rfl) (by simp [Ba]) rfl (fun B=>by simp) ?_
 apply Y.q
 ·intro B hT hF
  exact Z99
 case hTF=>decide
 refine Y.callUp (r:=Aq (Dc l Dv (Ag (Dc l Dv S).2)).1) (o:=o) (x0:=pr l (Ag (Dc l Dv S).2)) (x:=pr l (Dc l Dv (Ag (Dc l Dv S).2)).2) Tryz.call249 (fun B hT hF hB=>⟨by simp only [hB];exact Az ho,by simp [upd],rfl,C3,?_⟩) ?_
 ·simp only [hB]
  exact hc o _ (Ag (Dc l Dv S).2) (An (Az ho)) hi1 hq.nest
 apply Y.q
 ·intro B hT hF
  exact Z72
 case hTF=>decide
 refine Et (tn:=[4]) (U:=Hp.set o (pr l (Dc l Dv (Ag (Dc l Dv S).2)).2)) ?_;refine Z85 ?_;exact A9 (Af (B3 jA jS)) ⟨by rw [e,Yz];simp only [Ao],by rw [e]⟩ (hlow:=by have:=Au Hp.length (Ld (Ae l (Dc l Dv S).2.i).text (Dc l Dv S).1 (Dc l Dv (Ag (Dc l Dv S).2)).1);rw [Yz] at this;simp only [Ao] at this;simpa only [Cy] using this)

/-- The contract of the parser of calls. -/
def Vw (l:List Tok) (Dv:Fam) (n:Nat):Prop:=∀(o:Nat) (Hp:List AObj) (S:PS) (t:Tok),Hp[o]? = some (pr l S)→(Ag S).i<l.length→S.nest=n→t.text.length≤1048576→isM l opT S=true→ACall Tryz.prog 254 [.ptr o 0,Ga t] Hp (fun r H'=>r=Aq (Fx l Dv t S).1∧H'=Hp.set o (pr l (Fx l Dv t S).2))
theorem ge:Aq Cb=.agg [A3 0,A8 [],A3 0,A3 0,A8 [],.slice false 6 []]:=by rw [Ao];rfl
theorem sq (l:List Tok) (S:PS) (Dv:Fam) (o:Nat) (Hp:List AObj) (ho:Hp[o]? = some (pr l S)) (hi:S.i<l.length) (hl:TokEnd l) (hll:l.length≤1048576) (hnl:S.nest≤30) (hd:DeepC l Dv S.nest) (hcl:Vw l Dv S.nest):ACall Tryz.prog 252 [.ptr o 0] Hp (fun r H'=>r=Aq (Ex l Dv S).1∧H'=Hp.set o (pr l (Ex l Dv S).2)):=by
 refine Ai [.cell 2 38] [0] Tryz.func252 Tryz.ntmps252 (fun d=>?_)
 refine Z50 ?_;refine Z2 ?_;refine Z84 ?_;refine Tb ?_;refine Z36 ?_
 refine A4 (h:=Bp ho) (hr:=?_)
 refine A4 ?_;refine A2 [0,2,3,14] ?_
 refine A6 (fun ht14=>?_) (fun ht14=>?_)
 ·have e:Ex l Dv S=(Cb,S):=if_pos ht14
  refine Z80 ?_;refine R.wk 15 _ M5 ?_;refine Z22 ?_;refine Dn ?_;exact A9 (Af (B3 jA jS)) ⟨by rw [e,Ao],by rw [e];exact (Bv ho).symm⟩ (hlow:=by have:=Au Hp.length (Cb);simpa only [Ao,Cy] using this)
 have e0:¬(S.code != 0)=true:=by rw [ht14];simp
 refine Z51 ?_;refine aq ?_;refine Bh Tryz.call243 (fun hB=>Vu l S mr o _ (An ho) hi hl (by decide)) ?_;refine Z0 ?_;refine A2 [0,2,3,16] ?_
 refine A6 (fun ht16=>?_) (fun ht16=>?_)
 ·have e:Ex l Dv S=(Pv (Eb (Ae l S.i).text).1,Ag S):=by unfold Ex;rw [if_neg e0,if_pos ht16]
  refine Z32 ?_;refine A4 ?_;refine Ab Tryz.call94 (c94 (Ae l S.i).text (hl.text _) _) ?_;refine X6 ?_;refine A2 [2,4] ?_;refine Z2 ?_;refine Ab Tryz.call253 (pw (Eb (Ae l S.i).text).1 _) ?_;refine Z22 ?_;refine Z10 ?_;exact A9 (Af (B3 jA jS)) ⟨by rw [e,Ao],by rw [e]⟩ (hlow:=by have:=Au Hp.length (Pv (Eb (Ae l S.i).text).1);simpa only [Ao,Cy] using this)
 have e1:¬(((Ae l S.i).kind==3) || isM l mr S)=true:=by rw [ht16];simp
 refine Z21 ?_;refine A2 [0,2,3,33] ?_
 refine A6 (fun ht33=>?_) (fun ht33=>?_)
 ·have e:Ex l Dv S=(Pv ⟨2,0,(Ae l S.i).text.take 200⟩,Ag S):=by unfold Ex;rw [if_neg e0,if_neg e1,if_pos ht33]
  refine Z32 ?_;refine A4 ?_;refine Ab Tryz.call57 (c57 (Ae l S.i).text _) ?_;refine Ab Tryz.call253 (pw ⟨2,0,(Ae l S.i).text.take 200⟩ _) ?_;refine Z22 ?_;refine Z10 ?_;exact A9 (Af (B3 jA jS)) ⟨by rw [e,Ao],by rw [e]⟩ (hlow:=by have:=Au Hp.length (Pv ⟨2,0,(Ae l S.i).text.take 200⟩);simpa only [Ao,Cy] using this)
 have e2:¬((Ae l S.i).kind==4)=true:=by rw [ht33];simp
 refine Z21 ?_;refine A2 [0,2,3,42] ?_
 refine A6 (fun ht42=>?_) (fun ht42=>?_)
 ·have hi1:(Ag S).i<l.length:=hl.step hi (by rw [beq_iff_eq] at ht42;rw [ht42];decide)
  refine Z32 ?_;refine Tb ?_;refine Z19 ?_;refine Ab Tryz.call243 (Vu l (Ag S) opT o _ (An (Az ho)) hi1 hl (by decide)) ?_;refine A2 [0,2,3,49] ?_
  refine A6 (fun ht49=>?_) (fun ht49=>?_)
  ·have e:Ex l Dv S=Fx l Dv (Ae l S.i) (Ag S):=by unfold Ex;rw [if_neg e0,if_neg e1,if_neg e2,if_pos ht42,if_pos ht49]
   have hi2:(Ag (Ag S)).i<l.length:=hl.stepIs hi1 ht49
   refine Z1 ?_;refine Bf Tryz.call254 (Az ho) (by simp) C3 (hcl o _ (Ag S) (Ae l S.i) (An (Az ho)) hi2 rfl (hl.text _) ht49) ?_;refine Z22 ?_;refine Dn ?_;refine Z10 ?_;exact A9 (Af (B3 jA jS)) ⟨by rw [e,Ao],by rw [e,Ba]⟩ (hlow:=by have:=Au Hp.length ((Fx l Dv (Ae l S.i) (Ag S)).1);simpa only [Ao,Cy] using this)
  have e:Ex l Dv S=(Hg (Ae l S.i).text,Ag S):=by unfold Ex;rw [if_neg e0,if_neg e1,if_neg e2,if_pos ht42,if_neg (by rw [ht49];simp)]
  refine Z5 ?_;refine Z54 ?_;refine R.wk 55 _ (Ve _) ?_;refine Z22 ?_;refine Z10 ?_;exact A9 (Af (B3 jA jS)) ⟨by rw [e,Ao],by rw [e]⟩ (hlow:=by have:=Au Hp.length (Hg (Ae l S.i).text);simpa only [Ao,Cy] using this)
 have e3:¬((Ae l S.i).kind==1)=true:=by rw [ht42];simp
 refine Z2 ?_;refine Ab Tryz.call243 (Vu l S opT o _ (An ho) hi hl (by decide)) ?_;refine A4 ?_;refine A2 [0,2,3,56] ?_
 refine A6 (fun ht56=>?_) (fun ht56=>?_)
 ·have e:Ex l Dv S=((Bq (Ae l S.i).at_ Dv.ei (Ag S)).1,Dq l Dp (Bq (Ae l S.i).at_ Dv.ei (Ag S)).2):=by unfold Ex;rw [if_neg e0,if_neg e1,if_neg e2,if_neg e3,if_pos ht56]
  have hi1:(Ag S).i<l.length:=hl.stepIs hi ht56
  have hwf:=H4 (S:=Ag S) (l:=l) (f:=Dv.ei) (Ae l S.i).at_ hi1 (fun h=>(hd.ei h).1)
  refine Z32 ?_;refine Tb ?_;refine Z21 ?_;refine Hc ?_;refine Bf Tryz.call248 (Az ho) (by simp) C3 (gc Tryz.call222 l (Ag S) (Ae l S.i).at_ Dv.ei o _ (An (Az ho)) hi1 hnl (fun h=>(hd.ei h).1) (fun h=>(hd.ei h).2)) ?_;refine Z8 ?_;refine A2 [0,2,6] ?_;refine Z2 ?_;refine Bf Tryz.call255 (Az (Az ho)) (by simp) C3 (px l (Bq (Ae l S.i).at_ Dv.ei (Ag S)).2 Dp o _ (An (Az (Az ho))) hwf.lt hll) ?_;refine A2 [2,6] ?_;refine Z2 ?_;refine Z22 ?_;refine Z10 ?_;exact A9 (Af (B3 jA jS)) ⟨by rw [e,Ao],by rw [e,Ba,Ba]⟩ (hlow:=by have:=Au Hp.length ((Bq (Ae l S.i).at_ Dv.ei (Ag S)).1);simpa only [Ao,Cy] using this)
 have e:Ex l Dv S=(Cb,D4 8 (Ae l S.i).at_ S):=by unfold Ex;rw [if_neg e0,if_neg e1,if_neg e2,if_neg e3,if_neg (by rw [ht56];simp)]
 refine Z55 ?_;refine o0 ?_;refine Z22 ?_;exact A9 (Af (B3 jA jS)) ⟨by rw [e,Ao],by rw [e]⟩ (hlow:=by have:=Au Hp.length (Cb);simpa only [Ao,Cy] using this)

theorem jp {l:List Tok} (hl:TokEnd l) (hll:l.length≤1048576) {d n:Nat} (h:n+(d+1)=31) (hp:n≠30→PC 222 l (Dr l d).ei (n+1)∧PC 245 l (Dr l d).no (n+1)∧PC 251 l (Dr l d).ne (n+1)):DeepC l (Dr l d) n:=by
 have g:n≠30→_:=fun h30=>N4 hl hll d (n+1) (by omega) (by omega)
 exact ⟨fun h=>⟨(g h).1,(hp h).1⟩,fun h=>⟨(g h).2.1,(hp h).2.1⟩,fun h=>⟨(g h).2.2,(hp h).2.2⟩⟩
/-- All functions of the parser. -/
theorem Vx {l:List Tok} (hl:TokEnd l) (hll:l.length≤1048576) (hcl:∀n Dv,n≤30→DeepC l Dv n→Vw l Dv n):∀(d n:Nat),n+d=31→n≤30→PC 222 l (Dr l d).ei n∧PC 245 l (Dr l d).no n∧PC 251 l (Dr l d).ne n
 | 0,n,h,hn=>by omega
 | d+1,n,h,hn=>by
  have hd:DeepC l (Dr l d) n:=jp hl hll h (fun h30=>Vx hl hll hcl d (n+1) (by omega) (by omega))
  have g1:D8 l n (Pw l (Dr l d)):=N3 hl hll (fun h=>(hd.ei h).1) (fun h=>(hd.ne h).1)
  have g2:D8 l n (Yr l (Dr l d)):=Fb hl g1
  have g3:D8 l n (Dc l (Dr l d)):=Fb hl g2
  have g4:D8 l n (Ec l (Dr l d)):=Kp hl hll (fun h=>(hd.ei h).1) (fun h=>(hd.ne h).1)
  have g5:D8 l n (Px l (Dr l d)):=S1 hl hll (fun h=>(hd.ei h).1) (fun h=>(hd.ne h).1) (fun h=>(hd.no h).1)
  have g6:D8 l n (Ys l (Dr l d)):=Fb hl g5
  have p0:PC 252 l (Ex l (Dr l d)) n:=fun o Hp S ho hi hS=>by
   subst hS
   exact sq l S (Dr l d) o Hp ho hi hl hll hn hd (hcl _ _ hn hd)
  have p1:PC 251 l (Pw l (Dr l d)) n:=fun o Hp S ho hi hS=>by
   subst hS
   exact sk l S (Dr l d) o Hp ho hi hl hll hn hd p0
  have p2:PC 250 l (Yr l (Dr l d)) n:=fun o Hp S ho hi hS=>by
   subst hS
   exact sj l S (Pw l (Dr l d)) o Hp ho hi hl hll g1 p1
  have p3:PC 249 l (Dc l (Dr l d)) n:=fun o Hp S ho hi hS=>by
   subst hS
   exact si l S (Yr l (Dr l d)) o Hp ho hi hl hll g2 p2
  have p4:PC 247 l (Ec l (Dr l d)) n:=fun o Hp S ho hi hS=>by
   subst hS
   exact so l S (Dr l d) o Hp ho hi hl hll hn hd g3 p3
  have p5:PC 245 l (Px l (Dr l d)) n:=fun o Hp S ho hi hS=>by
   subst hS
   exact sm l S (Dr l d) o Hp ho hi hl hll hn hd p4
  have p6:PC 239 l (Ys l (Dr l d)) n:=fun o Hp S ho hi hS=>by
   subst hS
   exact sh l S (Px l (Dr l d)) o Hp ho hi hl hll g5 p5
  have p7:PC 222 l (Tq l (Dr l d)) n:=fun o Hp S ho hi hS=>by
   subst hS
   exact sg l S (Ys l (Dr l d)) o Hp ho hi hl hll g6 p6
  exact ⟨p7,p5,p1⟩
theorem Za {n:Nat} {U F:Nat→List AObj} {H':List AObj} (h:Ie (fun _=>true) U F n H'):H'=U n:=by
 rcases h with ⟨_,h⟩|⟨j,_,_,h,_⟩
 ·exact h
 cases h
theorem bp {α:Type} {l:List α} {k:Nat} {y:α} (h:l[k]? = some y):l.take (k+1)=l.take k++[y]:=by rw [List.take_add_one,h];rfl
theorem gg {L:List (Int×Expr)} {k:Nat} {it:Int×Expr} (h:L[k]? = some it):Dk 0 (L.take (k+1))=if Dk 0 (L.take k)<it.1 then it.1 else Dk 0 (L.take k):=by
 have e:Dk 0 (L.take (k+1))=max (Dk 0 (L.take k)) it.1:=by
  unfold Dk
  rw [bp h,Wk]
  rfl
 rw [e]
 split<;>omega
theorem S4 {n k:Nat} {o:Bool} {l:List Str}:Low n (.slice o k (l.map A8)):=by simp [or_imp,forall_and]
theorem sr (n:Nat) (e:Expr) (hok:okE n e) (hn:n≤1048576) (hs:sizeE e≤1048576) (Hp:List AObj):AFun Tryz.prog 223 [Aq e] Hp (A3 (depthE e:Nat)):=by
 refine Ai [.tmp 2] [0,4] Tryz.func223 Tryz.ntmps223 (fun d=>?_)
 refine Z1 ?_;refine A2 [1,4] ?_;refine Df ?_;refine Z8 ?_;refine A2 [1,3,4] ?_;refine Z53 ?_
 refine R.assumeLow (fun hlow=>?_)
 refine lx ?_;refine A2 [3,4,6] ?_;refine Gy ?_
 refine W.rangeV (m:=1) Tryz.call193 (fun FR as' bd' hFR has hbd=>?_)
 have hFRl:∀s,Low (Hp.length+3) (FR s):=by
  intro s
  rw [hFR]
  refine Low.strip ?_
  revert s
  repeat (first|exact Bx|refine Bw (by simp [oid,Au]<;>try omega) ?_)
 have hOl:∀{k:Nat},∀x∈[AObj.cells 3 [A3 (Dk 0 ((B5 1 e).take k))],AObj.defs,AObj.loop LoopState.ready none FR 13 #[7,8] as' bd' (oid Hp.length 1)],ObjLow (Hp.length+3) x:=by
  intro k x hx
  simp only [Bt,K3,or_false] at hx
  rcases hx with rfl|rfl|rfl
  ·intro y hy
   rw [Cn.1 hy]
   first|exact S4|simp
  ·trivial
  exact iq
 refine ⟨fun _ H'=>Ie (fun _=>true) (fun k=>Hp++[AObj.cells 3 [A3 (Dk 0 ((B5 1 e).take k))],AObj.defs,AObj.loop LoopState.ready none FR 13 #[7,8] as' bd' (oid Hp.length 1)]) (fun k=>Hp++[AObj.cells 3 [A3 (Dk 0 ((B5 1 e).take k))],AObj.defs,AObj.loop LoopState.ready none FR 13 #[7,8] as' bd' (oid Hp.length 1)]) (B5 1 e).length H',mj (l:=oid Hp.length 2) (go:=fun _=>true) (U:=fun k=>Hp++[AObj.cells 3 [A3 (Dk 0 ((B5 1 e).take k))],AObj.defs,AObj.loop LoopState.ready none FR 13 #[7,8] as' bd' (oid Hp.length 1)]) (F:=fun k=>Hp++[AObj.cells 3 [A3 (Dk 0 ((B5 1 e).take k))],AObj.defs,AObj.loop LoopState.ready none FR 13 #[7,8] as' bd' (oid Hp.length 1)]) (n0:=Hp.length+3) ⟨fun k=>by simp,fun k=>by simp,fun k x hx=>?_,fun k x hx=>?_,by simp [oid],fun X k it hit hgo=>?_⟩ n hok hn,?_⟩
 ·exact ek
 ·exact ek
 ·have hklt:k<sizeE e:=by rw [←Ed 1 e];exact (Ac.1 hit).1
  generalize hV:(Hp++[AObj.cells 3 [A3 (Dk 0 ((B5 1 e).take k))],AObj.defs,AObj.loop LoopState.ready none FR 13 #[7,8] as' bd' (oid Hp.length 1)]++X)=V
  have hL:V[oid Hp.length 2]? = some (AObj.loop LoopState.ready none FR 13 #[7,8] as' bd' (oid Hp.length 1)):=by rw [←hV,Br,Bk];rfl
  have hA0:V[oid Hp.length 0]? = some (AObj.cells 3 [A3 (Dk 0 ((B5 1 e).take k))]):=by rw [←hV,Br,Bk];rfl
  refine Sx (pd:=none) (fr:=FR) (sz:=13) (ps:=#[7,8]) (df:=oid Hp.length 1) (asg:=as') (bd:=bd') hL rfl (by decide) (fun d=>?_)
  subst hFR has hbd
  refine F9 [3,7,8] ?_;refine Z27 ?_;refine A2 [3,4] ?_
  refine ⟨rfl,none,hL,?_⟩
  generalize hbz:(AObj.loop LoopState.busy _ _ _ _ _ _ _)=bz
  have hA:(V.set (oid Hp.length 2) bz)[oid Hp.length 0]? = some (AObj.cells 3 [A3 (Dk 0 ((B5 1 e).take k))]):=by rw [Cd (Eu (by decide))];exact hA0
  refine Gy ?_;refine Jb ?_
  refine A4 (h:=Bp hA) (hr:=?_)
  refine A4 ?_;refine R.maxI ?_
  refine Di jS hA ?_ ?_
  ·simp
  refine A2 [] ?_;refine F8 ?_
  subst hbz
  refine K.rdN (Ur hL (Eu (by decide))) ?_
  refine ⟨rfl,?_⟩
  rw [if_pos rfl]
  subst hV
  simp only [Br,Ei,Dd,F1,List.set_cons_succ,List.set_cons_zero]
  rw [gg hit]
 intro r H' hq
 obtain rfl:=Za hq
 refine ⟨Hp,_,_,_,rfl,rfl,fun h=>h,?_,rfl,by simp,?_⟩
 ·intro o ho
  have:o=oid Hp.length 1:=by simpa using ho
  subst this
  rw [Bk]
  rfl
 refine Z12 ?_;refine Z1 ?_;refine Z4 ?_;exact A9 (Af A7) ⟨by rw [K7,Nv],rfl⟩

theorem ss (n:Nat) (e:Expr) (hok:okE n e) (hn:n≤1048576) (hs:sizeE e≤1048576) (Hp:List AObj):AFun Tryz.prog 225 [Aq e] Hp (A3 (sizeE e:Nat)):=by
 refine Ai [.tmp 2] [0] Tryz.func225 Tryz.ntmps225 (fun d=>?_)
 refine Z83 ?_;refine Df ?_;refine Z8 ?_;refine A2 [1,3] ?_;refine Z53 ?_
 refine R.assumeLow (fun hlow=>?_)
 refine lx ?_;refine A2 [3,5] ?_;refine Gy ?_
 refine W.rangeV (m:=1) Tryz.call193 (fun FR as' bd' hFR has hbd=>?_)
 have hFRl:∀s,Low (Hp.length+3) (FR s):=by
  intro s
  rw [hFR]
  refine Low.strip ?_
  revert s
  repeat (first|exact Bx|refine Bw (by simp [oid,Au]<;>try omega) ?_)
 have hOl:∀{k:Nat},∀x∈[AObj.cells 3 [A3 ((k:Nat))],AObj.defs,AObj.loop LoopState.ready none FR 11 #[6,7] as' bd' (oid Hp.length 1)],ObjLow (Hp.length+3) x:=by
  intro k x hx
  simp only [Bt,K3,or_false] at hx
  rcases hx with rfl|rfl|rfl
  ·intro y hy
   rw [Cn.1 hy]
   first|exact S4|simp
  ·trivial
  exact iq
 refine ⟨fun _ H'=>Ie (fun _=>true) (fun k=>Hp++[AObj.cells 3 [A3 ((k:Nat))],AObj.defs,AObj.loop LoopState.ready none FR 11 #[6,7] as' bd' (oid Hp.length 1)]) (fun k=>Hp++[AObj.cells 3 [A3 ((k:Nat))],AObj.defs,AObj.loop LoopState.ready none FR 11 #[6,7] as' bd' (oid Hp.length 1)]) (B5 1 e).length H',mj (l:=oid Hp.length 2) (go:=fun _=>true) (U:=fun k=>Hp++[AObj.cells 3 [A3 ((k:Nat))],AObj.defs,AObj.loop LoopState.ready none FR 11 #[6,7] as' bd' (oid Hp.length 1)]) (F:=fun k=>Hp++[AObj.cells 3 [A3 ((k:Nat))],AObj.defs,AObj.loop LoopState.ready none FR 11 #[6,7] as' bd' (oid Hp.length 1)]) (n0:=Hp.length+3) ⟨fun k=>by simp,fun k=>by simp,fun k x hx=>?_,fun k x hx=>?_,by simp [oid],fun X k it hit hgo=>?_⟩ n hok hn,?_⟩
 ·exact ek
 ·exact ek
 ·have hklt:k<sizeE e:=by rw [←Ed 1 e];exact (Ac.1 hit).1
  generalize hV:(Hp++[AObj.cells 3 [A3 ((k:Nat))],AObj.defs,AObj.loop LoopState.ready none FR 11 #[6,7] as' bd' (oid Hp.length 1)]++X)=V
  have hL:V[oid Hp.length 2]? = some (AObj.loop LoopState.ready none FR 11 #[6,7] as' bd' (oid Hp.length 1)):=by rw [←hV,Br,Bk];rfl
  have hA0:V[oid Hp.length 0]? = some (AObj.cells 3 [A3 ((k:Nat))]):=by rw [←hV,Br,Bk];rfl
  refine Sx (pd:=none) (fr:=FR) (sz:=11) (ps:=#[6,7]) (df:=oid Hp.length 1) (asg:=as') (bd:=bd') hL rfl (by decide) (fun d=>?_)
  subst hFR has hbd
  refine F9 [3,6,7] ?_;refine G4 ?_
  refine ⟨rfl,none,hL,?_⟩
  generalize hbz:(AObj.loop LoopState.busy _ _ _ _ _ _ _)=bz
  have hA:(V.set (oid Hp.length 2) bz)[oid Hp.length 0]? = some (AObj.cells 3 [A3 ((k:Nat))]):=by rw [Cd (Eu (by decide))];exact hA0
  refine Gy ?_;refine Jb ?_
  refine A4 (h:=Bp hA) (hr:=?_)
  refine A4 ?_
  refine Di jS hA ?_ ?_
  ·simp
  refine A2 [] ?_;refine F8 ?_
  subst hbz
  refine K.rdN (Ur hL (Eu (by decide))) ?_
  refine ⟨rfl,?_⟩
  rw [if_pos rfl]
  subst hV
  simp only [Br,Ei,Dd,F1,List.set_cons_succ,List.set_cons_zero]
  rfl
 intro r H' hq
 obtain rfl:=Za hq
 refine ⟨Hp,_,_,_,rfl,rfl,fun h=>h,?_,rfl,by simp,?_⟩
 ·intro o ho
  have:o=oid Hp.length 1:=by simpa using ho
  subst this
  rw [Bk]
  rfl
 refine Z12 ?_;refine Z1 ?_;refine Z4 ?_;exact A9 (Af A7) ⟨by rw [Ed],rfl⟩

theorem Vy {l:List Tok} (hl:TokEnd l) (hll:l.length≤1048576) {i:Nat} (hi:i<l.length):Fact l ⟨i,0,0,0⟩ (atR l i):=(N4 hl hll 31 0 rfl (by decide)).1 ⟨i,0,0,0⟩ hi rfl
theorem mt {l:List Tok} {i:Nat} (hi:i<l.length) (hl:TokEnd l) (hll:l.length≤1048576) (hcl:∀n Dv,n≤30→DeepC l Dv n→Vw l Dv n) (o:Nat) (Hp:List AObj) (ho:Hp[o]? = some (pr l ⟨i,0,0,0⟩)):ACall Tryz.prog 222 [.ptr o 0] Hp (fun r H'=>r=Aq (atR l i).1∧H'=Hp.set o (pr l (atR l i).2)):=(Vx hl hll hcl 31 0 rfl (by decide)).1 o Hp ⟨i,0,0,0⟩ ho hi rfl
theorem Vz {l:List Tok} (hl:TokEnd l):(Ae l (l.length-1)).kind=0:=by
 obtain ⟨L,z,rfl,hz,_⟩:=hl.split
 unfold Ae
 simp [hz]
theorem su (l:List Tok) (i:Nat) (hi:i<l.length) (hl:TokEnd l) (hll:l.length≤500000) (hcl:∀n Dv,n≤30→DeepC l Dv n→Vw l Dv n) (Hp:List AObj):AFun Tryz.prog 182 [fc l,A3 (i:Int)] Hp (.tup [Aq (atM l i).1,A3 (atM l i).2.1,.agg [A3 (atM l i).2.2.1,A3 (atM l i).2.2.2]]):=by
 have hmap:(l.map Ga).length=l.length:=Bs ..
 have hll1:l.length≤1048576:=by omega
 have hq:=Vy hl hll1 hi
 have hlast:=Vz hl
 have hpos:=hl.pos
 have hqlt:=hq.lt
 have hqs:=hq.sz
 have hok0:okE 1048576 (atR l i).1:=Ge (by have:=hq.lt;omega) hq.ok
 have hsz0:sizeE (atR l i).1≤1048576:=by have:=hq.sz;have:=hq.lt;omega
 refine Ai [.cell 4 38,.tmp 5,.cell 6 67] [0,1] Tryz.func182 Tryz.ntmps182 (fun d=>?_)
 refine Z18 ?_;refine A4 ?_;refine I1 jZ ?_;refine A2 [0,1,4,6] ?_;refine Z30 ?_;refine Z3 ?_;refine Z3 ?_;refine Z24 ?_
 refine B9 (h:=Ay ((l.length-1)) (Ga (Ae l (l.length-1))) (fun _=>Iw (by omega))) (hr:=?_)
 refine Z3 ?_;refine Z57 ?_;refine A2 [0,1,4,6,26] ?_
 refine A6 (fun ht26=>?_) (fun ht26=>?_)
 ·simp only [Fg,decide_eq_true_eq,bne_iff_ne,ne_eq] at ht26
  rcases ht26 with (h|h)|h
  ·omega
  ·simp at h;omega
  exact absurd hlast h
 refine Z5 ?_;refine Z1 ?_;refine Jk (places:=#[(0,1),(1,1),(2,1),(3,2)]) jU (fun w=>by simp) jZ ?_;refine R.box ?_;refine A4 ?_;refine A2 [0,1,4,6,7] ?_;refine Z2 ?_
 refine Jl (n:=2) (x:=pr l (atR l i).2) Tryz.call222 (mt hi hl hll1 hcl (oid Hp.length 2) _ (by rw [Bk];rfl)) ?_
 refine Z8 ?_;refine A2 [0,1,4,6,7,8] ?_
 refine Jo ⟨81,Aa 4 (.ptr (oid Hp.length 0) 0) (Aa 6 (.ptr (oid Hp.length 1) 0) (Aa 7 (.ptr (oid Hp.length 2) 0) (Aa 8 (.ptr (oid Hp.length 3) 0) (fun _=>.any)))),Hp,[.cells 38 [A3 0,A8 [],A3 0,A3 0,A8 [],.nil],.cells 67 [A3 0,A3 0],pr l (atS l i (atR l i)),.cells 38 (Gs (atR l i).1)],[],none⟩ ?_ ?_
 ·refine Gy ?_;refine Z21 ?_;refine Z6 ?_;refine A2 [0,1,4,6,7,8,35] ?_
  refine A6 (fun ht35=>?_) (fun ht35=>?_)
  ·have e:atS l i (atR l i)=(atR l i).2:=if_pos ht35
   refine F9 [4,6,7,8] ?_;refine eb ?_;exact Z86
  have e0:¬((atR l i).2.code != 0)=true:=by rw [ht35];simp
  refine Z2 ?_;refine Ab Tryz.call223 (sr 1048576 _ hok0 (Ah _) hsz0 _) ?_;refine Z0 ?_;refine A2 [0,1,4,6,7,8,42] ?_
  refine A6 (fun ht42=>?_) (fun ht42=>?_)
  ·have e:atS l i (atR l i)=D4 18 (Ae l i).at_ (atR l i).2:=by unfold atS;rw [if_neg e0,if_pos ht42]
   refine Z58 ?_
   refine A4 (h:=Ay (i) (Ga (Ae l i)) (fun _=>Iw hi)) (hr:=?_)
   refine Z0 ?_
   refine Jl (n:=2) (x:=pr l (D4 18 (Ae l i).at_ (atR l i).2)) Tryz.call224 (bn l (atR l i).2 18 (Ae l i).at_ (oid Hp.length 2) _ (by rw [Bk];rfl)) ?_
   refine A2 [4,6,7,8] ?_;refine F8 ?_;exact Z86
  have e1:¬decide ((30:Int)<depthE (atR l i).1)=true:=by rw [ht42];simp
  refine Z2 ?_;refine Ab Tryz.call225 (ss 1048576 _ hok0 (Ah _) hsz0 _) ?_;refine Z0 ?_;refine A2 [0,1,4,6,7,8,53] ?_
  refine A6 (fun ht53=>?_) (fun ht53=>?_)
  ·have e:atS l i (atR l i)=D4 3 (Ae l i).at_ (atR l i).2:=by unfold atS;rw [if_neg e0,if_neg e1,if_pos ht53]
   refine Z58 ?_
   refine A4 (h:=Ay (i) (Ga (Ae l i)) (fun _=>Iw hi)) (hr:=?_)
   refine Z0 ?_
   refine Jl (n:=2) (x:=pr l (D4 3 (Ae l i).at_ (atR l i).2)) Tryz.call224 (bn l (atR l i).2 3 (Ae l i).at_ (oid Hp.length 2) _ (by rw [Bk];rfl)) ?_
   refine A2 [4,6,7,8] ?_;refine F8 ?_;exact Z86
  have e:atS l i (atR l i)=(atR l i).2:=by unfold atS;rw [if_neg e0,if_neg e1,if_neg (by rw [ht53];simp)]
  refine F9 [4,6,7,8] ?_;refine eb ?_;exact Z86
 refine Z36 ?_;refine Z0 ?_;refine A2 [4,6,7,8,69] ?_
 refine A6 (fun ht69=>?_) (fun ht69=>?_)
 ·have e:atM l i=(Cb,0,(atS l i (atR l i)).code,(atS l i (atR l i)).at_):=if_pos ht69
  refine F7 [0,0,2,6,14,1,33,127] [5] [.q 5 [] [],.s [] (some 0) [] [],.q 1 [0] []] (fun _=>Hp) (fun _=>[.cells 38 [A3 0,A8 [],A3 0,A3 0,A8 [],.nil],.cells 67 [A3 0,A3 0],pr l (atS l i (atR l i)),.cells 38 (Gs (atR l i).1)]) Av (by kernel_rfl) rfl rfl (fun _=>rfl) ?_
  apply Y.q
  ·intro B hT hF
   refine D.build (places:=#[(0,1),(1,1),(2,3),(5,1)]) jU (fun w=>by simp) jZ ?_;exact Z99
  case hTF=>decide
  refine L1 (u:=Hp.length) (n:=0) (t':=38) (cs:=[A3 0,A8 [],A3 0,A3 0,A8 [],.nil]) (cs':=[A3 0,A8 [],A3 0,A3 0,A8 [],.nil]) Tryz.sizeOf38 (fun B hB=>⟨rfl,rfl,rfl,rfl⟩) ?_
  apply Y.q
  ·intro B hT hF
   exact Z37
  case hTF=>decide
  refine Et (tn:=[5])  ?_;refine Mp 0 5 6 ?_;refine Fu ?_;refine A2 [4,5,6] ?_;refine Z28 ?_;exact A9 (Mn (B3 jA jS) A7 (B3 jA jS)) ⟨by rw [e,ge]<;>rfl,rfl⟩
 have e:atM l i=((atR l i).1,((atS l i (atR l i)).i:Int),0,0):=if_neg (by rw [ht69];simp)
 refine Z5 ?_;refine F7 [0,0,2,6,14,0,1,95,255] [6] [.q 6 [] [],.s [] (some 0) [] [],.q 1 [0] []] (fun _=>Hp) (fun B=>[.cells 38 (if B 0=true then Gs (atR l i).1 else [A3 0,A8 [],A3 0,A3 0,A8 [],.nil]),.cells 67 [A3 0,A3 0],pr l (atS l i (atR l i)),.cells 38 (Gs (atR l i).1)]) Av (by kernel_rfl) rfl rfl (fun _=>rfl) ?_
 apply Y.q
 ·intro B hT hF
  refine Z11 ?_;refine Z34 ?_;exact ns
 case hTF=>decide
 refine L1 (u:=Hp.length) (n:=0) (t':=38) (cs:=[A3 0,A8 [],A3 0,A3 0,A8 [],.nil]) (cs':=Gs (atR l i).1) Tryz.sizeOf38 (fun B hB=>⟨rfl,by simp only [hB];rfl,by simp [upd],rfl⟩) ?_
 apply Y.q
 ·intro B hT hF
  exact Z37
 case hTF=>decide
 refine Et (tn:=[6]) (O:=[.cells 38 (Gs (atR l i).1),.cells 67 [A3 0,A3 0],pr l (atS l i (atR l i)),.cells 38 (Gs (atR l i).1)]) ?_;refine Fu ?_;refine A2 [4,5,6] ?_;refine Dg ?_;exact A9 (Mn (B3 jA jS) A7 (B3 jA jS)) ⟨by rw [e,Ao]<;>rfl,rfl⟩ (hlow:=by have:=low_agg (n:=Hp.length) (atR l i).1;simp at this ⊢;exact this)

theorem jq {s:Str} (h:(B4 s).2.1=0):(B4 s).1.length≤4002:=by
 obtain ⟨h1,_,h3⟩:=ja h
 have h2:=Pn s
 rw [h3]
 simp only [Am,Bs,Ar,Bd]
 omega
theorem Zb {l:List Tok} (hl:TokEnd l) (hll:l.length≤1048576) {i:Nat} (hi:i<l.length) (h:(atM l i).2.2.1=0):∃k:Nat,(atM l i).2.1=(k:Int)∧k<l.length:=by
 have hq:=Vy hl hll hi
 unfold atM at h ⊢
 split at h
 ·rename_i h1
  have:(atS l i (atR l i)).code=0:=h
  rw [this] at h1
  cases h1
 rename_i h1
 rw [if_neg h1]
 refine ⟨(atS l i (atR l i)).i,rfl,?_⟩
 have e:(atS l i (atR l i)).i=(atR l i).2.i:=by
  unfold atS
  repeat' split
  all_goals first|rfl|exact failM_i.1
 rw [e]
 exact hq.lt
theorem Kr {α:Type} {a b:List α} (hl:a.length=b.length) (h:∀(j:Nat) (y:α),j<a.length→a[j]? = some y→b[j]? = some y):a=b:=by
 apply Wi hl
 intro j h1 h2
 have:=h j a[j] h1 (Ad h1)
 rw [Ad h2] at this
 injection this with this
 exact this.symm
theorem c78 (a b:List Str) (ha:a.length≤1048576) (Hp:List AObj):AFun Tryz.prog 78 [Fv a,Fv b] Hp (Aj (decide (a=b))):=by
 refine Ai [.tmp 4] [0,1] Tryz.func78 Tryz.ntmps78 (fun d=>?_)
 refine Z39 ?_;refine ij ?_
 refine A6 (fun ht10=>?_) (fun ht10=>?_)
 ·have hne:a≠b:=by rintro rfl;simp at ht10
  refine Z68 ?_;refine Dn ?_;exact oo
 have hlen:a.length=b.length:=by have:=ht10;simp at this;omega
 refine Z82 ?_;refine Ta ?_
 refine C8 (α:=Nat) (fun x=>⟨26,Aa 0 (Fv a) (Aa 1 (Fv b) (Aa 5 (A3 (x:Nat)) (fun _=>.any))),Hp,[],[],none⟩) (fun x=>x≤a.length∧∀(j:Nat) (y:Str),j<x→a[j]? = some y→b[j]? = some y) (fun x=>a.length-x) (0) ⟨Aw _,fun j y h=>by omega⟩ (Es _) rfl (fun x hx=>?_)
 refine Z36 ?_;refine A2 [0,1,5,14] ?_
 refine A6 (fun ht14=>?_) (fun ht14=>?_)
 ·have hlt:x<a.length:=by simpa using ht14
  have hlb:x<b.length:=by omega
  refine ob ?_;refine Z11 ?_
  refine Bb (h:=Ay (x) (A8 a[x]) (fun _=>Bg hlt)) (hr:=?_)
  refine Z34 ?_
  refine Bb (h:=Ay (x) (A8 b[x]) (fun _=>Bg hlb)) (hr:=?_)
  refine Uu ?_;refine A4 ?_;refine A2 [0,1,5,25] ?_
  refine A6 (fun ht25=>?_) (fun ht25=>?_)
  ·have hne:a≠b:=by rintro rfl;simp at ht25
   refine Z68 ?_;refine Z61 ?_;exact oo
  have heq:a[x]=b[x]:=by simpa using ht25
  refine Z77 ?_;refine Ta ?_
  refine C0 (x+1) ⟨hlt,fun j y hj hy=>?_⟩ (by omega) (Cm rfl)
  rcases B0 j x with h|h
  ·exact hx.2 j y h hy
  have:j=x:=by omega
  subst this
  rw [Ad hlt] at hy
  rw [Ad hlb,←hy,heq]
 have hxe:a.length≤x:=by simpa using ht14
 refine Z59 ?_;refine Z68 ?_;exact A9 (Af A7) ⟨by rw [decide_eq_true (Kr hlen fun j y hj hy=>hx.2 j y (by omega) hy)],rfl⟩

theorem Fe {n k:Nat} {o:Bool} {l:List Expr}:Low n (.slice o k (l.map Aq)):=low_slice.2 fun y hy=>by
 obtain ⟨a,_,rfl⟩:=E2.1 hy
 exact Au _ a
set_option maxRecDepth 8000
/-! What a tree comes to: eval's model. -/
/-! A tree in a column's place comes to what its value would there. -/
/-! Who is not named plays no part. -/
/-! What a strict node comes to. -/
/-! Values are plain, and their numbers have 64 bits. -/
/-! A text between marks. -/
theorem gh:∀t:Str,(Lib.index (Ch t) [39,39] = -1∧Ch t=t)∨∃i:Nat,Lib.index (Ch t) [39,39]=(i:Int)∧i<t.length∧(Ch t).take i=t.take i∧(Ch t).drop (i+2)=Ch (t.drop (i+1))∧t=t.take i++[39]++t.drop (i+1)
 | []=>.inl ⟨rfl,rfl⟩
 | b::l=>by
  by_cases hb:b=39
  ·subst hb
   refine .inr ⟨0,?_,by simp,rfl,?_,by simp⟩
   ·rw [H8]
    show Lib.index (39::39::Ch l) [39,39]=0
    rw [Lib.index,if_pos (by simp [List.isPrefixOf])]
   rw [H8]
   rfl
  have hd:Ch (b::l)=b::Ch l:=by
   rw [H8,O6,if_neg hb]
   rfl
  have hp:([39,39]:Str).isPrefixOf (b::Ch l)=false:=by
   simp [List.isPrefixOf,Ne.symm hb]
  rcases gh l with ⟨h1,h2⟩|⟨i,h1,h2,h3,h4,h5⟩
  ·refine .inl ⟨?_,by rw [hd,h2]⟩
   rw [hd,Lib.index,hp,h1];rfl
  refine .inr ⟨i+1,?_,by simp;omega,?_,?_,?_⟩
  ·rw [hd,Lib.index,hp,h1,if_neg (by simp),if_neg (by simp)]
   rfl
  ·rw [hd,List.take_succ_cons,List.take_succ_cons,h3]
  ·rw [hd,show i+1+2=(i+2)+1 by omega,Mf,Mf,h4]
  rw [List.take_succ_cons,Mf,Dd,Dd,←h5]
theorem Nw:∀(n:Nat) (t:Str),t.length≤n→Lib.replaceK [39,39] [39] (Lib.count (Ch t) [39,39]) (Ch t)=t
 | n,t,hn=>by
  rcases gh t with ⟨h1,h2⟩|⟨i,h1,h2,h3,h4,h5⟩
  ·rw [Lib.count_miss h1];exact h2
  cases n with
  | zero=>omega
  | succ n =>
   rw [Lib.count_hit (by decide) h1,Sj,Lib.replaceK_hit _ _ _ _ i h1]
   have e:i+([39,39]:Str).length=i+2:=rfl
   rw [e,h4,Nw n (t.drop (i+1)) (by rw [Ep];omega),h3]
   exact h5.symm
theorem Y2 (t:Str):Lib.replaceAll (Ch t) [39,39] [39]=t:=by
 unfold Lib.replaceAll Lib.replace
 rw [if_neg (by decide)]
 have e:Lib.replaceNum (Ch t) [39,39] (-1)=Lib.count (Ch t) [39,39]:=by unfold Lib.replaceNum;rw [if_pos (.inl (by decide))]
 rw [e]
 exact Nw _ t (Ah _)
theorem bq {t:Str} (h:t.length≤200):Eb ([39]++Ch t++[39])=(⟨2,0,t⟩,0):=by
 have hin:Tf ([39]++Ch t++[39])=t:=by
  unfold Tf
  have:(([39]++Ch t++[39]:Str).take (([39]++Ch t++[39]:Str).length-1)).drop 1=Ch t:=by
   rw [show ([39]++Ch t++[39]:Str).length-1=([39]++Ch t:Str).length by simp,List.take_left]
   rfl
  rw [this]
  exact Y2 t
 have ht:Lv ([39]++Ch t++[39])=⟨2,0,t⟩:=by
  unfold Lv
  rw [hin,E3 h]
 have hp:E0 ⟨2,0,t⟩=true:=by
  unfold E0
  simp
  omega
 have hpr:At ⟨2,0,t⟩=[39]++Ch t++[39]:=by
  unfold At
  rw [hp,Jz]
  rfl
 have hq:Nm ([39]++Ch t++[39])=true:=by
  unfold Nm
  simp [Lib.hasPrefix,Lib.hasSuffix,List.isPrefixOf]
  omega
 unfold Eb
 have n1:(([39]++Ch t++[39]:Str)==[110,117,108,108])=false:=by rw [beq_eq_false_iff_ne];intro e;injection e with e;exact absurd e (by decide)
 have n2:(([39]++Ch t++[39]:Str)==[116,114,117,101])=false:=by rw [beq_eq_false_iff_ne];intro e;injection e with e;exact absurd e (by decide)
 have n3:(([39]++Ch t++[39]:Str)==[102,97,108,115,101])=false:=by rw [beq_eq_false_iff_ne];intro e;injection e with e;exact absurd e (by decide)
 rw [n1,n2,n3,hq]
 simp only [Co,if_false,Bool.or_self,if_true]
 unfold Ri
 rw [ht,hpr]
 simp
set_option maxRecDepth 4000
theorem W0 {a b:List Expr} (hl:a.length=b.length) (h:∀(j:Nat) (y z:Expr),j<a.length→a[j]? = some y→b[j]? = some z→eqE y z=true):eqL a b=true:=by
 rw [M4]
 refine Kr hl fun j y hj hy=>?_
 have hjb:j<b.length:=by omega
 have:=h j y b[j] hj hy (Ad hjb)
 rw [Ad hjb,(Ts _ _).1 this]
theorem mu {a b:List Expr} (h:eqL a b=true) {j:Nat} (hj:j<a.length) (hb:j<b.length):eqE a[j] b[j]=true:=by
 have e:=(M4 _ _).1 h
 subst e
 exact Vs _
theorem gi {a b:List Expr} {j:Nat} (hj:j<a.length) (hb:j<b.length) (h:eqE a[j] b[j]=false):eqL a b=false:=by
 rw [Mb]
 intro h2
 rw [mu h2 hj hb] at h
 cases h
theorem Zc {a b:List Expr} (h:a.length≠b.length):eqL a b=false:=by
 rw [Mb]
 exact fun h2=>h (jg h2)
theorem lh {a b:List Expr} {x:Nat} (hx:x<a.length) (hb:x<b.length) (h:∀(j:Nat) (y z:Expr),j<x→a[j]? = some y→b[j]? = some z→eqE y z=true) (he:eqE a[x] b[x]=true):∀(j:Nat) (y z:Expr),j<x+1→a[j]? = some y→b[j]? = some z→eqE y z=true:=by
 intro j y z hj h1 h2
 rcases B0 j x with h3|h3
 ·exact h j y z h3 h1 h2
 have:j=x:=by omega
 subst this
 rw [Ad hx] at h1
 rw [Ad hb] at h2
 injection h1 with h1
 injection h2 with h2
 rw [←h1,←h2]
 exact he
def W1 (x y:Expr):Bool:=((x.op==y.op)&&(x.text==y.text))&&((x.val.kind==y.val.kind&&x.val.n==y.val.n)&&x.val.s==y.val.s)
theorem Tu (x y:Expr):eqE x y=(W1 x y&&eqL x.kids y.kids):=g7 x y
theorem c69:∀(n:Nat) (x:Expr),okE n x→∀(y:Expr) (Hp:List AObj),AFun Tryz.prog 69 [Aq x,Aq y] Hp (Aj (eqE x y)):=by
 intro n
 induction n with
 | zero=>exact fun x h=>h.elim
 | succ n ih =>
 intro x hok y Hp
 refine Ai [.tmp 4] [0,1] Tryz.func69 Tryz.ntmps69 (fun d=>?_)
 refine al ?_;refine Z36 ?_;refine Z24 ?_;refine Z52 ?_
 refine B9 (h:=Q.neqAgg eo (fun w=>Ls x.val.kind x.val.n y.val.kind y.val.n x.val.s y.val.s w)) (hr:=?_)
 refine Z24 ?_;refine Z3 ?_;refine Z57 ?_;refine A2 [2,3,33] ?_
 refine A6 (fun ht33=>?_) (fun ht33=>?_)
 ·have hf:eqE x y=false:=by
   rw [Tu]
   simp only [Fg,bne_iff_ne,ne_eq,Bs,If] at ht33
   by_cases hh:W1 x y=true
   ·rw [hh,Ou]
    refine Zc ?_
    unfold W1 at hh
    simp only [B1,beq_iff_eq] at hh
    obtain ⟨⟨h1,h2⟩,⟨h3,h4⟩,h5⟩:=hh
    rcases ht33 with ((h|h)|h)|h
    ·exact absurd h1 h
    ·simp [h2] at h
    ·simp [h3,h4,h5] at h
    intro e;exact h (by rw [e])
   rw [Bool.not_eq_true] at hh
   rw [hh,Ot]
  refine Z68 ?_;refine Dn ?_;exact ir
 have hh:W1 x y=true∧x.kids.length=y.kids.length:=by
  simp only [Kt,bne_eq_false_iff_eq,Bs,Md] at ht33
  obtain ⟨⟨⟨h1,h2⟩,h3⟩,h4⟩:=ht33
  unfold W1
  refine ⟨?_,by omega⟩
  simp only [beq_iff_eq,B1] at h1 h2 h3 ⊢
  exact ⟨⟨h1,h2⟩,h3⟩
 obtain ⟨hh,hlen⟩:=hh
 have hkl:=hok.2.1
 refine Z82 ?_;refine A2 [2,3,5] ?_
 refine C8 (α:=Nat) (fun i=>⟨53,Aa 2 (.ro (Gs x)) (Aa 3 (.ro (Gs y)) (Aa 5 (A3 (i:Nat)) (fun _=>.any))),Hp,[],[],none⟩) (fun i=>i≤x.kids.length∧∀(j:Nat) (a b:Expr),j<i→x.kids[j]? = some a→y.kids[j]? = some b→eqE a b=true) (fun i=>x.kids.length-i) (0) ⟨Aw _,fun j a b h=>by omega⟩ (Es _) rfl (fun i hi=>?_)
 refine X4 ?_;refine A2 [2,3,5,38] ?_
 refine A6 (fun ht38=>?_) (fun ht38=>?_)
 ·have hlt:i<x.kids.length:=by simpa using ht38
  have hly:i<y.kids.length:=by omega
  refine Z51 ?_;refine Hf [0,1,0,7,15,0,32,0,224,480,1023,2047] 10 Av (by kernel_rfl) ?_;refine Z34 ?_
  refine Bb (h:=Ay (i) (Aq x.kids[i]) (fun _=>Bg hlt)) (hr:=?_)
  refine Z11 ?_;refine Z11 ?_
  refine Bb (h:=Ay (i) (Aq y.kids[i]) (fun _=>Bg hly)) (hr:=?_)
  refine Uu ?_;refine Ab Tryz.call69 (ih x.kids[i] (hok.2.2 _ (C7 hlt)) y.kids[i] _) ?_;refine A4 ?_;refine A2 [2,3,5,52] ?_
  refine A6 (fun ht52=>?_) (fun ht52=>?_)
  ·have hf:eqE x y=false:=by rw [Tu,gi hlt hly (by simpa using ht52),Bool.and_false]
   refine Z68 ?_;refine Z61 ?_;exact ir
  have he:eqE x.kids[i] y.kids[i]=true:=by simpa using ht52
  refine Z77 ?_;refine A2 [2,3,5] ?_;exact C0 (i+1) ⟨hlt,lh hlt hly hi.2 he⟩ (by omega) (Cm rfl)
 have hxe:x.kids.length≤i:=by simpa using ht38
 refine Z59 ?_;refine Z68 ?_;exact A9 (Af A7) ⟨by rw [Tu,hh,W0 hlen (fun j a b hj=>hi.2 j a b (by omega))];rfl,rfl⟩

theorem sw (n:Nat) (a b:List Expr) (ha:a.length≤1048576) (hok:∀y∈a,okE n y) (ih:∀(x:Expr),okE n x→∀(y:Expr) (Hp:List AObj),AFun Tryz.prog 98 [Aq x,Aq y] Hp (Aj (eqE x y))) (Hp:List AObj):AFun Tryz.prog 143 [.slice false 6 (a.map Aq),.slice false 6 (b.map Aq),.fn (.func 98) [] []] Hp (Aj (eqL a b)):=by
 refine Ai [.tmp 6] [0,1,2] Tryz.func143 Tryz.ntmps143 (fun d=>?_)
 refine Z2 ?_;refine A2 [0,1,2] ?_;refine X4 ?_;refine A2 [0,1,2,14] ?_
 refine A6 (fun ht14=>?_) (fun ht14=>?_)
 ·have hf:eqL a b=false:=Zc (by have:=ht14;simp at this;omega)
  refine am ?_;refine Z28 ?_;exact ir
 have hlen:a.length=b.length:=by have:=ht14;simp at this;omega
 refine Z5 ?_;refine Z30 ?_;refine A2 [1,2,15,16,17] ?_
 refine C8 (α:=Nat) (fun i=>⟨32,Aa 1 (.slice false 6 (b.map Aq)) (Aa 2 (.fn (.func 98) [] []) (Aa 15 (.slice false 6 (a.map Aq)) (Aa 16 (A3 (a.length:Nat)) (Aa 17 (A3 (i:Nat)) (fun _=>.any))))),Hp,[],[],none⟩) (fun i=>i≤a.length∧∀(j:Nat) (y z:Expr),j<i→a[j]? = some y→b[j]? = some z→eqE y z=true) (fun i=>a.length-i) (0) ⟨Aw _,fun j y z h=>by omega⟩ (C1 (by simp)) rfl (fun i hi=>?_)
 refine Z2 ?_;refine A2 [1,2,15,16,17,18] ?_
 refine Fl (fun ht18=>?_) (fun ht18=>?_)
 ·have hlt:i<a.length:=by simpa using ht18
  have hlb:i<b.length:=by omega
  refine Z14 ?_;refine Z2 ?_
  refine A4 (h:=Ay (i) (Aq a[i]) (fun _=>Bg hlt)) (hr:=?_)
  refine A4 ?_;refine Z90 ?_;refine Fu ?_;refine A2 [1,2,7,8,15,16,17] ?_;refine Z1 ?_
  refine A4 (h:=Ay (i) (Aq b[i]) (fun _=>Bg hlb)) (hr:=?_)
  refine X5 ?_;refine A2 [1,2,8,9,15,16,17] ?_;refine Z16 ?_;refine R.callV Tryz.call98 (ih a[i] (hok _ (C7 hlt)) b[i] _) ?_;refine A4 ?_;refine A2 [1,2,15,16,17,30] ?_
  refine A6 (fun ht30=>?_) (fun ht30=>?_)
  ·have hf:eqL a b=false:=gi hlt hlb (by simpa using ht30)
   refine am ?_;refine Z40 ?_;refine Z42 ?_;exact ir
  have he:eqE a[i] b[i]=true:=by simpa using ht30
  refine Uz ?_;refine A2 [1,2,15,16,17] ?_;refine C0 (i+1) ⟨hlt,lh hlt hlb hi.2 he⟩ (by omega) ?_
  exact Dj (own:=[]) (fun _=>.refl _) (by repeat (first|exact Bx|refine Bw (by first|exact Fe|(simp;done)) ?_)) (by simp) (by simp)
 have hxe:a.length≤i:=by simpa using ht18
 refine Z23 ?_;refine am ?_;refine Dg ?_;exact A9 (Af A7) ⟨by rw [W0 hlen (fun j y z hj=>hi.2 j y z (by omega))],rfl⟩

theorem c98:∀(n:Nat) (x:Expr),okE n x→∀(y:Expr) (Hp:List AObj),AFun Tryz.prog 98 [Aq x,Aq y] Hp (Aj (eqE x y)):=by
 intro n
 induction n with
 | zero=>exact fun x h=>h.elim
 | succ n ih =>
 intro x hok y Hp
 refine Ai [.tmp 4] [0,1] Tryz.func98 Tryz.ntmps98 (fun d=>?_)
 refine al ?_;refine Z21 ?_;refine Z24 ?_;refine Z52 ?_
 refine B9 (h:=Q.eqlAgg eo (fun w=>Ls x.val.kind x.val.n y.val.kind y.val.n x.val.s y.val.s w)) (hr:=?_)
 refine Z24 ?_;refine Bh Tryz.call143 (fun hB=>sw n x.kids y.kids hok.2.1 hok.2.2 ih _) ?_;refine Uv ?_;exact A9 (Af A7) ⟨by rw [g7],rfl⟩

theorem Tv (o:Int) (t:Str) (v:Val) (k:List Expr):Aq (.mk o t v k)=.agg [A3 o,.v (sv t),A3 v.kind,A3 v.n,.v (sv v.s),.slice false 6 (k.map Aq)]:=by rw [Ao];rfl
theorem Qd {α β:Type} {f:α→β} {l:List α} {x:Nat} (h:x<l.length):(l.take (x+1)).map f=(l.take x).map f++[f l[x]]:=by rw [K8 h,Dy];rfl
set_option maxRecDepth 8000
/-! Who decides decides: the law's sources, columns and truths. -/
/-! Rows. -/
/-! Rows that differ in what is not named. -/
/-! Who has a kind comes to it. -/
/-! The print of a tree, and its words. -/
/-! What was parsed nests no deeper than may be. -/
/-! What nests too deep is told to be too deep. -/
/-! What was parsed is right, where the words are the lexer's. -/
/-! The lexer's words. -/
/-! The parse laws where nothing is too deep. -/
/-! The parser from a word on, and of a source. -/
/-! Other trees have other words, and other prints. -/
/-! The laws of printing. -/
set_option maxRecDepth 4000
abbrev xo (own:Bool) (t:Str) (ks:List Expr):AObj:=.cells 38 [A3 6,A8 t,A3 0,A3 0,A8 [],.slice own 6 (ks.map Aq)]
theorem mw {n:Nat} {own:Bool} {t:Str} {ks:List Expr}:ObjLow n (xo own t ks):=by
 show ∀z∈[A3 6,A8 t,A3 0,A3 0,A8 [],AV.slice own 6 (ks.map Aq)],Low n z
 intro z hz
 simp only [Bt,Fh,or_false] at hz
 rcases hz with rfl|rfl|rfl|rfl|rfl|rfl
 all_goals first|exact Fe|simp
theorem jr:Ck (.agg #[.int .i64 0,.string ⟨#[]⟩,.int .i64 0,.int .i64 0,.string ⟨#[]⟩,.slice none 0 0])=.agg [A3 0,A8 [],A3 0,A3 0,A8 [],.nil]:=rfl
attribute [go_sem] jr
theorem gA {Hp:List AObj} {o ox:Nat} {z A B:AObj} (ho:Hp[o]? = some z) (hne:ox≠o):((Hp.set o A).set ox B)[o]? = some A:=by rw [List.getElem?_set_ne hne];exact Az ho
theorem gB {Hp:List AObj} {o ox:Nat} {z A B:AObj} (hox:Hp[ox]? = some z):((Hp.set o A).set ox B)[ox]? = some B:=by
 have:=(List.getElem?_eq_some_iff.1 hox).1
 simp [this]
theorem mx {Hp:List AObj} {o ox:Nat} {A A' B:AObj} (hne:ox≠o):((Hp.set o A).set ox B).set o A'=(Hp.set o A').set ox B:=by rw [List.set_comm _ _ hne,List.set_set]
theorem Lf (ks:List Expr) (x:Expr):ks.map Aq++[.agg [.v (.int .i64 x.op),.v (sv x.text),.v (.int .i64 x.val.kind),.v (.int .i64 x.val.n),.v (sv x.val.s),.slice false 6 (x.kids.map Aq)]]=(ks++[x]).map Aq:=by rw [List.map_append,List.map_cons,List.map_nil,Ao x]
theorem sx (l:List Tok) (S:PS) (t:Str) (Dv:Fam) (o ox:Nat) (Hp:List AObj) (hne:ox≠o) (ho:Hp[o]? = some (pr l S)) (hox:Hp[ox]? = some (xo true t [])) (hi:S.i<l.length) (hl:TokEnd l) (hll:l.length≤1048576) (hf:D8 l S.nest Dv.ei) (hcf:PC 222 l Dv.ei S.nest):ACall Tryz.prog 256 [.ptr ox 0,.ro [.ptr o 0]] Hp (fun r H'=>r=Aq (.mk 6 t noV (Fw l Dv.ei S).1)∧H'=(Hp.set o (pr l (Fw l Dv.ei S).2)).set ox (xo true t (Fw l Dv.ei S).1)):=by
 have hoxl:=(List.getElem?_eq_some_iff.1 hox).1
 have hol:=(List.getElem?_eq_some_iff.1 ho).1
 refine ACall.body [.cell 2 38] [0,1] Tryz.func256 Tryz.ntmps256 (fun d=>?_)
 refine Z18 ?_;refine R.fin [0,1,2] ?_
 refine W.drawT [0,1,0,4,3,0,63,127,255,127,639] [1,3] [.q 1 [] [0],.s [4] (some 0) [] [],.q 1 [] [1],.s [6] (some 1) [] [],.q 2 [] []] (fun B=>(Hp.set o (if B 1=true then pr l (Dv.ei S).2 else pr l S)).set ox (if B 0=true then xo false t [] else xo true t [])) (fun _=>[I3]) Av (by kernel_rfl) (by simp only [Bool.false_eq_true,if_false];rw [Bv ho,Bv hox]) rfl (fun B=>by simp) ?_
 apply Y.q
 ·intro B hT hF
  exact Z37
 case hTF=>decide
 refine Y.loadUpT (o:=ox) (t':=38) (cs:=[A3 6,A8 t,A3 0,A3 0,A8 [],.slice true 6 ([].map Aq)]) (cs':=[A3 6,A8 t,A3 0,A3 0,A8 [],.slice false 6 ([].map Aq)]) Tryz.isAgg36 (fun B hB=>⟨by simp only [hB];exact gB hox,by simp [upd,List.set_set]<;>rfl,rfl⟩) ?_
 apply Y.q
 ·intro B hT hF
  exact Z37
 case hTF=>decide
 refine Y.callUp (r:=Aq (Dv.ei S).1) (o:=o) (x0:=pr l S) (x:=pr l (Dv.ei S).2) Tryz.call222 (fun B hT hF hB=>⟨by simp only [hB];exact gA ho hne,?_,rfl,C3,?_⟩) ?_
 ·simp only [upd,hB,Nat.reduceEqDiff,if_false,if_true,Bool.false_eq_true]
  exact (mx hne).symm
 ·simp only [hB]
  exact hcf o _ S (An (gA ho hne)) hi rfl
 apply Y.q
 ·intro B hT hF
  refine D.go ?_;exact Z72
 case hTF=>decide
 refine Y.appendPut (tn:=[1,3]) (U:=(Hp.set o (pr l (Dv.ei S).2)).set ox (xo false t [])) (O:=[I3]) (o:=ox) (t':=38) (cs:=[A3 6,A8 t,A3 0,A3 0,A8 [],.slice false 6 ([].map Aq)]) (by kernel_rfl) jU Tryz.type38 Tryz.sizeOf38 Tryz.sizeOf36 jU (An (gB hox)) ?_ ?_ ?_ (hfsz:=Tryz.sizeOf36)
 ·simp [Tryz.t38]
 ·simp [Tryz.t38]
 refine R.go ?_
 refine R.storeUpT jS (gB hox) ?_ ?_
 ·first|(rw [Lf];exact Fe)|(have:=Fe (n:=((Hp.set o (pr l (Dv.ei S).2)).set ox (xo false t [])).length) (k:=6) (o:=true) (l:=[(Dv.ei S).1]);simp only [List.map_cons,List.map_nil,Ao] at this;exact this)
 refine R.fin [0,1,2] ?_;refine W.seq ?_
 refine AW.loopC (α:=List Expr×PS) (fun r=>⟨34,Aa 0 (.ptr ox 0) (Aa 1 (.ro [.ptr o 0]) (Aa 2 (.ptr (oid Hp.length 0) 0) (fun _=>.any))),(Hp.set o (pr l r.2)).set ox (xo true t r.1),[I3],[],none⟩) (fun r=>ArgsAt l Dv.ei S r) (fun r=>l.length-r.2.i) (([(Dv.ei S).1],(Dv.ei S).2)) (.start (hf S hi rfl)) (StLe.of_eq (by simp [List.set_set,xo,Ao])) rfl (fun r hx=>?_)
 refine Z36 ?_
 refine R.go (h:=Q.loadUp (gA ho hne)) (hr:=?_)
 refine Z88 ?_;refine G.call Tryz.call243 (fun hB=>Vu l r.2 Pu o _ (An (gA ho hne)) hx.fact.lt hl (by decide)) ?_;refine R.go ?_;refine R.fin [0,1,2,21] ?_
 refine W.cond (fun ht21=>?_) (fun ht21=>?_)
 ·have hon:=hx.on hl ht21 hf
  have hle:=hon.2.1.le
  have hlt0:=hx.fact.lt
  refine Z5 ?_;refine AW.block ?_;refine Z2 ?_;refine R.callUp Tryz.call244 (gA ho hne) (by simp) C3 (gb l r.2 o _ (An (gA ho hne)) hx.fact.lt hll) ?_;refine R.fin [0,1,2] ?_
  refine W.drawT0 [0,1,0,4,3,0,63,127,255,127,639] [1,3] [.q 1 [] [0],.s [25] (some 0) [] [],.q 1 [] [1],.s [27] (some 1) [] [],.q 2 [] []] (fun B=>(Hp.set o (if B 1=true then pr l (Dv.ei (Ag r.2)).2 else pr l (Ag r.2))).set ox (if B 0=true then xo false t r.1 else xo true t r.1)) (fun _=>[I3]) Av (by kernel_rfl) (by simp only [Bool.false_eq_true,if_false];exact (mx hne).symm) rfl (fun B=>by simp) ?_
  apply Y.q
  ·intro B hT hF
   exact Z37
  case hTF=>decide
  refine Y.loadUpT (o:=ox) (t':=38) (cs:=[A3 6,A8 t,A3 0,A3 0,A8 [],.slice true 6 (r.1.map Aq)]) (cs':=[A3 6,A8 t,A3 0,A3 0,A8 [],.slice false 6 (r.1.map Aq)]) Tryz.isAgg36 (fun B hB=>⟨by simp only [hB];exact gB hox,by simp [upd,List.set_set]<;>rfl,rfl⟩) ?_
  apply Y.q
  ·intro B hT hF
   exact Z37
  case hTF=>decide
  refine Y.callUp (r:=Aq (Dv.ei (Ag r.2)).1) (o:=o) (x0:=pr l (Ag r.2)) (x:=pr l (Dv.ei (Ag r.2)).2) Tryz.call222 (fun B hT hF hB=>⟨by simp only [hB];exact gA ho hne,?_,rfl,C3,?_⟩) ?_
  ·simp only [upd,hB,Nat.reduceEqDiff,if_false,if_true,Bool.false_eq_true]
   exact (mx hne).symm
  ·simp only [hB]
   exact hcf o _ (Ag r.2) (An (gA ho hne)) hon.1 hx.fact.nest
  apply Y.q
  ·intro B hT hF
   refine D.go ?_;exact Z72
  case hTF=>decide
  refine Y.appendPut (tn:=[1,3]) (U:=(Hp.set o (pr l (Dv.ei (Ag r.2)).2)).set ox (xo false t r.1)) (O:=[I3]) (o:=ox) (t':=38) (cs:=[A3 6,A8 t,A3 0,A3 0,A8 [],.slice false 6 (r.1.map Aq)]) (by kernel_rfl) jU Tryz.type38 Tryz.sizeOf38 Tryz.sizeOf36 jU (An (gB hox)) ?_ ?_ ?_ (hfsz:=Tryz.sizeOf36)
  ·have:=hx.fact.len;have:=hx.fact.lt;simp only [List.length_map,Tryz.t38];omega
  ·have:=hx.fact.len;have:=hx.fact.lt;simp only [List.length_map,Tryz.t38];omega
  refine R.go ?_
  refine R.storeUpT jS (gB hox) ?_ ?_
  ·first|(rw [Lf];exact Fe)|(have:=Fe (n:=((Hp.set o (pr l (Dv.ei S).2)).set ox (xo false t [])).length) (k:=6) (o:=true) (l:=[(Dv.ei S).1]);simp only [List.map_cons,List.map_nil,Ao] at this;exact this)
  refine R.fin [0,1,2] ?_;refine K.blN ?_
  refine K.lpN (r.1++[(Dv.ei (Ag r.2)).1],(Dv.ei (Ag r.2)).2) hon.2.2 (by show l.length-(Dv.ei (Ag r.2)).2.i<l.length-r.2.i;have:r.2.i+1≤(Dv.ei (Ag r.2)).2.i:=hle;omega) (StCut.of_eq ?_)
  simp only [show Tryz.t38.size=6 from rfl,Lf,List.set_set]
 have hout:=hx.out (by rw [ht21];simp)
 refine Z59 ?_;refine Df ?_
 refine R.go (h:=Q.loadUpN (gB hox)) (hr:=?_)
 refine Z22 ?_;exact K.fin (V.one (V.cellN jA jS)) ⟨by rw [hout,Tv];rfl,by rw [hout]⟩ (hlow:=by have:=Au Hp.length (.mk 6 t noV r.1);rw [Tv] at this;simpa using this)

/-- within, with the function that gathers a call's kids. -/
theorem py (l:List Tok) (S:PS) (a:Int) (t:Str) (Dv:Fam) (o:Nat) (Hp:List AObj) (A0 A1:AObj) (l0:ObjLow 0 A0) (ho:Hp[o]? = some (pr l S)) (hi:S.i<l.length) (hl:TokEnd l) (hll:l.length≤1048576) (hnl:S.nest≤30) (hd:DeepC l Dv S.nest):
  ACall Tryz.prog 248 [.ptr o 0,A3 a,.fn (.func 256) [] [.ptr (oid Hp.length 2) 0,.ro [.ptr o 0]]] (Hp++[A0,A1,xo true t []]) (fun r H'=>r=Aq (if S.nest=30 then Cb else .mk 6 t noV (Nu l a Dv.ei S).1)∧H'=Hp.set o (pr l (Nu l a Dv.ei S).2)++[A0,A1,xo true t (Nu l a Dv.ei S).1]):=by
 have hlt:=(Ac.1 ho).1
 have ho':(Hp++[A0,A1,xo true t []])[o]? = some (pr l S):=An ho
 by_cases h30:S.nest=30
 ·refine (jl l S a 256 [] [.ptr (oid Hp.length 2) 0,.ro [.ptr o 0]] Cb (C6 S) o (Hp++[A0,A1,xo true t []]) ((Hp++[A0,A1,xo true t []]).set o (pr l (C6 S))) ho' (by omega) Tryz.call256 (by simp) (Az ho') rfl (fun h=>h) (fun h=>absurd h30 h)).mono fun r H' h=>?_
  have e:Nu l a Dv.ei S=([],D4 18 a S):=if_pos (by rw [h30];rfl)
  rw [e,if_pos h30]
  obtain ⟨h1,h2⟩:=h.1 h30
  exact ⟨h1,by rw [h2,K6 _ _ hlt]⟩
 have hq:=Pz (S:=C6 S) hl hi (hd.ei h30).1
 refine (jl l S a 256 [] [.ptr (oid Hp.length 2) 0,.ro [.ptr o 0]] (.mk 6 t noV (Fw l Dv.ei (C6 S)).1) (Fw l Dv.ei (C6 S)).2 o (Hp++[A0,A1,xo true t []]) (Hp.set o (pr l (Fw l Dv.ei (C6 S)).2)++[A0,A1,xo true t (Fw l Dv.ei (C6 S)).1]) ho' (by omega) Tryz.call256 (by simp) (An (Az ho)) hq.nest (fun h y hy=>?_) (fun _ own=>?_)).mono fun r H' h=>?_
 ·rw [K6 _ _ hlt] at h
  rcases D6.1 hy with hy|hy
  ·rcases Lj hy with h1|h1
   ·obtain ⟨i,hi',rfl⟩:=Sh h1
    by_cases hio:i=o
    ·subst hio
     have:Hp[i]=pr l S:=by rw [Ad hi'] at ho;injection ho
     rw [this];exact C3
    refine h _ (Oy _ ?_)
    rw [Y9]
    exact ⟨i,by rw [Cd (Ne.symm hio),Ad hi']⟩
   rw [h1];exact C3
  simp only [Bt,Fh,or_false] at hy
  rcases hy with rfl|rfl|rfl
  ·exact h _ (Kv _ (by simp))
  ·exact h _ (Kv _ (by simp))
  exact mw
 ·have hoid:oid Hp.length 2≠o:=by unfold oid;omega
  have e1:(Hp++[A0,A1,xo true t []]).set o (pr l (C6 S))++own=(Hp.set o (pr l (C6 S))++[A0,A1,xo true t []])++own:=by rw [K6 _ _ hlt]
  rw [e1]
  have g1:((Hp.set o (pr l (C6 S))++[A0,A1,xo true t []])++own)[o]? = some (pr l (C6 S)):=An (An (Az ho))
  have g2:((Hp.set o (pr l (C6 S))++[A0,A1,xo true t []])++own)[oid Hp.length 2]? = some (xo true t []):=An (by
   have:=Bk (U:=Hp.set o (pr l (C6 S))) (O:=[A0,A1,xo true t []]) (n:=2)
   rw [Cy] at this
   exact this)
  refine (sx l (C6 S) t Dv o (oid Hp.length 2) _ hoid g1 g2 hi hl hll (hd.ei h30).1 (hd.ei h30).2).mono fun r H' h=>⟨h.1,h.2.trans ?_⟩
  rw [Br,K6 _ _ (by simpa using hlt),Ba]
  have:=Ei (U:=Hp.set o (pr l (Fw l Dv.ei (C6 S)).2)) (O:=[A0,A1,xo true t []]++own) (n:=2) (x:=xo true t (Fw l Dv.ei (C6 S)).1)
  rw [Cy] at this
  rw [this]
  simp
 have e:Nu l a Dv.ei S=((Fw l Dv.ei (C6 S)).1,Rx (Fw l Dv.ei (C6 S)).2):=if_neg (by
  show ¬(((S.nest:Int)==30)=true)
  simp
  omega)
 rw [e,if_neg h30]
 obtain ⟨h1,h2⟩:=h.2 h30
 exact ⟨h1,by rw [h2,K6 _ _ (by simpa using hlt),Ba]⟩
theorem sy (l:List Tok) (S:PS) (Dv:Fam) (t:Tok) (o:Nat) (Hp:List AObj) (ho:Hp[o]? = some (pr l S)) (hi:(Ag S).i<l.length) (hl:TokEnd l) (hll:l.length≤1048576) (hnl:S.nest≤30) (hd:DeepC l Dv S.nest):ACall Tryz.prog 254 [.ptr o 0,Ga t] Hp (fun r H'=>r=Aq (Fx l Dv t S).1∧H'=Hp.set o (pr l (Fx l Dv t S).2)):=by
 have hi0:S.i<l.length:=by have:S.i+1<l.length:=hi;omega
 have hol:=(Ac.1 ho).1
 have hkf:KFact l (Ag S) (Ci l Dv S):=Q0 hl _ hi (fun h=>(hd.ei h).1)
 refine Ai [.cell 4 38] [0,1] Tryz.func254 Tryz.ntmps254 (fun d=>?_)
 refine Z1 ?_;refine I1 jZ ?_;refine A2 [2,3,4] ?_;refine Z1 ?_;refine Ab Tryz.call196 (me t.text _) ?_;refine A4 ?_;refine X9 ?_;refine Z7 ?_;refine A2 [2,3,4,5,12] ?_
 refine A6 (fun ht12=>?_) (fun ht12=>?_)
 ·have hlt0:Jt t.text<0:=by simpa using ht12
  have e:Fx l Dv t S=(Cb,D4 9 t.at_ S):=if_pos hlt0
  refine Z16 ?_;refine Bf Tryz.call224 ho (by simp) C3 (bn l S 9 t.at_ o _ (An ho)) ?_;refine Z75 ?_;exact Z43
 have hge:¬Jt t.text<0:=by simpa using ht12
 refine Z73 ?_;refine Bf Tryz.call244 ho (by simp) C3 (gb l S o _ (An ho) hi0 hll) ?_;refine Z8 ?_;refine A2 [2,3,4,5,6] ?_;refine Z54 ?_;refine Z8 ?_;refine A2 [2,3,4,5,6,7] ?_;refine Df ?_;refine Mp 2 5 6 ?_;refine Z6 ?_;refine Hc ?_
 refine R.callX (up':=(Hp.set o (pr l (Ag S))).set o (pr l (Ci l Dv S).2)) (own':=[I3,.cells 102 [A3 (Ae l S.i).kind,A8 (Ae l S.i).text,A3 (Ae l S.i).at_],xo true t.text (Ci l Dv S).1]) Tryz.call248 (by have:=py l (Ag S) (Ae l S.i).at_ t.text Dv o (Hp.set o (pr l (Ag S))) I3 (.cells 102 [A3 (Ae l S.i).kind,A8 (Ae l S.i).text,A3 (Ae l S.i).at_]) Yy (Az ho) hi hl hll hnl hd;rw [Cy] at this;exact this) (by simp) (fun h=>jn h C3) ?_
 refine A2 [2,3,4,5,7] ?_;refine Z2 ?_;refine Bf Tryz.call255 (Az (Az ho)) (by simp) C3 (px l (Ci l Dv S).2 Dp o _ (An (Az (Az ho))) hkf.lt hll) ?_;refine A2 [2,3,4,5,7] ?_;refine Z36 ?_
 refine A4 (h:=Bp (Az (Az (Az ho)))) (hr:=?_)
 refine Z24 ?_;refine Z57 ?_;refine A2 [2,3,4,7,41] ?_
 refine A6 (fun ht41=>?_) (fun ht41=>?_)
 ·have e:Fx l Dv t S=(Cb,D4 8 t.at_ (Dq l Dp (Ci l Dv S).2)):=by
   unfold Fx
   rw [if_neg hge,if_pos (by have:=ht41;simp only [Bs] at this;exact this)]
  refine Z16 ?_;refine Bf Tryz.call224 (Az (Az (Az ho))) (by simp) C3 (bn l (Dq l Dp (Ci l Dv S).2) 8 t.at_ o _ (An (Az (Az (Az ho))))) ?_;refine Z75 ?_;refine Dn ?_;exact A9 (Af (B3 jA jS)) ⟨by rw [e,Ao],by rw [e,Ba,Ba,Ba]⟩ (hlow:=low_agg _)
 have e:Fx l Dv t S=(.mk 6 t.text noV (Ci l Dv S).1,(Dq l Dp (Ci l Dv S).2)):=by
  unfold Fx
  rw [if_neg hge,if_neg (by have:=ht41;simp only [Bs] at this;rw [Mb] at this;exact this)]
 refine Z73 ?_;refine Z75 ?_;exact A9 (Af (B3 jA jS)) ⟨by rw [e,Tv];rfl,by rw [e,Ba,Ba]⟩ (hlow:=by have:=Au Hp.length (.mk 6 t.text noV (Ci l Dv S).1);rw [Tv] at this;simpa using this)

theorem br {l:List Tok} (hl:TokEnd l) (hll:l.length≤1048576) (n:Nat) (Dv:Fam) (hn:n≤30) (hd:DeepC l Dv n):Vw l Dv n:=fun o Hp S t ho hi hS _ _=>by
 subst hS
 exact sy l S Dv t o Hp ho hi hl hll hn hd
/-! Queries: what query.Parse, Print, Right, Same answer. -/
structure Qry where
 all:Bool
 cols:List Str
 whr:Expr
 lim:Int
/-- A parser: where it is, and the first fault. -/
structure QS where
 i:Nat
 code:Int
 at_:Int
def Fy (l:List Tok) (e:Int) (S:QS):QS:=if S.code==0 then ⟨S.i,e,((Ae l S.i).at_:Int)⟩ else S
def isQ (l:List Tok) (s:Str) (S:QS):Bool:=((S.code==0)&&(((Ae l S.i).kind==5) || ((Ae l S.i).kind==2)))&&((Ae l S.i).text==s)
def D5 (S:QS):QS:=⟨S.i+1,S.code,S.at_⟩
def W3 (l:List Tok) (s:Str) (S:QS):QS:=if isQ l s S then D5 S else S
def M6 (l:List Tok) (s:Str) (S:QS):QS:=if isQ l s S then D5 S else Fy l 8 S
def En (l:List Tok) (r:Qry×QS):Qry×QS:=
 if r.2.code != 0 then r else if (Ae l r.2.i).kind != 1 then (r.1,Fy l 8 r.2) else if (r.1.cols.length:Int)==12 then (r.1,Fy l 3 r.2)
 else (⟨r.1.all,r.1.cols++[(Ae l r.2.i).text],r.1.whr,r.1.lim⟩,D5 r.2)
def Hh (l:List Tok):Nat→Qry×QS→Qry×QS
 | 0,r=>r
 | n+1,r=>if isQ l [44] r.2 then Hh l n (En l (r.1,D5 r.2)) else r
def I4 (b:Bool) (q:Qry):Qry:=⟨b,q.cols,q.whr,q.lim⟩
def Ix (l:List Tok) (r:Qry×QS):Qry×QS:=if isQ l [42] r.2 then (I4 true r.1,D5 r.2) else Hh l l.length (En l (I4 false r.1,r.2))
def K1:Str:=[119,104,101,114,101]
def Iy:Str:=[108,105,109,105,116]
def Tw:Str:=[115,101,108,101,99,116]
def Gw (l:List Tok) (r:Qry×QS):Qry×QS:=
 if isQ l K1 r.2 then
  if (atM l (r.2.i+1)).2.2.1 != 0 then (r.1,⟨r.2.i+1,(atM l (r.2.i+1)).2.2.1,(atM l (r.2.i+1)).2.2.2⟩)
  else (⟨r.1.all,r.1.cols,(atM l (r.2.i+1)).1,r.1.lim⟩,⟨(atM l (r.2.i+1)).2.1.toNat,r.2.code,r.2.at_⟩)
 else r
/-- The number that strconv.Atoi hands back. -/
def Nx (s:Str):Int:=match Lib.atoiAll s with|.ok v=>v|.range=>Lib.atoiSat s|_=>0
def Fq (l:List Tok) (r:Qry×QS):Qry×QS:=
 if isQ l Iy r.2 then
  if (Ae l (r.2.i+1)).kind != 3 then (r.1,Fy l 8 (D5 r.2))
  else if decide ((100000:Int)<Nx (Ae l (r.2.i+1)).text) then (r.1,Fy l 3 (D5 r.2))
  else (⟨r.1.all,r.1.cols,r.1.whr,Nx (Ae l (r.2.i+1)).text⟩,D5 (D5 r.2))
 else r
def Hi:Qry:=⟨false,[],Cb,0⟩
def pz (l:List Tok) (S:QS):QS:=if (Ae l S.i).kind != 0 then Fy l 8 S else S
def Zd (l:List Tok):Qry×QS:=
 let r:=Fq l (Gw l (Ix l (⟨false,[],Cb, -1⟩,M6 l Tw ⟨0,0,0⟩)))
 (r.1,pz l (M6 l [59] r.2))
def Ze (l:List Tok):Qry×Int×Int:=if (Zd l).2.code != 0 then (Hi,(Zd l).2.code,(Zd l).2.at_) else ((Zd l).1,0,0)
def I5 (s:Str):Qry×Int×Int:=if (B4 s).2.1 != 0 then (Hi,(B4 s).2.1,((B4 s).2.2:Int)) else Ze (B4 s).1
def W4 (q:Qry):Bool := !(eqE q.whr Cb)
def Qe (q:Qry):Bool:=
 if (((q.all != ((q.cols.length:Int)==0)) || decide ((12:Int)<(q.cols.length:Int))) || decide (q.lim < -1)) || decide ((100000:Int)<q.lim) then false
 else (q.cols.all Ew)&&(!(W4 q) || Ke q.whr)
/-! The words of what is printed. -/
/-! Calls, and what is drawn. -/
structure Wr where
 key:Int
 drop:Bool
 l:List Val
structure Cal where
 kind:Int
 ver:Int
 wr:List Wr
 q:Qry
 text:Str
 n:Int
 pat:Int
abbrev wrC (w:Wr):List AV:=[A3 w.key,Aj w.drop,Ia w.l]
abbrev wrA (w:Wr):AV:=.agg (wrC w)
abbrev Qf (l:List Wr):AV:=.slice false 3 (l.map wrA)
abbrev Gx (c:Cal):List AV:=[A3 c.kind,A3 c.ver,Qf c.wr,Aj c.q.all,Fv c.q.cols,A3 c.q.whr.op,A8 c.q.whr.text,A3 c.q.whr.val.kind,A3 c.q.whr.val.n,A8 c.q.whr.val.s,.slice false 6 (c.q.whr.kids.map Aq),A3 c.q.lim,A8 c.text,A3 c.n,Cf c.pat]
abbrev Bz (c:Cal):AV:=.agg (Gx c)
abbrev Qg (l:List Cal):AV:=.slice false 15 (l.map Bz)
def R6:Qry:=⟨true,[],Cb, -1⟩
def Cs (w:Wr):Cal:=⟨1,0,[w],Hi,[],0,0⟩
def Cv (v:Int):Cal:=⟨2,v,[],R6,[],0,0⟩
def B8 (s:Str):Cal:=⟨3,0,[],Hi,s,0,0⟩
def Ds (n:Int):Cal:=⟨5,0,[],Hi,[],n,0⟩
def De:Cal:=⟨6,0,[],Hi,[],0,0⟩
def K2 (s:Int) (c:List Col):Int×Wr:=
 if Ak (A5 (A5 s)) 4=0 then (A5 (A5 s),⟨Ak (A5 s) 12,true,[]⟩)
 else ((As (A5 (A5 s)) c).1,⟨Ak (A5 s) 12,false,(As (A5 (A5 s)) c).2⟩)
def E1 (s:Int) (c:List Col) (mv:Str):Int×Cal:=
 if Ak (A5 s) 10<4 then ((K2 (A5 s) c).1,Cs (K2 (A5 s) c).2)
 else if Ak (A5 s) 10<6 then (A5 s,Cv 0)
 else if Ak (A5 s) 10=6 then (A5 s,B8 mv)
 else if Ak (A5 s) 10=7 then (A5 (A5 s),Ds (Ak (A5 (A5 s)) 5+1))
 else if Ak (A5 s) 10=8 then (A5 s,Cv 1)
 else (A5 s,De)
def Al (s:Int) (c:List Col) (mv:Str):Nat→Int×List Cal
 | 0=>(s,[])
 | n+1=>((E1 (Al s c mv n).1 c mv).1,(Al s c mv n).2++[(E1 (Al s c mv n).1 c mv).2])
theorem Du (s:Int) (c:List Col) (mv:Str):∀n,(Al s c mv n).2.length=n
 | 0=>rfl
 | n+1=>by
  rw [Al,Am,Du s c mv n]
  rfl
theorem Qh (s:Int) (c:List Col) (mv:Str) {k:Nat}:∀{n:Nat},k≤n→(Al s c mv n).2.take k=(Al s c mv k).2
 | 0,h=>by
  have:k=0:=by omega
  subst this
  rfl
 | n+1,h=>by
  by_cases e:k=n+1
  ·subst e
   rw [E3 (by rw [Du];omega)]
  rw [Al,Yb (by rw [Du];omega),Qh s c mv (by omega)]
/-- A call whose parts that are none are nil. -/
theorem Hj {k v lim n pat:Int} {b:Bool} {t:Str} {x:AV} {l:List Wr} (hx:x=Qf l∨(x=.nil∧l=[])):
  Le (.agg [A3 k,A3 v,x,Aj b,.nil,A3 0,A8 [],A3 0,A3 0,A8 [],.nil,A3 lim,A8 t,A3 n,Cf pat]) (Bz ⟨k,v,l,⟨b,[],Cb,lim⟩,t,n,pat⟩):=.agg _ _ rfl (fun y hy=>by
 simp only [Bt,Fh,or_false] at hy
 rcases hy with rfl|rfl|rfl|rfl|rfl|rfl|rfl|rfl|rfl|rfl|rfl|rfl|rfl|rfl|rfl<;>rfl) fun i y y' h h'=>by
 rcases i with _|_|_|_|_|_|_|_|_|_|_|_|_|_|_|i
 ·simp at h h';subst h;subst h';exact .inl rfl
 ·simp at h h';subst h;subst h';exact .inl rfl
 ·simp at h h';subst h;subst h'
  rcases hx with hx|⟨hx,rfl⟩
  ·exact .inl hx
  exact .inr ⟨hx,_,rfl⟩
 ·simp at h h';subst h;subst h';exact .inl rfl
 ·simp at h h';subst h;subst h';exact .inr ⟨rfl,_,rfl⟩
 ·simp at h h';subst h;subst h';exact .inl rfl
 ·simp at h h';subst h;subst h';exact .inl rfl
 ·simp at h h';subst h;subst h';exact .inl rfl
 ·simp at h h';subst h;subst h';exact .inl rfl
 ·simp at h h';subst h;subst h';exact .inl rfl
 ·simp at h h';subst h;subst h';exact .inr ⟨rfl,_,rfl⟩
 ·simp at h h';subst h;subst h';exact .inl rfl
 ·simp at h h';subst h;subst h';exact .inl rfl
 ·simp at h h';subst h;subst h';exact .inl rfl
 ·simp at h h';subst h;subst h';exact .inl rfl
 simp at h
theorem li {k:Int} {b:Bool}:Le (.agg [A3 k,Aj b,.nil]) (wrA ⟨k,b,[]⟩):=.agg _ _ rfl (by simp;repeat' (first|rfl|apply And.intro)) fun i y y' h h'=>by
 rcases i with _|_|_|i<;>simp at h h'<;>subst h<;>subst h'
 ·exact .inl rfl
 ·exact .inl rfl
 exact .inr ⟨rfl,_,rfl⟩
end Go.SX.Nb
namespace Go.SX
variable [GI:GlobInv]
open Classical Go.RowKit
section
variable {P:Program} {g:FuncId} {Hp:List AObj}
/-- Where a slice of plain values lies. -/
def q8 (w:World) (u:Value) (l:List Value):Prop:=
 (u=.slice none 0 0∧l=[])∨∃(ad:Addr) (c:Nat),u=.slice (some ad) l.length c∧l.length≤c∧(l≠[]→ad.spot=none)∧(∀(j:Nat) (x:Value),l[j]? = some x→w.cell? ⟨ad.block,ad.off+j,none⟩=some x)
theorem AFun.libSl {l xs:List Value} {o:Bool} {r:AV} {v:Value} (hr:∀G w,Rep G w none r v) (h:∀w u,Fm w→q8 w u l→Calls P g (u::xs).toArray w (fun e w'=>e=.returned v∧Below w.heap.size w w')):AFun P g (.slice o 1 (l.map .v)::xs.map .v) Hp r:=by
 intro d G w vs hn hv hH hT hTop
 have hn':vs.size=xs.length+1:=by simpa using hn
 have h0:vs[0]? = some (vs[0]'(by omega)):=Cz (by omega)
 have hvs:vs=((vs[0]'(by omega))::xs).toArray:=by
  apply R8
  ·simpa using hn'
  intro i h1 h2
  cases i with
  | zero=>rfl
  | succ i =>
   have hi:i<xs.length:=by omega
   have hrp:=hv (i+1) (.v xs[i]) vs[i+1] (by simp [hi]) (Cz h1)
   have:=J1 hrp
   simpa using this
 have hsl:q8 w (vs[0]'(by omega)) l:=by
  have hrp:=hv 0 _ _ rfl h0
  rcases E5 (.inl rfl) hrp with ⟨e,hl⟩|⟨ad,c,f,e,hc,hF,_⟩
  ·exact .inl ⟨e,by simpa using hl⟩
  rw [Bs] at e hc
  refine .inr ⟨ad,c,e,hc,fun hne=>hF.spot (by simpa using hne),fun j x hj=>?_⟩
  have hx:(l.map AV.v)[j]? = some (.v x):=by rw [C4,hj];rfl
  have h1:=(hF.cell j _ 0 _ hx rfl).2
  have h2:=J1 (hF.rep j _ 0 _ hx rfl)
  rw [h2] at h1
  simpa using h1
 rw [hvs]
 refine (callsIn_wide.2 (h w _ (fun x hx=>let ⟨_,u,a,b⟩:=hT.glob x hx;⟨u,a,b⟩) hsl)).mono ?_
 rintro e w' ⟨rfl,hb⟩
 obtain ⟨h1,h2⟩:=L4 hH hT hb
 exact ⟨v,G,r,Hp,rfl,(hr G w').lift,h1,h2,(Ir hT hb).keep _,rfl,rfl,rfl⟩
end
end Go.SX
