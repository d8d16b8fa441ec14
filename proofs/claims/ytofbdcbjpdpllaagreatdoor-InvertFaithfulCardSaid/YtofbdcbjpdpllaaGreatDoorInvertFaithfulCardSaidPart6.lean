/- On the way (part 6). -/
import Derived.ReadAgain
import Derived.ChangeSame
import Derived.ChangeArms
import Derived.ChangeOld
import Derived.ChangeFn
import Derived.MapPlaces
import Derived.DataReads
import Derived.OpenShut
import Derived.RowKit
import Derived.Deep.DeepHandedRow
import Derived.Test.YtofbdcbjpdpllaaGreatDoorCards
import Derived.Test.YtofbdcbjpdpllaaGreatDoorTie
import Derived.Lay
import Derived.Lib.LaidTab
import Derived.Stop.LaidErr
import Derived.Shelf.Vars
import Derived.ChangeBears
import Derived.Lib.ParseIntBTie
import Derived.Test.YtofbdcbjpdpllaaGreatDoorInvertFaithfulCardSaidPart5
set_option linter.all false
namespace Go.SX
variable [GI:GlobInv]
open Classical Go.RowKit Go.ChangeShapes
section
variable {P:Program} {H:Type} {enc:TypeId×Value→H}

/-- The first ghost: whatever lies there is read for good. -/
noncomputable def G0 (W:World):Gh:=⟨fun b o=>if (W.cell? ⟨b,o,none⟩).isSome then .fix else .free,fun _=>0,0⟩
theorem AFb {W:World} {b o:Nat} {u:Value} (h:W.cell? ⟨b,o,none⟩=some u):(G0 W).tag b o=.fix:=by simp [G0,h]
theorem Si {W:World} {b:Nat} (h:b<W.heap.size):Jg (G0 W) W b:=⟨h,fun o=>by simp only [G0];split<;>simp,fun i hi=>absurd hi (Nat.not_lt_zero _)⟩
theorem ABi (W:World):HeapRel (G0 W) [] W:=⟨fun i x h=>by simp at h,rfl,fun i j hi=>absurd hi (Nat.not_lt_zero _)⟩
theorem ABj {W:World} (h:Kg W):TagOK (G0 W) W:=by
 refine ⟨fun b o hb=>?_,fun b o i hb=>?_,fun b o L hb=>?_,fun x hx=>?_⟩
 ·simp only [G0] at hb
  split at hb
  ·rename_i hs;exact Option.isSome_iff_exists.1 hs
  exact absurd rfl hb
 ·simp only [G0] at hb;split at hb<;>cases hb
 ·simp only [G0] at hb;split at hb<;>cases hb
 obtain ⟨v,h1,h2⟩:=h x hx
 exact ⟨Si (Ox.1 h1).1,v,h1,h2⟩

/-- What a datum of a plain type AJu as. -/
inductive DRep (P:Program):TypeId→DataW H→AV→Prop
 | int {t:TypeId} {k:IntKind} {n:Int} (hu:P.underlying t=some (.int k)) (wf:(Lit.int k n).wf=true):DRep P t (.lit (.int k n)) (.v (.int k n))
 | bool {t:TypeId} {b:Bool} (hu:P.underlying t=some .bool):DRep P t (.lit (.bool b)) (.v (.bool b))
 | str {t:TypeId} {bs:List UInt8} (hu:P.underlying t=some .string):DRep P t (.lit (.string bs)) (.v (sv bs))
 | nil {t e:TypeId} (hu:P.underlying t=some (.slice e)):DRep P t .nil (.slice false (P.cellsOf e) [])
 | slice {t e:TypeId} {elems spare:List (DataW H)} {ys:List AV} (hu:P.underlying t=some (.slice e)) (hn:ys.length=elems.length)
   (h:∀(i:Nat) (d:DataW H) (y:AV),elems[i]? = some d→ys[i]? = some y→DRep P e d y):DRep P t (.slice elems spare) (.slice false (P.cellsOf e) ys)
 | struct {t:TypeId} {fs:Array Field} {parts:List (DataW H)} {ys:List AV} (hu:P.underlying t=some (.struct fs)) (hn:parts.length=fs.size) (hn':ys.length=fs.size)
   (h:∀(i:Nat) (f:Field) (d:DataW H) (y:AV),fs[i]? = some f→parts[i]? = some d→ys[i]? = some y→DRep P f.type d y):DRep P t (.agg parts) (.agg (ys.flatMap AV.cells))

/-- Types that are made of numbers, texts, bools, slices and structs alone. -/
structure PlainT (P:Program) (T:TypeId→Prop):Prop where
 look:∀t,T t→(P.cellsOf t=1∧((∃k,P.underlying t=some (.int k))∨P.underlying t=some .bool∨P.underlying t=some .string∨(∃e,P.underlying t=some (.slice e)∧T e∧0<P.cellsOf e))) ∨
  (∃fs,P.underlying t=some (.struct fs)∧(∀f∈fs.toList,T f.type)∧P.cellsOf t=(fs.toList.map fun f=>P.cellsOf f.type).sum ∧
   ∀(j:Nat) (f:Field),fs.toList[j]? = some f→f.offset=((fs.toList.take j).map fun f=>P.cellsOf f.type).sum)

/-- The reading of a row of cells. -/
def CRep (W:World) (y:AV) (cs:List Value):Prop:=
 y.cells.length=cs.length∧(∀c∈y.cells,c.one=true)∧∀(j:Nat) (c:AV) (v:Value),y.cells[j]? = some c→cs[j]? = some v→Rep (G0 W) W none c v

theorem CRep.v1 {W:World} {x:Value} (h:x.oneCell'=true):CRep W (.v x) [x]:=
 ⟨rfl,by simp [AV.cells,AV.one,h],fun j c v h1 h2=>by
  match j with
  | 0=>simp [AV.cells] at h1 h2;subst h1;subst h2;exact .v _ _
  | j+1=>simp [AV.cells] at h1⟩

theorem ew {f:AV→List AV}:∀(ys:List AV) (j:Nat) (c:AV),(ys.flatMap f)[j]? = some c→∃(i:Nat) (y:AV) (q:Nat),ys[i]? = some y∧(f y)[q]? = some c∧j=((ys.take i).map fun y=>(f y).length).sum+q
 | [],j,c,h=>by simp at h
 | y::r,j,c,h=>by
  rw [V6] at h
  rcases Bo j (f y).length with h'|h'
  ·rw [D5 h'] at h
   exact ⟨0,y,j,rfl,h,by simp⟩
  rw [D6 h'] at h
  obtain ⟨i,z,q,h1,h2,h3⟩:=ew r _ c h
  exact ⟨i+1,z,q,h1,h2,by simp only [List.take_succ_cons,C9,List.sum_cons];omega⟩
theorem Ns {α:Type} {R:Nat→α→Prop}:∀(n:Nat),(∀i,i<n→∃y,R i y)→∃ys:List α,ys.length=n∧∀(i:Nat) (y:α),ys[i]? = some y→R i y
 | 0,_=>⟨[],rfl,fun i y h=>by simp at h⟩
 | n+1,h=>by
  obtain ⟨ys,h1,h2⟩:=Ns n (fun i hi=>h i (by omega))
  obtain ⟨y,hy⟩:=h n (by omega)
  refine ⟨ys++[y],by simp [h1],fun i z hz=>?_⟩
  rcases Bo i n with h'|h'
  ·rw [D5 (by omega)] at hz;exact h2 i z hz
  rw [D6 (by omega)] at hz
  have:i=n:=by
   have:=(Ac.1 hz).1
   simp at this;omega
  subst this
  rw [h1] at hz
  simp at hz
  exact hz ▸ hy
theorem Pr {α β:Type} {f:α→Nat} {g:β→Nat}:∀(l:List α) (m:List β),l.length=m.length→(∀(i:Nat) (a:α) (b:β),l[i]? = some a→m[i]? = some b→f a=g b)→(l.map f).sum=(m.map g).sum
 | [],[],_,_=>rfl
 | [],b::m,h,_=>by simp at h
 | a::l,[],h,_=>by simp at h
 | a::l,b::m,h,hh=>by
  simp only [C9,List.sum_cons]
  rw [hh 0 a b rfl rfl,Pr l m (by simpa using h) (fun i a b h1 h2=>hh (i+1) a b h1 h2)]

theorem x9 {T:TypeId→Prop} (PT:PlainT P T) {W:World}:∀(n:Nat) (t:TypeId) (cs:List Value) (x:DataW H×List MemPlace),T t→DataW.trod enc P W 0 (fun _=>true) true n t cs=some x →
  ∃y,DRep P t x.1 y∧CRep W y cs∧cs.length=P.cellsOf t:=by
 intro n
 induction n with
 | zero=>intro t cs x _ h;simp [DataW.trod] at h
 | succ n ih =>
  intro t cs x hT h
  rcases PT.look t hT with ⟨hc1,⟨k,hu⟩|hu|hu|⟨e,hu,he,hz⟩⟩|⟨fs,hu,hf,hsum,hoff⟩
  ·obtain ⟨m,rfl,rfl,hw⟩:=DataW.trod_int hu h
   exact ⟨_,.int hu hw,.v1 rfl,hc1.symm⟩
  ·obtain ⟨b,rfl,rfl⟩:=DataW.trod_bool hu h
   exact ⟨_,.bool hu,.v1 rfl,hc1.symm⟩
  ·obtain ⟨s,rfl,rfl,_⟩:=DataW.trod_string hu h
   exact ⟨_,.str hu,.v1 rfl,hc1.symm⟩
  ·rcases DataW.trod_slice hu h with ⟨rfl,rfl⟩|⟨a,len,cap,elems,rest,m,hm,rfl,rfl,hb,hlc,hcm,hel,hE,_,_⟩
   ·refine ⟨_,.nil hu,⟨rfl,by simp [AV.cells,AV.one],fun j c v h1 h2=>?_⟩,hc1.symm⟩
    match j with
    | 0=>simp [AV.cells] at h1 h2;subst h1;subst h2;exact .slice0 _ _ _
    | j+1=>simp [AV.cells] at h1
   injection hm with hm
   subst hm
   subst hel
   have hEi:∀i,i<elems.length→∃y,(∀d,elems[i]? = some d→DRep P e d.1 y)∧∃ci,W.cells? 0 (a.add (i*P.cellsOf e)) (P.cellsOf e)=some ci∧CRep W y ci:=fun i hi=>by
    have h1:=hE i hi
    rw [Ae hi,Option.bind_eq_some_iff] at h1
    obtain ⟨ci,h2,h3⟩:=h1
    obtain ⟨y,h4,h5,_⟩:=ih e ci _ he h3
    exact ⟨y,fun d hd=>by rw [Ae hi] at hd;injection hd with hd;subst hd;exact h4,ci,h2,h5⟩
   obtain ⟨ys,hyl,hys⟩:=Ns elems.length hEi
   refine ⟨.slice false (P.cellsOf e) ys,.slice hu (by simp [hyl]) (fun i d y hd hy=>?_),⟨rfl,by simp [AV.cells,AV.one],fun j c v h1 h2=>?_⟩,hc1.symm⟩
   ·rw [Cm,Ei] at hd
    obtain ⟨d',hd',rfl⟩:=hd
    exact (hys i y hy).1 d' hd'
   match j with
   | j+1=>simp [AV.cells] at h1
   | 0 =>
    simp [AV.cells] at h1 h2
    subst h1;subst h2
    by_cases h0:elems.length=0
    ·have:ys=[]:=Pb (by omega)
     subst this
     rw [h0]
     exact .sliceE _ _ _ _
    have hspot:a.spot=none:=by
     obtain ⟨ci,hci,_⟩:=(hys 0 ys[0] (Ae (by omega))).2
     obtain ⟨_,g1,g2⟩:=World.cells?_some hci
     have g3:=g2 0 hz
     rw [Ae (by omega)] at g3
     simp only [Nat.zero_mul,Addr.add,if_true] at g3
     unfold World.cell? at g3
     split at g3
     ·split at g3
      ·cases g3
      rename_i hs;simpa using hs
     cases g3
    refine .slice _ false _ ys a _ cap (fun i j=>(W.cell? ⟨a.block,a.off+i*P.cellsOf e+j,none⟩).getD undef) hspot hyl.symm hlc (fun x hx=>?_) (fun x hx=>?_) (fun i x j y hx hy=>?_) (fun i x j y hx hy=>?_) (fun h=>by cases h)
    ·obtain ⟨i,hi⟩:=Ct hx
     obtain ⟨ci,hci,hcr⟩:=(hys i x hi).2
     rw [hcr.1]
     exact (World.cells?_some hci).2.1
    ·obtain ⟨i,hi⟩:=Ct hx
     obtain ⟨ci,hci,hcr⟩:=(hys i x hi).2
     exact hcr.2.1
    ·obtain ⟨ci,hci,hcr⟩:=(hys i x hx).2
     obtain ⟨_,g1,g2⟩:=World.cells?_some hci
     have hj:j<P.cellsOf e:=by
      have:=(Ac.1 hy).1
      rw [hcr.1] at this;omega
     have g3:=g2 j hj
     rw [Ae (by omega),Cs hspot,Cs rfl] at g3
     exact ⟨AFb g3,by rw [g3];rfl⟩
    obtain ⟨ci,hci,hcr⟩:=(hys i x hx).2
    obtain ⟨_,g1,g2⟩:=World.cells?_some hci
    have hj:j<P.cellsOf e:=by
     have:=(Ac.1 hy).1
     rw [hcr.1] at this;omega
    have g3:=g2 j hj
    rw [Ae (by omega),Cs hspot,Cs rfl] at g3
    simp only at g3
    rw [g3]
    exact hcr.2.2 j y _ hy (Ae (by omega))
  obtain ⟨xs,m,hm,rfl,hcl,hxl,hX⟩:=DataW.trod_struct hu h
  injection hm with hm
  subst hm
  have hXi:∀i,i<fs.size→∃y,∀(f:Field),fs[i]? = some f→(∀d,xs[i]? = some d→DRep P f.type d.1 y)∧CRep W y ((cs.drop f.offset).take (P.cellsOf f.type))∧y.cells.length=P.cellsOf f.type:=fun i hi=>by
   have h1:=hX i fs[i] (F1 hi)
   rw [Ae (by omega)] at h1
   obtain ⟨y,h2,h3,h4⟩:=ih _ _ _ (hf _ (by simp)) h1
   refine ⟨y,fun f hf'=>?_⟩
   rw [F1 hi] at hf'
   injection hf' with hf'
   subst hf'
   exact ⟨fun d hd=>by rw [Ae (by omega)] at hd;injection hd with hd;subst hd;exact h2,h3,by rw [h3.1,h4]⟩
  obtain ⟨ys,hyl,hys⟩:=Ns fs.size hXi
  have hlenI:∀(i:Nat),((ys.take i).map fun y=>y.cells.length).sum=((fs.toList.take i).map fun f=>P.cellsOf f.type).sum:=fun i=>by
   refine Pr _ _ (by simp [hyl]) (fun j y f h1 h2=>?_)
   rw [H3] at h1 h2
   split at h1
   ·rename_i hj
    rw [if_pos hj] at h2
    exact (hys j y h1 f (by simpa using h2)).2.2
   cases h1
  have htot:(ys.flatMap AV.cells).length=cs.length:=by
   rw [List.length_flatMap,hcl,hsum]
   refine Pr _ _ (by simp [hyl]) (fun j y f h1 h2=>(hys j y h1 f (by simpa using h2)).2.2)
  refine ⟨.agg (ys.flatMap AV.cells),.struct hu (by simp [hxl]) hyl (fun i f d y hf' hd hy=>?_),⟨htot,fun c hc=>?_,fun j c v h1 h2=>?_⟩,hcl⟩
  ·rw [Cm,Ei] at hd
   obtain ⟨d',hd',rfl⟩:=hd
   exact (hys i y hy f hf').1 d' hd'
  ·obtain ⟨y,hy,hcy⟩:=List.mem_flatMap.1 hc
   obtain ⟨i,hi⟩:=Ct hy
   have hlt:i<fs.size:=by rw [←hyl];exact (Ac.1 hi).1
   exact ((hys i y hi fs[i] (F1 hlt)).2.1).2.1 c hcy
  obtain ⟨i,y,q,g1,g2,rfl⟩:=ew ys j c h1
  have hlt:i<fs.size:=by rw [←hyl];exact (Ac.1 g1).1
  obtain ⟨_,k2,k3⟩:=hys i y g1 fs[i] (F1 hlt)
  have hq:q<P.cellsOf (fs[i]).type:=by have:=(Ac.1 g2).1;omega
  refine k2.2.2 q c v g2 ?_
  rw [H3,if_pos hq,Ga,hoff i fs[i] (by simp [hlt]),←hlenI i]
  exact h2

/-- A measure of data. -/
structure Bulk (B:DataW H→Nat):Prop where
 str:∀bs,bs.length≤B (.lit (.string bs))
 slice:∀elems spare,elems.length≤B (.slice elems spare)∧∀d∈elems,B d≤B (.slice elems spare)
 agg:∀parts,∀d∈parts,B d≤B (.agg parts)
theorem DRep.int' {t:TypeId} {k:IntKind} {d:DataW H} {y:AV} (hu:P.underlying t=some (.int k)) (h:DRep P t d y):∃n,d=.lit (.int k n)∧y=.v (.int k n)∧k.min≤n∧n≤k.max:=by
 cases h with
 | int hu' wf=>rw [hu] at hu';injection hu' with e;injection e with e;subst e;exact ⟨_,rfl,rfl,by simpa [Lit.wf] using wf⟩
 | _ hu'=>rw [hu] at hu';cases hu'
theorem DRep.str' {t:TypeId} {d:DataW H} {y:AV} (hu:P.underlying t=some .string) (h:DRep P t d y):∃s,d=.lit (.string s)∧y=.v (sv s):=by
 cases h with
 | str hu'=>exact ⟨_,rfl,rfl⟩
 | _ hu'=>rw [hu] at hu';cases hu'
theorem DRep.slice' {t e:TypeId} {d:DataW H} {y:AV} {B:DataW H→Nat} (hB:Bulk B) {α:Type} (A:α→AV) (R:α→Prop) {b:Nat} (hu:P.underlying t=some (.slice e)) (h:DRep P t d y) (hb:B d≤b)
  (hE:∀d y,B d≤b→DRep P e d y→∃x,y=A x∧R x):∃l:List α,y=.slice false (P.cellsOf e) (l.map A)∧l.length≤b∧∀x∈l,R x:=by
 cases h with
 | nil hu'=>rw [hu] at hu';injection hu' with e';injection e' with e';subst e';exact ⟨[],rfl,Bc _,fun x hx=>by cases hx⟩
 | slice hu' hn hh =>
  rw [hu] at hu';injection hu' with e';injection e' with e';subst e'
  rename_i elems spare ys
  obtain ⟨h1,h2⟩:=hB.slice elems spare
  have key:∀(ys:List AV) (es:List (DataW H)),ys.length=es.length→(∀d∈es,B d≤b)→(∀(i:Nat) (d:DataW H) (y:AV),es[i]? = some d→ys[i]? = some y→DRep P e d y)→∃l:List α,ys=l.map A∧∀x∈l,R x:=by
   intro ys
   induction ys with
   | nil=>exact fun es _ _ _=>⟨[],rfl,fun x hx=>by cases hx⟩
   | cons y ys ih =>
    intro es hl hb2 hr
    cases es with
    | nil=>simp at hl
    | cons d es =>
     obtain ⟨x,rfl,hx⟩:=hE d y (hb2 d (by simp)) (hr 0 d y rfl rfl)
     obtain ⟨l,rfl,hR⟩:=ih es (by simpa using hl) (fun d hd=>hb2 d (by simp [hd])) (fun i d y a c=>hr (i+1) d y a c)
     exact ⟨x::l,rfl,fun z hz=>by
      rcases Bj.1 hz with rfl|hz
      ·exact hx
      exact hR z hz⟩
  obtain ⟨l,rfl,hR⟩:=key ys elems hn (fun d hd=>Jr (h2 d hd) hb) hh
  exact ⟨l,rfl,by simp at hn;omega,hR⟩
 | _ hu'=>rw [hu] at hu';cases hu'
theorem DRep.struct' {t:TypeId} {fs:Array Field} {d:DataW H} {y:AV} {B:DataW H→Nat} (hB:Bulk B) (hu:P.underlying t=some (.struct fs)) (h:DRep P t d y):
  ∃ys:List AV,ys.length=fs.size∧y=.agg (ys.flatMap AV.cells)∧∀(i:Nat) (f:Field) (z:AV),fs[i]? = some f→ys[i]? = some z→∃d',B d'≤B d∧DRep P f.type d' z:=by
 cases h with
 | struct hu' hn hn' hh =>
  rw [hu] at hu';injection hu' with e';injection e' with e';subst e'
  rename_i parts ys
  refine ⟨ys,hn',rfl,fun i f z h1 h2=>?_⟩
  have hlt:i<parts.length:=by rw [hn];exact (Ox.1 h1).1
  exact ⟨parts[i],hB.agg parts _ (C4 hlt),hh i f parts[i] z h1 (Ae hlt) h2⟩
 | _ hu'=>rw [hu] at hu';cases hu'

/-- An argument's reading. -/
theorem ABk {T:TypeId→Prop} (PT:PlainT P T) {W:World} {t:TypeId} {v:Value} {d:DataW H} {ps:List MemPlace} {b0:Nat} (hT:T t) (hok:Value.okWide P W .any b0 t v) (h:DataW.Trod enc P W 0 (fun _=>true) true t v d ps):
  ∃y,DRep P t d y∧Rep (G0 W) W none y v:=by
 obtain ⟨n,hn⟩:=h
 obtain ⟨y,h1,h2,h3⟩:=x9 PT n t _ _ hT hn
 refine ⟨y,h1,?_⟩
 rcases PT.look t hT with ⟨hc1,hone⟩|⟨fs,hu,_⟩
 ·have hva:∀cs,v≠.agg cs:=fun cs e=>by
   subst e
   rcases hone with ⟨k,hu⟩|hu|hu|⟨e,hu,he,hz⟩<;>simp [Value.okWide,hu,Cell.okWide,Cell.ok] at hok
  have hvc:v.cells=#[v]:=by cases v<;>first|rfl|exact absurd rfl (hva _)
  have hyc:y.cells=[y]:=by
   cases h1 with
   | struct hu=>rcases hone with ⟨k,hu'⟩|hu'|hu'|⟨e,hu',he,hz⟩<;>rw [hu] at hu'<;>cases hu'
   | _=>rfl
  have:=h2.2.2 0 y v (by rw [hyc];rfl) (by rw [hvc];rfl)
  exact this
 obtain ⟨cs,rfl,hsz,_⟩:∃cs,v=.agg cs∧cs.size=P.cellsOf t∧Row.okWide P W .any b0 t cs:=by
  simp only [Value.okWide,hu] at hok
  exact hok
 cases h1 with
 | struct hu' hn1 hn2 hh =>
  refine .agg _ _ _ (by have:=h2.1;simp only [AV.cells,Value.cells,Array.length_toList] at this;exact this.symm) h2.2.1 (fun i c u a b=>h2.2.2 i c u a (by simpa [Value.cells] using b))
 | int hu'=>rw [hu] at hu';cases hu'
 | bool hu'=>rw [hu] at hu';cases hu'
 | str hu'=>rw [hu] at hu';cases hu'
 | nil hu'=>rw [hu] at hu';cases hu'
 | slice hu'=>rw [hu] at hu';cases hu'

def DReps (P:Program):List TypeId→List (DataW H)→List AV→Prop
 | [],[],[]=>True
 | t::ts,d::ds,y::ys=>DRep P t d y∧DReps P ts ds ys
 | _,_,_=>False

theorem DReps.cons' {t:TypeId} {ts:List TypeId} {ds:List (DataW H)} {ys:List AV} (h:DReps P (t::ts) ds ys):∃d ds' y ys',ds=d::ds'∧ys=y::ys'∧DRep P t d y∧DReps P ts ds' ys':=by
 match ds,ys,h with
 | d::ds',y::ys',⟨h1,h2⟩=>exact ⟨d,ds',y,ys',rfl,rfl,h1,h2⟩
 | [],_,h=>simp [DReps] at h
 | _::_,[],h=>simp [DReps] at h
theorem DReps.nil' {ds:List (DataW H)} {ys:List AV} (h:DReps P [] ds ys):ds=[]∧ys=[]:=by
 match ds,ys,h with
 | [],[],_=>exact ⟨rfl,rfl⟩
 | [],_::_,h=>simp [DReps] at h
 | _::_,_,h=>simp [DReps] at h
theorem Yq {T:TypeId→Prop} (PT:PlainT P T) {W:World} {b0:Nat}:∀(ts:List TypeId) (vs:List Value) (ds:List (DataW H)) (ps:List MemPlace),(∀t∈ts,T t) →
  (∀(j:Nat) t v,ts[j]? = some t→vs[j]? = some v→Value.okWide P W .any b0 t v)→DataW.TrodAll enc P W 0 (fun _=>true) true ts vs ds ps →
  ∃ys,DReps P ts ds ys∧ys.length=vs.length∧∀(i:Nat) (y:AV) (u:Value),ys[i]? = some y→vs[i]? = some u→Rep (G0 W) W none y u
 | [],[],[],_,_,_,_=>⟨[],trivial,rfl,fun i y u h=>by simp at h⟩
 | t::ts,v::vs,d::ds,ps,hT,hok,⟨p,q,h1,h2,_⟩=>by
  obtain ⟨y,k1,k2⟩:=ABk PT (hT t (by simp)) (hok 0 t v rfl rfl) h1
  obtain ⟨ys,k3,k4,k5⟩:=Yq PT ts vs ds q (fun t ht=>hT t (by simp [ht])) (fun j t v a b=>hok (j+1) t v a b) h2
  refine ⟨y::ys,⟨k1,k3⟩,by simp [k4],fun i z u a b=>?_⟩
  match i with
  | 0=>simp at a b;subst a;subst b;exact k2
  | i+1=>exact k5 i z u a b
 | [],_::_,_,_,_,_,h=>by simp [DataW.TrodAll] at h
 | [],[],_::_,_,_,_,h=>by simp [DataW.TrodAll] at h
 | _::_,[],_,_,_,_,h=>by simp [DataW.TrodAll] at h
 | _::_,_::_,[],_,_,_,h=>by simp [DataW.TrodAll] at h

theorem Tl {W:World} {sp:Nat→Bool} {hd:Bool}:∀{ts:List TypeId} {vs:List Value} {ds:List (DataW H)} {ps:List MemPlace},DataW.TrodAll enc P W 0 sp hd ts vs ds ps→ds.length=ts.length
 | [],[],[],_,_=>rfl
 | _::_,_::_,_::_,_,⟨_,_,_,h,_⟩=>by rw [At,At,Tl h]
 | [],_::_,_,_,h=>by simp [DataW.TrodAll] at h
 | [],[],_::_,_,h=>by simp [DataW.TrodAll] at h
 | _::_,[],_,_,h=>by simp [DataW.TrodAll] at h
 | _::_,_::_,[],_,h=>by simp [DataW.TrodAll] at h
theorem Nt {W W':World} {sp:Nat→Bool}:∀{ts:List TypeId} {vs:List Value} {ds:List (DataW H)} {ps:List MemPlace},DataW.TrodAll enc P W 0 sp true ts vs ds ps→(∀p∈ps,W.sameAt W' p)→DataW.TrodAll enc P W' 0 sp true ts vs ds ps
 | [],[],[],_,h,_=>h
 | _::_,_::_,_::_,_,⟨p,q,⟨n,hn⟩,h2,e⟩,hs=>⟨p,q,⟨n,DataW.trod_carry n _ _ _ hn (fun x hx=>hs x (by rw [e];exact ac _ hx))⟩,Nt h2 (fun x hx=>hs x (by rw [e];exact Qa _ hx)),e⟩
 | [],_::_,_,_,h,_=>by simp [DataW.TrodAll] at h
 | [],[],_::_,_,h,_=>by simp [DataW.TrodAll] at h
 | _::_,[],_,_,h,_=>by simp [DataW.TrodAll] at h
 | _::_,_::_,[],_,h,_=>by simp [DataW.TrodAll] at h

/-- **A law that answers true, for whatever can be read.** -/
theorem r6 {f:FuncId} {fn:Func} {s:ChangeSpec} {T:TypeId→Prop} {tb:TypeId} {W:World} {base:Nat} {args:Array Value} {ds gs:List (DataW H)} {before:List MemPlace} (K:Kids P (·<P.types.size)) (hz:∀t e,t<P.types.size→P.underlying t=some (.slice e)→0<P.cellsOf e)
  (PT:PlainT P T) (hT:∀t∈fn.params.toList,T t∧t<P.types.size) (hb:P.underlying tb=some .bool) (hres:fn.resultTypes=#[tb]) (hvars:s.vars=[])
  (hspec:∀ds:List (DataW H),ds.length=fn.params.size→s.fn H ds={ results:=[.lit (.bool true)],args:=ds })
  (hval:∀(j:Nat) t v,fn.params[j]? = some t→args[j]? = some v→Value.okWide P W .any base t v) (hW:DataW.Whole enc P fn.params.toList s.vars false W args.toList ds gs before)
  (hglob:Kg W)
  (main:∀ys:List AV,DReps P fn.params.toList ds ys→AFun P f ys [] (.v (.bool true))) (hbd:GI.bd≤0:=by exact Al 0):
  Calls P f args W (fun e W'=>∃v,e=.returned v∧s.post enc P fn false true false false W args v W'):=by
 have hW0:=hW
 obtain ⟨p,q,hA,hV,hpq,hfz,hnd⟩:=hW
 rw [hvars] at hV
 obtain ⟨rfl,rfl⟩:=trodVars_none hV
 rw [Ig] at hpq
 subst hpq
 obtain ⟨ys,h1,h2,h3⟩:=Yq PT _ _ _ _ (fun t ht=>(hT t ht).1) (fun j t v a b=>hval j t v (by simpa using a) (by simpa using b)) hA
 have hlen:=Tl hA
 have hc:=main ys h1 0 (G0 W) W args (by simpa using h2.symm) (fun i y u a b=>(h3 i y u a (by simpa using b)).lift) (ABi W) (ABj hglob)
 refine (callsIn_wide.1 (hc hbd)).mono ?_
 rintro e W' ⟨v,G',r,H',rfl,hr,hH,hTg,hk,hl,rfl,rfl⟩
 have hv:=N7 hr
 subst hv
 refine ⟨_,rfl,ds,[],before,[],before,[],hW0,?_,?_,?_,?_,fun h=>by cases h⟩
 ·rw [hres,Ig,hspec ds (by simpa using hlen)]
  exact trodAll_cons_mk (p:=[]) (shut_bool hb true) trodAll_mk0
 ·rw [Ig,hspec ds (by simpa using hlen)]
  refine Nt (DataW.TrodAll.respare K hz (fun t ht=>(hT t ht).2) hA (fun p hp=>by simpa using hW0.lt p hp)) (fun p hp=>?_)
  have hlt:=hW0.lt p hp
  have hb:=(hk.old _ (Si hlt)).1
  cases p with
  | cell b o=>exact En hb
  | map b=>exact hb
 ·rw [hvars,Ig,hspec ds (by simpa using hlen)]
  rfl
 refine ⟨hk.os,hk.output,fun i hi=>?_⟩
 have hb:=(hk.old i (Si hi)).1
 rw [hb]
 cases ho:W.heap[i]? with
 | none=>simp
 | some o=>cases o<;>simp
end
end Go.SX
namespace Go.Proofs.YtofbdcbjpdpllaaGreatDoor
open Go Go.SX Go.SX.Nb Go.ChangeShapes Go.RowKit
set_option maxRecDepth 100000

theorem own:ownKnob Tryz.prog.godebug=none:=by kernel_rfl
theorem kids:Kids Tryz.prog (·<Tryz.prog.types.size):=kids_rows (by kernel_rfl) (by kernel_rfl)
theorem full:∀t e,t<Tryz.prog.types.size→Tryz.prog.underlying t=some (.slice e)→0<Tryz.prog.cellsOf e:=slices_full_of Tryz.prog (by kernel_rfl)
theorem xa {H:Type}:∀d:DataW H,1≤Rows.uptoBulk d
 | .lit (.string b)=>by rw [Rows.uptoBulk];omega
 | .lit (.bool _)=>by simp [Rows.uptoBulk]
 | .lit (.int _ _)=>by simp [Rows.uptoBulk]
 | .lit (.float _ _)=>by simp [Rows.uptoBulk]
 | .lit .nil=>by simp [Rows.uptoBulk]
 | .nil=>by simp [Rows.uptoBulk]
 | .ptr d=>by rw [Rows.uptoBulk];omega
 | .slice a b=>by rw [Rows.uptoBulk];omega
 | .agg a=>by rw [Rows.uptoBulk];omega
 | .iface _ d=>by rw [Rows.uptoBulk];omega
 | .map a=>by rw [Rows.uptoBulk];omega
 | .held _=>by simp [Rows.uptoBulk]
theorem Wa {H:Type}:∀l:List (DataW H),l.length≤Rows.uptoBulkAll l∧∀d∈l,Rows.uptoBulk d≤Rows.uptoBulkAll l
 | []=>⟨Nat.zero_le _,fun d h=>by cases h⟩
 | d::r=>by
  obtain ⟨h1,h2⟩:=Wa r
  have:=xa d
  rw [Rows.uptoBulkAll,List.length_cons]
  refine ⟨by omega,fun x hx=>?_⟩
  rcases List.mem_cons.1 hx with rfl|hx
  ·omega
  have:=h2 x hx;omega
theorem ABl {H:Type}:Bulk (Rows.uptoBulk (H:=H)) where
 str:=fun bs=>by rw [Rows.uptoBulk];omega
 slice:=fun elems spare=>by
  obtain ⟨h1,h2⟩:=Wa elems
  rw [Rows.uptoBulk]
  exact ⟨by omega,fun d hd=>by have:=h2 d hd;omega⟩
 agg:=fun parts d hd=>by
  have:=(Wa parts).2 d hd
  rw [Rows.uptoBulk]
  omega

/-- What the rows of this seat list. -/
def xb:List (String×DataW Unit):=Rows.invertComesUptoRow.laid
theorem r7:∀u,Tryz.prog.typeName? 3 u=some "*errors.errorString" → u=347:=by
 intro u hu
 exact typeName_ptr_named (nm := "errors.errorString") (by kernel_rfl) (by kernel_rfl) (by decide) u hu
theorem ABm {W:World} (h:laidMet Tryz.prog xb W):∃a:Addr,W.var? Tryz.prog "strconv.ErrRange" = some #[.iface 347 (.pointer (some a))]:=by
 have h':=h.tail.tail.tail.tail
 obtain ⟨a,s,h1,_⟩:=laid_sentinel (g:=1) (ti:=175) (tp:=347) (te:=349) (ts:=9) h' (by kernel_rfl) (by kernel_rfl) Tryz.underlying175 r7 Tryz.underlying347 Tryz.underlying349 rfl rfl Tryz.underlying9 (by kernel_rfl) (by kernel_rfl)
 exact ⟨a,h1⟩
theorem ABn {W:World} (h:laidMet Tryz.prog xb W):Lib.TabIs Tryz.prog W "internal/strconv.uint64pow10" .u64 Lib.pow10Tab:=
 Lib.tabIs_of_head (g:=4) (t:=315) (e:=233) (n:=20) (by kernel_rfl) (by kernel_rfl) (by kernel_rfl) (by kernel_rfl) (by kernel_rfl) (by kernel_rfl) h.tail.tail
theorem Yr {P:Program} {W:World} {n:String} {g:Nat} {cs:Array Value} (hg:P.globalNamed n=some g) (h:W.var? P n=some cs):∃t f,W.heap[g]? = some (.cells cs t f):=by
 unfold World.var? at h
 rw [hg] at h
 simp only [Option.bind_some] at h
 split at h
 ·rename_i cs' t f e
  injection h with h
  subst h
  exact ⟨t,f,e⟩
 cases h
theorem glob {W:World} [E:ErrAt] (h:W.ShapedOpen Tryz.prog) (hl:laidMet Tryz.prog xb W) (he:W.var? Tryz.prog "strconv.ErrRange" = some #[.iface 347 (.pointer (some E.b))]):Kg W:=by
 intro x hx
 have hx':x∈Ye:=hx
 unfold Ye at hx'
 simp only [List.mem_cons,List.mem_nil_iff,or_false] at hx'
 rcases hx' with rfl|rfl|rfl
 ·obtain ⟨m,hm⟩:=cell_of_shapedOpen_int (g:=0) (t:=3) (zero:=#[.int .i64 0]) (k:=.i64) h (of_decide_eq_true (by kernel_rfl)) (by kernel_rfl) rfl (by kernel_rfl) (by kernel_rfl) Tryz.underlying3
  obtain ⟨cs,hh,hs,_⟩:=h.1 0 #[.int .i64 0] 3 (of_decide_eq_true (by kernel_rfl)) (by kernel_rfl)
  have hs':cs.size=1:=hs
  have h1:0<cs.size:=by omega
  have hc:cs[0]=.int .i64 m:=by
   simp [World.cell?,hh,h1] at hm
   exact hm
  have:cs=#[.int .i64 m]:=by
   apply Array.ext
   ·simpa using hs'
   intro i h1 h2
   have:i=0:=by omega
   subst this
   simpa using hc
  rw [this] at hh
  exact ⟨_,hh,m,3,_,rfl⟩
 ·obtain ⟨t,f,e⟩:=Yr (g:=1) (by kernel_rfl) he
  exact ⟨_,e,t,f,rfl⟩
 obtain ⟨t,f,e⟩:=Yr (g:=4) (by kernel_rfl) (ABn hl)
 exact ⟨_,e,t,f,rfl⟩
end Go.Proofs.YtofbdcbjpdpllaaGreatDoor
namespace Go.SX.Nb
open Go Go.SX Go.Proofs
variable [ErrAt]
set_option maxRecDepth 4000
mutual
def depthE:Expr→Nat
 | .mk _ _ _ k=>F6 k+1
def F6:List Expr→Nat
  | []=>0
  | e::r=>max (depthE e) (F6 r)
 end
mutual
def Be (p:Expr→Bool):Expr→Bool
 | .mk o t v k=>p (.mk o t v k)&&Lr p k
def Lr (p:Expr→Bool):List Expr→Bool
  | []=>true
  | e::r=>Be p e&&Lr p r
 end
mutual
def Ps:Expr→List Expr
 | .mk o t v k=>.mk o t v k::Sj k
def Sj:List Expr→List Expr
  | []=>[]
  | e::r=>Ps e++Sj r
 end
theorem Ls (e:Expr):depthE e=F6 e.kids+1:=by cases e;rfl
theorem Db (p:Expr→Bool) (e:Expr):Be p e=(p e&&Lr p e.kids):=by cases e;rfl
theorem Qs:∀a b,Cg (a++b)=Cg a+Cg b
 | [],b=>by rw [Cz,Cg,Bt]
 | e::r,b=>by rw [Dd,Cg,Cg,Qs r b,Kr]
theorem Bk (p:Expr→Bool):∀l:List Expr,Lr p l=true↔∀y∈l,Be p y=true
 | []=>by simp [Lr]
 | e::r=>by rw [Lr,Ai,Bk p r];simp
mutual
theorem Fv:∀(d:Int) (e:Expr),(Ba d e).length=sizeE e
 | d,.mk o t v k=>by rw [Ba,sizeE,At,Wb (d+1) k,Nat.add_comm]
theorem Wb:∀(d:Int) (l:List Expr),(Bq d l).length=Cg l
  | d,[]=>rfl
  | d,e::r=>by rw [Bq,Cg,Ao,Fv d e,Wb d r]
 end
mutual
theorem Pt:∀(d:Int) (e:Expr),(Ba d e).map (·.2)=Ps e
 | d,.mk o t v k=>by rw [Ba,Ps,C9,Wc (d+1) k]
theorem Wc:∀(d:Int) (l:List Expr),(Bq d l).map (·.2)=Sj l
  | d,[]=>rfl
  | d,e::r=>by rw [Bq,Sj,Cr,Pt d e,Wc d r]
 end
mutual
theorem Ys (p:Expr→Bool):∀e:Expr,(Ps e).all p=Be p e
 | .mk o t v k=>by rw [Ps,Be,List.all_cons,Wd p k]
theorem Wd (p:Expr→Bool):∀l:List Expr,(Sj l).all p=Lr p l
  | []=>rfl
  | e::r=>by rw [Sj,Lr,List.all_append,Ys p e,Wd p r]
 end
theorem r8 (p:Expr→Bool) (d:Int) (e:Expr):((Ba d e).all fun it=>p it.2)=Be p e:=by
 rw [←Ys p e,←Pt d e,List.all_map]
 rfl
def Fl (m:Int) (L:List (Int×Expr)):Int:=L.foldl (fun m it=>max m it.1) m
mutual
theorem We:∀(d m:Int) (e:Expr),Fl m (Ba d e)=max m (d-1+depthE e)
 | d,m,.mk o t v k=>by
  rw [Ba,depthE]
  show Fl (max m d) (Bq (d+1) k)=_
  rw [Wf (d+1) (max m d) k (by omega)]
  omega
theorem Wf:∀(d m:Int) (l:List Expr),d-1≤m→Fl m (Bq d l)=max m (d-1+F6 l)
  | d,m,[],h=>by
    rw [Bq,F6]
    show m=_
    omega
  | d,m,e::r,h=>by
    rw [Bq,F6]
    unfold Fl
    rw [Zy]
    show Fl (Fl m (Ba d e)) (Bq d r)=_
    rw [We d m e,Wf d _ r (by omega)]
    omega
 end
theorem Tm (e:Expr):Fl 0 (Ba 1 e)=depthE e:=by rw [We];omega
theorem ey:∀(L:List (Int×Expr)) (m b:Int),m≤b→(Fl m L≤b↔∀it∈L,it.1≤b)
 | [],m,b,h=>by simp [Fl,h]
 | it::r,m,b,h=>by
  show Fl (max m it.1) r≤b↔_
  rcases Decidable.em (it.1≤b) with h1|h1
  ·rw [ey r (max m it.1) b (by omega)]
   simp [h1]
  constructor
  ·intro h2
   have:∀(r:List (Int×Expr)) (m:Int),m≤Fl m r:=by
    intro r
    induction r with
    | nil=>intro m;exact Int.le_refl _
    | cons a r ih=>intro m;have:=ih (max m a.1);show m≤Fl (max m a.1) r;omega
   have:=this r (max m it.1)
   omega
  intro h2
  exact absurd (h2 it (by simp)) h1
theorem ABo (e:Expr) {b:Nat}:(∀it∈Ba 1 e,it.1≤(b:Int))↔depthE e≤b:=by
 rw [←ey (Ba 1 e) 0 b (by omega),Tm]
 omega
def Fh (e:Expr):Bool:=(decide (depthE e≤30)&&decide (sizeE e≤300))&&Be Cb e
theorem Em (e:Expr):Am e=Fh e:=by
 have hpos:1≤sizeE e:=by rw [Gt];omega
 rw [Rj]
 unfold Am Fh
 rw [B5]
 simp only [Ai,decide_eq_true_eq,M4,Fv]
 rw [←ABo e,←r8 Cb 1 e,B5]
 constructor
 ·intro h
  have key:∀(k:Nat) (hk:k<(Ba 1 e).length),Cb (Ba 1 e)[k].2=true∧(Ba 1 e)[k].1≤30∧(k:Int)+1≤300:=fun k hk=>by
   have:=h k (by rw [Fv] at hk;exact hk)
   rw [bu (Ae hk)] at this
   simp only [If,Fe,K1,decide_eq_false_iff_not] at this
   exact ⟨this.1.1,by have:=this.1.2;omega,by have:=this.2;omega⟩
  refine ⟨⟨fun it hit=>?_,?_⟩,fun it hit=>?_⟩
  ·obtain ⟨k,hk,rfl⟩:=Rq hit
   exact (key k hk).2.1
  ·have:=(key (sizeE e-1) (by rw [Fv];omega)).2.2
   omega
  obtain ⟨k,hk,rfl⟩:=Rq hit
  exact (key k hk).1
 rintro ⟨⟨h1,h2⟩,h3⟩ k hk
 have hk':k<(Ba 1 e).length:=by rw [Fv];exact hk
 rw [bu (Ae hk')]
 have a1:=h1 _ (C4 hk')
 have a3:=h3 _ (C4 hk')
 have a3':Cb (Ba 1 e)[k].2=true:=a3
 rw [a3']
 simp only [If,Fe,K2,decide_eq_false_iff_not]
 exact ⟨⟨trivial,by have:(Ba 1 e)[k].1≤(30:Int):=a1;omega⟩,by omega⟩
/-- Its number is one of 64 bits. -/
def Ci (e:Expr):Bool:=decide (-9223372036854775808≤e.val.n)&&decide (e.val.n≤9223372036854775807)
/-! Names. -/
def J2 (l:List Str) (e:Expr):List Str:=if (e.op==2) && !l.contains e.text then l++[e.text] else l
def Mi (e:Expr):List Str:=(Ps e).foldl J2 []
theorem f5 (e:Expr):Mi e=(Ba 1 e).foldl (fun l it=>J2 l it.2) []:=by
 unfold Mi
 rw [←Pt 1 e,List.foldl_map]
def named (s:Str) (e:Expr):Bool:=(Ps e).any fun y=>(y.op==2)&&(y.text==s)
theorem ABp (l:List Str) (e:Expr):(J2 l e).length≤l.length+1:=by
 unfold J2;split<;>simp
theorem f7:∀(L:List Expr) (l:List Str),(L.foldl J2 l).length≤l.length+L.length
 | [],l=>by simp
 | e::r,l=>by
  have h1:=f7 r (J2 l e)
  have h2:=ABp l e
  rw [List.foldl_cons,At]
  omega
mutual
def AFc (s:Str) (y:Expr):Expr→Expr
 | .mk o t v k=>if (o==2)&&(t==s) then y else .mk o t v (ABq s y k)
def ABq (s:Str) (y:Expr):List Expr→List Expr
  | []=>[]
  | e::r=>AFc s y e::ABq s y r
 end
mutual
def eqE:Expr→Expr→Bool
 | .mk o t v k,.mk o' t' v' k'=>((((o==o')&&(t==t'))&&((v.kind==v'.kind&&v.n==v'.n)&&v.s==v'.s)))&&eqL k k'
def eqL:List Expr→List Expr→Bool
  | [],[]=>true
  | e::r,e'::r'=>eqE e e'&&eqL r r'
  | _,_=>false
 end
theorem AFd (x y:Expr):eqE x y=((((x.op==y.op)&&(x.text==y.text))&&((x.val.kind==y.val.kind&&x.val.n==y.val.n)&&x.val.s==y.val.s))&&eqL x.kids y.kids):=by
 cases x;cases y;rw [eqE];rfl
mutual
theorem c7:∀x y:Expr,eqE x y=true↔x=y
 | .mk o t v k,.mk o' t' v' k'=>by
  rw [eqE]
  simp only [Ai,beq_iff_eq,Qt k k',Expr.mk.injEq]
  constructor
  ·rintro ⟨⟨⟨rfl,rfl⟩,⟨h1,h2⟩,h3⟩,rfl⟩
   refine ⟨rfl,rfl,?_,rfl⟩
   cases v;cases v'
   simp_all
  rintro ⟨rfl,rfl,rfl,rfl⟩
  exact ⟨⟨⟨rfl,rfl⟩,⟨rfl,rfl⟩,rfl⟩,rfl⟩
theorem Qt:∀x y:List Expr,eqL x y=true↔x=y
  | [],[]=>by simp [eqL]
  | [],e::r=>by simp [eqL]
  | e::r,[]=>by simp [eqL]
  | e::r,e'::r'=>by rw [eqL,Ai,c7 e e',Qt r r',V4]
 end
theorem ABr:∀{x y:List Expr},eqL x y=true→x.length=y.length:=fun h=>by rw [(Qt _ _).1 h]
theorem xc (x:Expr):eqE x x=true:=(c7 x x).2 rfl
/-! A node by itself, and marks. -/
theorem ca {of:Str} {ws:List Str} (h:of=Nr ws) (hp:∀w∈ws,(32:UInt8)∉w) (s:Str):Oj s of=(!(s==[])&&ws.contains s):=by
 unfold Oj
 rw [eu]
 cases hb:s.contains 32 with
 | false =>
  have h2:(32:UInt8)∉s:=by simpa using hb
  rw [h,Kj s h2 ws hp,Bool.not_false,V2]
  congr 1
  rw [List.contains_eq_any_beq]
  congr 1
  funext w
  rw [Rj,beq_iff_eq,beq_iff_eq]
  exact eq_comm
 | true =>
  have h2:(32:UInt8)∈s:=by simpa using hb
  have h3:ws.contains s=false:=by
   rw [L4]
   intro h4
   exact hp s (by simpa using h4) h2
  rw [h3]
  simp
def levels:List (List Str):=[[[111,114]],[[97,110,100]],[],[[61],[33,61],[60],[60,61],[62],[62,61]],[[43],[45],[38]],[[42],[47],[37]]]
def Bz (s:Str):Int:=match levels.findIdx? (fun l=>l.contains s) with|some i=>i|none => -1
def Sk:List Str:=[[111,114],[],[97,110,100],[],[61],[33,61],[60],[60,61],[62],[62,61],[],[43],[45],[38],[],[42],[47],[37]]
theorem kq:Ok=Nr Sk:=by kernel_rfl
theorem f8:∀w∈Sk,(32:UInt8)∉w:=by decide
theorem kr (s:Str):Oj s Ok=decide (0≤Bz s):=by
 rw [ca kq f8 s]
 have h1:decide (0≤Bz s)=levels.any (fun l=>l.contains s):=by
  unfold Bz
  cases h:levels.findIdx? (fun l=>l.contains s) with
  | some i =>
   have:levels.any (fun l=>l.contains s)=true:=by
    have:=N2.1 h
    obtain ⟨hi,hp,_⟩:=this
    exact L5.2 ⟨_,C4 hi,hp⟩
   rw [this]
   simp
  | none =>
   have:=Ro.1 h
   have e:levels.any (fun l=>l.contains s)=false:=by
    rw [Pa]
    intro l hl
    rw [this l hl]
    simp
   rw [e]
   rfl
 rw [h1]
 by_cases h0:s=[]
 ·subst h0;rfl
 have:(s==[])=false:=by simpa using h0
 rw [this,Bool.not_false,P9]
 simp [levels,Sk,h0,Bool.or_assoc]
def Qu (e:Expr):Bool:=
 if e.op==1 then ((Cv e.val&&decide (0≤e.val.n))&&(e.text==[]))&&((e.kids.length:Int)==0)
 else if !(Mu e.val) then false
 else if e.op==2 then Kh e.text&&((e.kids.length:Int)==0)
 else if e.op==3 || e.op==4 then (e.text==[])&&((e.kids.length:Int)==1)
 else if e.op==5 then decide (0≤Bz e.text)&&((e.kids.length:Int)==2)
 else if e.op==6 then C8 e.text==(e.kids.length:Int)
 else false
theorem I4 (e:Expr):Cb e=Qu e:=by
 unfold Cb Qu
 rw [kr,Et]
 cases Mu e.val<;>simp
/-! What is wide. -/
def Sl (e:Expr):Bool:=((decide ((100:Int)<e.text.length) || decide ((400:Int)<e.val.s.length)) || decide ((100:Int)<e.kids.length))
/-- Among trees, when n have been seen: is one too much? -/
def P2 (l:List Expr) (n:Nat):Bool:=decide (500<n+l.length) || l.any Sl
def H7:Nat→List Expr→Nat→Bool
 | 0,l,n => !l.isEmpty
 | f+1,l,n=>if l.isEmpty then false else if P2 l n then true else if decide ((500:Int)<(l.flatMap Expr.kids).length) then true else H7 f (l.flatMap Expr.kids) (n+l.length)
theorem Wg:∀l:List Expr,Cg l=l.length+Cg (l.flatMap Expr.kids)
 | []=>rfl
 | e::r=>by
  rw [Cg,Gt,V6,Qs,Wg r,At]
  omega
theorem Wh {l:List Expr} {n:Nat} (h:P2 l n=false):n+l.length≤500∧∀e∈l,Sl e=false:=by
 unfold P2 at h
 simp only [Fe,decide_eq_false_iff_not,Pa,Rk] at h
 exact ⟨by omega,h.2⟩
theorem cb {e:Expr} (h:Sl e=false):e.text.length≤100∧e.val.s.length≤400∧e.kids.length≤100:=by
 unfold Sl at h
 simp only [Fe,decide_eq_false_iff_not] at h
 omega
theorem Yt {f:Nat} {l:List Expr} {n:Nat} (h:H7 (f+1) l n=false) (hl:l.isEmpty=false):P2 l n=false∧(l.flatMap Expr.kids).length≤500∧H7 f (l.flatMap Expr.kids) (n+l.length)=false:=by
 rw [H7,if_neg (by rw [hl];simp)] at h
 split at h
 ·cases h
 rename_i h1
 split at h
 ·cases h
 rename_i h2
 simp only [decide_eq_true_eq] at h2
 exact ⟨by simpa using h1,by omega,h⟩
theorem mo:∀(f:Nat) (l:List Expr) (n:Nat),H7 f l n=false→∀e∈l,okE f e∧Be (fun y => !Sl y) e=true
 | 0,l,n,h,e,he=>by
  have:l=[]:=by simpa [H7] using h
  subst this
  cases he
 | f+1,l,n,h,e,he=>by
  have hl:l.isEmpty=false:=by cases l<;>simp_all
  obtain ⟨h1,h2,h3⟩:=Yt h hl
  have h4:=cb ((Wh h1).2 e he)
  have ih:=mo f _ _ h3
  have hk:∀y∈e.kids,okE f y∧Be (fun y => !Sl y) y=true:=fun y hy=>ih y (List.mem_flatMap.2 ⟨e,he,hy⟩)
  refine ⟨⟨by omega,by omega,fun y hy=>(hk y hy).1⟩,?_⟩
  rw [Db,(Wh h1).2 e he,(Bk _ _).2 fun y hy=>(hk y hy).2]
  rfl
theorem Yu:∀(f:Nat) (l:List Expr) (n:Nat),n≤500→H7 f l n=false→n+Cg l≤500
 | 0,l,n,hn,h=>by
  have:l=[]:=by simpa [H7] using h
  subst this
  simpa [Cg] using hn
 | f+1,l,n,hn,h=>by
  by_cases hl:l.isEmpty=true
  ·have:l=[]:=by simpa using hl
   subst this
   simpa [Cg] using hn
  have hl':l.isEmpty=false:=by simpa using hl
  obtain ⟨h1,h2,h3⟩:=Yt h hl'
  have:=Yu f _ _ (Wh h1).1 h3
  rw [Wg l]
  omega
def xd (e:Expr):Bool:=H7 61 [e] 0
/-- A tree that is gone through. -/
structure Slim (e:Expr):Prop where
 ok:okE 61 e
 size:sizeE e≤500
 slim:Be (fun y => !Sl y) e=true
theorem ABs {e:Expr} (h:xd e=false):Slim e:=by
 obtain ⟨h1,h2⟩:=mo _ _ _ h e (by simp)
 have:=Yu _ _ _ (by decide) h
 exact ⟨h1,by simpa [Cg] using this,h2⟩
end Go.SX.Nb
namespace Go.Proofs.YtofbdcbjpdpllaaGreatDoor
open Go Go.SX Go.SX.Nb Go.ChangeShapes Go.RowKit
set_option maxRecDepth 100000
theorem kt {ys:List AV} (h:∀(i:Nat) (y:AV),ys[i]? = some y→∃e:Nb.Expr,y=Aa e∧Be Ci e=true):∃l:List Nb.Expr,ys=l.map Aa∧Lr Ci l=true:=by
 induction ys with
 | nil=>exact ⟨[],rfl,rfl⟩
 | cons y ys ih =>
  obtain ⟨e,rfl,he⟩:=h 0 y rfl
  obtain ⟨l,rfl,hl⟩:=ih (fun i z hz=>h (i+1) z hz)
  exact ⟨e::l,rfl,by rw [Lr,he,hl];rfl⟩
theorem mp {H:Type} [ErrAt] (d:DataW H) (y:AV) (h:DRep Tryz.prog 23 d y):∃v:Val,y=Bp v ∧ -9223372036854775808≤v.n∧v.n≤9223372036854775807:=by
 obtain ⟨ys,hn,rfl,hh⟩:=h.struct' ABl Tryz.underlying23
 match ys,hn with
 | [y0,y1,y2],_ =>
  obtain ⟨d0,b0,h0⟩:=hh 0 _ y0 rfl rfl
  obtain ⟨d1,b1,h1⟩:=hh 1 _ y1 rfl rfl
  obtain ⟨d2,b2,h2⟩:=hh 2 _ y2 rfl rfl
  obtain ⟨k,rfl,rfl,_⟩:=h0.int' Tryz.underlying3
  obtain ⟨n,rfl,rfl,hn1,hn2⟩:=h1.int' Tryz.underlying2
  obtain ⟨s,rfl,rfl⟩:=h2.str' Tryz.underlying9
  exact ⟨⟨k,n,s⟩,rfl,hn1,hn2⟩
theorem xe {H:Type} [ErrAt] {t:TypeId} {d:DataW H} {y:AV} (h:DRep Tryz.prog t d y):(t=26→∃e:Nb.Expr,y=Aa e∧Be Ci e=true)∧(t=24→∃l:List Nb.Expr,y=.slice false 6 (l.map Aa)∧Lr Ci l=true):=by
 induction h with
 | int hu _=>exact ⟨fun e=>(by subst e;rw [Tryz.underlying26] at hu;cases hu),fun e=>by subst e;rw [Tryz.underlying24] at hu;cases hu⟩
 | bool hu=>exact ⟨fun e=>(by subst e;rw [Tryz.underlying26] at hu;cases hu),fun e=>by subst e;rw [Tryz.underlying24] at hu;cases hu⟩
 | str hu=>exact ⟨fun e=>(by subst e;rw [Tryz.underlying26] at hu;cases hu),fun e=>by subst e;rw [Tryz.underlying24] at hu;cases hu⟩
 | nil hu =>
  refine ⟨fun e=>(by subst e;rw [Tryz.underlying26] at hu;cases hu),fun e=>?_⟩
  subst e
  rw [Tryz.underlying24] at hu
  injection hu with hu
  injection hu with hu
  subst hu
  exact ⟨[],by rw [show Tryz.prog.cellsOf 26=6 by kernel_rfl];rfl,rfl⟩
 | slice hu hn hh ih =>
  refine ⟨fun e=>(by subst e;rw [Tryz.underlying26] at hu;cases hu),fun e=>?_⟩
  subst e
  rw [Tryz.underlying24] at hu
  injection hu with hu
  injection hu with hu
  subst hu
  rename_i elems spare ys
  obtain ⟨l,rfl,hl⟩:=kt (ys:=ys) (fun i y hy=>by
   have hlt:i<elems.length:=by rw [←hn];exact (List.getElem?_eq_some_iff.1 hy).1
   exact (ih i elems[i] y (List.getElem?_eq_getElem hlt) hy).1 rfl)
  exact ⟨l,by rw [show Tryz.prog.cellsOf 26=6 by kernel_rfl],hl⟩
 | struct hu hn hn' hh ih =>
  refine ⟨fun e=>?_,fun e=>by subst e;rw [Tryz.underlying24] at hu;cases hu⟩
  subst e
  rw [Tryz.underlying26] at hu
  injection hu with hu
  injection hu with hu
  subst hu
  rename_i parts ys
  match parts,hn,ys,hn' with
  | [p0,p1,p2,p3],_,[y0,y1,y2,y3],_ =>
   obtain ⟨o,rfl,rfl,_⟩:=(hh 0 _ p0 y0 rfl rfl rfl).int' Tryz.underlying3
   obtain ⟨s,rfl,rfl⟩:=(hh 1 _ p1 y1 rfl rfl rfl).str' Tryz.underlying9
   obtain ⟨v,rfl,hv1,hv2⟩:=mp p2 y2 (hh 2 _ p2 y2 rfl rfl rfl)
   obtain ⟨l,rfl,hl⟩:=(ih 3 _ p3 y3 rfl rfl rfl).2 rfl
   refine ⟨.mk o s v l,?_,?_⟩
   ·rw [Ad];rfl
   rw [Be,hl,Bool.and_true]
   show (decide (-9223372036854775808≤v.n)&&decide (v.n≤9223372036854775807))=true
   simp [hv1,hv2]
theorem xf {H:Type} [ErrAt] (d:DataW H) (y:AV) (h:DRep Tryz.prog 26 d y):∃e:Nb.Expr,y=Aa e∧Be Ci e=true:=(xe h).1 rfl
end Go.Proofs.YtofbdcbjpdpllaaGreatDoor
namespace Go.SX.Nb
open Go Go.SX Go.Proofs
variable [ErrAt]
set_option maxRecDepth 4000
/-- The lexer from a place between two words on. -/
def AKp (f q:Nat) (s:Str):List (Tok×Int):=Ik f (q+gapM s) (s.drop (gapM s))
theorem f9 {f q:Nat} {s:Str} (h:s≠[]):∃(n:Nat),Ik (f+1) q s=(⟨(Cl s).1,(Cl s).2.1,q⟩,(Cl s).2.2.2)::(if (Cl s).2.2.2=0 then AKp f (q+n) (s.drop n) else [])∧((Cl s).2.2.2=0→(Cl s).2.2.1=(n:Int)∧1≤n∧n≤s.length):=by
 refine ⟨(Cl s).2.2.1.toNat,?_,fun he=>?_⟩
 ·rw [Nq h]
  simp only [beq_iff_eq]
  rfl
 obtain ⟨n,h1,h2,h3⟩:=mm (s:=s) (by cases s with|nil=>exact absurd rfl h|cons c r=>simp) he
 rw [h1]
 exact ⟨rfl,by simpa using h2,by simpa using h3⟩
/-! ### Gaps -/
/-! ### Words -/
theorem ABt {s:Str} (h:(Eg s).2.1=0):s.length≤4000∧(∀it∈Ce s,it.2=0)∧Eg s=((Ce s).map (·.1)++[⟨0,[],s.length⟩],0,0):=by
 unfold Eg at h ⊢
 split at h
 ·exact absurd h (show ¬(3:Int)=0 by decide)
 rename_i hl
 rw [if_neg hl]
 cases hf:(Ce s).find? (fun it=>it.2 != 0) with
 | some it =>
  rw [hf] at h
  have:=V5 hf
  simp at this
  exact absurd h this
 | none =>
  rw [M3] at hf
  refine ⟨by omega,fun it hit=>by simpa using hf it hit,rfl⟩
def fc (c:UInt8):Str:=if c=39 then [39,39] else [c]
def Ow (t:Str):Str:=t.flatMap fc
theorem fe:∀t:Str,(Ow t).length≤2*t.length
 | []=>Al _
 | c::r=>by
  have:=fe r
  unfold Ow at this ⊢
  rw [V6,Ao,At]
  have h:(fc c).length≤2:=by unfold fc;split<;>simp
  omega
theorem Sm (c:UInt8) (r:Str):Ow (c::r)=fc c++Ow r:=by unfold Ow;rw [V6]
theorem mq:∀s:Str,(Lib.index s [39] = -1∧Ow s=s)∨∃i:Nat,Lib.index s [39]=(i:Int)∧i<s.length∧Ow s=s.take i++[39,39]++Ow (s.drop (i+1))
 | []=>.inl ⟨rfl,rfl⟩
 | b::l=>by
  by_cases hb:b=39
  ·subst hb
   refine .inr ⟨0,by simp [Lib.index,List.isPrefixOf],by simp,?_⟩
   rw [Sm]
   simp [fc]
  have hp:([39]:Str).isPrefixOf (b::l)=false:=by
   simp [List.isPrefixOf,Ne.symm hb]
  have hd:Ow (b::l)=b::Ow l:=by
   rw [Sm,fc,if_neg hb]
   rfl
  rcases mq l with ⟨h1,h2⟩|⟨i,h1,h2,h3⟩
  ·refine .inl ⟨?_,by rw [hd,h2]⟩
   rw [Lib.index,hp,h1];rfl
  refine .inr ⟨i+1,?_,by simp;omega,?_⟩
  ·rw [Lib.index,hp,h1,if_neg (by simp),if_neg (by simp)]
   rfl
  rw [hd,h3]
  simp
theorem Qv:∀(n:Nat) (s:Str),s.length≤n→Lib.replaceK [39] [39,39] (Lib.count s [39]) s=Ow s
 | n,s,hn=>by
  rcases mq s with ⟨h1,h2⟩|⟨i,h1,h2,h3⟩
  ·rw [Lib.count_miss h1,h2];rfl
  cases n with
  | zero=>omega
  | succ n =>
   rw [Lib.count_hit (by decide) h1,Nat.add_comm,Lib.replaceK_hit _ _ _ _ i h1]
   have e:i+([39]:Str).length=i+1:=rfl
   rw [e,Qv n (s.drop (i+1)) (by rw [Gm];omega),h3]
theorem Tn (s:Str):Lib.replaceAll s [39] [39,39]=Ow s:=by
 unfold Lib.replaceAll Lib.replace
 rw [if_neg (by decide)]
 have e:Lib.replaceNum s [39] (-1)=Lib.count s [39]:=by unfold Lib.replaceNum;rw [if_pos (.inl (by decide))]
 rw [e]
 exact Qv _ s (Al _)
def mr (t:Tok):Str:=if t.kind=4 then [39]++Ow t.text++[39] else t.text
theorem ku {q:Str} (h0:q.headD 0=39) (h1:1≤q.length) (h:(I3 q).2=0):[39]++Ow (I3 q).1.s++[39]=q:=by
 cases q with
 | nil=>simp at h1
 | cons c r =>
  have hc:c=39:=h0
  subst hc
  unfold I3 at h ⊢
  have n1:((39::r:Str)==[110,117,108,108])=false:=by rw [beq_eq_false_iff_ne];intro e;injection e with e;exact absurd e (by decide)
  have n2:((39::r:Str)==[116,114,117,101])=false:=by rw [beq_eq_false_iff_ne];intro e;injection e with e;exact absurd e (by decide)
  have n3:((39::r:Str)==[102,97,108,115,101])=false:=by rw [beq_eq_false_iff_ne];intro e;injection e with e;exact absurd e (by decide)
  rw [n1,n2,n3] at h ⊢
  simp only [Bd,if_false,Bool.or_self] at h ⊢
  by_cases hq:Yj (39::r)=true
  ·rw [if_pos hq] at h ⊢
   unfold ee at h ⊢
   split at h
   ·exact absurd h (show ¬(7:Int)=0 by decide)
   rename_i hp
   rw [if_neg hp]
   have hp':Gs (Vu (39::r))=39::r:=by simpa using hp
   have hk:(Vu (39::r)).kind=2:=rfl
   show [39]++Ow (Vu (39::r)).s++[39]=39::r
   generalize Vu (39::r)=v at hp' hk
   have hne:Gs v≠[]:=by rw [hp'];simp
   rw [←hp']
   unfold Gs at hne ⊢
   split at hne
   ·exact absurd rfl hne
   rename_i hpl
   rw [if_neg hpl,hk,if_neg (by decide),if_pos (by decide),Tn]
  rw [if_neg hq] at h
  have hd:Hf (39::r)=true:=by
   unfold Hf
   have e:Ms (39::r)=39::r:=by
    rcases Tg (39::r) with ⟨_,h4⟩|⟨r',h3,_⟩
    ·exact h4
    injection h3 with h3;exact absurd h3 (by decide)
   rw [e]
   have:(Lib.trimS (39::r) digs==[])=false:=by
    rw [beq_eq_false_iff_ne]
    intro e
    rw [Yf] at e
    exact absurd (e 39 (by simp)) (by decide)
   rw [this]
   simp
  have hn:C1 (39::r)=(0,6):=by unfold C1;rw [if_pos hd]
  rw [hn] at h
  simp at h
theorem Y3 (s:Str) (m:Nat):s.take (s.take m).length=s.take m:=by
 rw [Da]
 rcases Nat.le_total m s.length with h|h
 ·rw [m7 h]
 rw [Nat.min_eq_right h,Fa (Al _),Fa h]
theorem Nu (s of:Str):s.take (E0 s of).length=E0 s of:=by
 unfold E0
 exact Y3 s _
/-- What a word's print spells is what was read. -/
theorem kv {s:Str} {n p:Nat} (h0:1≤s.length) (he:(Cl s).2.2.2=0) (hn:(Cl s).2.2.1=(n:Int)):mr ⟨(Cl s).1,(Cl s).2.1,p⟩=s.take n:=by
 cases s with
 | nil=>simp at h0
 | cons c r =>
  unfold Cl at he hn ⊢
  by_cases c1:decide (0<Qn ((c::r).take 1) letters)=true
  ·rw [if_pos c1] at he hn
   simp only [if_pos c1]
   unfold Po at he hn ⊢
   by_cases r1:Gw (E0 (c::r) tails)=true
   ·rw [if_pos r1] at hn
    simp only [if_pos r1]
    have hn':(((E0 (c::r) tails).length:Nat):Int)=n:=hn
    have e:n=(E0 (c::r) tails).length:=by omega
    rw [e,Nu]
    rfl
   rw [if_neg r1] at he hn
   simp only [if_neg r1]
   by_cases r2:(!Cx (E0 (c::r) tails))=true
   ·rw [if_pos r2] at he;exact absurd he (show ¬(3:Int)=0 by decide)
   rw [if_neg r2] at hn
   simp only [if_neg r2]
   have hn':(((E0 (c::r) tails).length:Nat):Int)=n:=hn
   have e:n=(E0 (c::r) tails).length:=by omega
   rw [e,Nu]
   rfl
  rw [if_neg c1] at he hn
  simp only [if_neg c1]
  by_cases c2:decide (0<Qn ((c::r).take 1) digs)=true
  ·rw [if_pos c2] at he hn
   simp only [if_pos c2]
   have hn':(((E0 (c::r) digs).length:Nat):Int)=n:=hn
   have e:n=(E0 (c::r) digs).length:=by omega
   rw [e,Nu]
   rfl
  rw [if_neg c2] at he hn
  simp only [if_neg c2]
  by_cases c3:(((((c::r)).getD 0 0).toNat:Int)==39)=true
  ·rw [if_pos c3] at he hn
   simp only [if_pos c3]
   have hc:c=39:=by
    have c3':((c.toNat:Int)==39)=true:=c3
    exact Qf.1 (by have:(39:UInt8).toNat=39:=rfl;simp at c3';omega)
   unfold Kx at he hn ⊢
   cases hq:Do ((c::r).drop 1) with
   | none=>rw [hq] at he;exact absurd he (show ¬(7:Int)=0 by decide)
   | some m =>
    rw [hq] at he hn
    simp only at he hn ⊢
    split at he
    ·exact absurd he (show ¬(3:Int)=0 by decide)
    rename_i hr
    rw [if_neg hr] at hn
    simp only [if_neg hr]
    have hm':(((m+1:Nat)):Int)=n:=hn
    have hm:n=m+1:=by omega
    subst hm
    have hr':(I3 ((c::r).take (m+1))).2=0:=by simpa using hr
    have:=ku (q:=(c::r).take (m+1)) (by rw [hc];rfl) (by simp) hr'
    unfold mr
    rw [if_pos rfl]
    exact this
  rw [if_neg c3] at he hn
  simp only [if_neg c3]
  unfold Vz at he hn ⊢
  split at hn
  ·rename_i h2
   simp only [if_pos h2]
   have hn':(2:Int)=n:=hn
   have:n=2:=by omega
   subst this
   rfl
  rename_i h2
  rw [if_neg h2] at he
  simp only [if_neg h2]
  split at hn
  ·rename_i h3
   simp only [if_pos h3]
   have hn':(1:Int)=n:=hn
   have:n=1:=by omega
   subst this
   rfl
  rename_i h3
  rw [if_neg h3] at he
  exact absurd he (show ¬(7:Int)=0 by decide)
/-! What is printed of columns, word by word. -/
structure ColOk (x:Col):Prop where
 name:Cx x.name=true
 lo:1≤x.kind
 hi:x.kind≤3
def ktT (t:Tok):Int×Str:=(t.kind,t.text)
theorem wrap_u64 {n:Int} (h1:0≤n) (h2:n<18446744073709551616):IntKind.u64.wrap n=n:=by
 have e1:(2 ^ IntKind.u64.bits:Int)=18446744073709551616:=rfl
 have e3:IntKind.u64.signed=false:=rfl
 unfold IntKind.wrap
 simp only [e1,e3,Zu]
 simp
 omega
theorem r9 (n:Int):0≤IntKind.u64.wrap n∧IntKind.u64.wrap n<18446744073709551616:=by
 have e1:(2 ^ IntKind.u64.bits:Int)=18446744073709551616:=rfl
 have e3:IntKind.u64.signed=false:=rfl
 unfold IntKind.wrap
 simp only [e1,e3,Zu]
 simp
 omega
theorem AIs (m:Int) (N:Nat) (h1:1≤N) (hN:N≤100000):∃K:Nat,K<N∧IntKind.i64.wrap ((IntKind.u64.wrap m).tmod (IntKind.u64.wrap (N:Int)))=(K:Int):=by
 have hr:=r9 m
 rw [wrap_u64 (n:=(N:Int)) (by omega) (by omega),Int.tmod_eq_emod_of_nonneg hr.1]
 have g1:=Int.emod_nonneg (IntKind.u64.wrap m) (b:=(N:Int)) (by omega)
 have g2:=Int.emod_lt_of_pos (IntKind.u64.wrap m) (b:=(N:Int)) (by omega)
 refine ⟨((IntKind.u64.wrap m) % (N:Int)).toNat,by omega,?_⟩
 rw [wrap_i64 (by omega) (by omega)]
 omega
theorem mt:∀t:Str,t.length≤(Ow t).length
 | []=>Al _
 | c::r=>by
  have:=mt r
  rw [Sm,Ao,At]
  have h:1≤(fc c).length:=by unfold fc;split<;>simp
  omega
theorem ABu (t:Tok):t.text.length≤(mr t).length:=by
 unfold mr
 split
 ·have:=mt t.text
  simp only [Ao,At,B3]
  omega
 exact Al _
theorem rc {n k:Nat} {o:Bool} {l:List Str} {z:Str}:Low n (.slice o k (l.map Ah++[Ah z])):=by
 refine .slice _ _ _ (fun y hy=>?_)
 rcases Ds.1 hy with hy|hy
 ·obtain ⟨a,_,rfl⟩:=Cw.1 hy
  intro z hz
  rw [B2.1 (show z∈[Ah a] from hz)]
  exact .v _
 rw [B2.1 hy]
 intro z' hz
 rw [B2.1 (show z'∈[Ah z] from hz)]
 exact .v _
/-- Words with an end. -/
structure TokEnd (l:List Tok):Prop where
 split:∃L z,l=L++[z]∧z.kind=0∧∀t∈L,t.kind≠0
 texts:∀t∈l,t.text.length≤1048576
theorem TokEnd.pos {l:List Tok} (h:TokEnd l):1≤l.length:=by
 obtain ⟨L,z,rfl,_,_⟩:=h.split
 simp
theorem TokEnd.text {l:List Tok} (h:TokEnd l) (i:Nat):(Av l i).text.length≤1048576:=by
 unfold Av
 rcases Bo i l.length with hi|hi
 ·rw [Ch,Ae hi]
  exact h.texts _ (C4 hi)
 rw [Ch,Gb hi]
 exact jm
theorem ABv (s:Str) (he:(Cl s).2.2.2=0):(Cl s).1≠0:=by
 revert he
 unfold Cl Po br Kx Vz
 repeat' split
 all_goals simp
theorem ff:∀(f q:Nat) (s:Str),(∀it∈Ik f q s,it.2=0)→∀it∈Ik f q s,it.1.kind≠0∧it.1.text.length≤s.length
 | 0,_,_,_,it,hm=>by cases hm
 | f+1,q,s,h,it,hm=>by
  by_cases hs:s=[]
  ·subst hs;cases hm
  obtain ⟨n,h1,h2⟩:=f9 (f:=f) (q:=q) hs
  rw [h1] at hm h
  have h0:(Cl s).2.2.2=0:=h (⟨(Cl s).1,(Cl s).2.1,q⟩,(Cl s).2.2.2) (Hw ..)
  obtain ⟨hn,hn1,hn2⟩:=h2 h0
  rw [if_pos h0] at hm h
  rcases Bj.1 hm with rfl|hm
  ·refine ⟨ABv s h0,?_⟩
   have hs1:1≤s.length:=by cases s with|nil=>exact absurd rfl hs|cons c r=>simp
   have:=kv (p:=q) hs1 h0 hn
   have h3:=ABu ⟨(Cl s).1,(Cl s).2.1,q⟩
   rw [this] at h3
   simp only [Da] at h3
   show (Cl s).2.1.length≤s.length
   omega
  have:=ff f _ _ (fun it hit=>h it (Jo _ hit)) it hm
  simp only [Gm] at this
  exact ⟨this.1,by omega⟩
theorem mu {s:Str} (h:(Eg s).2.1=0):TokEnd (Eg s).1:=by
 by_cases h4:4000<s.length
 ·unfold Eg at h
  rw [if_pos h4] at h
  exact we
 have e:Eg s=((Ce s).map (·.1)++[⟨0,[],s.length⟩],0,0)∧∀it∈Ce s,it.2=0:=by
  unfold Eg at h ⊢
  rw [if_neg h4] at h ⊢
  cases hf:(Ce s).find? (fun it=>it.2 != 0) with
  | none =>
   rw [M3] at hf
   exact ⟨rfl,fun it hit=>by simpa using hf it hit⟩
  | some it =>
   rw [hf] at h
   have:=V5 hf
   simp only [bne_iff_ne] at this
   exact absurd h this
 obtain ⟨e,hz⟩:=e
 have hnz:=ff _ _ _ hz
 rw [e]
 refine ⟨⟨_,_,rfl,rfl,fun t ht=>?_⟩,fun t ht=>?_⟩
 ·obtain ⟨it,hit,rfl⟩:=Cw.1 ht
  exact (hnz it hit).1
 rcases Ds.1 ht with ht|ht
 ·obtain ⟨it,hit,rfl⟩:=Cw.1 ht
  have:=(hnz it hit).2
  simp only [Gm] at this
  omega
 have e:t=⟨0,[],s.length⟩:=by simpa using ht
 subst e
 exact jm
/-! What is printed of a schema is read. -/
/-- What goes together: names of their own. -/
theorem fg {c:List Col} (h:Ic c=true):(∀y∈c,ColOk y)∧(c.map (·.name)).Nodup:=by
 rw [Vs] at h
 have hat:∀(j:Nat) (y:Col),c[j]? = some y→Kh y.name=true∧1≤y.kind∧y.kind≤3∧Br y.name c=(j:Int):=by
  intro j y hj
  have:=h j y hj
  unfold dz at this
  simp only [If,Fe,K1,decide_eq_false_iff_not,bne_eq_false_iff_eq] at this
  obtain ⟨⟨⟨h1,h2⟩,h3⟩,h4⟩:=this
  exact ⟨h1,by omega,by omega,h4⟩
 refine ⟨fun y hy=>?_,?_⟩
 ·obtain ⟨j,hj⟩:=Ct hy
  obtain ⟨h1,h2,h3,_⟩:=hat j y hj
  exact ⟨by rw [Et];exact h1,h2,h3⟩
 show List.Pairwise _ _
 rw [m4]
 intro i j hi hj hij e
 simp only [Au] at hi hj
 simp only [N3] at e
 have e1:=(hat i c[i] (Ae hi)).2.2.2
 have e2:=(hat j c[j] (Ae hj)).2.2.2
 rw [e] at e1
 omega
theorem xg {c:List Col} (h:Lf c=true):c.length≤12∧(∀y∈c,ColOk y)∧(c.map (·.name)).Nodup:=by
 rw [H6] at h
 unfold Ee at h
 rw [Ai] at h
 obtain ⟨h1,h2⟩:=h
 have:=of_decide_eq_true h1
 exact ⟨by omega,fg h2⟩
theorem ABw {c:List Col} (h:Lp c=false):OkCols c:=by
 unfold Lp at h
 simp only [Fe,decide_eq_false_iff_not,Pa,decide_eq_true_eq] at h
 refine ⟨by omega,fun y hy=>?_⟩
 have:=h.2 y hy
 omega
def Jl {α:Type} [BEq α] (v:α) (l:List α):Int:=match l.findIdx? (·==v) with|some i=>i|none => -1
theorem AFe {α:Type} [BEq α] [LawfulBEq α] {v:α} {l:List α} {x:Nat} (h:x<l.length) (h1:l[x]=v) (h2:∀(j:Nat) (y:α),j<x→l[j]? = some y→¬(y=v)):Jl v l=x:=by
 have:l.findIdx? (·==v)=some x:=by
  rw [N2]
  exact ⟨h,by simpa using h1,fun j hj=>by simpa using h2 j l[j] hj (Ae _)⟩
 simp [Jl,this]
theorem xh {α:Type} [BEq α] [LawfulBEq α] {v:α} {l:List α} (h:∀(j:Nat) (y:α),l[j]? = some y→¬(y=v)):Jl v l = -1:=by
 have:l.findIdx? (·==v)=none:=by
  rw [Ro]
  intro y hy
  obtain ⟨j,hj⟩:=Ct hy
  simpa using h j y hj
 simp [Jl,this]
theorem cd {α:Type} [BEq α] [LawfulBEq α] (v:α) (l:List α):decide (0≤Jl v l)=l.contains v:=by
 unfold Jl
 cases h:l.findIdx? (·==v) with
 | none =>
  rw [Ro] at h
  have:l.contains v=false:=by
   rw [L4]
   intro hc
   have:=h v (by simpa using hc)
   simp at this
  rw [this];rfl
 | some i =>
  rw [N2] at h
  obtain ⟨hi,e,_⟩:=h
  have:l.contains v=true:=by
   have:l[i]=v:=by simpa using e
   rw [←this]
   simp
  rw [this]
  simp only [decide_eq_true_eq]
  omega
theorem c70 (l:List Str) (v:Str) (hl:l.length≤1048576) (Hp:List AObj):AFun Tryz.prog 70 [Ho l,Ah v] Hp (A4 (Jl v l)):=by
 refine Ak [.tmp 4] [0,1] Tryz.func70 Tryz.ntmps70 (fun d=>?_)
 refine pz ?_
 refine Dp (α:=Nat) (fun x=>⟨19,Af 0 (Ho l) (Af 1 (Ah v) (Af 7 (A4 l.length) (Af 8 (A4 (x:Nat)) (fun _=>.any)))),Hp,[],[],none⟩) (fun x=>x≤l.length∧∀(j:Nat) (y:Str),j<x→l[j]? = some y→¬(y=v)) (fun x=>l.length-x) (0) (by simp) (Co (by simp)) rfl (fun x hx=>?_)
 refine pc ?_
 refine Dn (fun ht9=>?_) (fun ht9=>?_)
 ·have hlt:x<l.length:=by simpa using ht9
  refine pv ?_
  refine A5 (h:=Ap (x) (Ah l[x]) (fun _=>Bv hlt)) (hr:=?_)
  refine Z0 ?_;refine qc ?_
  refine A3 (fun ht16=>?_) (fun ht16=>?_)
  ·refine jh ?_;refine Z97 ?_;exact A7 (An A6) ⟨by rw [AFe hlt (by simpa using (Eq.symm (by simpa using ht16):l[x]=v)) hx.2],rfl⟩
  refine Z68 ?_;refine A2 [0,1,7,8] ?_;exact Cd (x+1) ⟨hlt,Fg hlt hx.2 (fun e=>by rw [e] at ht16;simp at ht16)⟩ (by omega) (H4 rfl)
 refine Z39 ?_;refine Z65 ?_;exact A7 (An A6) ⟨by rw [xh (Qm (by simp at ht9;omega) hx.2)],rfl⟩

theorem c96 (l:List Str) (v:Str) (hl:l.length≤1048576) (Hp:List AObj):AFun Tryz.prog 96 [Ho l,Ah v] Hp (B6 (l.contains v)):=by
 refine Ak [.tmp 4] [0,1] Tryz.func96 Tryz.ntmps96 (fun d=>?_)
 refine Z49 ?_;refine Z1 ?_;refine A8 Tryz.call70 (c70 l v hl _) ?_;refine Z0 ?_;refine Z21 ?_;exact A7 (An A6) ⟨by rw [cd],rfl⟩

theorem rd {n k:Nat} {o:Bool} {l:List Col} {z:Col}:Low n (.slice o k (l.map El++[El z])):=by
 refine .slice _ _ _ (fun y hy=>?_)
 have key:∀c:Col,∀w∈(El c).cells,Low n w:=by
  intro c w hw
  have hw':w∈[AV.v (sv c.name),AV.v (.int .i64 c.kind)]:=hw
  simp only [Bj,Hy,or_false] at hw'
  rcases hw' with rfl|rfl
  ·exact .v _
  exact .v _
 rcases Ds.1 hy with hy|hy
 ·obtain ⟨a,_,rfl⟩:=Cw.1 hy
  exact key a
 rw [B2.1 hy]
 exact key z
def Om (c:List Col) (take:List Str) (j:Nat) (nm:Str):Bool := !(decide (Br nm c<0) || (Jl nm take != (j:Int)))
def I5 (c:List Col) (take:List Str):Bool:=take.zipIdx.all fun x=>Om c take x.2 x.1
theorem takenM_true {c:List Col} {take:List Str}:I5 c take=true↔∀(j:Nat) (y:Str),take[j]? = some y→Om c take j y=true:=Pm
def Qw (c:List Col) (x:Nat) (y:Col):Bool := !((!Kh y.name) || (Br y.name c != (x:Int)))
def Kk (c:List Col):Bool:=c.zipIdx.all fun x=>Qw c x.2 x.1
theorem namedC_true {c:List Col}:Kk c=true↔∀(j:Nat) (y:Col),c[j]? = some y→Qw c j y=true:=Pm
def Df (c:List Col) (take:List Str):List Col:=c.filter fun y => !take.contains y.name
theorem ABx {c:List Col} {take:List Str} {k:Nat} {y:Col} (h:c[k]? = some y) (hn:take.contains y.name=false):Df (c.take (k+1)) take=Df (c.take k) take++[y]:=by
 unfold Df
 have e:c.take (k+1)=c.take k++[y]:=by rw [aj,h];rfl
 have hm:¬y.name∈take:=by simpa using hn
 rw [e,Zx]
 simp [Rn,hm]
theorem re {c:List Col} {take:List Str} {k:Nat} {y:Col} (h:c[k]? = some y) (hn:take.contains y.name=true):Df (c.take (k+1)) take=Df (c.take k) take:=by
 unfold Df
 have e:c.take (k+1)=c.take k++[y]:=by rw [aj,h];rfl
 have hm:y.name∈take:=by simpa using hn
 rw [e,Zx]
 simp [Rn,hm]
theorem Nv (c:List Col) (take:List Str):(Df c take).length≤c.length:=um _ _
def Dh (c:List Col) (take:List Str) (give:List Col):List Col×Int:=
 if Ee c=false then ([],1) else if I5 c take=false then ([],9) else if Kk (Df c take++give)=false then ([],9)
 else if Ic (Df c take++give)=false then ([],10) else if 12<(Df c take++give).length then ([],3) else (Df c take++give,0)
theorem xi {c:List Col} {take:List Str} {give:List Col} (h:Ee c=false):Dh c take give=([],1):=by unfold Dh;rw [if_pos h]
theorem xj {c:List Col} {take:List Str} {give:List Col} (h:Ee c=true) (h2:I5 c take=false):Dh c take give=([],9):=by unfold Dh;rw [if_neg (by rw [h];simp),if_pos h2]
theorem xl {c:List Col} {take:List Str} {give out:List Col} (h:Ee c=true) (h2:I5 c take=true) (ho:Df c take++give=out) (h3:Kk out=false):Dh c take give=([],9):=by
 unfold Dh;rw [ho,if_neg (by rw [h];simp),if_neg (by rw [h2];simp),if_pos h3]
theorem xm {c:List Col} {take:List Str} {give out:List Col} (h:Ee c=true) (h2:I5 c take=true) (ho:Df c take++give=out) (h3:Kk out=true) (h4:Ic out=false):Dh c take give=([],10):=by
 unfold Dh;rw [ho,if_neg (by rw [h];simp),if_neg (by rw [h2];simp),if_neg (by rw [h3];simp),if_pos h4]
theorem xn {c:List Col} {take:List Str} {give out:List Col} (h:Ee c=true) (h2:I5 c take=true) (ho:Df c take++give=out) (h3:Kk out=true) (h4:Ic out=true) (h5:12<out.length):Dh c take give=([],3):=by
 unfold Dh;rw [ho,if_neg (by rw [h];simp),if_neg (by rw [h2];simp),if_neg (by rw [h3];simp),if_neg (by rw [h4];simp),if_pos h5]
theorem xp {c:List Col} {take:List Str} {give out:List Col} (h:Ee c=true) (h2:I5 c take=true) (ho:Df c take++give=out) (h3:Kk out=true) (h4:Ic out=true) (h5:¬12<out.length):Dh c take give=(out,0):=by
 unfold Dh;rw [ho,if_neg (by rw [h];simp),if_neg (by rw [h2];simp),if_neg (by rw [h3];simp),if_neg (by rw [h4];simp),if_neg h5]
theorem Sn {c:List Col} (h:Ee c=true):c.length≤12:=by
 unfold Ee at h
 simp at h
 omega
theorem xq {c give:List Col} {take:List Str} {out:List Col} (hc:OkCols c) (h:Ee c=true) (hg:OkCols give) (hg2:give.length≤1000000) (ho:Df c take++give=out):OkCols out:=by
 subst ho
 have h1:=Nv c take
 have h2:=Sn h
 refine ⟨by simp only [Ao];omega,fun y hy=>?_⟩
 rcases Ds.1 hy with hy|hy
 ·exact hc.2 y ((Uc.1 hy).1)
 exact hg.2 y hy
theorem AKq (c:List Col) (hc:OkCols c) (take:List Str) (ht:take.length≤1048576) (Hp:List AObj):AFun Tryz.prog 241 [Ax c,Ho take] Hp (B6 (I5 c take)):=by
 refine Ak [.tmp 4] [0,1] Tryz.func241 Tryz.ntmps241 (fun d=>?_)
 refine Z49 ?_;refine Z34 ?_;refine A2 [0,1,7,8,9] ?_
 refine Dp (α:=Nat) (fun x=>⟨26,Af 0 (Ax c) (Af 1 (Ho take) (Af 7 (Ho take) (Af 8 (A4 take.length) (Af 9 (A4 (x:Nat)) (fun _=>.any))))),Hp,[],[],none⟩) (fun x=>x≤take.length∧∀(j:Nat) (y:Str),j<x→take[j]? = some y→Om c take j y=true) (fun x=>take.length-x) (0) (by simp) (Co (by simp)) rfl (fun x hx=>?_)
 refine Z2 ?_;refine A2 [0,1,7,8,9,10] ?_
 refine Dn (fun ht10=>?_) (fun ht10=>?_)
 ·have hlt:x<take.length:=by simpa using ht10
  refine Pk ?_
  refine A5 (h:=Ap (x) (Ah take[x]) (fun _=>Bv hlt)) (hr:=?_)
  refine Z29 ?_;refine A2 [0,1,5,6,7,8,9] ?_;refine Z1 ?_;refine A8 Tryz.call58 (c58 c hc _ _) ?_;refine S3 ?_;refine C7 Tryz.call70 (fun hB=>c70 take _ ht _) ?_;refine ji ?_;refine A2 [0,1,7,8,9,24] ?_
  refine A3 (fun ht24=>?_) (fun ht24=>?_)
  ·refine Z65 ?_;refine Z97 ?_
   exact A7 (An A6) ⟨by rw [show I5 c take=false from L4.2 fun h=>by have:=takenM_true.1 h x take[x] (Ae hlt);unfold Om at this;rw [ht24] at this;cases this],rfl⟩
  refine Z68 ?_;refine A2 [0,1,7,8,9] ?_;exact Cd (x+1) ⟨hlt,Md hlt hx.2 (by unfold Om;rw [ht24];rfl)⟩ (by omega) (H4 rfl)
 refine Z39 ?_;refine Z65 ?_;exact A7 (An A6) ⟨by rw [takenM_true.2 (Oi (by simp at ht10;omega) hx.2)],rfl⟩

theorem AKr (c:List Col) (hc:OkCols c) (Hp:List AObj):AFun Tryz.prog 243 [Ax c] Hp (B6 (Kk c)):=by
 refine Ak [.tmp 2] [0] Tryz.func243 Tryz.ntmps243 (fun d=>?_)
 refine Z57 ?_;refine Z34 ?_;refine A2 [0,5,6,7] ?_
 refine Dp (α:=Nat) (fun x=>⟨25,Af 0 (Ax c) (Af 5 (Ax c) (Af 6 (A4 c.length) (Af 7 (A4 (x:Nat)) (fun _=>.any)))),Hp,[],[],none⟩) (fun x=>x≤c.length∧∀(j:Nat) (y:Col),j<x→c[j]? = some y→Qw c j y=true) (fun x=>c.length-x) (0) (by simp) (Co (by simp)) rfl (fun x hx=>?_)
 refine Z2 ?_;refine A2 [0,5,6,7,8] ?_
 refine Dn (fun ht8=>?_) (fun ht8=>?_)
 ·have hlt:x<c.length:=by simpa using ht8
  have hcl:=hc.len
  refine Pk ?_
  refine A5 (h:=Ap (x) (El c[x]) (fun _=>Bv hlt)) (hr:=?_)
  refine dr ?_;refine A2 [0,3,4,5,6,7] ?_;refine Z1 ?_;refine A8 Tryz.call40 (c40 _ (hc.names _ (C4 hlt)) _) ?_;refine S3 ?_;refine Ca ?_;refine C7 Tryz.call58 (fun hB=>c58 c hc _ _) ?_;refine ji ?_;refine A2 [0,5,6,7,23] ?_
  refine A3 (fun ht23=>?_) (fun ht23=>?_)
  ·rw [Et] at ht23
   refine dv ?_;refine Z53 ?_
   exact A7 (An A6) ⟨by rw [show Kk c=false from L4.2 fun h=>by have:=namedC_true.1 h x c[x] (Ae hlt);unfold Qw at this;rw [ht23] at this;cases this],rfl⟩
  rw [Et] at ht23
  refine Z68 ?_;refine A2 [0,5,6,7] ?_
  refine Cd (x+1) ⟨hlt,Md hlt hx.2 (by unfold Qw;rw [ht23];rfl)⟩ (by omega) ?_
  exact Dk (own:=[]) (fun _=>.refl _) (by repeat (first|exact Bg|refine Bf (by simp [or_imp,forall_and]) ?_)) (by simp) (by simp)
 refine Z39 ?_;refine Z98 ?_;exact A7 (An A6) ⟨by rw [namedC_true.2 (Oi (by simp at ht8;omega) hx.2)],rfl⟩

theorem AKs (c:List Col) (take:List Str) (Hp:List AObj):AFun Tryz.prog 242 [Ax c,Ho take] Hp (.fn (.func 286) [] [.ro [Ax c],.ro [Ho take]]):=by
 refine Ak [.tmp 4] [0,1] Tryz.func242 Tryz.ntmps242 (fun d=>?_)
 refine Z13 ?_;refine A2 [2,3] ?_;refine wd ?_;exact vl

theorem AKt (l:Nat) (c:List Col) (take:List Str) (hc:c.length≤1048576) (ht:take.length≤1048576) (U:Nat→List AObj) (hlen:∀k,(U k).length=(U 0).length) (hll:l<(U 0).length)
  (hlw:∀k,∀x∈U k,ObjLow (U 0).length x) (hn:∀k y,c[k]? = some y→take.contains y.name=true→U (k+1)=U k)
  (hy:∀k y X,c[k]? = some y→take.contains y.name=false→AYield Tryz.prog l [El y] (U k++X) (fun b H'=>b=true∧H'=U (k+1)++X)):ACall Tryz.prog 286 [.yield l,.ro [Ax c],.ro [Ho take]] (U 0) (fun _ H'=>H'=U c.length):=by
 refine Ak [] [0,1,2] Tryz.func286 Tryz.ntmps286 (fun d=>?_)
 refine Z13 ?_;refine A2 [0,2,6,7,8] ?_
 refine Dp (α:=Nat) (fun x=>⟨24,Af 0 (.yield l) (Af 2 (.ro [Ho take]) (Af 6 (Ax c) (Af 7 (A4 c.length) (Af 8 (A4 (x:Nat)) (fun _=>.any))))),U x,[],[],none⟩) (fun x=>x≤c.length) (fun x=>c.length-x) (0) (Bc _) (Co (by simp)) rfl (fun x hx=>?_)
 refine Z2 ?_;refine A2 [0,2,6,7,8,9] ?_
 refine Dn (fun ht9=>?_) (fun ht9=>?_)
 ·have hlt:x<c.length:=by simpa using ht9
  refine Z92 ?_
  refine A5 (h:=Ap (x) (El c[x]) (fun _=>Bv hlt)) (hr:=?_)
  refine Vm ?_;refine A2 [0,2,5,6,7,8] ?_;refine Z13 ?_;refine A8 Tryz.call96 (c96 take _ ht _) ?_;refine S3 ?_
  refine G.yield (l:=l) (C:=((!take.contains c[x].name)==true)) (args:=[El c[x]]) (fun hC=>hy x c[x] _ (Ae hlt) (by simpa using hC)) ?_
  intro b V O hV hb hb0
  have hVO:V=U (x+1)∧O=[AObj.cells 41 [Ah c[x].name,A4 c[x].kind]]∧(take.contains c[x].name=false→b=true):=by
   cases hcn:take.contains c[x].name with
   | true =>
    obtain ⟨h1,h2⟩:=hb0 (by rw [hcn];rfl)
    exact ⟨h1.trans (hn x c[x] (Ae hlt) hcn).symm,h2,fun e=>by cases e⟩
   | false =>
    obtain ⟨h1,h2⟩:=hb (by rw [hcn];rfl)
    have h3:=N1 h2 (by rw [hV,hlen x,hlen (x+1)])
    exact ⟨h3.1,h3.2,fun _=>h1⟩
  obtain ⟨rfl,rfl,hbt⟩:=hVO
  refine ⟨fun _=>by rw [hlen (x+1)];exact hlw (x+1),fun o ho=>(by cases ho),?_⟩
  refine Z64 ?_;refine A2 [0,2,6,7,8,22] ?_
  refine A3 (fun ht22=>?_) (fun ht22=>?_)
  ·exfalso
   have hcf:take.contains c[x].name=false:=by simp at ht22 ⊢;exact ht22.1
   rw [hbt hcf] at ht22
   simp at ht22
  refine Z68 ?_;refine A2 [0,2,6,7,8] ?_;refine jq ?_
  exact Dk (own:=[]) (fun _=>.refl _) (by repeat (first|exact Bg|refine Bf (by first|(simp [or_imp,forall_and];done)|(have:=hlen (x+1);simp;omega)) ?_)) (by simp) (by simp)
 have hxe:x=c.length:=by simp at ht9;omega
 refine K.lpE ?_;exact Ke .nores (hp:=by rw [hxe])

/-! What went and came, taken back: the same columns. -/
theorem xt {α β:Type} {f:α→β} {c:List α} (h:(c.map f).Nodup) {i j:Nat} {y z:α} (hi:c[i]? = some y) (hj:c[j]? = some z) (e:f y=f z):i=j:=by
 obtain ⟨hi',ei⟩:=Ac.1 hi
 obtain ⟨hj',ej⟩:=Ac.1 hj
 have h':List.Pairwise (·≠·) (c.map f):=h
 rw [m4] at h'
 rcases Nat.lt_trichotomy i j with hlt|rfl|hlt
 ·have h2:=h' i j (by simpa using hi') (by simpa using hj') hlt
  rw [N3,N3,ei,ej] at h2
  exact absurd e h2
 ·rfl
 have h2:=h' j i (by simpa using hj') (by simpa using hi') hlt
 rw [N3,N3,ei,ej] at h2
 exact absurd e.symm h2
theorem Im {c:List Col} (h:(c.map (·.name)).Nodup) {j:Nat} {y:Col} (hj:c[j]? = some y):Br y.name c=(j:Int):=by
 obtain ⟨hj',ej⟩:=Ac.1 hj
 exact Vr hj' (by rw [ej]) (fun k z hk hz e=>by have:=xt h hz hj e;omega)
theorem find_mem {nm:Str} {c:List Col}:¬(Br nm c<0)↔∃(j:Nat) (y:Col),c[j]? = some y∧y.name=nm∧Br nm c=(j:Int):=by
 unfold Br
 cases h:c.findIdx? (fun y=>y.name==nm) with
 | none =>
  constructor
  ·intro h';exact absurd (by decide) h'
  rintro ⟨j,y,_,_,e⟩
  exact absurd (show (-1:Int)=(j:Int) from e) (by omega)
 | some i =>
  rw [N2] at h
  obtain ⟨hi,e,_⟩:=h
  constructor
  ·intro _;exact ⟨i,c[i],Ae hi,by simpa using e,rfl⟩
  intro _ h'
  have:(i:Int)<0:=h'
  omega
theorem ABy {c:List Col} {take:List Str} {give:List Col} (h:(Dh c take give).2=0):Ee c=true∧I5 c take=true∧Ic (Df c take++give)=true∧(Df c take++give).length≤12∧Dh c take give=(Df c take++give,0):=by
 cases h1:Ee c with
 | false=>rw [xi h1] at h;exact absurd (show (1:Int)=0 from h) (by decide)
 | true =>
  cases h2:I5 c take with
  | false=>rw [xj h1 h2] at h;exact absurd (show (9:Int)=0 from h) (by decide)
  | true =>
   cases h3:Kk (Df c take++give) with
   | false=>rw [xl h1 h2 rfl h3] at h;exact absurd (show (9:Int)=0 from h) (by decide)
   | true =>
    cases h4:Ic (Df c take++give) with
    | false=>rw [xm h1 h2 rfl h3 h4] at h;exact absurd (show (10:Int)=0 from h) (by decide)
    | true =>
     by_cases h5:12<(Df c take++give).length
     ·rw [xn h1 h2 rfl h3 h4 h5] at h;exact absurd (show (3:Int)=0 from h) (by decide)
     exact ⟨rfl,rfl,rfl,by omega,xp h1 h2 rfl h3 h4 h5⟩
set_option maxRecDepth 8000
/-- What a node asks of its kids, and what it is. -/
structure Sign where
 kids:List Int
 own:Int
def E8 (s:Str):Sign:=if (s==[111,114]) || (s==[97,110,100]) then ⟨[3,3],3⟩ else if (((((s==[61]) || (s==[33,61])) || (s==[60])) || (s==[60,61])) || (s==[62])) || (s==[62,61]) then ⟨[-1, -1],3⟩ else if s==[38] then ⟨[2,2],2⟩ else ⟨[1,1],1⟩
def Fb (s:Str):Sign:=if (s==[108,101,110]) || (s==[110,117,109]) then ⟨[2],1⟩ else if s==[115,116,114] then ⟨[1],2⟩ else if (s==[108,101,102,116]) || (s==[114,105,103,104,116]) then ⟨[2,1],2⟩ else if s==[105,115,110,117,108,108] then ⟨[-2],3⟩ else if s==[110,118,108] then ⟨[-1, -1], -1⟩ else ⟨[3, -1, -1], -1⟩
def J9 (o:Int) (t:Str):Sign:=if o==3 then ⟨[1],1⟩ else if o==4 then ⟨[3],3⟩ else if o==5 then E8 t else Fb t
def Gg (a b:Int):Int×Bool:=if a==0 then (b,true) else if (b==0) || (a==b) then (a,true) else (0,false)
def H8:List Int→List Int→Int→Option Int
 | _,[],c=>some c
 | [],_::_,_=>none
 | w::ws,k::ks,c=>if w == -2 then H8 ws ks c else if w == -1 then (if (Gg c k).2 then H8 ws ks (Gg c k).1 else none) else if (Gg w k).2 then H8 ws ks c else none
def Pu (s:Sign) (ks:List Int):Int×Int:=match H8 s.kids ks 0 with|none=>(0,10)|some c=>if s.own == -1 then (c,0) else (s.own,0)
def Qx (c:List Col) (t:Str):Int×Int:=if Br t c<0 then (0,9) else ((c.getD (Br t c).toNat ⟨[],0⟩).kind,0)
def Mv (c:List Col) (o:Int) (t:Str) (v:Val) (ks:List (Int×Int)):Int×Int:=
 if o==1 then (v.kind,0) else if o==2 then Qx c t else match ks.find? (fun q=>q.2 != 0) with|some q=>(0,q.2)|none=>Pu (J9 o t) (ks.map (·.1))
mutual
def Bi (c:List Col):Expr→Int×Int
 | .mk o t v k=>Mv c o t v (mv c k)
def mv (c:List Col):List Expr→List (Int×Int)
  | []=>[]
  | e::r=>Bi c e::mv c r
 end
theorem So (c:List Col):∀l,mv c l=l.map (Bi c)
 | []=>rfl
 | e::r=>by rw [mv,So c r];rfl
theorem Lt (c:List Col) (e:Expr):Bi c e=Mv c e.op e.text e.val (e.kids.map (Bi c)):=by cases e;rw [Bi,So];rfl
/-- infer.Kind. -/
def Hq (e:Expr) (c:List Col):Int×Int:=if (!(Am e)) || !(Qr c) then (0,1) else Bi c e
/-! The signs have as many as the nodes have kids. -/
theorem kw (s:Str):(E8 s).kids.length=2:=by
 unfold E8;repeat' split
 all_goals rfl
theorem kx {t:Str} {n:Nat} (h:C8 t=(n:Int)):(Fb t).kids.length=n:=by
 rw [show C8 t=C8 t from rfl] at h
 by_cases hm:t∈arityList.map (·.1)
 ·have:((arityList.map (·.1)).all fun s=>decide (((Fb s).kids.length:Int)=C8 s))=true:=by kernel_rfl
  have:=of_decide_eq_true (B5.1 this t hm)
  omega
 have h1:C8 t = -1:=by
  unfold C8
  rw [M3.2 fun p hp=>by
   simp only [beq_iff_eq]
   rintro rfl
   exact hm (Cw.2 ⟨p,hp,rfl⟩)]
 omega
theorem xu {e:Expr} (h:Cb e=true) (h1:(e.op==1)=false) (h2:(e.op==2)=false):(J9 e.op e.text).kids.length=e.kids.length:=by
 unfold Cb at h
 rw [h1,h2] at h
 simp only [Bd,if_false] at h
 unfold J9
 by_cases h3:(e.op==3)=true
 ·rw [h3] at h
  simp only [K4,if_true,Ai,beq_iff_eq] at h
  rw [if_pos h3]
  show 1=_
  omega
 have h3':(e.op==3)=false:=by simpa using h3
 rw [if_neg h3]
 rw [h3'] at h
 by_cases h4:(e.op==4)=true
 ·rw [h4] at h
  simp only [Fd,if_true,Ai,beq_iff_eq] at h
  rw [if_pos h4]
  show 1=_
  omega
 have h4':(e.op==4)=false:=by simpa using h4
 rw [if_neg h4]
 rw [h4'] at h
 simp only [P8,Bd,if_false] at h
 by_cases h5:(e.op==5)=true
 ·rw [h5] at h
  simp only [if_true,Ai,beq_iff_eq] at h
  rw [if_pos h5,kw]
  omega
 have h5':(e.op==5)=false:=by simpa using h5
 rw [if_neg h5]
 rw [h5'] at h
 simp only [Bd,if_false] at h
 by_cases h6:(e.op==6)=true
 ·rw [h6] at h
  simp only [if_true,Ai,beq_iff_eq] at h
  exact kx h.2
 have h6':(e.op==6)=false:=by simpa using h6
 rw [h6'] at h
 cases h
/-! More columns. -/
theorem xv {c:List Col} {o:Int} {t:Str} {v:Val} {ks:List (Int×Int)} (h:(Mv c o t v ks).2=0) (h1:(o==1)=false) (h2:(o==2)=false):∀q∈ks,q.2=0:=by
 unfold Mv at h
 rw [h1,h2] at h
 simp only [Bd,if_false] at h
 cases hf:ks.find? (fun q=>q.2 != 0) with
 | some q =>
  rw [hf] at h
  have:=V5 hf
  simp only [bne_iff_ne] at this
  exact absurd h this
 | none =>
  intro q hq
  have:=M3.1 hf q hq
  simpa using this
/-! A tree in a column's place. -/
set_option maxRecDepth 4000
/-- Where a parser of expressions stands: its word, its nest, its fault. -/
structure PS where
 i:Nat
 nest:Nat
 code:Int
 at_:Int
def noV:Val:=⟨0,0,[]⟩
def A9:Expr:=.mk 0 [] noV []
def Eo (e a:Int) (S:PS):PS:=if S.code==0 then ⟨S.i,S.nest,e,a⟩ else S
def isM (l:List Tok) (of:Str) (S:PS):Bool:=(((Av l S.i).kind==5) || ((Av l S.i).kind==2))&&Oj (Av l S.i).text of
def Aq (S:PS):PS:=⟨S.i+1,S.nest,S.code,S.at_⟩
def Dq (S:PS):PS:=⟨S.i,S.nest+1,S.code,S.at_⟩
def Yv (S:PS):PS:=⟨S.i,S.nest-1,S.code,S.at_⟩
def Fz (l:List Tok) (s:Str) (S:PS):PS:=if S.code != 0 then S else if ((Av l S.i).kind != 5) || !((Av l S.i).text==s) then Eo 8 (Av l S.i).at_ S else Aq S
/-- What stands one nest deeper. -/
structure Fam where
 ei:PS→Expr×PS
 no:PS→Expr×PS
 ne:PS→Expr×PS
def Cy (a:Int) (f:PS→Expr×PS) (S:PS):Expr×PS:=if (S.nest:Int)==30 then (A9,Eo 18 a S) else ((f (Dq S)).1,Yv (f (Dq S)).2)
def Ib (t:Str) (x y:Expr):Expr:=.mk 5 t noV [x,y]
def Yw (l:List Tok) (of:Str) (f:PS→Expr×PS):Nat→Expr×PS→Expr×PS
 | 0,r=>r
 | n+1,r=>if (r.2.code==0)&&isM l of r.2 then Yw l of f n (Ib (Av l r.2.i).text r.1 (f (Aq r.2)).1,(f (Aq r.2)).2) else r
def Gi (l:List Tok) (of:Str) (f:PS→Expr×PS) (S:PS):Expr×PS:=Yw l of f l.length (f S)
def Wi:Str:=[32,44,32]
def argsF (l:List Tok) (f:PS→Expr×PS):Nat→List Expr×PS→List Expr×PS
 | 0,r=>r
 | n+1,r=>if (r.2.code==0)&&isM l Wi r.2 then argsF l f n (r.1++[(f (Aq r.2)).1],(f (Aq r.2)).2) else r
def Id (l:List Tok) (f:PS→Expr×PS) (S:PS):List Expr×PS:=argsF l f l.length ([(f S).1],(f S).2)
def To (l:List Tok) (a:Int) (f:PS→Expr×PS) (S:PS):List Expr×PS:=if (S.nest:Int)==30 then ([],Eo 18 a S) else ((Id l f (Dq S)).1,Yv (Id l f (Dq S)).2)
def Fw:Str:=[41]
def E1 (l:List Tok) (D:Fam) (S:PS):List Expr×PS:=To l (Av l S.i).at_ D.ei (Aq S)
def Ie (l:List Tok) (D:Fam) (t:Tok) (S:PS):Expr×PS:=
 if C8 t.text<0 then (A9,Eo 9 t.at_ S)
 else if ((Fz l Fw (E1 l D S).2).code==0) && !(((E1 l D S).1.length:Int)==C8 t.text) then (A9,Eo 8 t.at_ (Fz l Fw (E1 l D S).2))
 else (.mk 6 t.text noV (E1 l D S).1,Fz l Fw (E1 l D S).2)
def orT:Str:=[32,111,114,32]
def rf:Str:=[32,97,110,100,32]
def AFf:Str:=[32,110,111,116,32]
def ABz:Str:=[32,61,32,33,61,32,60,32,60,61,32,62,32,62,61,32]
def rg:Str:=[32,43,32,45,32,38,32]
def Yx:Str:=[32,42,32,47,32,37,32]
def AFg:Str:=[32,45,32]
def opT:Str:=[32,40,32]
def AFh:Str:=[32,116,114,117,101,32,102,97,108,115,101,32,110,117,108,108,32]
def Dl (v:Val):Expr:=.mk 1 [] v []
def H1 (l:List Tok) (D:Fam) (S:PS):Expr×PS:=
 if S.code != 0 then (A9,S)
 else if ((Av l S.i).kind==3) || isM l AFh S then (Dl (I3 (Av l S.i).text).1,Aq S)
 else if (Av l S.i).kind==4 then (Dl ⟨2,0,(Av l S.i).text.take 200⟩,Aq S)
 else if (Av l S.i).kind==1 then (if isM l opT (Aq S) then Ie l D (Av l S.i) (Aq S) else (Bb (Av l S.i).text,Aq S))
 else if isM l opT S then ((Cy (Av l S.i).at_ D.ei (Aq S)).1,Fz l Fw (Cy (Av l S.i).at_ D.ei (Aq S)).2)
 else (A9,Eo 8 (Av l S.i).at_ S)
def G4 (op:Int) (x:Expr):Expr:=.mk op [] noV [x]
def U8 (l:List Tok) (D:Fam) (S:PS):Expr×PS:=if !isM l AFg S then H1 l D S else (G4 3 (Cy (Av l S.i).at_ D.ne (Aq S)).1,(Cy (Av l S.i).at_ D.ne (Aq S)).2)
def fh (l:List Tok) (D:Fam):PS→Expr×PS:=Gi l Yx (U8 l D)
def Ex (l:List Tok) (D:Fam):PS→Expr×PS:=Gi l rg (fh l D)
def G5 (l:List Tok) (D:Fam) (S:PS):Expr×PS:=
 if ((Ex l D S).2.code != 0) || !isM l ABz (Ex l D S).2 then Ex l D S
 else (Ib (Av l (Ex l D S).2.i).text (Ex l D S).1 (Ex l D (Aq (Ex l D S).2)).1,(Ex l D (Aq (Ex l D S).2)).2)
def U9 (l:List Tok) (D:Fam) (S:PS):Expr×PS:=if !isM l AFf S then G5 l D S else (G4 4 (Cy (Av l S.i).at_ D.no (Aq S)).1,(Cy (Av l S.i).at_ D.no (Aq S)).2)
def fj (l:List Tok) (D:Fam):PS→Expr×PS:=Gi l rf (U9 l D)
def Uo (l:List Tok) (D:Fam):PS→Expr×PS:=Gi l orT (fj l D)
def Fx (l:List Tok):Nat→Fam
 | 0=>⟨fun S=>(A9,S),fun S=>(A9,S),fun S=>(A9,S)⟩
 | d+1=>⟨Uo l (Fx l d),U9 l (Fx l d),U8 l (Fx l d)⟩

/-! What is so of them. -/
theorem Gd:∀{n m:Nat},n≤m→∀{e:Expr},okE n e→okE m e
 | 0,_,_,_,h=>h.elim
 | n+1,0,h,_,_=>by omega
 | n+1,m+1,h,_,ho=>⟨ho.1,ho.2.1,fun y hy=>Gd (by omega) (ho.2.2 y hy)⟩
theorem Wj:sizeE A9=1:=rfl
theorem rh (t:Str) (a b:Expr):sizeE (Ib t a b)=1+(sizeE a+(sizeE b+0)):=by rw [Ib,sizeE,Cg,Cg,Cg]
theorem ri (o:Int) (a:Expr):sizeE (G4 o a)=1+(sizeE a+0):=by rw [G4,sizeE,Cg,Cg]
theorem Yy:∀a b:List Expr,Cg (a++b)=Cg a+Cg b
 | [],b=>by rw [Cz,Cg,Bt]
 | e::r,b=>by rw [Dd,Cg,Cg,Yy r b,Kr]
theorem Nw {n:Nat} (h:1≤n):okE n A9:=Gd h ⟨by decide,by decide,fun y hy=>by cases hy⟩
theorem mw {n:Nat} (h:1≤n) (v:Val):okE n (Dl v):=Gd h ⟨by simp [Dl,Expr.text],by simp [Dl,Expr.kids],fun y hy=>by cases hy⟩
structure Fact (l:List Tok) (S:PS) (r:Expr×PS):Prop where
 le:S.i≤r.2.i
 lt:r.2.i<l.length
 nest:r.2.nest=S.nest
 ok:okE (2*(r.2.i-S.i)+1) r.1
 sz:sizeE r.1≤2*(r.2.i-S.i)+1
def Ey (l:List Tok) (n:Nat) (f:PS→Expr×PS):Prop:=∀S,S.i<l.length→S.nest=n→Fact l S (f S)
theorem TokEnd.step {l:List Tok} (h:TokEnd l) {i:Nat} (hi:i<l.length) (hk:(Av l i).kind≠0):i+1<l.length:=by
 obtain ⟨L,z,rfl,hz,_⟩:=h.split
 rcases Bo i L.length with h1|h1
 ·simp only [Ao,At,B3];omega
 have:i=L.length:=by simp only [Ao,At,B3] at hi;omega
 subst this
 exact absurd (by unfold Av;simpa using hz) hk
theorem xw {l:List Tok} {of:Str} {S:PS} (h:isM l of S=true):(Av l S.i).kind≠0:=by
 unfold isM at h
 simp only [Ai,Di,beq_iff_eq] at h
 omega
theorem TokEnd.stepIs {l:List Tok} (h:TokEnd l) {of:Str} {S:PS} (hi:S.i<l.length) (hk:isM l of S=true):(Aq S).i<l.length:=h.step hi (xw hk)
theorem failM_i {e a:Int} {S:PS}:(Eo e a S).i=S.i∧(Eo e a S).nest=S.nest:=by unfold Eo;split<;>exact ⟨rfl,rfl⟩
theorem mx {l:List Tok} (hl:TokEnd l) {s:Str} {S:PS} (hi:S.i<l.length):S.i≤(Fz l s S).i∧(Fz l s S).i<l.length∧(Fz l s S).nest=S.nest:=by
 unfold Fz
 split
 ·exact ⟨Al _,hi,rfl⟩
 split
 ·rw [failM_i.1,failM_i.2];exact ⟨Al _,hi,rfl⟩
 rename_i h
 simp only [Di,bne_iff_ne,ne_eq,not_or,Classical.not_not] at h
 have:=hl.step hi (by rw [h.1];decide)
 exact ⟨Jq _,this,rfl⟩
theorem Qy {l:List Tok} {S S0:PS} (h0:S0.i≤S.i) (h1:S.i<l.length) (h2:S.nest=S0.nest) (e a:Int):Fact l S0 (A9,Eo e a S):=by
 refine ⟨?_,?_,?_,Nw (by omega),by rw [Wj];omega⟩
 ·show _≤(Eo e a S).i;rw [failM_i.1];exact h0
 ·show (Eo e a S).i<_;rw [failM_i.1];exact h1
 show (Eo e a S).nest=_;rw [failM_i.2];exact h2
/-- A state of a loop of marks. -/
structure LeftAt (l:List Tok) (of:Str) (f:PS→Expr×PS) (S:PS) (r:Expr×PS):Prop where
 fact:Fact l S r
 eq:∃n,l.length≤r.2.i+n∧Gi l of f S=Yw l of f n r
theorem LeftAt.start {l:List Tok} {of:Str} {f:PS→Expr×PS} {S:PS} (h:Fact l S (f S)):LeftAt l of f S (f S):=⟨h,l.length,by omega,rfl⟩
theorem my {l:List Tok} {S:PS} {r q:Expr×PS} (h:Fact l S r) (hq:Fact l (Aq r.2) q) (hl:TokEnd l):Fact l S (Ib (Av l r.2.i).text r.1 q.1,q.2):=by
 have h1:=h.le
 have h2:r.2.i+1≤q.2.i:=hq.le
 refine ⟨by show S.i≤q.2.i;omega,hq.lt,by show q.2.nest=S.nest;rw [hq.nest];exact h.nest,?_,?_⟩
 rotate_left
 ·have s1:=h.sz
  have s2:sizeE q.1≤2*(q.2.i-(r.2.i+1))+1:=hq.sz
  show sizeE (Ib _ r.1 q.1)≤2*(q.2.i-S.i)+1
  rw [rh]
  omega
 show okE (2*(q.2.i-S.i)+1) _
 refine ⟨hl.text _,by simp [Ib,Expr.kids],fun y hy=>?_⟩
 have hy':y=r.1∨y=q.1:=by simpa [Ib,Expr.kids] using hy
 rcases hy' with rfl|rfl
 ·exact Gd (by omega) h.ok
 exact Gd (by show 2*(q.2.i-(r.2.i+1))+1≤_;omega) hq.ok
theorem LeftAt.on {l:List Tok} {of:Str} {f:PS→Expr×PS} {S:PS} {r:Expr×PS} (hl:TokEnd l) (h:LeftAt l of f S r) (hc:((r.2.code==0)&&isM l of r.2)=true) (hf:Ey l S.nest f):(Aq r.2).i<l.length∧Fact l (Aq r.2) (f (Aq r.2))∧LeftAt l of f S (Ib (Av l r.2.i).text r.1 (f (Aq r.2)).1,(f (Aq r.2)).2):=by
 have hi:=hl.stepIs h.fact.lt (ud.1 hc).2
 have hq:=hf (Aq r.2) hi h.fact.nest
 obtain ⟨n,hn,e⟩:=h.eq
 have h1:=h.fact.lt
 have h2:r.2.i+1≤(f (Aq r.2)).2.i:=hq.le
 obtain ⟨m,rfl⟩:∃m,n=m+1:=⟨n-1,by omega⟩
 refine ⟨hi,hq,my h.fact hq hl,m,by show l.length≤(f (Aq r.2)).2.i+m;omega,?_⟩
 rw [e,Yw,if_pos hc]
theorem LeftAt.out {l:List Tok} {of:Str} {f:PS→Expr×PS} {S:PS} {r:Expr×PS} (h:LeftAt l of f S r) (hc:¬((r.2.code==0)&&isM l of r.2)=true):Gi l of f S=r:=by
 obtain ⟨n,hn,e⟩:=h.eq
 have h1:=h.fact.lt
 obtain ⟨m,rfl⟩:∃m,n=m+1:=⟨n-1,by omega⟩
 rw [e,Yw,if_neg hc]
theorem fk {l:List Tok} {of:Str} {f:PS→Expr×PS} {S:PS} (hl:TokEnd l) (hf:Ey l S.nest f):∀(k:Nat) (r:Expr×PS),l.length-r.2.i≤k→LeftAt l of f S r→Fact l S (Gi l of f S)
 | 0,r,hk,h=>by have:=h.fact.lt;omega
 | k+1,r,hk,h=>by
  by_cases hc:((r.2.code==0)&&isM l of r.2)=true
  ·obtain ⟨h1,h2,h3⟩:=h.on hl hc hf
   have h4:r.2.i+1≤(f (Aq r.2)).2.i:=h2.le
   exact fk hl hf k _ (by show l.length-(f (Aq r.2)).2.i≤k;have:=h.fact.lt;omega) h3
  rw [h.out hc];exact h.fact
theorem Hg {l:List Tok} {of:Str} {f:PS→Expr×PS} {n:Nat} (hl:TokEnd l) (hf:Ey l n f):Ey l n (Gi l of f):=fun S hi hn=>fk hl (hn ▸ hf) l.length (f S) (by omega) (.start (hf S hi hn))
theorem Jv {l:List Tok} {f:PS→Expr×PS} {S:PS} (a:Int) (hi:S.i<l.length) (hf:S.nest≠30→Ey l (S.nest+1) f):Fact l S (Cy a f S):=by
 unfold Cy
 split
 ·exact Qy (Al _) hi rfl _ _
 rename_i h
 have h30:S.nest≠30:=fun e=>h (by rw [e];rfl)
 have:=hf h30 (Dq S) hi rfl
 refine ⟨this.le,this.lt,?_,this.ok,this.sz⟩
 show (f (Dq S)).2.nest-1=S.nest
 rw [this.nest]
 rfl
/-- What is so of some kids. -/
structure KFact (l:List Tok) (S:PS) (r:List Expr×PS):Prop where
 le:S.i≤r.2.i
 lt:r.2.i<l.length
 nest:r.2.nest=S.nest
 len:r.1.length≤r.2.i-S.i+1
 ok:∀y∈r.1,okE (2*(r.2.i-S.i)+1) y
 sz:Cg r.1≤2*(r.2.i-S.i)+1
structure ArgsAt (l:List Tok) (f:PS→Expr×PS) (S:PS) (r:List Expr×PS):Prop where
 fact:KFact l S r
 eq:∃n,l.length≤r.2.i+n∧Id l f S=argsF l f n r
theorem ArgsAt.start {l:List Tok} {f:PS→Expr×PS} {S:PS} (h:Fact l S (f S)):ArgsAt l f S ([(f S).1],(f S).2):=⟨⟨h.le,h.lt,h.nest,by simp,fun y hy=>by rw [B2.1 hy];exact h.ok,by have:=h.sz;show sizeE (f S).1+0≤_;exact this⟩,l.length,by omega,rfl⟩
theorem ArgsAt.on {l:List Tok} {f:PS→Expr×PS} {S:PS} {r:List Expr×PS} (hl:TokEnd l) (h:ArgsAt l f S r) (hc:((r.2.code==0)&&isM l Wi r.2)=true) (hf:Ey l S.nest f):(Aq r.2).i<l.length∧Fact l (Aq r.2) (f (Aq r.2))∧ArgsAt l f S (r.1++[(f (Aq r.2)).1],(f (Aq r.2)).2):=by
 have hi:=hl.stepIs h.fact.lt (ud.1 hc).2
 have hq:=hf (Aq r.2) hi h.fact.nest
 obtain ⟨n,hn,e⟩:=h.eq
 have h1:=h.fact.lt
 have h0:=h.fact.le
 have h2:r.2.i+1≤(f (Aq r.2)).2.i:=hq.le
 obtain ⟨m,rfl⟩:∃m,n=m+1:=⟨n-1,by omega⟩
 refine ⟨hi,hq,⟨by show S.i≤(f (Aq r.2)).2.i;omega,hq.lt,by show (f (Aq r.2)).2.nest=_;rw [hq.nest];exact h.fact.nest,?_,fun y hy=>?_,?_⟩,m,by show l.length≤(f (Aq r.2)).2.i+m;omega,?_⟩
 ·have:=h.fact.len
  show (r.1++_).length≤(f (Aq r.2)).2.i-S.i+1
  simp only [Ao,At,B3]
  omega
 ·show okE (2*((f (Aq r.2)).2.i-S.i)+1) y
  rcases Ds.1 hy with hy|hy
  ·exact Gd (by omega) (h.fact.ok y hy)
  rw [B2.1 hy]
  exact Gd (by show 2*((f (Aq r.2)).2.i-(r.2.i+1))+1≤_;omega) hq.ok
 ·have s1:=h.fact.sz
  have s2:sizeE (f (Aq r.2)).1≤2*((f (Aq r.2)).2.i-(r.2.i+1))+1:=hq.sz
  show Cg (r.1++[(f (Aq r.2)).1])≤2*((f (Aq r.2)).2.i-S.i)+1
  rw [Yy,Cg,Cg]
  omega
 rw [e,argsF,if_pos hc]
theorem ArgsAt.out {l:List Tok} {f:PS→Expr×PS} {S:PS} {r:List Expr×PS} (h:ArgsAt l f S r) (hc:¬((r.2.code==0)&&isM l Wi r.2)=true):Id l f S=r:=by
 obtain ⟨n,hn,e⟩:=h.eq
 have h1:=h.fact.lt
 obtain ⟨m,rfl⟩:∃m,n=m+1:=⟨n-1,by omega⟩
 rw [e,argsF,if_neg hc]
theorem fl {l:List Tok} {f:PS→Expr×PS} {S:PS} (hl:TokEnd l) (hf:Ey l S.nest f):∀(k:Nat) (r:List Expr×PS),l.length-r.2.i≤k→ArgsAt l f S r→KFact l S (Id l f S)
 | 0,r,hk,h=>by have:=h.fact.lt;omega
 | k+1,r,hk,h=>by
  by_cases hc:((r.2.code==0)&&isM l Wi r.2)=true
  ·obtain ⟨h1,h2,h3⟩:=h.on hl hc hf
   have h4:r.2.i+1≤(f (Aq r.2)).2.i:=h2.le
   exact fl hl hf k _ (by show l.length-(f (Aq r.2)).2.i≤k;have:=h.fact.lt;omega) h3
  rw [h.out hc];exact h.fact
theorem Wk {l:List Tok} {f:PS→Expr×PS} {S:PS} (hl:TokEnd l) (hi:S.i<l.length) (hf:Ey l S.nest f):KFact l S (Id l f S):=fl hl hf l.length _ (by show l.length-(f S).2.i≤_;omega) (.start (hf S hi rfl))
theorem Wl {l:List Tok} {f:PS→Expr×PS} {S:PS} (hl:TokEnd l) (a:Int) (hi:S.i<l.length) (hf:S.nest≠30→Ey l (S.nest+1) f):KFact l S (To l a f S):=by
 unfold To
 split
 ·refine ⟨?_,?_,?_,by simp,fun y hy=>(by cases hy),by simp [Cg]⟩
  ·show _≤(Eo _ _ S).i;rw [failM_i.1];exact Al _
  ·show (Eo _ _ S).i<_;rw [failM_i.1];exact hi
  show (Eo _ _ S).nest=_;rw [failM_i.2]
 rename_i h
 have h30:S.nest≠30:=fun e=>h (by rw [e];rfl)
 have:=Wk (S:=Dq S) hl hi (hf h30)
 refine ⟨this.le,this.lt,?_,this.len,this.ok,this.sz⟩
 show (Id l f (Dq S)).2.nest-1=S.nest
 rw [this.nest]
 rfl
theorem ky {l:List Tok} {D:Fam} {S:PS} (hl:TokEnd l) (hll:l.length≤1048576) {t:Tok} (ht:t.text.length≤1048576) (hi:(Aq S).i<l.length) (hf:S.nest≠30→Ey l (S.nest+1) D.ei):Fact l S (Ie l D t S):=by
 have hk:KFact l (Aq S) (E1 l D S):=Wl hl _ hi hf
 have h1:S.i+1≤(E1 l D S).2.i:=hk.le
 obtain ⟨w1,w2,w3⟩:=mx (s:=Fw) hl hk.lt
 unfold Ie
 split
 ·exact Qy (Al _) (by show S.i<_;have:S.i+1<l.length:=hi;omega) rfl _ _
 split
 ·exact Qy (show S.i≤(Fz l Fw (E1 l D S).2).i by omega) w2 (w3.trans hk.nest) 8 t.at_
 refine ⟨by show S.i≤(Fz l Fw (E1 l D S).2).i;omega,w2,w3.trans hk.nest,?_,?_⟩
 rotate_left
 ·have s1:Cg (E1 l D S).1≤2*((E1 l D S).2.i-(S.i+1))+1:=hk.sz
  show sizeE (.mk 6 t.text noV (E1 l D S).1)≤2*((Fz l Fw (E1 l D S).2).i-S.i)+1
  rw [sizeE]
  omega
 show okE (2*((Fz l Fw (E1 l D S).2).i-S.i)+1) _
 refine ⟨ht,?_,fun y hy=>?_⟩
 ·have h5:(E1 l D S).1.length≤(E1 l D S).2.i-(Aq S).i+1:=hk.len
  have h6:=hk.lt
  show (E1 l D S).1.length≤1048576
  omega
 exact Gd (by show 2*((E1 l D S).2.i-(S.i+1))+1≤_;omega) (hk.ok y hy)
theorem kz {l:List Tok} {D:Fam} {n:Nat} (hl:TokEnd l) (hll:l.length≤1048576) (hf:n≠30→Ey l (n+1) D.ei):Ey l n (H1 l D):=by
 intro S hi hn
 subst hn
 unfold H1
 have leaf:∀e:Expr,okE 1 e→sizeE e=1→(Av l S.i).kind≠0→Fact l S (e,Aq S):=fun e he hs hk=>⟨Jq _,hl.step hi hk,rfl,Gd (by omega) he,by show sizeE e≤_;omega⟩
 split
 ·exact ⟨Al _,hi,rfl,Nw (by omega),by show sizeE A9≤_;rw [Wj];omega⟩
 split
 ·rename_i h
  refine leaf _ (mw (Al _) _) rfl ?_
  rcases Bool.or_eq_true_iff.1 h with h|h
  ·rw [beq_iff_eq] at h;rw [h];decide
  exact xw h
 split
 ·rename_i h
  rw [beq_iff_eq] at h
  exact leaf _ (mw (Al _) _) rfl (by rw [h];decide)
 split
 ·rename_i h
  rw [beq_iff_eq] at h
  have hk:(Av l S.i).kind≠0:=by rw [h];decide
  split
  ·rename_i h2
   have hi1:(Aq S).i<l.length:=hl.step hi hk
   have:=ky (S:=Aq S) (D:=D) hl hll (hl.text S.i) (hl.stepIs hi1 h2) hf
   have h3:S.i+1≤(Ie l D (Av l S.i) (Aq S)).2.i:=this.le
   have h4:sizeE (Ie l D (Av l S.i) (Aq S)).1≤2*((Ie l D (Av l S.i) (Aq S)).2.i-(S.i+1))+1:=this.sz
   exact ⟨by omega,this.lt,this.nest,Gd (by show 2*((Ie l D (Av l S.i) (Aq S)).2.i-(S.i+1))+1≤_;omega) this.ok,by omega⟩
  exact leaf _ (ep _ (hl.text _)) rfl hk
 split
 ·rename_i h
  have hi1:(Aq S).i<l.length:=hl.stepIs hi h
  have:=Jv (S:=Aq S) (l:=l) (f:=D.ei) (Av l S.i).at_ hi1 hf
  obtain ⟨w1,w2,w3⟩:=mx (s:=Fw) hl this.lt
  have h3:S.i+1≤(Cy (Av l S.i).at_ D.ei (Aq S)).2.i:=this.le
  have h4:sizeE (Cy (Av l S.i).at_ D.ei (Aq S)).1≤2*((Cy (Av l S.i).at_ D.ei (Aq S)).2.i-(S.i+1))+1:=this.sz
  refine ⟨by show S.i≤(Fz l Fw _).i;omega,w2,w3.trans this.nest,Gd ?_ this.ok,by show sizeE (Cy (Av l S.i).at_ D.ei (Aq S)).1≤2*((Fz l Fw (Cy (Av l S.i).at_ D.ei (Aq S)).2).i-S.i)+1;omega⟩
  show 2*((Cy (Av l S.i).at_ D.ei (Aq S)).2.i-(S.i+1))+1≤2*((Fz l Fw (Cy (Av l S.i).at_ D.ei (Aq S)).2).i-S.i)+1
  omega
 exact Qy (Al _) hi rfl _ _
theorem mz {l:List Tok} {S:PS} {r:Expr×PS} (h:Fact l (Aq S) r) (op:Int):Fact l S (G4 op r.1,r.2):=by
 have h1:S.i+1≤r.2.i:=h.le
 refine ⟨by show S.i≤r.2.i;omega,h.lt,h.nest,?_,?_⟩
 rotate_left
 ·have s1:sizeE r.1≤2*(r.2.i-(S.i+1))+1:=h.sz
  show sizeE (G4 op r.1)≤2*(r.2.i-S.i)+1
  rw [ri]
  omega
 show okE (2*(r.2.i-S.i)+1) _
 refine ⟨by simp [G4,Expr.text],by simp [G4,Expr.kids],fun y hy=>?_⟩
 have hy':y=r.1:=by simpa [G4,Expr.kids] using hy
 subst hy'
 exact Gd (by show 2*(r.2.i-(S.i+1))+1≤_;omega) h.ok
theorem Sp {l:List Tok} {D:Fam} {n:Nat} (hl:TokEnd l) (hll:l.length≤1048576) (hf:n≠30→Ey l (n+1) D.ei) (hg:n≠30→Ey l (n+1) D.ne):Ey l n (U8 l D):=by
 intro S hi hn
 unfold U8
 split
 ·exact kz hl hll hf S hi hn
 rename_i h
 subst hn
 exact mz (Jv (S:=Aq S) _ (hl.stepIs hi (by simpa using h)) hg) 3
theorem Yz {l:List Tok} {D:Fam} {n:Nat} (hl:TokEnd l) (hll:l.length≤1048576) (hf:n≠30→Ey l (n+1) D.ei) (hg:n≠30→Ey l (n+1) D.ne):Ey l n (Ex l D):=Hg hl (Hg hl (Sp hl hll hf hg))
theorem P3 {l:List Tok} {D:Fam} {n:Nat} (hl:TokEnd l) (hll:l.length≤1048576) (hf:n≠30→Ey l (n+1) D.ei) (hg:n≠30→Ey l (n+1) D.ne):Ey l n (G5 l D):=by
 intro S hi hn
 have h1:=Yz hl hll hf hg S hi hn
 unfold G5
 split
 ·exact h1
 rename_i h
 simp only [Di,not_or,Rk,K1] at h
 exact my h1 (Yz hl hll hf hg _ (hl.stepIs h1.lt h.2) (h1.nest.trans hn)) hl
theorem Z3 {l:List Tok} {D:Fam} {n:Nat} (hl:TokEnd l) (hll:l.length≤1048576) (hf:n≠30→Ey l (n+1) D.ei) (hg:n≠30→Ey l (n+1) D.ne) (hh:n≠30→Ey l (n+1) D.no):Ey l n (U9 l D):=by
 intro S hi hn
 unfold U9
 split
 ·exact P3 hl hll hf hg S hi hn
 rename_i h
 subst hn
 exact mz (Jv (S:=Aq S) _ (hl.stepIs hi (by simpa using h)) hh) 4
theorem Sq {l:List Tok} (hl:TokEnd l) (hll:l.length≤1048576):∀(d n:Nat),n+d=31→n≠31→Ey l n (Fx l d).ei∧Ey l n (Fx l d).no∧Ey l n (Fx l d).ne
 | 0,n,h,h2=>by omega
 | d+1,n,h,_=>by
  have ih:n≠30→_:=fun h30=>Sq hl hll d (n+1) (by omega) (by omega)
  have hn:=Z3 (D:=Fx l d) (n:=n) hl hll (fun h=>(ih h).1) (fun h=>(ih h).2.2) (fun h=>(ih h).2.1)
  exact ⟨Hg hl (Hg hl hn),hn,Sp hl hll (fun h=>(ih h).1) (fun h=>(ih h).2.2)⟩
abbrev pr (l:List Tok) (S:PS):AObj:=.cells 171 [.slice false 3 (l.map Ko),A4 (S.i:Int),A4 (S.nest:Int),A4 S.code,A4 S.at_]
theorem Dg {n:Nat} {l:List Tok} {S:PS}:ObjLow n (pr l S):=by
 show ∀y∈[AV.slice false 3 (l.map Ko),A4 (S.i:Int),A4 (S.nest:Int),A4 S.code,A4 S.at_],Low n y
 intro y hy
 simp only [Bj,Hy,or_false] at hy
 rcases hy with rfl|rfl|rfl|rfl|rfl
 ·simp [or_imp,forall_and]
 all_goals simp
theorem Nx (o:Int) (t:Str) (v:Val):Le (.agg [A4 o,Ah t,A4 v.kind,A4 v.n,Ah v.s,.nil]) (Aa (.mk o t v [])):=by
 rw [Ad]
 refine .agg _ _ rfl (by simp [AV.one,Value.oneCell',sv]) fun i y y' h1 h2=>?_
 match i with
 | 0=>simp at h1 h2;subst h1;subst h2;exact .inl rfl
 | 1=>simp at h1 h2;subst h1;subst h2;exact .inl rfl
 | 2=>simp at h1 h2;subst h1;subst h2;exact .inl rfl
 | 3=>simp at h1 h2;subst h1;subst h2;exact .inl rfl
 | 4=>simp at h1 h2;subst h1;subst h2;exact .inl rfl
 | 5=>simp at h1 h2;subst h1;subst h2;exact .inr ⟨rfl,6,rfl⟩
 | i+6=>simp at h1
theorem G6:Le (.agg [A4 0,Ah [],A4 0,A4 0,Ah [],.nil]) (Aa A9):=Nx 0 [] noV
theorem AKu (l:List Tok) (S:PS) (o:Nat) (Hp:List AObj) (ho:Hp[o]? = some (pr l S)) (hi:S.i<l.length):AFun Tryz.prog 254 [.ptr o 0] Hp (Ko (Av l S.i)):=by
 refine Ak [.cell 2 113] [0] Tryz.func254 Tryz.ntmps254 (fun d=>?_)
 refine Z61 ?_;refine Ed [0,1,3,7,0,16,48,112,255,511,1023] 8 Ar (by kernel_rfl) ?_;refine Z35 ?_
 refine B1 (h:=Dz ho) (hr:=?_)
 refine Z35 ?_
 refine B1 (h:=Dz ho) (hr:=?_)
 refine Er ?_
 refine A5 (h:=Ap (S.i) (Ko (Av l S.i)) (fun _=>Sh hi)) (hr:=?_)
 refine A5 ?_;exact AEr

theorem fm (l:List Tok) (S:PS) (of:Str) (o:Nat) (Hp:List AObj) (ho:Hp[o]? = some (pr l S)) (hi:S.i<l.length) (hl:TokEnd l) (hof:of.length≤1048576):AFun Tryz.prog 203 [.ptr o 0,Ah of] Hp (B6 (isM l of S)):=by
 refine Ak [.tmp 4] [0,1] Tryz.func203 Tryz.ntmps203 (fun d=>?_)
 refine Z49 ?_;refine Z2 ?_;refine AAu ?_;refine A2 [1,5] ?_;refine be ?_;refine Z9 ?_;refine Ca ?_;refine C7 Tryz.call125 (fun hB=>AIn (Av l S.i).text of (hl.text _) hof _) ?_;refine Z0 ?_;exact vl

theorem xy (l:List Tok) (S:PS) (o:Nat) (Hp:List AObj) (ho:Hp[o]? = some (pr l S)) (hi:S.i<l.length) (hll:l.length≤1048576):ACall Tryz.prog 204 [.ptr o 0] Hp (fun r H'=>r=Ko (Av l S.i)∧H'=Hp.set o (pr l (Aq S))):=by
 refine Ak [.cell 2 113] [0] Tryz.func204 Tryz.ntmps204 (fun d=>?_)
 refine Z61 ?_;refine Z2 ?_;refine AAu ?_;refine A2 [0,2,3] ?_;refine Z13 ?_
 refine A5 (h:=Dz ho) (hr:=?_)
 refine Z29 ?_
 refine F4 jS ho ?_ ?_
 ·simp
 refine A2 [2,3] ?_;refine Z2 ?_;exact AEr

theorem rj (l:List Tok) (S:PS) (e a:Int) (o:Nat) (Hp:List AObj) (ho:Hp[o]? = some (pr l S)):ACall Tryz.prog 116 [.ptr o 0,A4 e,A4 a] Hp (fun r H'=>r=Aa A9∧H'=Hp.set o (pr l (Eo e a S))):=by
 refine Ak [.cell 6 26] [0,1,2] Tryz.func116 Tryz.ntmps116 (fun d=>?_)
 refine AB2 ?_;refine Z59 ?_
 refine A5 (h:=Dz ho) (hr:=?_)
 refine A5 ?_;refine A2 [0,1,2,6,12] ?_
 refine A3 (fun ht12=>?_) (fun ht12=>?_)
 ·have e:Eo e a S=⟨S.i,S.nest,e,a⟩:=if_pos ht12
  refine Z85 ?_;refine jn ?_;refine Z0 ?_
  refine F4 jS ho ?_ ?_
  ·simp
  refine A2 [6] ?_;refine Ft ?_;refine Z28 ?_;refine Ek 19 _ G6 ?_;refine vq ?_;exact A7 (An (As jA jS)) ⟨rfl,by rw [e]⟩ (hlow:=Ab _ A9)
 have e:Eo e a S=S:=if_neg (by rw [ht12];simp)
 refine Z6 ?_;refine Z28 ?_;refine Ek 19 _ G6 ?_;refine vq ?_;exact A7 (An (As jA jS)) ⟨rfl,by rw [e];exact (J8 ho).symm⟩ (hlow:=Ab _ A9)

theorem AIt (v:Val) (Hp:List AObj):AFun Tryz.prog 348 [Bp v] Hp (Aa (Dl v)):=by
 refine Ak [.cell 2 26] [0] Tryz.func348 Tryz.ntmps348 (fun d=>?_)
 refine w9 ?_;refine A2 [1,2] ?_;refine AEi ?_;refine Ek 4 _ (Nx 1 [] v) ?_;exact AH0

theorem AIu (l:List Tok) (S:PS) (s:Str) (o:Nat) (Hp:List AObj) (ho:Hp[o]? = some (pr l S)) (hi:S.i<l.length) (hll:l.length≤1048576):ACall Tryz.prog 350 [.ptr o 0,Ah s] Hp (fun r H'=>r=.v (.tuple #[])∧H'=Hp.set o (pr l (Fz l s S))):=by
 refine Ak [] [0,1] Tryz.func350 Tryz.ntmps350 (fun d=>?_)
 refine Z59 ?_
 refine A5 (h:=Dz ho) (hr:=?_)
 refine A5 ?_;refine A2 [0,1,10] ?_
 refine A3 (fun ht10=>?_) (fun ht10=>?_)
 ·have e:Fz l s S=S:=if_pos ht10
  refine Z41 ?_;exact A7 .nores (hp:=⟨rfl,by rw [e];exact (J8 ho).symm⟩)
 have e0:¬(S.code != 0)=true:=by rw [ht10];simp
 refine bc ?_;refine AAu ?_;refine A2 [0,1,4] ?_;refine Z18 ?_;refine Z47 ?_;refine A5 ?_;refine A2 [0,4,21] ?_
 refine A3 (fun ht21=>?_) (fun ht21=>?_)
 ·have e:Fz l s S=Eo 8 (Av l S.i).at_ S:=by unfold Fz;rw [if_neg e0,if_pos ht21]
  refine AHc ?_;refine A2 [] ?_;refine Z41 ?_;exact A7 .nores (hp:=⟨rfl,by rw [e]⟩)
 have e:Fz l s S=Aq S:=by unfold Fz;rw [if_neg e0,if_neg (by rw [ht21];simp)]
 refine Z6 ?_;refine Z85 ?_
 refine A5 (h:=Dz ho) (hr:=?_)
 refine Z29 ?_
 refine F4 jS ho ?_ ?_
 ·simp
 refine A2 [] ?_;exact Ke .nores (hp:=⟨rfl,by rw [e];rfl⟩)

/-- The contract of one of the parser's functions. -/
def PC (g:FuncId) (l:List Tok) (f:PS→Expr×PS) (n:Nat):Prop:=∀(o:Nat) (Hp:List AObj) (S:PS),Hp[o]? = some (pr l S)→S.i<l.length→S.nest=n→ACall Tryz.prog g [.ptr o 0] Hp (fun r H'=>r=Aa (f S).1∧H'=Hp.set o (pr l (f S).2))
abbrev Lg:AObj:=.cells 26 [A4 0,Ah [],A4 0,A4 0,Ah [],.nil]
theorem Qz {n:Nat}:ObjLow n Lg:=by
 show ∀y∈[A4 0,Ah [],A4 0,A4 0,Ah [],AV.nil],Low n y
 simp
theorem AC0 {n:Nat} (e:Expr):ObjLow n (.cells 26 (Bw e)):=by
 have h:=Ab n e
 rw [Ad] at h
 show ∀y∈Bw e,Low n y
 intro y hy
 cases h with
 | agg _ h=>exact h y hy
theorem AC1 (l:List Tok) (S:PS) (a:Int) (g:FuncId) (first caps:List AV) (x:Expr) (S2:PS) (o:Nat) (Hp Hx:List AObj) (ho:Hp[o]? = some (pr l S)) (hnl:S.nest≤1048576) (hgc:∀args w,(callFunc g args).run Tryz.prog w=.ok (.enter g args) w) (hxl:Hx.length=Hp.length) (hxo:Hx[o]? = some (pr l S2)) (hn2:S2.nest=S.nest+1) (hlow:(∀y∈Hp.set o (pr l (Dq S)),ObjLow Hp.length y)→∀y∈Hx,ObjLow Hp.length y) (hcf:S.nest≠30→∀own,ACall Tryz.prog g (first++caps) (Hp.set o (pr l (Dq S))++own) (fun y H'=>y=Aa x∧H'=Hx++own)):ACall Tryz.prog 256 [.ptr o 0,A4 a,.fn (.func g) first caps] Hp (fun r H'=>(S.nest=30→r=Aa A9∧H'=Hp.set o (pr l (Eo 18 a S)))∧(S.nest≠30→r=Aa x∧H'=Hx.set o (pr l (Yv S2)))):=by
 refine Ak [.cell 6 26] [0,1,2] Tryz.func256 Tryz.ntmps256 (fun d=>?_)
 refine AB2 ?_;refine Z34 ?_
 refine A5 (h:=Dz ho) (hr:=?_)
 refine A5 ?_;refine A2 [0,1,2,6,12] ?_
 refine A3 (fun ht12=>?_) (fun ht12=>?_)
 ·have hn30:S.nest=30:=by have:=ht12;simp at this;omega
  refine Z1 ?_;refine C5 Tryz.call116 ho (by simp) Dg (rj l S 18 a o _ (Ay ho)) ?_;refine I2 ?_;refine pm ?_;exact A7 (An (As jA jS)) ⟨fun _=>⟨by rw [Ad],rfl⟩,fun h=>absurd hn30 h⟩ (hlow:=by have:=Ab Hp.length A9;rw [Ad] at this;simpa using this)
 have hn30:S.nest≠30:=by have:=ht12;simp at this;omega
 refine U4 ?_
 refine A5 (h:=Dz ho) (hr:=?_)
 refine Z29 ?_
 refine F4 jS ho ?_ ?_
 ·simp
 refine A2 [0,2,6] ?_;refine Z2 ?_
 refine R.callVX (up':=Hx) (own':=[Lg]) hgc (hcf hn30 [Lg]) (by simpa using hxl) (by rw [Dm];exact hlow) ?_
 rw [←hxl]
 refine Z16 ?_;refine A2 [0,6,7] ?_;refine Z13 ?_
 refine A5 (h:=Dz hxo) (hr:=?_)
 refine Z29 ?_
 refine F4 jS hxo ?_ ?_
 ·simp
 refine A2 [6,7] ?_;refine Z2 ?_;refine vq ?_;exact A7 (An (As jA jS)) ⟨fun h=>absurd h hn30,fun _=>⟨by rw [Ad],by rw [show ((S2.nest:Int)-1)=((Yv S2).nest:Int) by show _=((S2.nest-1:Nat):Int);omega];rfl⟩⟩ (hlow:=by have:=Ab Hx.length x;rw [Ad] at this;simpa using this)

theorem rk (t:Str) (a b:Expr):Bw (Ib t a b)=[A4 5,.v (sv t),A4 0,A4 0,Ah [],.slice false 6 [Aa a,Aa b]]:=rfl
theorem AC2 {n:Nat} (t:Str) (a b:Expr):ObjLow n (.cells 26 [A4 5,.v (sv t),A4 0,A4 0,Ah [],.slice false 6 [Aa a,Aa b]]):=AC0 (Ib t a b)
theorem AC3 {n:Nat} {U:List AObj} {i:Nat} {x:AObj} (h:∀y∈U,ObjLow n y) (hx:ObjLow n x):∀y∈U.set i x,ObjLow n y:=by
 intro y hy
 rcases Qb hy with h1|h1
 ·exact h y h1
 rw [h1];exact hx
/-- within, with a method's value. -/
theorem xz {g:FuncId} (hgc:∀args w,(callFunc g args).run Tryz.prog w=.ok (.enter g args) w) (l:List Tok) (S:PS) (a:Int) (f:PS→Expr×PS) (o:Nat) (Hp:List AObj) (ho:Hp[o]? = some (pr l S)) (hi:S.i<l.length) (hnl:S.nest≤30) (hf:S.nest≠30→Ey l (S.nest+1) f) (hcf:S.nest≠30→PC g l f (S.nest+1)):
  ACall Tryz.prog 256 [.ptr o 0,A4 a,.fn (.func g) [.ptr o 0] []] Hp (fun r H'=>r=Aa (Cy a f S).1∧H'=Hp.set o (pr l (Cy a f S).2)):=by
 have hlt:=(Ac.1 ho).1
 by_cases h30:S.nest=30
 ·refine (AC1 l S a g [.ptr o 0] [] A9 (Dq S) o Hp (Hp.set o (pr l (Dq S))) ho (by omega) hgc (by simp) (by simp [hlt]) rfl (fun h=>h) (fun h=>absurd h30 h)).mono fun r H' h=>?_
  have e:Cy a f S=(A9,Eo 18 a S):=if_pos (by rw [h30];rfl)
  rw [e]
  exact h.1 h30
 have hq:=hf h30 (Dq S) hi rfl
 refine (AC1 l S a g [.ptr o 0] [] (f (Dq S)).1 (f (Dq S)).2 o Hp (Hp.set o (pr l (f (Dq S)).2)) ho (by omega) hgc (by simp) (by simp [hlt]) hq.nest (fun h y hy=>?_) (fun _ own=>?_)).mono fun r H' h=>?_
 ·rcases Qb hy with h1|h1
  ·obtain ⟨i,hi',rfl⟩:=Rq h1
   by_cases hio:i=o
   ·subst hio
    have:Hp[i]=pr l S:=by rw [Ae hi'] at ho;injection ho
    rw [this];exact Dg
   refine h _ ?_
   rw [lz]
   exact ⟨i,by rw [D7 (Ne.symm hio),Ae hi']⟩
  rw [h1];exact Dg
 ·have hg:(Hp.set o (pr l (Dq S))++own)[o]? = some (pr l (Dq S)):=Ay (by simp [hlt])
  refine (hcf h30 o (Hp.set o (pr l (Dq S))++own) (Dq S) hg hi rfl).mono fun r H' h=>⟨h.1,h.2.trans ?_⟩
  rw [Oa _ _ (by simpa using hlt),Eb]
 have e:Cy a f S=((f (Dq S)).1,Yv (f (Dq S)).2):=if_neg (by
  show ¬(((S.nest:Int)==30)=true)
  simp
  omega)
 rw [e]
 obtain ⟨h1,h2⟩:=h.2 h30
 exact ⟨h1,by rw [h2,Eb]⟩
theorem AC4 {g:FuncId} (hgc:∀args w,(callFunc g args).run Tryz.prog w=.ok (.enter g args) w) (l:List Tok) (S:PS) (of:Str) (hof:of.length≤1048576) (f:PS→Expr×PS) (o:Nat) (Hp:List AObj) (ho:Hp[o]? = some (pr l S)) (hi:S.i<l.length) (hl:TokEnd l) (hll:l.length≤1048576) (hf:Ey l S.nest f) (hcf:PC g l f S.nest):ACall Tryz.prog 156 [.ptr o 0,Ah of,.fn (.func g) [.ptr o 0] []] Hp (fun r H'=>r=Aa (Gi l of f S).1∧H'=Hp.set o (pr l (Gi l of f S).2)):=by
 have holt:=(Ac.1 ho).1
 refine Ak [.cell 6 26] [0,1,2] Tryz.func156 Tryz.ntmps156 (fun d=>?_)
 refine AB2 ?_;refine Z2 ?_;refine R.callVUp hgc ho (by simp) Dg (hcf o _ S (Ay ho) hi rfl) ?_;refine Z16 ?_;refine A2 [0,1,2,6,7] ?_;refine Jk ?_
 refine Dp (α:=Expr×PS) (fun r=>⟨32,Af 0 (.ptr o 0) (Af 1 (Ah of) (Af 2 (.fn (.func g) [.ptr o 0] []) (Af 6 (.ptr (oid Hp.length 0) 0) (Af 7 (.ptr (oid Hp.length 1) 0) (fun _=>.any))))),Hp.set o (pr l r.2),[.cells 26 [A4 0,Ah [],A4 0,A4 0,Ah [],.nil],.cells 26 (Bw r.1)],[],none⟩) (fun r=>LeftAt l of f S r) (fun r=>l.length-r.2.i) (f S) (.start (hf S hi rfl)) (Co (by simp)) rfl (fun r hx=>?_)
 refine Z59 ?_
 refine A5 (h:=Dz (getset ho)) (hr:=?_)
 refine S3 ?_;refine C7 Tryz.call203 (fun hB=>fm l r.2 of o _ (Ay (getset ho)) hx.fact.lt hl hof) ?_;refine A5 ?_;refine A2 [0,1,2,6,7,21] ?_
 refine A3 (fun ht21=>?_) (fun ht21=>?_)
 ·have hon:=hx.on hl ht21 hf
  have hle:=hon.2.1.le
  have hlt0:=hx.fact.lt
  have hU1:(Hp.set o (pr l r.2)).set o (pr l (Aq r.2))=Hp.set o (pr l (Aq r.2)):=Eb ..
  refine Z6 ?_;refine Ia ?_;refine Z2 ?_;refine C5 Tryz.call204 (getset ho) (by simp) Dg (xy l r.2 o _ (Ay (getset ho)) hx.fact.lt hll) ?_;refine Z16 ?_;refine A2 [0,1,2,6,7,8] ?_;refine W.drawY0 [0,1,0,0,8,28,63,127] [4] [.q 4 [] [],.s [28] (some 0) [] [],.q 1 [0] []] (fun B=>Hp.set o (if B 0=true then pr l (f (Aq r.2)).2 else pr l (Aq r.2))) (fun _=>[.cells 26 [A4 0,Ah [],A4 0,A4 0,Ah [],.nil],.cells 26 (Bw r.1),.cells 113 [A4 (Av l r.2.i).kind,Ah (Av l r.2.i).text,A4 (Av l r.2.i).at_]]) Ar (by kernel_rfl) (by simp [Eb]) rfl (fun B=>by simp) ?_
  apply Y.q
  ·intro B hT hF
   refine Vo ?_;exact bg
  case hTF=>decide
  refine Y.callVUp (r:=Aa (f (Aq r.2)).1) (o:=o) (x0:=pr l (Aq r.2)) (x:=pr l (f (Aq r.2)).2) hgc (fun B hT hF hB=>⟨by simp only [hB];exact getset ho,by simp [upd],rfl,Dg,?_⟩) ?_
  ·simp only [hB]
   exact hcf o _ (Aq r.2) (Ay (getset ho)) hon.1 hx.fact.nest
  apply Y.q
  ·intro B hT hF
   exact vj
  case hTF=>decide
  refine He (tn:=[4]) (U:=Hp.set o (pr l (f (Aq r.2)).2)) ?_;refine Z83 ?_;refine A2 [0,1,2,6,7] ?_;refine Kd ?_
  refine Cd (Ib (Av l r.2.i).text r.1 (f (Aq r.2)).1,(f (Aq r.2)).2) hon.2.2 (by show l.length-(f (Aq r.2)).2.i<l.length-r.2.i;have:r.2.i+1≤(f (Aq r.2)).2.i:=hle;omega) ?_
  simp only [rk]
  have hlow2:=fun n=>AC2 (n:=n) (Av l r.2.i).text r.1 (f (Aq r.2)).1
  simp only [Ad] at hlow2 ⊢
  exact Dk (fun _=>.refl _) (by repeat (first|exact Bg|refine Bf (by simp [oid]<;>omega) ?_)) (by intro y hy;rcases Bj.1 hy with rfl|hy;exact Qz;rw [B2.1 hy];exact hlow2 _) (by simp)
 have hout:=hx.out (by rw [ht21];simp)
 refine py ?_;refine Z2 ?_;refine vq ?_;exact A7 (An (As jA jS)) ⟨by rw [hout,Ad],by rw [hout]⟩ (hlow:=by have:=Ab (Hp.set o (pr l r.2)).length r.1;rw [Ad] at this;simpa using this)

theorem AKv (l:List Tok) (S:PS) (f:PS→Expr×PS) (o:Nat) (Hp:List AObj) (ho:Hp[o]? = some (pr l S)) (hi:S.i<l.length) (hl:TokEnd l) (hll:l.length≤1048576) (hf:Ey l S.nest f) (hcf:PC 157 l f S.nest):ACall Tryz.prog 114 [.ptr o 0] Hp (fun r H'=>r=Aa (Gi l orT f S).1∧H'=Hp.set o (pr l (Gi l orT f S).2)):=by
 refine Ak [.cell 2 26] [0] Tryz.func114 Tryz.ntmps114 (fun d=>?_)
 refine Z61 ?_;refine Z1 ?_;refine La ?_;refine C5 Tryz.call156 ho (by simp) Dg (AC4 Tryz.call157 l S orT (by decide) f o _ (Ay ho) hi hl hll hf hcf) ?_;refine Z11 ?_;exact A7 (An (As jA jS)) ⟨by rw [Ad],rfl⟩ (hlow:=by have:=Ab Hp.length (Gi l orT f S).1;rw [Ad] at this;simpa using this)

theorem AKw (l:List Tok) (S:PS) (f:PS→Expr×PS) (o:Nat) (Hp:List AObj) (ho:Hp[o]? = some (pr l S)) (hi:S.i<l.length) (hl:TokEnd l) (hll:l.length≤1048576) (hf:Ey l S.nest f) (hcf:PC 205 l f S.nest):ACall Tryz.prog 157 [.ptr o 0] Hp (fun r H'=>r=Aa (Gi l rf f S).1∧H'=Hp.set o (pr l (Gi l rf f S).2)):=by
 refine Ak [.cell 2 26] [0] Tryz.func157 Tryz.ntmps157 (fun d=>?_)
 refine Z61 ?_;refine Z1 ?_;refine La ?_;refine C5 Tryz.call156 ho (by simp) Dg (AC4 Tryz.call205 l S rf (by decide) f o _ (Ay ho) hi hl hll hf hcf) ?_;refine Z11 ?_;exact A7 (An (As jA jS)) ⟨by rw [Ad],rfl⟩ (hlow:=by have:=Ab Hp.length (Gi l rf f S).1;rw [Ad] at this;simpa using this)

theorem AKx (l:List Tok) (S:PS) (f:PS→Expr×PS) (o:Nat) (Hp:List AObj) (ho:Hp[o]? = some (pr l S)) (hi:S.i<l.length) (hl:TokEnd l) (hll:l.length≤1048576) (hf:Ey l S.nest f) (hcf:PC 317 l f S.nest):ACall Tryz.prog 291 [.ptr o 0] Hp (fun r H'=>r=Aa (Gi l rg f S).1∧H'=Hp.set o (pr l (Gi l rg f S).2)):=by
 refine Ak [.cell 2 26] [0] Tryz.func291 Tryz.ntmps291 (fun d=>?_)
 refine Z61 ?_;refine Z1 ?_;refine La ?_;refine C5 Tryz.call156 ho (by simp) Dg (AC4 Tryz.call317 l S rg (by decide) f o _ (Ay ho) hi hl hll hf hcf) ?_;refine Z11 ?_;exact A7 (An (As jA jS)) ⟨by rw [Ad],rfl⟩ (hlow:=by have:=Ab Hp.length (Gi l rg f S).1;rw [Ad] at this;simpa using this)

theorem AKy (l:List Tok) (S:PS) (f:PS→Expr×PS) (o:Nat) (Hp:List AObj) (ho:Hp[o]? = some (pr l S)) (hi:S.i<l.length) (hl:TokEnd l) (hll:l.length≤1048576) (hf:Ey l S.nest f) (hcf:PC 334 l f S.nest):ACall Tryz.prog 317 [.ptr o 0] Hp (fun r H'=>r=Aa (Gi l Yx f S).1∧H'=Hp.set o (pr l (Gi l Yx f S).2)):=by
 refine Ak [.cell 2 26] [0] Tryz.func317 Tryz.ntmps317 (fun d=>?_)
 refine Z61 ?_;refine Z1 ?_;refine La ?_;refine C5 Tryz.call156 ho (by simp) Dg (AC4 Tryz.call334 l S Yx (by decide) f o _ (Ay ho) hi hl hll hf hcf) ?_;refine Z11 ?_;exact A7 (An (As jA jS)) ⟨by rw [Ad],rfl⟩ (hlow:=by have:=Ab Hp.length (Gi l Yx f S).1;rw [Ad] at this;simpa using this)

/-- What is so of the functions one nest deeper. -/
structure DeepC (l:List Tok) (Dv:Fam) (n:Nat):Prop where
 ei:n≠30→Ey l (n+1) Dv.ei∧PC 114 l Dv.ei (n+1)
 no:n≠30→Ey l (n+1) Dv.no∧PC 205 l Dv.no (n+1)
 ne:n≠30→Ey l (n+1) Dv.ne∧PC 334 l Dv.ne (n+1)
theorem Up (op:Int) (x:Expr):Aa (G4 op x)=.agg [A4 op,Ah [],A4 0,A4 0,Ah [],.slice false 6 [Aa x]]:=by rw [Ad];rfl
theorem n5 (t:Str) (a b:Expr):Aa (Ib t a b)=.agg [A4 5,.v (sv t),A4 0,A4 0,Ah [],.slice false 6 [Aa a,Aa b]]:=by rw [Ad];rfl
theorem low_agg {n:Nat} (e:Expr):Low n (.agg [.v (.int .i64 e.op),.v (sv e.text),.v (.int .i64 e.val.kind),.v (.int .i64 e.val.n),.v (sv e.val.s),.slice false 6 (e.kids.map Aa)]):=by
 have:=Ab n e
 rwa [Ad] at this
theorem AKz (l:List Tok) (S:PS) (Dv:Fam) (o:Nat) (Hp:List AObj) (ho:Hp[o]? = some (pr l S)) (hi:S.i<l.length) (hl:TokEnd l) (hll:l.length≤1048576) (hnl:S.nest≤30) (hd:DeepC l Dv S.nest) (hc:PC 346 l (H1 l Dv) S.nest):ACall Tryz.prog 334 [.ptr o 0] Hp (fun r H'=>r=Aa (U8 l Dv S).1∧H'=Hp.set o (pr l (U8 l Dv S).2)):=by
 refine Ak [.cell 2 26] [0] Tryz.func334 Tryz.ntmps334 (fun d=>?_)
 refine Z61 ?_;refine Z36 ?_;refine A8 Tryz.call203 (fm l S AFg o _ (Ay ho) hi hl (by decide)) ?_;refine A5 ?_;refine A2 [0,2,6] ?_
 refine A3 (fun ht6=>?_) (fun ht6=>?_)
 ·have e:U8 l Dv S=H1 l Dv S:=if_pos ht6
  refine Z2 ?_;refine C5 Tryz.call346 ho (by simp) Dg (hc o _ S (Ay ho) hi rfl) ?_;refine Z11 ?_;exact Z71
 have his:isM l AFg S=true:=by simpa using ht6
 have hi1:(Aq S).i<l.length:=hl.stepIs hi his
 have e:U8 l Dv S=(G4 3 (Cy (Av l S.i).at_ Dv.ne (Aq S)).1,(Cy (Av l S.i).at_ Dv.ne (Aq S)).2):=if_neg (by rw [ht6];simp)
 refine Z6 ?_;refine Z54 ?_;refine AB9 ?_;refine Z18 ?_;refine La ?_;refine C5 Tryz.call256 (getset ho) (by simp) Dg (xz Tryz.call334 l (Aq S) (Av l S.i).at_ Dv.ne o _ (Ay (getset ho)) hi1 hnl (fun h=>(hd.ne h).1) (fun h=>(hd.ne h).2)) ?_;refine U6 ?_;refine AEg ?_;exact A7 (An (As jA jS)) ⟨by rw [e,Up];simp only [Ad],by rw [e,Eb]⟩ (hlow:=by have:=Ab Hp.length (G4 3 (Cy (Av l S.i).at_ Dv.ne (Aq S)).1);rw [Up] at this;simp only [Ad] at this;simpa only [Dm] using this)

theorem AL0 (l:List Tok) (S:PS) (Dv:Fam) (o:Nat) (Hp:List AObj) (ho:Hp[o]? = some (pr l S)) (hi:S.i<l.length) (hl:TokEnd l) (hll:l.length≤1048576) (hnl:S.nest≤30) (hd:DeepC l Dv S.nest) (hc:PC 255 l (G5 l Dv) S.nest):ACall Tryz.prog 205 [.ptr o 0] Hp (fun r H'=>r=Aa (U9 l Dv S).1∧H'=Hp.set o (pr l (U9 l Dv S).2)):=by
 refine Ak [.cell 2 26] [0] Tryz.func205 Tryz.ntmps205 (fun d=>?_)
 refine Z61 ?_;refine Z36 ?_;refine A8 Tryz.call203 (fm l S AFf o _ (Ay ho) hi hl (by decide)) ?_;refine A5 ?_;refine A2 [0,2,6] ?_
 refine A3 (fun ht6=>?_) (fun ht6=>?_)
 ·have e:U9 l Dv S=G5 l Dv S:=if_pos ht6
  refine Z2 ?_;refine C5 Tryz.call255 ho (by simp) Dg (hc o _ S (Ay ho) hi rfl) ?_;refine Z11 ?_;exact Z71
 have his:isM l AFf S=true:=by simpa using ht6
 have hi1:(Aq S).i<l.length:=hl.stepIs hi his
 have e:U9 l Dv S=(G4 4 (Cy (Av l S.i).at_ Dv.no (Aq S)).1,(Cy (Av l S.i).at_ Dv.no (Aq S)).2):=if_neg (by rw [ht6];simp)
 refine Z6 ?_;refine Z54 ?_;refine AB9 ?_;refine Z18 ?_;refine La ?_;refine C5 Tryz.call256 (getset ho) (by simp) Dg (xz Tryz.call205 l (Aq S) (Av l S.i).at_ Dv.no o _ (Ay (getset ho)) hi1 hnl (fun h=>(hd.no h).1) (fun h=>(hd.no h).2)) ?_;refine U6 ?_;refine AEg ?_;exact A7 (An (As jA jS)) ⟨by rw [e,Up];simp only [Ad],by rw [e,Eb]⟩ (hlow:=by have:=Ab Hp.length (G4 4 (Cy (Av l S.i).at_ Dv.no (Aq S)).1);rw [Up] at this;simp only [Ad] at this;simpa only [Dm] using this)

theorem AL1 (l:List Tok) (S:PS) (Dv:Fam) (o:Nat) (Hp:List AObj) (ho:Hp[o]? = some (pr l S)) (hi:S.i<l.length) (hl:TokEnd l) (hll:l.length≤1048576) (hnl:S.nest≤30) (hd:DeepC l Dv S.nest) (hg:Ey l S.nest (Ex l Dv)) (hc:PC 291 l (Ex l Dv) S.nest):ACall Tryz.prog 255 [.ptr o 0] Hp (fun r H'=>r=Aa (G5 l Dv S).1∧H'=Hp.set o (pr l (G5 l Dv S).2)):=by
 have hq:=hg S hi rfl
 refine Ak [.cell 2 26] [0] Tryz.func255 Tryz.ntmps255 (fun d=>?_)
 refine Z61 ?_;refine Z2 ?_;refine C5 Tryz.call291 ho (by simp) Dg (hc o _ S (Ay ho) hi rfl) ?_;refine AB9 ?_;refine Z59 ?_
 refine A5 (h:=Dz (getset ho)) (hr:=?_)
 refine dw ?_;refine C7 Tryz.call203 (fun hB=>fm l (Ex l Dv S).2 ABz o _ (Ay (getset ho)) hq.lt hl (by decide)) ?_;refine Z64 ?_;refine A2 [0,2,3,17] ?_
 refine A3 (fun ht17=>?_) (fun ht17=>?_)
 ·have e:G5 l Dv S=Ex l Dv S:=if_pos ht17
  refine Z2 ?_;refine Z11 ?_;exact Z71
 have his:isM l ABz (Ex l Dv S).2=true:=by
  have:=ht17
  simp only [Fe,K1] at this
  exact this.2
 have hi1:(Aq (Ex l Dv S).2).i<l.length:=hl.stepIs hq.lt his
 have e:G5 l Dv S=(Ib (Av l (Ex l Dv S).2.i).text (Ex l Dv S).1 (Ex l Dv (Aq (Ex l Dv S).2)).1,(Ex l Dv (Aq (Ex l Dv S).2)).2):=if_neg (by rw [ht17];simp)
 refine Z74 ?_;refine C5 Tryz.call204 (getset ho) (by simp) Dg (xy l (Ex l Dv S).2 o _ (Ay (getset ho)) hq.lt hll) ?_;refine Z16 ?_;refine A2 [0,2,3,4] ?_;refine Hd [0,1,0,0,8,28,63,127] [4] [.q 4 [] [],.s [25] (some 0) [] [],.q 1 [0] []] (fun B=>Hp.set o (if B 0=true then pr l (Ex l Dv (Aq (Ex l Dv S).2)).2 else pr l (Aq (Ex l Dv S).2))) (fun _=>[.cells 26 [A4 0,Ah [],A4 0,A4 0,Ah [],.nil],.cells 26 (Bw (Ex l Dv S).1),.cells 113 [A4 (Av l (Ex l Dv S).2.i).kind,Ah (Av l (Ex l Dv S).2.i).text,A4 (Av l (Ex l Dv S).2.i).at_]]) Ar (by kernel_rfl) (by simp [Eb]) rfl (fun B=>by simp) ?_
 apply Y.q
 ·intro B hT hF
  refine Vo ?_;exact bg
 case hTF=>decide
 refine Y.callUp (r:=Aa (Ex l Dv (Aq (Ex l Dv S).2)).1) (o:=o) (x0:=pr l (Aq (Ex l Dv S).2)) (x:=pr l (Ex l Dv (Aq (Ex l Dv S).2)).2) Tryz.call291 (fun B hT hF hB=>⟨by simp only [hB];exact getset ho,by simp [upd],rfl,Dg,?_⟩) ?_
 ·simp only [hB]
  exact hc o _ (Aq (Ex l Dv S).2) (Ay (getset ho)) hi1 hq.nest
 apply Y.q
 ·intro B hT hF
  exact vj
 case hTF=>decide
 refine He (tn:=[4]) (U:=Hp.set o (pr l (Ex l Dv (Aq (Ex l Dv S).2)).2)) ?_;refine AEg ?_;exact A7 (An (As jA jS)) ⟨by rw [e,n5];simp only [Ad],by rw [e]⟩ (hlow:=by have:=Ab Hp.length (Ib (Av l (Ex l Dv S).2.i).text (Ex l Dv S).1 (Ex l Dv (Aq (Ex l Dv S).2)).1);rw [n5] at this;simp only [Ad] at this;simpa only [Dm] using this)

/-- The contract of the parser of calls. -/
def Z8 (l:List Tok) (Dv:Fam) (n:Nat):Prop:=∀(o:Nat) (Hp:List AObj) (S:PS) (t:Tok),Hp[o]? = some (pr l S)→(Aq S).i<l.length→S.nest=n→t.text.length≤1048576→isM l opT S=true→ACall Tryz.prog 349 [.ptr o 0,Ko t] Hp (fun r H'=>r=Aa (Ie l Dv t S).1∧H'=Hp.set o (pr l (Ie l Dv t S).2))
theorem fp:Aa A9=.agg [A4 0,Ah [],A4 0,A4 0,Ah [],.slice false 6 []]:=by rw [Ad];rfl
theorem AL2 (l:List Tok) (S:PS) (Dv:Fam) (o:Nat) (Hp:List AObj) (ho:Hp[o]? = some (pr l S)) (hi:S.i<l.length) (hl:TokEnd l) (hll:l.length≤1048576) (hnl:S.nest≤30) (hd:DeepC l Dv S.nest) (hcl:Z8 l Dv S.nest):ACall Tryz.prog 346 [.ptr o 0] Hp (fun r H'=>r=Aa (H1 l Dv S).1∧H'=Hp.set o (pr l (H1 l Dv S).2)):=by
 refine Ak [.cell 2 26] [0] Tryz.func346 Tryz.ntmps346 (fun d=>?_)
 refine Z61 ?_;refine Z2 ?_;refine AAu ?_;refine A2 [0,2,3] ?_;refine Z59 ?_
 refine A5 (h:=Dz ho) (hr:=?_)
 refine A5 ?_;refine A2 [0,2,3,14] ?_
 refine A3 (fun ht14=>?_) (fun ht14=>?_)
 ·have e:H1 l Dv S=(A9,S):=if_pos ht14
  refine Z28 ?_;refine Ek 15 _ G6 ?_;refine pu ?_;exact A7 (An (As jA jS)) ⟨by rw [e,Ad],by rw [e];exact (J8 ho).symm⟩ (hlow:=by have:=Ab Hp.length (A9);simpa only [Ad,Dm] using this)
 have e0:¬(S.code != 0)=true:=by rw [ht14];simp
 refine Z6 ?_;refine Z22 ?_;refine q8 ?_;refine C7 Tryz.call203 (fun hB=>fm l S AFh o _ (Ay ho) hi hl (by decide)) ?_;refine Z0 ?_;refine A2 [0,2,3,16] ?_
 refine A3 (fun ht16=>?_) (fun ht16=>?_)
 ·have e:H1 l Dv S=(Dl (I3 (Av l S.i).text).1,Aq S):=by unfold H1;rw [if_neg e0,if_pos ht16]
  refine Z54 ?_;refine A5 ?_;refine A8 Tryz.call252 (AF7 (Av l S.i).text (hl.text _) _) ?_;refine No ?_;refine A2 [2,4] ?_;refine Z2 ?_;refine A8 Tryz.call348 (AIt (I3 (Av l S.i).text).1 _) ?_;refine Z11 ?_;refine Z5 ?_;exact A7 (An (As jA jS)) ⟨by rw [e,Ad],by rw [e]⟩ (hlow:=by have:=Ab Hp.length (Dl (I3 (Av l S.i).text).1);simpa only [Ad,Dm] using this)
 have e1:¬(((Av l S.i).kind==3) || isM l AFh S)=true:=by rw [ht16];simp
 refine Z18 ?_;refine A2 [0,2,3,33] ?_
 refine A3 (fun ht33=>?_) (fun ht33=>?_)
 ·have e:H1 l Dv S=(Dl ⟨2,0,(Av l S.i).text.take 200⟩,Aq S):=by unfold H1;rw [if_neg e0,if_neg e1,if_pos ht33]
  refine Z54 ?_;refine A5 ?_;refine A8 Tryz.call223 (qq (Av l S.i).text _) ?_;refine A8 Tryz.call348 (AIt ⟨2,0,(Av l S.i).text.take 200⟩ _) ?_;refine Z11 ?_;refine Z5 ?_;exact A7 (An (As jA jS)) ⟨by rw [e,Ad],by rw [e]⟩ (hlow:=by have:=Ab Hp.length (Dl ⟨2,0,(Av l S.i).text.take 200⟩);simpa only [Ad,Dm] using this)
 have e2:¬((Av l S.i).kind==4)=true:=by rw [ht33];simp
 refine Z18 ?_;refine A2 [0,2,3,42] ?_
 refine A3 (fun ht42=>?_) (fun ht42=>?_)
 ·have hi1:(Aq S).i<l.length:=hl.step hi (by rw [beq_iff_eq] at ht42;rw [ht42];decide)
  refine Z54 ?_;refine A2 [0,2,3] ?_;refine Z36 ?_;refine A8 Tryz.call203 (fm l (Aq S) opT o _ (Ay (getset ho)) hi1 hl (by decide)) ?_;refine A2 [0,2,3,49] ?_
  refine A3 (fun ht49=>?_) (fun ht49=>?_)
  ·have e:H1 l Dv S=Ie l Dv (Av l S.i) (Aq S):=by unfold H1;rw [if_neg e0,if_neg e1,if_neg e2,if_pos ht42,if_pos ht49]
   have hi2:(Aq (Aq S)).i<l.length:=hl.stepIs hi1 ht49
   refine Z1 ?_;refine C5 Tryz.call349 (getset ho) (by simp) Dg (hcl o _ (Aq S) (Av l S.i) (Ay (getset ho)) hi2 rfl (hl.text _) ht49) ?_;refine pu ?_;refine Z5 ?_;exact A7 (An (As jA jS)) ⟨by rw [e,Ad],by rw [e,Eb]⟩ (hlow:=by have:=Ab Hp.length ((Ie l Dv (Av l S.i) (Aq S)).1);simpa only [Ad,Dm] using this)
  have e:H1 l Dv S=(Bb (Av l S.i).text,Aq S):=by unfold H1;rw [if_neg e0,if_neg e1,if_neg e2,if_pos ht42,if_neg (by rw [ht49];simp)]
  refine Z6 ?_;refine AEf ?_;refine Ek 55 _ (eo _) ?_;refine Z11 ?_;refine Z5 ?_;exact A7 (An (As jA jS)) ⟨by rw [e,Ad],by rw [e]⟩ (hlow:=by have:=Ab Hp.length (Bb (Av l S.i).text);simpa only [Ad,Dm] using this)
 have e3:¬((Av l S.i).kind==1)=true:=by rw [ht42];simp
 refine Z2 ?_;refine A8 Tryz.call203 (fm l S opT o _ (Ay ho) hi hl (by decide)) ?_;refine A5 ?_;refine A2 [0,2,3,56] ?_
 refine A3 (fun ht56=>?_) (fun ht56=>?_)
 ·have e:H1 l Dv S=((Cy (Av l S.i).at_ Dv.ei (Aq S)).1,Fz l Fw (Cy (Av l S.i).at_ Dv.ei (Aq S)).2):=by unfold H1;rw [if_neg e0,if_neg e1,if_neg e2,if_neg e3,if_pos ht56]
  have hi1:(Aq S).i<l.length:=hl.stepIs hi ht56
  have hwf:=Jv (S:=Aq S) (l:=l) (f:=Dv.ei) (Av l S.i).at_ hi1 (fun h=>(hd.ei h).1)
  refine Z54 ?_;refine A2 [0,2,3] ?_;refine Z18 ?_;refine La ?_;refine C5 Tryz.call256 (getset ho) (by simp) Dg (xz Tryz.call114 l (Aq S) (Av l S.i).at_ Dv.ei o _ (Ay (getset ho)) hi1 hnl (fun h=>(hd.ei h).1) (fun h=>(hd.ei h).2)) ?_;refine Z16 ?_;refine A2 [0,2,6] ?_;refine Z2 ?_;refine C5 Tryz.call350 (getset (getset ho)) (by simp) Dg (AIu l (Cy (Av l S.i).at_ Dv.ei (Aq S)).2 Fw o _ (Ay (getset (getset ho))) hwf.lt hll) ?_;refine A2 [2,6] ?_;refine Z2 ?_;refine Z11 ?_;refine Z5 ?_;exact A7 (An (As jA jS)) ⟨by rw [e,Ad],by rw [e,Eb,Eb]⟩ (hlow:=by have:=Ab Hp.length ((Cy (Av l S.i).at_ Dv.ei (Aq S)).1);simpa only [Ad,Dm] using this)
 have e:H1 l Dv S=(A9,Eo 8 (Av l S.i).at_ S):=by unfold H1;rw [if_neg e0,if_neg e1,if_neg e2,if_neg e3,if_neg (by rw [ht56];simp)]
 refine Z20 ?_;refine AHc ?_;refine Z11 ?_;exact A7 (An (As jA jS)) ⟨by rw [e,Ad],by rw [e]⟩ (hlow:=by have:=Ab Hp.length (A9);simpa only [Ad,Dm] using this)

theorem AC5 {l:List Tok} (hl:TokEnd l) (hll:l.length≤1048576) {d n:Nat} (h:n+(d+1)=31) (hp:n≠30→PC 114 l (Fx l d).ei (n+1)∧PC 205 l (Fx l d).no (n+1)∧PC 334 l (Fx l d).ne (n+1)):DeepC l (Fx l d) n:=by
 have g:n≠30→_:=fun h30=>Sq hl hll d (n+1) (by omega) (by omega)
 exact ⟨fun h=>⟨(g h).1,(hp h).1⟩,fun h=>⟨(g h).2.1,(hp h).2.1⟩,fun h=>⟨(g h).2.2,(hp h).2.2⟩⟩
/-- All functions of the parser. -/
theorem fq {l:List Tok} (hl:TokEnd l) (hll:l.length≤1048576) (hcl:∀n Dv,n≤30→DeepC l Dv n→Z8 l Dv n):∀(d n:Nat),n+d=31→n≤30→PC 114 l (Fx l d).ei n∧PC 205 l (Fx l d).no n∧PC 334 l (Fx l d).ne n
 | 0,n,h,hn=>by omega
 | d+1,n,h,hn=>by
  have hd:DeepC l (Fx l d) n:=AC5 hl hll h (fun h30=>fq hl hll hcl d (n+1) (by omega) (by omega))
  have g1:Ey l n (U8 l (Fx l d)):=Sp hl hll (fun h=>(hd.ei h).1) (fun h=>(hd.ne h).1)
  have g2:Ey l n (fh l (Fx l d)):=Hg hl g1
  have g3:Ey l n (Ex l (Fx l d)):=Hg hl g2
  have g4:Ey l n (G5 l (Fx l d)):=P3 hl hll (fun h=>(hd.ei h).1) (fun h=>(hd.ne h).1)
  have g5:Ey l n (U9 l (Fx l d)):=Z3 hl hll (fun h=>(hd.ei h).1) (fun h=>(hd.ne h).1) (fun h=>(hd.no h).1)
  have g6:Ey l n (fj l (Fx l d)):=Hg hl g5
  have p0:PC 346 l (H1 l (Fx l d)) n:=fun o Hp S ho hi hS=>by
   subst hS
   exact AL2 l S (Fx l d) o Hp ho hi hl hll hn hd (hcl _ _ hn hd)
  have p1:PC 334 l (U8 l (Fx l d)) n:=fun o Hp S ho hi hS=>by
   subst hS
   exact AKz l S (Fx l d) o Hp ho hi hl hll hn hd p0
  have p2:PC 317 l (fh l (Fx l d)) n:=fun o Hp S ho hi hS=>by
   subst hS
   exact AKy l S (U8 l (Fx l d)) o Hp ho hi hl hll g1 p1
  have p3:PC 291 l (Ex l (Fx l d)) n:=fun o Hp S ho hi hS=>by
   subst hS
   exact AKx l S (fh l (Fx l d)) o Hp ho hi hl hll g2 p2
  have p4:PC 255 l (G5 l (Fx l d)) n:=fun o Hp S ho hi hS=>by
   subst hS
   exact AL1 l S (Fx l d) o Hp ho hi hl hll hn hd g3 p3
  have p5:PC 205 l (U9 l (Fx l d)) n:=fun o Hp S ho hi hS=>by
   subst hS
   exact AL0 l S (Fx l d) o Hp ho hi hl hll hn hd p4
  have p6:PC 157 l (fj l (Fx l d)) n:=fun o Hp S ho hi hS=>by
   subst hS
   exact AKw l S (U9 l (Fx l d)) o Hp ho hi hl hll g5 p5
  have p7:PC 114 l (Uo l (Fx l d)) n:=fun o Hp S ho hi hS=>by
   subst hS
   exact AKv l S (fj l (Fx l d)) o Hp ho hi hl hll g6 p6
  exact ⟨p7,p5,p1⟩
theorem Za:∀(n:Nat) (e:Expr),okE n e→depthE e≤n
 | 0,_,h=>h.elim
 | n+1,e,h=>by
  rw [Ls]
  have:∀l:List Expr,(∀y∈l,okE n y)→F6 l≤n:=by
   intro l
   induction l with
   | nil=>intro _;exact Bc _
   | cons y r ih =>
    intro hl
    rw [F6]
    have h1:=Za n y (hl y (by simp))
    have h2:=ih (fun z hz=>hl z (by simp [hz]))
    omega
  have:=this e.kids h.2.2
  omega
theorem ce {n:Nat} {U F:Nat→List AObj} {H':List AObj} (h:Ki (fun _=>true) U F n H'):H'=U n:=by
 rcases h with ⟨_,h⟩|⟨j,_,_,h,_⟩
 ·exact h
 cases h
theorem Sr {α:Type} {l:List α} {k:Nat} {y:α} (h:l[k]? = some y):l.take (k+1)=l.take k++[y]:=by rw [List.take_add_one,h];rfl
theorem y6 {L:List (Int×Expr)} {k:Nat} {it:Int×Expr} (h:L[k]? = some it):Fl 0 (L.take (k+1))=if Fl 0 (L.take k)<it.1 then it.1 else Fl 0 (L.take k):=by
 have e:Fl 0 (L.take (k+1))=max (Fl 0 (L.take k)) it.1:=by
  unfold Fl
  rw [Sr h,Zy]
  rfl
 rw [e]
 split<;>omega
def Fy (L:List (Int×Expr)) (k:Nat):List Str:=(L.take k).foldl (fun l it=>J2 l it.2) []
theorem Zb {L:List (Int×Expr)} {k:Nat} {it:Int×Expr} (h:L[k]? = some it):Fy L (k+1)=J2 (Fy L k) it.2:=by
 unfold Fy
 rw [Sr h,Zy]
 rfl
theorem Pv (L:List (Int×Expr)) (k:Nat):(Fy L k).length≤k:=by
 unfold Fy
 have h:=f7 ((L.take k).map (·.2)) []
 rw [List.foldl_map] at h
 simp only [Au,Da,B3] at h
 omega
theorem Ss {n k:Nat} {o:Bool} {l:List Str}:Low n (.slice o k (l.map Ah)):=by simp [or_imp,forall_and]
theorem AL3 (n:Nat) (e:Expr) (hok:okE n e) (hn:n≤1048576) (hs:sizeE e≤1048576) (Hp:List AObj):AFun Tryz.prog 115 [Aa e] Hp (A4 (depthE e:Nat)):=by
 refine Ak [.tmp 2] [0,4] Tryz.func115 Tryz.ntmps115 (fun d=>?_)
 refine Z1 ?_;refine A2 [1,4] ?_;refine pt ?_;refine A2 [1,3,4] ?_;refine Z56 ?_
 refine Ii (fun hlow=>?_)
 refine AAy ?_;refine A2 [3,4,6] ?_;refine Ia ?_
 refine Kf (m:=1) Tryz.call123 (fun FR as' bd' hFR has hbd=>?_)
 have hFRl:∀s,Low (Hp.length+3) (FR s):=by
  intro s
  rw [hFR]
  refine L7 ?_
  revert s
  repeat (first|exact Bg|refine Bf (by simp [oid,Ab]<;>try omega) ?_)
 have hOl:∀{k:Nat},∀x∈[AObj.cells 3 [A4 (Fl 0 ((Ba 1 e).take k))],AObj.defs,AObj.loop LoopState.ready none FR 13 #[7,8] as' bd' (oid Hp.length 1)],ObjLow (Hp.length+3) x:=by
  intro k x hx
  simp only [Bj,Ev,or_false] at hx
  rcases hx with rfl|rfl|rfl
  ·intro y hy
   rw [B2.1 hy]
   first|exact Ss|simp
  ·trivial
  exact jo
 refine ⟨fun _ H'=>Ki (fun _=>true) (fun k=>Hp++[AObj.cells 3 [A4 (Fl 0 ((Ba 1 e).take k))],AObj.defs,AObj.loop LoopState.ready none FR 13 #[7,8] as' bd' (oid Hp.length 1)]) (fun k=>Hp++[AObj.cells 3 [A4 (Fl 0 ((Ba 1 e).take k))],AObj.defs,AObj.loop LoopState.ready none FR 13 #[7,8] as' bd' (oid Hp.length 1)]) (Ba 1 e).length H',ABh (l:=oid Hp.length 2) (go:=fun _=>true) (U:=fun k=>Hp++[AObj.cells 3 [A4 (Fl 0 ((Ba 1 e).take k))],AObj.defs,AObj.loop LoopState.ready none FR 13 #[7,8] as' bd' (oid Hp.length 1)]) (F:=fun k=>Hp++[AObj.cells 3 [A4 (Fl 0 ((Ba 1 e).take k))],AObj.defs,AObj.loop LoopState.ready none FR 13 #[7,8] as' bd' (oid Hp.length 1)]) (n0:=Hp.length+3) ⟨fun k=>by simp,fun k=>by simp,fun k x hx=>?_,fun k x hx=>?_,by simp [oid],fun X k it hit hgo=>?_⟩ n hok hn,?_⟩
 ·exact jp
 ·exact jp
 ·have hklt:k<sizeE e:=by rw [←Fv 1 e];exact (Ac.1 hit).1
  generalize hV:(Hp++[AObj.cells 3 [A4 (Fl 0 ((Ba 1 e).take k))],AObj.defs,AObj.loop LoopState.ready none FR 13 #[7,8] as' bd' (oid Hp.length 1)]++X)=V
  have hL:V[oid Hp.length 2]? = some (AObj.loop LoopState.ready none FR 13 #[7,8] as' bd' (oid Hp.length 1)):=by rw [←hV,B9,B0];rfl
  have hA0:V[oid Hp.length 0]? = some (AObj.cells 3 [A4 (Fl 0 ((Ba 1 e).take k))]):=by rw [←hV,B9,B0];rfl
  refine K8 (pd:=none) (fr:=FR) (sz:=13) (ps:=#[7,8]) (df:=oid Hp.length 1) (asg:=as') (bd:=bd') hL rfl (by decide) (fun d=>?_)
  subst hFR has hbd
  refine Fu [3,7,8] ?_;refine Z93 ?_;refine A2 [3,4] ?_
  refine ⟨rfl,none,hL,?_⟩
  generalize hbz:(AObj.loop LoopState.busy _ _ _ _ _ _ _)=bz
  have hA:(V.set (oid Hp.length 2) bz)[oid Hp.length 0]? = some (AObj.cells 3 [A4 (Fl 0 ((Ba 1 e).take k))]):=by rw [D7 (By (by decide))];exact hA0
  refine Ia ?_;refine Mp ?_
  refine A5 (h:=Dz hA) (hr:=?_)
  refine A5 ?_;refine R.maxI ?_
  refine F4 jS hA ?_ ?_
  ·simp
  refine Xr ?_
  subst hbz
  refine ABa ?_
  refine ⟨rfl,?_⟩
  rw [if_pos rfl]
  subst hV
  simp only [B9,Dy,Dd,Cz,List.set_cons_succ,List.set_cons_zero]
  rw [y6 hit]
 intro r H' hq
 obtain rfl:=ce hq
 refine ⟨Hp,_,_,_,rfl,rfl,fun h=>h,?_,rfl,by simp,?_⟩
 ·intro o ho
  have:o=oid Hp.length 1:=by simpa using ho
  subst this
  rw [B0]
  rfl
 refine Z15 ?_;refine Z1 ?_;refine Z4 ?_;exact A7 (An A6) ⟨by rw [Ob,Tm],rfl⟩

theorem AL4 (n:Nat) (e:Expr) (hok:okE n e) (hn:n≤1048576) (hs:sizeE e≤1048576) (Hp:List AObj):AFun Tryz.prog 117 [Aa e] Hp (A4 (sizeE e:Nat)):=by
 refine Ak [.tmp 2] [0] Tryz.func117 Tryz.ntmps117 (fun d=>?_)
 refine Z84 ?_;refine pt ?_;refine A2 [1,3] ?_;refine Z56 ?_
 refine Ii (fun hlow=>?_)
 refine AAy ?_;refine A2 [3,5] ?_;refine Ia ?_
 refine Kf (m:=1) Tryz.call123 (fun FR as' bd' hFR has hbd=>?_)
 have hFRl:∀s,Low (Hp.length+3) (FR s):=by
  intro s
  rw [hFR]
  refine L7 ?_
  revert s
  repeat (first|exact Bg|refine Bf (by simp [oid,Ab]<;>try omega) ?_)
 have hOl:∀{k:Nat},∀x∈[AObj.cells 3 [A4 ((k:Nat))],AObj.defs,AObj.loop LoopState.ready none FR 11 #[6,7] as' bd' (oid Hp.length 1)],ObjLow (Hp.length+3) x:=by
  intro k x hx
  simp only [Bj,Ev,or_false] at hx
  rcases hx with rfl|rfl|rfl
  ·intro y hy
   rw [B2.1 hy]
   first|exact Ss|simp
  ·trivial
  exact jo
 refine ⟨fun _ H'=>Ki (fun _=>true) (fun k=>Hp++[AObj.cells 3 [A4 ((k:Nat))],AObj.defs,AObj.loop LoopState.ready none FR 11 #[6,7] as' bd' (oid Hp.length 1)]) (fun k=>Hp++[AObj.cells 3 [A4 ((k:Nat))],AObj.defs,AObj.loop LoopState.ready none FR 11 #[6,7] as' bd' (oid Hp.length 1)]) (Ba 1 e).length H',ABh (l:=oid Hp.length 2) (go:=fun _=>true) (U:=fun k=>Hp++[AObj.cells 3 [A4 ((k:Nat))],AObj.defs,AObj.loop LoopState.ready none FR 11 #[6,7] as' bd' (oid Hp.length 1)]) (F:=fun k=>Hp++[AObj.cells 3 [A4 ((k:Nat))],AObj.defs,AObj.loop LoopState.ready none FR 11 #[6,7] as' bd' (oid Hp.length 1)]) (n0:=Hp.length+3) ⟨fun k=>by simp,fun k=>by simp,fun k x hx=>?_,fun k x hx=>?_,by simp [oid],fun X k it hit hgo=>?_⟩ n hok hn,?_⟩
 ·exact jp
 ·exact jp
 ·have hklt:k<sizeE e:=by rw [←Fv 1 e];exact (Ac.1 hit).1
  generalize hV:(Hp++[AObj.cells 3 [A4 ((k:Nat))],AObj.defs,AObj.loop LoopState.ready none FR 11 #[6,7] as' bd' (oid Hp.length 1)]++X)=V
  have hL:V[oid Hp.length 2]? = some (AObj.loop LoopState.ready none FR 11 #[6,7] as' bd' (oid Hp.length 1)):=by rw [←hV,B9,B0];rfl
  have hA0:V[oid Hp.length 0]? = some (AObj.cells 3 [A4 ((k:Nat))]):=by rw [←hV,B9,B0];rfl
  refine K8 (pd:=none) (fr:=FR) (sz:=11) (ps:=#[6,7]) (df:=oid Hp.length 1) (asg:=as') (bd:=bd') hL rfl (by decide) (fun d=>?_)
  subst hFR has hbd
  refine Fu [3,6,7] ?_;refine L9 ?_
  refine ⟨rfl,none,hL,?_⟩
  generalize hbz:(AObj.loop LoopState.busy _ _ _ _ _ _ _)=bz
  have hA:(V.set (oid Hp.length 2) bz)[oid Hp.length 0]? = some (AObj.cells 3 [A4 ((k:Nat))]):=by rw [D7 (By (by decide))];exact hA0
  refine Ia ?_;refine Mp ?_
  refine A5 (h:=Dz hA) (hr:=?_)
  refine A5 ?_
  refine F4 jS hA ?_ ?_
  ·simp
  refine Xr ?_
  subst hbz
  refine ABa ?_
  refine ⟨rfl,?_⟩
  rw [if_pos rfl]
  subst hV
  simp only [B9,Dy,Dd,Cz,List.set_cons_succ,List.set_cons_zero]
  rfl
 intro r H' hq
 obtain rfl:=ce hq
 refine ⟨Hp,_,_,_,rfl,rfl,fun h=>h,?_,rfl,by simp,?_⟩
 ·intro o ho
  have:o=oid Hp.length 1:=by simpa using ho
  subst this
  rw [B0]
  rfl
 refine Z15 ?_;refine Z1 ?_;refine Z4 ?_;exact A7 (An A6) ⟨by rw [Fv],rfl⟩

set_option maxRecDepth 8000
abbrev TK:=Int×Str
/-- What stands from word i on. -/
def seg (l:List Tok) (i:Nat):List TK:=(l.drop i).map ktT
theorem Ja (s:Str):s∈levels.flatten∨(Bz s = -1∧∀l∈levels,l.contains s=false):=by
 by_cases h:s∈levels.flatten
 ·exact .inl h
 have h2:∀l∈levels,l.contains s=false:=fun l hl=>by
  rw [L4]
  intro h3
  exact h (List.mem_flatten.2 ⟨l,hl,by simpa using h3⟩)
 refine .inr ⟨?_,h2⟩
 unfold Bz
 rw [Ro.2 fun l hl=>h2 l hl]
/-- The texts of levels of marks. -/
def ofL (k:Nat):Str:=if k=0 then orT else if k=1 then rf else if k=3 then ABz else if k=4 then rg else Yx
theorem y7 (s:Str) : -1≤Bz s∧Bz s≤5∧Bz s≠2:=by
 rcases Ja s with h|⟨h,_⟩
 ·have h3:(levels.flatten.all fun s=>decide (-1≤Bz s∧Bz s≤5∧Bz s≠2))=true:=by kernel_rfl
  exact of_decide_eq_true (B5.1 h3 s h)
 omega
/-- A row of words behind which no mark of a level, or of a tighter one, stands. -/
def y8 (k:Nat) (rest:List TK):Prop:=∀h r,rest=h::r→((h.1==5) || (h.1==2))=true→Bz h.2<(k:Int)∧h.2≠[40]
def rl:Str:=[110,111,116]
def levE (e:Expr):Nat:=if e.op==4 then 2 else if e.op==3 then 6 else if e.op==5 then (Bz e.text).toNat else 7
def AC6 (least:Nat) (x:Expr) (T:List TK):List TK:=if least≤levE x then T else (5,[40])::(T++[(5,[41])])
def AC7 (least:Nat) (x:Expr) (n:Nat):Nat:=if least≤levE x then n else n+1
def I6 (own:Nat):Nat:=if own=3 then 4 else own
def AFi (v:Val):TK:=if v.kind==1 then (3,Gs v) else if v.kind==2 then (4,v.s) else (2,Gs v)
def AIv (t:Str):TK:=(if Mc (t.headD 0) then 2 else 5,t)
def AIw:List (List TK)→List TK
 | []=>[]
 | T::r=>(5,[44])::(T++AIw r)
def AIx (o:Int) (t:Str) (v:Val) (k:List Expr) (ts:List (List TK)):List TK:=
 if o==1 then [AFi v] else if o==2 then [(1,t)]
 else if o==3 then (5,[45])::AC6 6 (k.getD 0 A9) (ts.getD 0 [])
 else if o==4 then (2,rl)::AC6 2 (k.getD 0 A9) (ts.getD 0 [])
 else if o==5 then AC6 (I6 (Bz t).toNat) (k.getD 0 A9) (ts.getD 0 [])++AIv t::AC6 ((Bz t).toNat+1) (k.getD 1 A9) (ts.getD 1 [])
 else (1,t)::(5,[40])::((AIw ts).drop 1++[(5,[41])])
mutual
def Wm:Expr→List TK
 | .mk o t v k=>AIx o t v k (ADv k)
def ADv:List Expr→List (List TK)
  | []=>[]
  | e::r=>Wm e::ADv r
 end
def AIy:List Nat→Nat
 | []=>0
 | n::r=>max n (AIy r)
def AIz (o:Int) (t:Str) (k:List Expr) (ns:List Nat):Nat:=
 if o==1 then 0 else if o==2 then 0
 else if o==3 then 1+AC7 6 (k.getD 0 A9) (ns.getD 0 0)
 else if o==4 then 1+AC7 2 (k.getD 0 A9) (ns.getD 0 0)
 else if o==5 then max (AC7 (I6 (Bz t).toNat) (k.getD 0 A9) (ns.getD 0 0)) (AC7 ((Bz t).toNat+1) (k.getD 1 A9) (ns.getD 1 0))
 else 1+AIy ns
mutual
def n6:Expr→Nat
 | .mk o t v k=>AIz o t k (ADw k)
def ADw:List Expr→List Nat
  | []=>[]
  | e::r=>n6 e::ADw r
 end
theorem cf {v:Val} (h:Mu v=true):v=noV:=by
 unfold Mu at h
 simp only [Ai,beq_iff_eq] at h
 cases v
 simp_all [noV]
/-- What a right node is. -/
inductive NodeC:Expr→Prop
 | val (v:Val) (h:Cv v=true) (h0:0≤v.n):NodeC (Dl v)
 | name (t:Str) (h:Kh t=true):NodeC (Bb t)
 | neg (a:Expr):NodeC (G4 3 a)
 | no (a:Expr):NodeC (G4 4 a)
 | bin (t:Str) (a b:Expr) (h:0≤Bz t):NodeC (Ib t a b)
 | call (t:Str) (k:List Expr) (h:C8 t=(k.length:Int)):NodeC (.mk 6 t noV k)
theorem Gu (o:Int) (t:Str) (v:Val) (k:List Expr):Qu (.mk o t v k) =
 if o==1 then ((Cv v&&decide (0≤v.n))&&(t==[]))&&((k.length:Int)==0)
 else if !(Mu v) then false
 else if o==2 then Kh t&&((k.length:Int)==0)
 else if o==3 || o==4 then (t==[])&&((k.length:Int)==1)
 else if o==5 then decide (0≤Bz t)&&((k.length:Int)==2)
 else if o==6 then C8 t==(k.length:Int)
 else false:=rfl
theorem Hh {e:Expr} (h:Cb e=true):NodeC e:=by
 rw [I4] at h
 cases e with
 | mk o t v k =>
 rw [Gu] at h
 by_cases h1:(o==1)=true
 ·rw [if_pos h1] at h
  simp only [Ai,beq_iff_eq,decide_eq_true_eq] at h h1
  obtain ⟨⟨⟨a1,a2⟩,a3⟩,a4⟩:=h
  subst h1
  subst a3
  have:k=[]:=by cases k with|nil=>rfl|cons x r=>simp at a4;omega
  subst this
  exact .val v a1 a2
 rw [if_neg h1] at h
 by_cases hb:(!(Mu v))=true
 ·rw [if_pos hb] at h;cases h
 rw [if_neg hb] at h
 have hv:v=noV:=cf (by simpa using hb)
 subst hv
 by_cases h2:(o==2)=true
 ·rw [if_pos h2] at h
  simp only [Ai,beq_iff_eq] at h h2
  subst h2
  have:k=[]:=by cases k with|nil=>rfl|cons x r=>have:=h.2;simp at this;omega
  subst this
  exact .name t h.1
 rw [if_neg h2] at h
 by_cases h3:(o==3 || o==4)=true
 ·rw [if_pos h3] at h
  simp only [Ai,Di,beq_iff_eq] at h h3
  obtain ⟨rfl,h4⟩:=h
  match k,h4 with
  | [a],_ =>
   rcases h3 with rfl|rfl
   ·exact .neg a
   exact .no a
  | [],h4=>simp at h4
  | _::_::_,h4=>simp at h4;omega
 rw [if_neg h3] at h
 by_cases h5:(o==5)=true
 ·rw [if_pos h5] at h
  simp only [Ai,beq_iff_eq,decide_eq_true_eq] at h h5
  subst h5
  match k,h.2 with
  | [a,b],_=>exact .bin t a b h.1
  | [],h4=>simp at h4
  | [_],h4=>simp at h4
  | _::_::_::_,h4=>simp at h4;omega
 rw [if_neg h5] at h
 by_cases h6:(o==6)=true
 ·rw [if_pos h6] at h
  simp only [beq_iff_eq] at h h6
  subst h6
  exact .call t k h
 rw [if_neg h6] at h;cases h
/-- The functions of the levels. -/
def pf (l:List Tok) (D:Fam):Nat→PS→Expr×PS
 | 0=>Uo l D
 | 1=>fj l D
 | 2=>U9 l D
 | 3=>G5 l D
 | 4=>Ex l D
 | 5=>fh l D
 | 6=>U8 l D
 | _=>H1 l D
abbrev fam (l:List Tok) (n:Nat):Fam:=Fx l (30-n)
def adv (S:PS) (n:Nat):PS:=⟨S.i+n,S.nest,S.code,S.at_⟩
def T1 (l:List Tok) (x:Expr):Prop:=∀(k:Nat) (S:PS) (rest:List TK),k≤levE x→S.code=0→S.nest+n6 x≤30→seg l S.i=Wm x++rest→y8 k rest→pf l (fam l S.nest) k S=(x,adv S (Wm x).length)
def T2 (l:List Tok) (x:Expr):Prop:=∀(k:Nat) (S:PS) (rest:List TK),(k=0∨k=1∨k=4∨k=5)→k≤levE x→S.code=0→S.nest+n6 x≤30→seg l S.i=Wm x++rest→y8 (k+1) rest →
 ∃n,l.length≤S.i+(Wm x).length+n∧Gi l (ofL k) (pf l (fam l S.nest) (k+1)) S=Yw l (ofL k) (pf l (fam l S.nest) (k+1)) n (x,adv S (Wm x).length)
theorem rm {e:Expr} {n:Nat} (h:sizeE e≤n+1) {y:Expr} (hy:y∈e.kids):sizeE y≤n:=by
 rw [Gt] at h
 obtain ⟨i,hi,rfl⟩:=Rq hy
 have:=Ol e.kids hi
 omega
theorem n7:∀d,d<10→digs.contains (UInt8.ofNat (48+d))=true:=by decide
theorem AC8:∀d,d<10→(UInt8.ofNat (48+d)).toNat=48+d:=by decide
theorem AFj:∀d,d<10→1≤d→UInt8.ofNat (48+d)≠48:=by decide
theorem Wn {u:Nat} (h:¬u<10):Lib.decDigits u=Lib.decDigits (u / 10)++[UInt8.ofNat (48+u % 10)]:=by rw [Lib.decDigits,dif_neg h]
theorem cg:∀(u:Nat),∀c∈Lib.decDigits u,digs.contains c=true:=by
 intro u
 induction u using Nat.strongRecOn with
 | _ u ih =>
  intro c hc
  by_cases h:u<10
  ·rw [Lib.decDigits_one h,B2] at hc
   subst hc
   exact n7 u h
  rw [Wn h] at hc
  rcases Ds.1 hc with hc|hc
  ·exact ih (u / 10) (by omega) c hc
  rw [B2.1 hc]
  exact n7 _ (Qd _ (by decide))
theorem Wo:∀(u:Nat),∃c r,Lib.decDigits u=c::r∧(1≤u→c≠48):=by
 intro u
 induction u using Nat.strongRecOn with
 | _ u ih =>
  by_cases h:u<10
  ·exact ⟨_,_,Lib.decDigits_one h,fun h1=>AFj u h h1⟩
  obtain ⟨c,r,e,h1⟩:=ih (u / 10) (by omega)
  exact ⟨c,r++[UInt8.ofNat (48+u % 10)],by rw [Wn h,e];rfl,fun _=>h1 (by omega)⟩
theorem P4 (M:Nat):∀(a:Str) (acc v:Nat) (b:Str),Lib.parseUintM M acc a=.ok v→Lib.parseUintM M acc (a++b)=Lib.parseUintM M v b
 | [],acc,v,b,h=>by
  rw [Lib.parseUintM] at h
  injection h with h
  subst h
  rfl
 | c::r,acc,v,b,h=>by
  rw [Dd,Lib.parseUintM]
  rw [Lib.parseUintM] at h
  split at h
  ·rename_i h1
   rw [if_pos h1]
   split at h
   ·cases h
   rename_i h2
   rw [if_neg h2]
   split at h
   ·cases h
   rename_i h3
   rw [if_neg h3]
   exact P4 M r _ v b h
  cases h
theorem Wp {M:Nat} (hM:M≤18446744073709551615):∀(u:Nat),u≤M→Lib.parseUintM M 0 (Lib.decDigits u)=.ok u:=by
 intro u
 induction u using Nat.strongRecOn with
 | _ u ih =>
  intro hu
  have one:∀acc d,d<10→acc≤1844674407370955161→acc*10+d≤M→Lib.parseUintM M acc [UInt8.ofNat (48+d)]=.ok (acc*10+d):=fun acc d hd ha hm=>by
   have e:=AC8 d hd
   rw [Lib.parseUintM,e,if_pos (by omega),if_neg (by omega),if_neg (by omega),Lib.parseUintM]
   congr 1
   omega
  by_cases h:u<10
  ·rw [Lib.decDigits_one h,one 0 u h (by omega) (by omega)]
   congr 1
   omega
  rw [Wn h,P4 M _ 0 (u / 10) _ (ih (u / 10) (by omega) (by omega)),one (u / 10) (u % 10) (Qd _ (by decide)) (by omega) (by omega)]
  congr 1
  omega
theorem y9:∀c:UInt8,digs.contains c=true→c≠45∧c≠43∧c≠39∧c≠110∧c≠116∧c≠102:=by
 have h:((List.range 256).all fun n => !digs.contains (UInt8.ofNat n) || decide (UInt8.ofNat n≠45∧UInt8.ofNat n≠43∧UInt8.ofNat n≠39∧UInt8.ofNat n≠110∧UInt8.ofNat n≠116∧UInt8.ofNat n≠102))=true:=by kernel_rfl
 intro c hc
 have:=B5.1 h c.toNat (M4.2 c.toNat_lt)
 rw [show UInt8.ofNat c.toNat=c by simp,hc] at this
 simpa using this
theorem AC9 (u:Nat) (h1:u≤9223372036854775807):C1 (Lib.decDigits u)=((u:Int),0):=by
 obtain ⟨c,r,e,h0⟩:=Wo u
 have hc:digs.contains c=true:=cg u c (by rw [e];simp)
 obtain ⟨n45,n43,_⟩:=y9 c hc
 have hds:Ms (Lib.decDigits u)=Lib.decDigits u:=by
  unfold Ms Lib.trimPrefix
  rw [if_neg]
  rw [e]
  unfold Lib.hasPrefix
  simp [Ne.symm n45]
 have hb:Hf (Lib.decDigits u)=false:=by
  unfold Hf
  rw [hds]
  have a1:(Lib.decDigits u==[])=false:=by rw [e];rfl
  have a2:Lib.trimS (Lib.decDigits u) digs=[]:=by
   unfold Lib.trimS Lib.trimRightS
   have:(Lib.decDigits u).reverse.dropWhile (fun x=>digs.contains x)=[]:=by
    rw [bi]
    intro b hb
    exact cg u b (by simpa using hb)
   rw [this]
   rfl
  have a3:(((Lib.decDigits u).headD 0==48)&&decide (1<(Lib.decDigits u).length))=false:=by
   by_cases hu:u<10
   ·rw [Lib.decDigits_one hu];simp
   rw [e]
   have:(c==48)=false:=by simpa using h0 (by omega)
   simp [this]
  rw [a1,a2,a3]
  rfl
 have hp:Lib.parseIntB 64 (Lib.decDigits u)=.ok (u:Int):=by
  have hu:Lib.parseUintB 64 (Lib.decDigits u)=.ok u:=by
   unfold Lib.parseUintB
   rw [if_neg (by rw [e];simp)]
   exact Wp (by decide) u (by
    have:(2:Nat) ^ 64-1=18446744073709551615:=by decide
    omega)
  have n45':c.toNat≠45:=fun h=>n45 (Qf.1 (by rw [h];rfl))
  have n43':c.toNat≠43:=fun h=>n43 (Qf.1 (by rw [h];rfl))
  have e63:(2:Nat) ^ (64-1)=9223372036854775808:=by decide
  rw [e] at hu ⊢
  simp only [Lib.parseIntB,n43',n45',or_self,if_false,hu,e63]
  simp
  omega
 unfold C1
 rw [hb,hp]
 rfl
/-! The parser from a word on, and of a source. -/
def atS (l:List Tok) (i:Nat) (r:Expr×PS):PS:=if r.2.code != 0 then r.2 else if decide ((30:Int)<depthE r.1) then Eo 18 (Av l i).at_ r.2 else if decide ((300:Int)<sizeE r.1) then Eo 3 (Av l i).at_ r.2 else r.2
def atR (l:List Tok) (i:Nat):Expr×PS:=Uo l (Fx l 30) ⟨i,0,0,0⟩
/-- The tree, the word behind it, the fault. -/
def atM (l:List Tok) (i:Nat):Expr×Int×Int×Int:=if (atS l i (atR l i)).code != 0 then (A9,0,(atS l i (atR l i)).code,(atS l i (atR l i)).at_) else ((atR l i).1,((atS l i (atR l i)).i:Int),0,0)
def cj (l:List Tok) (c a:Int):Expr×Int×Int:=
 if c != 0 then (A9,c,a) else if (atM l 0).2.2.1 != 0 then (A9,(atM l 0).2.2.1,(atM l 0).2.2.2)
 else if (Av l (atM l 0).2.1.toNat).kind != 0 then (A9,8,((Av l (atM l 0).2.1.toNat).at_:Int)) else ((atM l 0).1,0,0)
def I7 (s:Str):Expr×Int×Int:=cj (Eg s).1 (Eg s).2.1 ((Eg s).2.2:Int)
set_option maxRecDepth 4000
theorem fu {l:List Tok} (hl:TokEnd l) (hll:l.length≤1048576) {i:Nat} (hi:i<l.length):Fact l ⟨i,0,0,0⟩ (atR l i):=(Sq hl hll 31 0 rfl (by decide)).1 ⟨i,0,0,0⟩ hi rfl
theorem AFk {l:List Tok} {i:Nat} (hi:i<l.length) (hl:TokEnd l) (hll:l.length≤1048576) (hcl:∀n Dv,n≤30→DeepC l Dv n→Z8 l Dv n) (o:Nat) (Hp:List AObj) (ho:Hp[o]? = some (pr l ⟨i,0,0,0⟩)):ACall Tryz.prog 114 [.ptr o 0] Hp (fun r H'=>r=Aa (atR l i).1∧H'=Hp.set o (pr l (atR l i).2)):=(fq hl hll hcl 31 0 rfl (by decide)).1 o Hp ⟨i,0,0,0⟩ ho hi rfl
theorem fx {l:List Tok} (hl:TokEnd l):(Av l (l.length-1)).kind=0:=by
 obtain ⟨L,z,rfl,hz,_⟩:=hl.split
 unfold Av
 simp [hz]
theorem c72 (l:List Tok) (i:Nat) (hi:i<l.length) (hl:TokEnd l) (hll:l.length≤500000) (hcl:∀n Dv,n≤30→DeepC l Dv n→Z8 l Dv n) (Hp:List AObj):AFun Tryz.prog 72 [mj l,A4 (i:Int)] Hp (.tup [Aa (atM l i).1,A4 (atM l i).2.1,.agg [A4 (atM l i).2.2.1,A4 (atM l i).2.2.2]]):=by
 have hmap:(l.map Ko).length=l.length:=Au ..
 have hll1:l.length≤1048576:=by omega
 have hq:=fu hl hll1 hi
 have hlast:=fx hl
 have hpos:=hl.pos
 have hqlt:=hq.lt
 have hqs:=hq.sz
 have hok0:okE 1048576 (atR l i).1:=Gd (by have:=hq.lt;omega) hq.ok
 have hsz0:sizeE (atR l i).1≤1048576:=by have:=hq.sz;have:=hq.lt;omega
 refine Ak [.cell 4 26,.tmp 5,.cell 6 69] [0,1] Tryz.func72 Tryz.ntmps72 (fun d=>?_)
 refine dt ?_;refine Ka jZ ?_;refine A2 [0,1,4,6] ?_;refine Z34 ?_;refine dp ?_;refine Z47 ?_
 refine Ca (h:=Ap ((l.length-1)) (Ko (Av l (l.length-1))) (fun _=>Sh (by omega))) (hr:=?_)
 refine Z9 ?_;refine Z64 ?_;refine A2 [0,1,4,6,26] ?_
 refine A3 (fun ht26=>?_) (fun ht26=>?_)
 ·simp only [Di,decide_eq_true_eq,bne_iff_ne,ne_eq] at ht26
  rcases ht26 with (h|h)|h
  ·omega
  ·simp at h;omega
  exact absurd hlast h
 refine U5 ?_;refine Nj (places:=#[(0,1),(1,1),(2,1),(3,2)]) jU (fun w=>by simp) jZ ?_;refine R.box ?_;refine A5 ?_;refine A2 [0,1,4,6,7] ?_;refine Z2 ?_
 refine Vh (n:=2) (x:=pr l (atR l i).2) Tryz.call114 (AFk hi hl hll1 hcl (oid Hp.length 2) _ (by rw [B0];rfl)) ?_
 refine Z16 ?_;refine A2 [0,1,4,6,7,8] ?_
 refine W.join ⟨81,Af 4 (.ptr (oid Hp.length 0) 0) (Af 6 (.ptr (oid Hp.length 1) 0) (Af 7 (.ptr (oid Hp.length 2) 0) (Af 8 (.ptr (oid Hp.length 3) 0) (fun _=>.any)))),Hp,[.cells 26 [A4 0,Ah [],A4 0,A4 0,Ah [],.nil],.cells 69 [A4 0,A4 0],pr l (atS l i (atR l i)),.cells 26 (Bw (atR l i).1)],[],none⟩ ?_ ?_
 ·refine Ia ?_;refine Z18 ?_;refine Z29 ?_;refine A2 [0,1,4,6,7,8,35] ?_
  refine A3 (fun ht35=>?_) (fun ht35=>?_)
  ·have e:atS l i (atR l i)=(atR l i).2:=if_pos ht35
   refine Fu [4,6,7,8] ?_;refine L9 ?_;exact AB1
  have e0:¬((atR l i).2.code != 0)=true:=by rw [ht35];simp
  refine Z2 ?_;refine A8 Tryz.call115 (AL3 1048576 _ hok0 (Al _) hsz0 _) ?_;refine Z0 ?_;refine A2 [0,1,4,6,7,8,42] ?_
  refine A3 (fun ht42=>?_) (fun ht42=>?_)
  ·have e:atS l i (atR l i)=Eo 18 (Av l i).at_ (atR l i).2:=by unfold atS;rw [if_neg e0,if_pos ht42]
   refine Z85 ?_
   refine A5 (h:=Ap (i) (Ko (Av l i)) (fun _=>Sh hi)) (hr:=?_)
   refine Z0 ?_
   refine Vh (n:=2) (x:=pr l (Eo 18 (Av l i).at_ (atR l i).2)) Tryz.call116 (rj l (atR l i).2 18 (Av l i).at_ (oid Hp.length 2) _ (by rw [B0];rfl)) ?_
   refine A2 [4,6,7,8] ?_;exact AB1
  have e1:¬decide ((30:Int)<depthE (atR l i).1)=true:=by rw [ht42];simp
  refine Z2 ?_;refine A8 Tryz.call117 (AL4 1048576 _ hok0 (Al _) hsz0 _) ?_;refine Z0 ?_;refine A2 [0,1,4,6,7,8,53] ?_
  refine A3 (fun ht53=>?_) (fun ht53=>?_)
  ·have e:atS l i (atR l i)=Eo 3 (Av l i).at_ (atR l i).2:=by unfold atS;rw [if_neg e0,if_neg e1,if_pos ht53]
   refine Z85 ?_
   refine A5 (h:=Ap (i) (Ko (Av l i)) (fun _=>Sh hi)) (hr:=?_)
   refine Z0 ?_
   refine Vh (n:=2) (x:=pr l (Eo 3 (Av l i).at_ (atR l i).2)) Tryz.call116 (rj l (atR l i).2 3 (Av l i).at_ (oid Hp.length 2) _ (by rw [B0];rfl)) ?_
   refine A2 [4,6,7,8] ?_;exact AB1
  have e:atS l i (atR l i)=(atR l i).2:=by unfold atS;rw [if_neg e0,if_neg e1,if_neg (by rw [ht53];simp)]
  refine Fu [4,6,7,8] ?_;refine L9 ?_;exact AB1
 refine Z59 ?_;refine Z0 ?_;refine A2 [4,6,7,8,69] ?_
 refine A3 (fun ht69=>?_) (fun ht69=>?_)
 ·have e:atM l i=(A9,0,(atS l i (atR l i)).code,(atS l i (atR l i)).at_):=if_pos ht69
  refine Hd [0,0,2,6,14,1,33,127] [5] [.q 5 [] [],.s [] (some 0) [] [],.q 1 [0] []] (fun _=>Hp) (fun _=>[.cells 26 [A4 0,Ah [],A4 0,A4 0,Ah [],.nil],.cells 69 [A4 0,A4 0],pr l (atS l i (atR l i)),.cells 26 (Bw (atR l i).1)]) Ar (by kernel_rfl) rfl rfl (fun _=>rfl) ?_
  apply Y.q
  ·intro B hT hF
   refine AEe ?_;refine Z14 ?_;exact bg
  case hTF=>decide
  refine AEv ?_
  apply Y.q
  ·intro B hT hF
   exact Z70
  case hTF=>decide
  refine He (tn:=[5])  ?_;refine AAz ?_;refine A2 [4,5,6] ?_;refine Z41 ?_;exact A7 (V.three (As jA jS) A6 (As jA jS)) ⟨by rw [e,fp]<;>rfl,rfl⟩
 have e:atM l i=((atR l i).1,((atS l i (atR l i)).i:Int),0,0):=if_neg (by rw [ht69];simp)
 refine Z6 ?_;refine Hd [0,0,2,6,14,0,1,95,255] [6] [.q 6 [] [],.s [] (some 0) [] [],.q 1 [0] []] (fun _=>Hp) (fun B=>[.cells 26 (if B 0=true then Bw (atR l i).1 else [A4 0,Ah [],A4 0,A4 0,Ah [],.nil]),.cells 69 [A4 0,A4 0],pr l (atS l i (atR l i)),.cells 26 (Bw (atR l i).1)]) Ar (by kernel_rfl) rfl rfl (fun _=>rfl) ?_
 apply Y.q
 ·intro B hT hF
  refine bb ?_;exact AEb
 case hTF=>decide
 refine Y.storeOwn (u:=Hp.length) (n:=0) (t':=26) (cs:=[A4 0,Ah [],A4 0,A4 0,Ah [],.nil]) (cs':=Bw (atR l i).1) Tryz.sizeOf26 (fun B hB=>⟨rfl,by simp only [hB];rfl,by simp [upd],rfl⟩) ?_
 apply Y.q
 ·intro B hT hF
  exact Z70
 case hTF=>decide
 refine He (tn:=[6]) (O:=[.cells 26 (Bw (atR l i).1),.cells 69 [A4 0,A4 0],pr l (atS l i (atR l i)),.cells 26 (Bw (atR l i).1)]) ?_;refine I2 ?_;refine A2 [4,5,6] ?_;refine Gn ?_;exact A7 (V.three (As jA jS) A6 (As jA jS)) ⟨by rw [e,Ad]<;>rfl,rfl⟩ (hlow:=by have:=low_agg (n:=Hp.length) (atR l i).1;simp at this ⊢;exact this)

theorem n8 {s:Str} (h:(Eg s).2.1=0):(Eg s).1.length≤4002:=by
 obtain ⟨h1,_,h3⟩:=ABt h
 have h2:=W6 s
 rw [h3]
 simp only [Ao,Au,At,B3]
 omega
theorem ACa {l:List Tok} (hl:TokEnd l) (hll:l.length≤1048576) {i:Nat} (hi:i<l.length) (h:(atM l i).2.2.1=0):∃k:Nat,(atM l i).2.1=(k:Int)∧k<l.length:=by
 have hq:=fu hl hll hi
 unfold atM at h ⊢
 split at h
 ·rename_i h1
  have:(atS l i (atR l i)).code=0:=h
  rw [this] at h1
  cases h1
 rename_i h1
 rw [if_neg h1]
 refine ⟨(atS l i (atR l i)).i,rfl,?_⟩
 have e:(atS l i (atR l i)).i=(atR l i).2.i:=by
  unfold atS
  repeat' split
  all_goals first|rfl|exact failM_i.1
 rw [e]
 exact hq.lt
theorem Y4 {α:Type} {a b:List α} (hl:a.length=b.length) (h:∀(j:Nat) (y:α),j<a.length→a[j]? = some y→b[j]? = some y):a=b:=by
 apply ip hl
 intro j h1 h2
 have:=h j a[j] h1 (Ae h1)
 rw [Ae h2] at this
 injection this with this
 exact this.symm
theorem E2 {n k:Nat} {o:Bool} {l:List Expr}:Low n (.slice o k (l.map Aa)):=low_slice.2 fun y hy=>by
 obtain ⟨a,_,rfl⟩:=Cw.1 hy
 exact Ab _ a
theorem rn {l:List Expr} {n f:Nat} (h0:l.isEmpty=false) (h:P2 l n=true):H7 f l n=true:=by
 cases f with
 | zero=>rw [H7,h0];rfl
 | succ f=>rw [H7,if_neg (by rw [h0];simp),if_pos h]
theorem ACb {l:List Expr} {n y:Nat} (hy:y<l.length) (h:500<n+y+1∨Sl l[y]=true):P2 l n=true:=by
 unfold P2
 rcases h with h|h
 ·rw [decide_eq_true (by omega)];rfl
 rw [L5.2 ⟨_,C4 hy,h⟩,K3]
theorem Wq {l:List Expr}:∀(y:Nat),y≤l.length→(∀(j:Nat) (e:Expr),j<y→l[j]? = some e→Sl e=false)→((l.take y).flatMap Expr.kids).length≤100*y
 | 0,_,_=>by simp
 | y+1,hy,h=>by
  rw [Iv hy,List.flatMap_append,Ao]
  have h1:=Wq y (by omega) (fun j e hj he=>h j e (by omega) he)
  have h2:=cb (h y l[y] (by omega) (Ae _))
  simp only [V6,List.flatMap_nil,Ig]
  omega
structure WideAt (l0:List Expr) (x:List Expr×Nat×Nat):Prop where
 eq:H7 61 l0 0=H7 x.2.2 x.1 x.2.1
 f:x.2.2≤61
 n:x.2.1≤500
theorem c35 (l0:List Expr) (Hp:List AObj):AFun Tryz.prog 35 [.slice false 6 (l0.map Aa),A4 0] Hp (B6 (H7 61 l0 0)):=by
 refine Ak [.tmp 4] [0,1] Tryz.func35 Tryz.ntmps35 (fun d=>?_)
 refine Z49 ?_;refine Z2 ?_;refine A2 [0,1,5] ?_;refine Jk ?_
 refine Dp (α:=List Expr×Nat×Nat) (fun x=>⟨67,Af 0 (.slice false 6 (x.1.map Aa)) (Af 1 (A4 (61-(x.2.2:Int))) (Af 5 (A4 (x.2.1:Nat)) (fun _=>.any))),Hp,[],[],none⟩) (fun x=>WideAt l0 x) (fun x=>x.2.2) ((l0,0,61)) ⟨rfl,Al _,Bc _⟩ (Co (by simp)) rfl (fun x hx=>?_)
 refine Z34 ?_;refine A2 [0,1,5,10] ?_
 refine A3 (fun ht10=>?_) (fun ht10=>?_)
 ·have hpos:0<x.1.length:=by simpa using ht10
  have hne:x.1.isEmpty=false:=by cases hxx:x.1 with
   | nil=>rw [hxx] at hpos;simp at hpos
   | cons a r=>rfl
  have hxf:=hx.f
  refine Z6 ?_;refine Ia ?_;refine Es ?_;refine U6 ?_;refine Ji ?_;refine A2 [0,1,5,6] ?_;refine Z36 ?_;refine A2 [0,1,5,6,7] ?_
  refine Dp (α:=Nat) (fun y=>⟨67,Af 0 (.slice false 6 (x.1.map Aa)) (Af 1 (A4 (61-(x.2.2:Int))) (Af 5 (A4 ((x.2.1+y:Nat):Int)) (Af 6 (.slice true 6 (((x.1.take y).flatMap Expr.kids).map Aa)) (Af 7 (A4 (y:Nat)) (fun _=>.any))))),Hp,[],[],none⟩) (fun y=>y≤x.1.length∧x.2.1+y≤500∧∀(j:Nat) (e:Expr),j<y→x.1[j]? = some e→Sl e=false) (fun y=>x.1.length-y) (0) ⟨Bc _,hx.n,fun j e h=>by omega⟩ (Co (by simp)) rfl (fun y hy=>?_)
  refine Z59 ?_;refine A2 [0,1,5,6,7,15] ?_
  refine A3 (fun ht15=>?_) (fun ht15=>?_)
  ·have hlt:y<x.1.length:=by simpa using ht15
   have hyn:=hy.2.1
   refine Z6 ?_;refine Xt ?_;refine A2 [0,1,5,6,7] ?_;refine Z34 ?_;refine Z9 ?_
   refine Ca (h:=Ap (y) (Aa x.1[y]) (fun _=>Bv hlt)) (hr:=?_)
   refine dp ?_;refine Z9 ?_
   refine Ca (h:=Ap (y) (Aa x.1[y]) (fun _=>Bv hlt)) (hr:=?_)
   refine Z47 ?_;refine Z38 ?_;refine Z9 ?_
   refine Ca (h:=Ap (y) (Aa x.1[y]) (fun _=>Bv hlt)) (hr:=?_)
   refine Z47 ?_;refine A5 ?_;refine A2 [0,1,5,6,7,49] ?_
   refine A3 (fun ht49=>?_) (fun ht49=>?_)
   ·have hm:P2 x.1 x.2.1=true:=ACb hlt (by
     simp only [Di,decide_eq_true_eq,Au] at ht49
     unfold Sl
     simp only [Di,decide_eq_true_eq]
     omega)
    have hw:=rn (f:=x.2.2) hne hm
    refine Z65 ?_;refine Cu ?_;refine Z97 ?_;refine K.blR ?_;exact AHf
   have hfat:Sl x.1[y]=false∧x.2.1+y+1≤500:=by
    simp only [Fe,decide_eq_false_iff_not,Au] at ht49
    unfold Sl
    simp only [Fe,decide_eq_false_iff_not]
    omega
   have hkl:=(cb hfat.1).2.2
   have hfm:(x.1.take (y+1)).flatMap Expr.kids=(x.1.take y).flatMap Expr.kids++x.1[y].kids:=by rw [Iv hlt,List.flatMap_append];simp
   refine Z6 ?_;refine jc ?_;refine Z0 ?_
   refine A5 (h:=Ap (y) (Aa x.1[y]) (fun _=>Bv hlt)) (hr:=?_)
   refine Z0 ?_
   refine Gq jU Tryz.type26 ?_ ?_ ?_
   ·have h1:=Wq y hy.1 hy.2.2;have h2:=hkl;have h3:=hy.2.1;simp only [Au,Tryz.t26];omega
   ·have h1:=Wq y hy.1 hy.2.2;have h2:=hkl;have h3:=hy.2.1;simp only [Au,Tryz.t26];omega
   refine Ji ?_;refine A2 [0,1,5,6,7] ?_;refine Z15 ?_;refine Z85 ?_;refine A2 [0,1,5,6,7] ?_
   refine Cd (y+1) ⟨hlt,by omega,Fg hlt hy.2.2 hfat.1⟩ (by omega) (H4 ?_)
   rw [hfm,Cr]
   rfl
  have hye:x.1.take y=x.1:=Fa (by simp at ht15;omega)
  have hyl:y=x.1.length:=by have:=hy.1;simp at ht15;omega
  have hmany:P2 x.1 x.2.1=false:=by
   unfold P2
   rw [decide_eq_false (by have:=hy.2.1;omega),Fd,Pa]
   intro e he
   obtain ⟨j,hj⟩:=Ct he
   rw [hy.2.2 j e (by have:=(Ac.1 hj).1;omega) hj]
   simp
  refine py ?_;refine Z59 ?_;refine ji ?_;refine A2 [1,5,6,63] ?_
  refine A3 (fun ht63=>?_) (fun ht63=>?_)
  ·have hw:H7 x.2.2 x.1 x.2.1=true:=by
    have h9:=ht63
    rw [hye] at h9
    simp only [Di,decide_eq_true_eq,Au] at h9
    cases hf:x.2.2 with
    | zero=>rw [H7,hne];rfl
    | succ f =>
     rw [H7,if_neg (by rw [hne];simp),if_neg (by rw [hmany];simp),if_pos (by rw [decide_eq_true_eq];omega)]
   refine Z65 ?_;refine Cu ?_;refine K.blR ?_;exact AHf
  have h9:=ht63
  rw [hye] at h9
  simp only [Fe,decide_eq_false_iff_not,Au] at h9
  obtain ⟨f,hf⟩:∃f,x.2.2=f+1:=⟨x.2.2-1,by omega⟩
  have hw:H7 x.2.2 x.1 x.2.1=H7 f (x.1.flatMap Expr.kids) (x.2.1+x.1.length):=by
   rw [hf,H7,if_neg (by rw [hne];simp),if_neg (by rw [hmany];simp),if_neg (by rw [decide_eq_true_eq];omega)]
  refine U5 ?_;refine A2 [0,1,5] ?_;refine Z85 ?_;refine A2 [0,1,5] ?_;refine Kd ?_
  refine Cd (x.1.flatMap Expr.kids,x.2.1+x.1.length,f) ⟨hx.eq.trans hw,by show f≤61;omega,by show x.2.1+x.1.length≤500;have:=hy.2.1;omega⟩ (by show f<x.2.2;omega) (H4 ?_)
  rw [hye,hyl]
  congr 4
  simp only [AV.v.injEq,Value.int.injEq,true_and]
  omega
 have hnil:x.1=[]:=by have:=ht10;simp at this;exact this
 refine py ?_;refine Z65 ?_;exact A7 (An A6) ⟨by rw [hx.eq,hnil];cases x.2.2<;>rfl,rfl⟩

theorem c9 (e:Expr) (Hp:List AObj):AFun Tryz.prog 9 [Aa e] Hp (B6 (xd e)):=by
 refine Ak [.tmp 2] [0] Tryz.func9 Tryz.ntmps9 (fun d=>?_)
 refine Z84 ?_;refine Z2 ?_;refine U6 ?_;refine A8 Tryz.call35 (c35 [e] _) ?_;refine A5 ?_;exact Z80

set_option maxRecDepth 8000
/-! What a tree AJe to: eval's model. -/
abbrev Rs:=Val×Int
def C3 (e:Int):Rs:=(noV,e)
def Su (s:Str):Val:=⟨2,0,s.take 200⟩
def Ez (x:Int×Int):Rs:=if x.2 != 0 then C3 x.2 else (⟨1,x.1,[]⟩,0)
def Y5 (a b:Int):Int×Int:=if decide (T9 .i64 (Mr .i64 a (IntKind.i64.wrap (a+b))) (Mr .i64 b (IntKind.i64.wrap (a+b)))<0) then (0,4) else (IntKind.i64.wrap (a+b),0)
def Jw (a b:Int):Int×Int:=if decide (T9 .i64 (Mr .i64 a b) (Mr .i64 a (IntKind.i64.wrap (a-b)))<0) then (0,4) else (IntKind.i64.wrap (a-b),0)
def Tp (a:Int):Int:=if decide (a<0) then IntKind.u64.wrap (0-IntKind.u64.wrap a) else IntKind.u64.wrap a
def Bx:List Val→List Int→Bool
 | _,[]=>true
 | [],_::_=>false
 | v::vs,k::ks=>(v.kind==k)&&Bx vs ks
def Lu (a b:Val):Rs:=if !Bx [a,b] [2,2] then C3 10 else if decide ((200:Int)<(a.s.length:Int)+(b.s.length:Int)) then C3 3 else (Su (a.s++b.s),0)
def B7 (r:Rs):Rs:=if (r.2==0)&&(r.1.kind != 0)&&(r.1.kind != 3) then C3 10 else r
def H5 (strong:Val) (a b:Rs):Rs:=if ((B7 a).2 != 0) || ((B7 a).1==strong) then B7 a else if (((B7 b).2 != 0) || ((B7 b).1==strong)) || ((B7 a).1.kind != 0) then B7 b else ((B7 a).1,0)
def ifW:Str:=[105,102]
def Gy:Str:=[110,118,108]
def C0:Str:=[105,115,110,117,108,108]
def Ea (t:Str) (a b c:Rs):Rs:=
 if t==ifW then (if (B7 a).2 != 0 then C3 (B7 a).2 else if (B7 a).1==Cp true then b else c)
 else if a.2 != 0 then C3 a.2 else if t==C0 then (Cp (a.1.kind==0),0) else if a.1.kind != 0 then (a.1,0) else b
def E9 (strict:List Val→Rs) (l:List Rs):Rs:=match l.find? (fun q=>q.2 != 0) with|some q=>C3 q.2|none=>if l.any (fun q=>q.1.kind==0) then (noV,0) else strict (l.map (·.1))
def Gv (c:List Col) (l:List Val) (t:Str):Rs:=if Br t c<0 then C3 9 else (l.getD (Br t c).toNat noV,0)
def orW:Str:=[111,114]
def Sv:Str:=[97,110,100]
/-- A node, of what its kids come to; what a strict node AJe to is a parameter. -/
def F8 (strict:Int→Str→List Val→Rs) (c:List Col) (l:List Val) (o:Int) (t:Str) (v:Val) (ks:List Rs):Rs:=
 if o==1 then (v,0) else if o==2 then Gv c l t
 else if (o==5)&&(t==orW) then H5 (Cp true) (ks.getD 0 (noV,0)) (ks.getD 1 (noV,0))
 else if (o==5)&&(t==Sv) then H5 (Cp false) (ks.getD 0 (noV,0)) (ks.getD 1 (noV,0))
 else if (o==6)&&(((t==ifW) || (t==Gy)) || (t==C0)) then Ea t (ks.getD 0 (noV,0)) (ks.getD 1 (noV,0)) (ks.getD 2 (noV,0))
 else E9 (strict o t) ks
mutual
def Dx (strict:Int→Str→List Val→Rs) (c:List Col) (l:List Val):Expr→Rs
 | .mk o t v k=>F8 strict c l o t v (P5 strict c l k)
def P5 (strict:Int→Str→List Val→Rs) (c:List Col) (l:List Val):List Expr→List Rs
  | []=>[]
  | e::r=>Dx strict c l e::P5 strict c l r
 end
theorem Jy (f:Int→Str→List Val→Rs) (c:List Col) (l:List Val):∀k,P5 f c l k=k.map (Dx f c l)
 | []=>rfl
 | e::r=>by rw [P5,Jy f c l r];rfl
theorem Eh (f:Int→Str→List Val→Rs) (c:List Col) (l:List Val) (e:Expr):Dx f c l e=F8 f c l e.op e.text e.val (e.kids.map (Dx f c l)):=by cases e;rw [Dx,Jy];rfl
def Gl (c:List Col) (l:List Val):Bool:=(Qr c&&(l.length==c.length))&&(l.zip c).all fun p=>Cv p.1&&((p.1.kind==0) || (p.1.kind==p.2.kind))
/-- eval.Eval. -/
def P6 (f:Int→Str→List Val→Rs) (x:Expr) (c:List Col) (l:List Val):Rs:=if (!(Am x)) || !(Gl c l) then C3 1 else Dx f c l x
/-! A tree in a column's place AJe to what its value would there. -/
mutual
theorem eval_put {f:Int→Str→List Val→Rs} {c:List Col} {l m:List Val} {s:Str} {y:Expr} (hs:Gv c m s=Dx f c l y) (ho:∀t,t≠s→Gv c m t=Gv c l t):∀x:Expr,Dx f c l (AFc s y x)=Dx f c m x
 | .mk o t v k=>by
  rw [AFc]
  split
  ·rename_i h
   rw [Ai,beq_iff_eq,beq_iff_eq] at h
   obtain ⟨rfl,rfl⟩:=h
   rw [←hs,Dx]
   rfl
  rename_i h
  rw [Dx,Dx,Zc hs ho k]
  unfold F8
  by_cases h2:(o==2)=true
  ·have:t≠s:=fun e=>h (by rw [h2,e];simp)
   rw [ho t this]
  rw [if_neg h2,if_neg h2]
theorem Zc {f:Int→Str→List Val→Rs} {c:List Col} {l m:List Val} {s:Str} {y:Expr} (hs:Gv c m s=Dx f c l y) (ho:∀t,t≠s→Gv c m t=Gv c l t):∀k:List Expr,P5 f c l (ABq s y k)=P5 f c m k
  | []=>rfl
  | e::r=>by rw [ABq,P5,P5,eval_put hs ho e,Zc hs ho r]
 end
/-! Who is not named plays no part. -/
/-! What a strict node AJe to. -/
def Wr (a b:Int):Int×Int:=
 let p:=Tp a*Tp b
 let below:=decide (a<0) != decide (b<0)
 if decide (0<p / 18446744073709551616) || decide ((if below then 9223372036854775808 else 9223372036854775807)<p % 18446744073709551616) then (0,4)
 else if below then (IntKind.i64.wrap (IntKind.u64.wrap (0-p % 18446744073709551616)),0) else (IntKind.i64.wrap (p % 18446744073709551616),0)
def l3 (a b:Int):Int×Int:=if b==0 then (0,5) else if (a == -9223372036854775808)&&(b == -1) then (0,4) else (IntKind.i64.wrap (a.tdiv b),0)
def Y6 (a b:Int):Int×Int:=if b==0 then (0,5) else if b == -1 then (0,0) else (IntKind.i64.wrap (a.tmod b),0)
def In (t:Str) (a b:Int):Int×Int:=if t==[43] then Y5 a b else if t==[45] then Jw a b else if t==[42] then Wr a b else if t==[47] then l3 a b else Y6 a b
def Hr (t:Str) (c:Int):Bool×Bool:=if t==[61] then (c==0,true) else if t==[33,61] then (c != 0,true) else if t==[60] then (decide (c<0),true) else if t==[60,61] then (decide (c≤0),true) else if t==[62] then (decide (0<c),true) else if t==[62,61] then (decide (0≤c),true) else (false,false)
def Mx (a b:Int):Int:=if decide (a<b) then -1 else if decide (b<a) then 1 else 0
def orI:List Int→Int
 | []=>0
 | a::r=>if a != 0 then a else orI r
def g0 (a b:Val):Int:=if (!(Cv a)) || !(Cv b) then 0 else orI [Mx a.kind b.kind,Mx a.n b.n,Lib.compareBytes a.s b.s]
def Hi (t:Str) (a b:Val):Rs:=if (Hr t (g0 a b)).2 then (if a.kind != b.kind then C3 10 else (Cp (Hr t (g0 a b)).1,0)) else if t==[38] then Lu a b else if !Bx [a,b] [1,1] then C3 10 else Ez (In t a.n b.n)
def G7 (t:Str) (v:Val):Rs:=if (t==[115,116,114])&&(v.kind==1) then (Su (Lib.itoa v.n),0) else if (t==[108,101,110])&&(v.kind==2) then (⟨1,v.s.length,[]⟩,0) else if (t==[110,117,109])&&(v.kind==2) then Ez (C1 v.s) else C3 10
def Hj (t:Str) (s:Str) (n:Int):Val:=if t==[108,101,102,116] then Su (s.take (max 0 (min n s.length)).toNat) else Su (s.drop (s.length-(max 0 (min n s.length)).toNat))
def Aj (o:Int) (t:Str) (l:List Val):Rs:=
 if o==5 then Hi t (l.getD 0 noV) (l.getD 1 noV) else if (o==3)&&Bx l [1] then Ez (Jw 0 (l.getD 0 noV).n) else if (o==4)&&Bx l [3] then (Cp ((l.getD 0 noV).n==0),0)
 else if o != 6 then C3 10 else if (l.length:Int)==1 then G7 t (l.getD 0 noV) else if !Bx l [2,1] then C3 10 else (Hj t (l.getD 0 noV).s (l.getD 1 noV).n,0)
abbrev Ag (c:List Col) (l:List Val) (e:Expr):Rs:=Dx Aj c l e
abbrev C6 (x:Expr) (c:List Col) (l:List Val):Rs:=P6 Aj x c l
/-! Values are plain, and their numbers have 64 bits. -/
structure Fine (v:Val):Prop where
 plain:Cv v=true
 lo : -9223372036854775808≤v.n
 hi:v.n≤9223372036854775807
theorem Ky:Fine noV:=⟨rfl,by decide,by decide⟩
theorem Sw (b:Bool):Fine (Cp b):=by cases b<;>exact ⟨rfl,by decide,by decide⟩
theorem R0 {n:Int} (h0 : -9223372036854775808≤n) (h1:n≤9223372036854775807):Fine ⟨1,n,[]⟩:=⟨rfl,h0,h1⟩
theorem Ws (s:Str):Fine (Su s):=⟨by
 unfold Cv Su
 simp only [show ((2:Int)==0)=false from rfl,show ((2:Int)==1)=false from rfl,show ((2:Int)==2)=true from rfl,Bd,if_false,if_true,show ((0:Int)==0)=true from rfl,P9,decide_eq_true_eq,Da]
 omega,by show -9223372036854775808≤(0:Int);decide,by show (0:Int)≤9223372036854775807;decide⟩
theorem Fine.len {v:Val} (h:Fine v):v.s.length≤200:=by
 have h:=h.plain
 unfold Cv at h
 split at h
 ·simp only [Ai,beq_iff_eq] at h;rw [h.2];exact Bc _
 split at h
 ·rw [beq_iff_eq] at h;rw [h];exact Bc _
 split at h
 ·simp only [Ai,decide_eq_true_eq] at h;omega
 simp only [Ai,beq_iff_eq] at h;rw [h.1.1.2];exact Bc _
theorem Pw {x:Int×Int} (h0:x.2=0 → -9223372036854775808≤x.1) (h1:x.2=0→x.1≤9223372036854775807):Fine (Ez x).1:=by
 unfold Ez
 split
 ·exact Ky
 rename_i h
 have h:x.2=0:=by simpa using h
 exact R0 (h0 h) (h1 h)
theorem Wt (e:Int):Fine (C3 e).1:=Ky
theorem J3 (n:Int) : -9223372036854775808≤IntKind.i64.wrap n∧IntKind.i64.wrap n≤9223372036854775807:=by rw [IntKind.wrap_i64];omega
theorem yb (a b:Int):Fine (Ez (Jw a b)).1:=by
 refine Pw (fun _=>?_) (fun _=>?_)<;>unfold Jw<;>split
 ·show -9223372036854775808≤(0:Int);decide
 ·exact (J3 _).1
 ·show (0:Int)≤9223372036854775807;decide
 exact (J3 _).2
theorem g7 (t:Str) (a b:Int) : -9223372036854775808≤(In t a b).1∧(In t a b).1≤9223372036854775807:=by
 have z : -9223372036854775808≤(0:Int)∧(0:Int)≤9223372036854775807:=by decide
 unfold In
 split
 ·unfold Y5;split;exact z;exact J3 _
 split
 ·unfold Jw;split;exact z;exact J3 _
 split
 ·unfold Wr
  simp only
  repeat' split
  all_goals first|exact z|exact J3 _
 split
 ·unfold l3;split;exact z;split;exact z;exact J3 _
 unfold Y6;split;exact z;split;exact z;exact J3 _
theorem yd {t:Str} {a b:Val}:Fine (Hi t a b).1:=by
 unfold Hi
 split
 ·split
  ·exact Xu
  exact Sw _
 split
 ·unfold Lu
  split
  ·exact Xu
  split
  ·exact Xu
  exact Ws _
 split
 ·exact Xu
 exact Pw (fun _=>(g7 _ _ _).1) (fun _=>(g7 _ _ _).2)
theorem ye (s:Str) : -9223372036854775808≤(C1 s).1∧(C1 s).1≤9223372036854775807:=by
 unfold C1
 split
 ·decide
 split
 ·rename_i v h
  have:=Lib.parseIntB_bounds h
  simp only [show ((2 ^ (64-1):Nat):Int)=9223372036854775808 by decide] at this
  show -9223372036854775808≤v∧v≤9223372036854775807
  omega
 ·decide
 decide
theorem yf {t:Str} {v:Val} (h:Fine v):Fine (G7 t v).1:=by
 unfold G7
 split
 ·exact Ws _
 split
 ·have:=h.len
  exact R0 (by omega) (by omega)
 split
 ·exact Pw (fun _=>(ye _).1) (fun _=>(ye _).2)
 exact Xu
theorem g8 {o:Int} {t:Str} {l:List Val} (h:∀v∈l,Fine v):Fine (Aj o t l).1:=by
 have h0:Fine (l.getD 0 noV):=by cases l with|nil=>exact Ky|cons a r=>exact h a Hw
 unfold Aj
 split
 ·exact yd
 split
 ·exact yb _ _
 split
 ·exact Sw _
 split
 ·exact Xu
 split
 ·exact yf h0
 split
 ·exact Xu
 unfold Hj
 split<;>exact Ws _
theorem Px {r:Rs} (h:Fine r.1):Fine (B7 r).1:=by
 unfold B7
 split
 ·exact Xu
 exact h
theorem Wu {s:Val} {a b:Rs} (ha:Fine a.1) (hb:Fine b.1):Fine (H5 s a b).1:=by
 unfold H5
 split
 ·exact Px ha
 split
 ·exact Px hb
 exact Px ha
theorem rp {t:Str} {a b c:Rs} (ha:Fine a.1) (hb:Fine b.1) (hc:Fine c.1):Fine (Ea t a b c).1:=by
 unfold Ea
 repeat' split
 all_goals first|exact Wt _|exact hb|exact hc|exact ha|exact Sw _
theorem yg {f:List Val→Rs} {l:List Rs} (hf:∀k:List Val,(∀v∈k,Fine v)→Fine (f k).1) (h:∀r∈l,Fine r.1):Fine (E9 f l).1:=by
 unfold E9
 split
 ·exact Xu
 split
 ·exact Ky
 refine hf _ fun v hv=>?_
 obtain ⟨r,hr,rfl⟩:=Cw.1 hv
 exact h r hr
theorem rq {c:List Col} {l:List Val} (h:∀v∈l,Fine v) (t:Str):Fine (Gv c l t).1:=by
 unfold Gv
 split
 ·exact Xu
 show Fine (l.getD _ noV)
 rw [Ch]
 cases hg:l[(Br t c).toNat]? with
 | none=>exact Ky
 | some v=>exact h v (Az hg)
def Kz (e:Expr):Bool := !(e.op==1) || Cv e.val
theorem Io {k:List Rs} (h:∀r∈k,Fine r.1) (i:Nat):Fine (k.getD i (noV,0)).1:=by
 rw [Ch]
 cases hg:k[i]? with
 | none=>exact Ky
 | some r=>exact h r (Az hg)
mutual
theorem Hs {c:List Col} {l:List Val} (h:∀v∈l,Fine v):∀e:Expr,Be Kz e=true→Be Ci e=true→Fine (Ag c l e).1
 | .mk o t v k,h1,h2=>by
  rw [Be,Ai] at h1 h2
  have hk:=Wv (c:=c) h k h1.2 h2.2
  rw [Ag,Dx]
  unfold F8
  split
  ·rename_i ho
   have p:=h1.1
   unfold Kz at p
   rw [show (Expr.mk o t v k).op=o from rfl,ho] at p
   have q:=h2.1
   unfold Ci at q
   simp only [Ai,decide_eq_true_eq] at q
   exact ⟨by show Cv (Expr.mk o t v k).val=true;simpa using p,q.1,q.2⟩
  split
  ·exact rq h t
  split
  ·exact Wu (Io hk 0) (Io hk 1)
  split
  ·exact Wu (Io hk 0) (Io hk 1)
  split
  ·exact rp (Io hk 0) (Io hk 1) (Io hk 2)
  exact yg (fun _ hl=>g8 hl) hk
theorem Wv {c:List Col} {l:List Val} (h:∀v∈l,Fine v):∀k:List Expr,Lr Kz k=true→Lr Ci k=true→∀r∈P5 Aj c l k,Fine r.1
  | [],_,_=>fun r hr=>by cases hr
  | e::k,h1,h2=>by
    rw [Lr,Ai] at h1 h2
    intro r hr
    rw [P5] at hr
    rcases Bj.1 hr with rfl|hr
    · exact Hs h e h1.1 h2.1
    exact Wv h k h1.2 h2.2 r hr
 end
set_option maxRecDepth 4000
abbrev R1 (r:Rs):AV:=.tup [Bp r.1,A4 r.2]
abbrev n9 (l:List Int):AV:=.slice false 1 (l.map A4)
abbrev Ww (c:List Col) (l:List Val):AV:=.agg [Ax c,Cf l]
theorem c43 (e:Int) (Hp:List AObj):AFun Tryz.prog 43 [A4 e] Hp (R1 (C3 e)):=by
 refine Ak [.cell 2 23,.tmp 3] [0] Tryz.func43 Tryz.ntmps43 (fun d=>?_)
 refine dt ?_;refine A2 [0,2] ?_;refine AEt ?_;refine A5 ?_;refine Z60 ?_;exact A7 (Aw (As jA jS) A6)

theorem c175 (n e:Int) (Hp:List AObj):AFun Tryz.prog 175 [A4 n,A4 e] Hp (R1 (Ez (n,e))):=by
 refine Ak [.cell 4 23,.tmp 5] [0,1] Tryz.func175 Tryz.ntmps175 (fun d=>?_)
 refine dt ?_;refine A2 [0,1,4] ?_;refine Z31 ?_;refine A2 [0,1,4,7] ?_
 refine A3 (fun ht7=>?_) (fun ht7=>?_)
 ·have hw:Ez (n,e)=C3 e:=if_pos ht7
  refine Z2 ?_;refine Z46 ?_;refine Z40 ?_;refine Cu ?_;exact AI2
 have hw:Ez (n,e)=(⟨1,n,[]⟩,0):=if_neg (by rw [ht7];simp)
 refine Z74 ?_;refine A8 Tryz.call221 (AF6 _ _) ?_;refine Z40 ?_;exact AI2

theorem g9 {vs:List Val} {ks:List Int} (hl:ks.length≤vs.length) {x:Nat} (hk:x<ks.length) (hx:Bx vs ks=Bx (vs.drop x) (ks.drop x)):Bx vs ks=((vs[x].kind==ks[x])&&Bx (vs.drop (x+1)) (ks.drop (x+1))):=by
 rw [hx,K5 hk,K5 (show x<vs.length by omega),Bx]
theorem yh (vs:List Val) (ks:List Int) (hks:ks.length≤vs.length) (hk2:ks.length≤1048576) (Hp:List AObj):AFun Tryz.prog 174 [Cf vs,n9 ks] Hp (B6 (Bx vs ks)):=by
 refine Ak [.tmp 4] [0,1] Tryz.func174 Tryz.ntmps174 (fun d=>?_)
 refine Z49 ?_;refine Z34 ?_;refine A2 [0,7,8,9] ?_
 refine Dp (α:=Nat) (fun x=>⟨22,Af 0 (Cf vs) (Af 7 (n9 ks) (Af 8 (A4 (ks.length:Nat)) (Af 9 (A4 (x:Nat)) (fun _=>.any)))),Hp,[],[],none⟩) (fun x=>x≤ks.length∧Bx vs ks=Bx (vs.drop x) (ks.drop x)) (fun x=>ks.length-x) (0) ⟨Bc _,rfl⟩ (Co (by simp)) rfl (fun x hx=>?_)
 refine Z2 ?_;refine A2 [0,7,8,9,10] ?_
 refine Dn (fun ht10=>?_) (fun ht10=>?_)
 ·have hlt:x<ks.length:=by simpa using ht10
  have hls:x<vs.length:=by omega
  have hst:=g9 hks hlt hx.2
  refine Pk ?_
  refine A5 (h:=Ap (x) (A4 ks[x]) (fun _=>Bv hlt)) (hr:=?_)
  refine Z29 ?_;refine A2 [0,5,6,7,8,9] ?_;refine Z1 ?_
  refine A5 (h:=Ap (x) (Bp vs[x]) (fun _=>Bv hls)) (hr:=?_)
  refine Z69 ?_;refine A2 [0,7,8,9,20] ?_
  refine A3 (fun ht20=>?_) (fun ht20=>?_)
  ·have hm:Bx vs ks=false:=by rw [hst];simp only [bne_iff_ne,ne_eq] at ht20;simp [ht20]
   refine Z65 ?_;exact AB4
  have hn:Bx vs ks=Bx (vs.drop (x+1)) (ks.drop (x+1)):=by rw [hst];simp only [bne_eq_false_iff_eq] at ht20;simp [ht20]
  refine Z68 ?_;refine A2 [0,7,8,9] ?_;exact AH8
 have hxe:ks.length≤x:=by simpa using ht10
 have hm:Bx vs ks=true:=by rw [hx.2,im hxe];cases vs.drop x<;>rfl
 refine Z39 ?_;exact AAt

theorem AL5 (t:Str) (c:Int) (Hp:List AObj):AFun Tryz.prog 217 [Ah t,A4 c] Hp (.tup [B6 (Hr t c).1,B6 (Hr t c).2]):=by
 refine Ak [.tmp 4,.tmp 5] [0,1] Tryz.func217 Tryz.ntmps217 (fun d=>?_)
 refine jd ?_;refine Z36 ?_;refine A2 [1,6] ?_;refine Z94 ?_;refine A2 [1,6,7] ?_
 refine A3 (fun ht7=>?_) (fun ht7=>?_)
 ·exact pj
 refine Z1 ?_;refine A2 [1,6,11] ?_
 refine A3 (fun ht11=>?_) (fun ht11=>?_)
 ·exact pj
 refine Z1 ?_;refine A2 [1,6,15] ?_
 refine A3 (fun ht15=>?_) (fun ht15=>?_)
 ·exact pj
 refine Z1 ?_;refine A2 [1,6,19] ?_
 refine A3 (fun ht19=>?_) (fun ht19=>?_)
 ·exact pj
 refine Z1 ?_;refine A2 [1,6,23] ?_
 refine A3 (fun ht23=>?_) (fun ht23=>?_)
 ·exact pj
 refine Z1 ?_;refine A2 [1,27] ?_
 refine A3 (fun ht27=>?_) (fun ht27=>?_)
 ·exact pj
 refine Z20 ?_;refine b9 ?_;exact AI3

theorem AJ0 (a b:Int) (Hp:List AObj):AFun Tryz.prog 222 [A4 a,A4 b] Hp (.tup [A4 (Jw a b).1,A4 (Jw a b).2]):=by
 refine Ak [.tmp 4,.tmp 5] [0,1] Tryz.func222 Tryz.ntmps222 (fun d=>?_)
 refine jd ?_;refine Z1 ?_
 refine A5 (h:=Q.sub) (hr:=?_)
 refine A5 ?_;refine A2 [0,1,6] ?_;refine Z31 ?_;refine R.xor ?_;refine Z0 ?_;refine R.xor ?_;refine R.and ?_;refine A5 ?_;refine A2 [6,17] ?_
 refine A3 (fun ht17=>?_) (fun ht17=>?_)
 ·have hm:Jw a b=(0,4):=if_pos ht17
  exact AHi
 have hm:Jw a b=(IntKind.i64.wrap (a-b),0):=if_neg (by rw [ht17];simp)
 refine U4 ?_;exact AEn

theorem AL6 (a b:Int) (Hp:List AObj):AFun Tryz.prog 273 [A4 a,A4 b] Hp (.tup [A4 (Y5 a b).1,A4 (Y5 a b).2]):=by
 refine Ak [.tmp 4,.tmp 5] [0,1] Tryz.func273 Tryz.ntmps273 (fun d=>?_)
 refine jd ?_;refine Z1 ?_
 refine A5 (h:=Q.add) (hr:=?_)
 refine A5 ?_;refine A2 [0,1,6] ?_;refine Z31 ?_;refine R.xor ?_;refine Z0 ?_;refine R.xor ?_;refine R.and ?_;refine A5 ?_;refine A2 [6,17] ?_
 refine A3 (fun ht17=>?_) (fun ht17=>?_)
 ·have hm:Y5 a b=(0,4):=if_pos ht17
  exact AHi
 have hm:Y5 a b=(IntKind.i64.wrap (a+b),0):=if_neg (by rw [ht17];simp)
 refine U4 ?_;exact AEn

theorem AL7 (a:Int) (Hp:List AObj):AFun Tryz.prog 176 [A4 a] Hp (.tup [A4 (Jw 0 a).1,A4 (Jw 0 a).2]):=by
 refine Ak [.tmp 2,.tmp 3] [0] Tryz.func176 Tryz.ntmps176 (fun d=>?_)
 refine Z1 ?_;refine A2 [0] ?_;refine Z2 ?_;refine A8 Tryz.call222 (AJ0 _ _ _) ?_;refine Z69 ?_;refine Z25 ?_;exact A7 (Aw A6 A6)

theorem AJ1 (a:Int) (Hp:List AObj):AFun Tryz.prog 305 [A4 a] Hp (wj (Tp a)):=by
 refine Ak [.tmp 2] [0] Tryz.func305 Tryz.ntmps305 (fun d=>?_)
 refine Z57 ?_;refine Z31 ?_;refine A2 [0,4] ?_
 refine A3 (fun ht4=>?_) (fun ht4=>?_)
 ·have hm:Tp a=IntKind.u64.wrap (0-IntKind.u64.wrap a):=if_pos ht4
  refine Z18 ?_;refine Z4 ?_;exact Z32
 have hm:Tp a=IntKind.u64.wrap a:=if_neg (by rw [ht4];simp)
 refine U4 ?_;exact AHp

theorem AFl (n:Int):0≤IntKind.u64.wrap n∧IntKind.u64.wrap n<18446744073709551616:=by rw [IntKind.wrap_u64];omega
theorem yi (a:Int):0≤Tp a∧Tp a<18446744073709551616:=by
 unfold Tp
 split<;>exact AFl _
theorem AL8 (x y:Int) (hx:0≤x∧x<18446744073709551616) (hy:0≤y∧y<18446744073709551616) (Hp:List AObj):AFun Tryz.prog 304 [wj x,wj y] Hp (.tup [wj (x*y / 18446744073709551616),wj (x*y % 18446744073709551616)]):=by
 obtain ⟨m,rfl⟩:=ij hx.1
 obtain ⟨n,rfl⟩:=ij hy.1
 refine Kw (xs:=[.int .u64 m,.int .u64 n]) (v:=.tuple #[.int .u64 ((m*n / 18446744073709551616:Nat):Int),.int .u64 ((m*n % 18446744073709551616:Nat):Int)]) (fun G w=>M8 rfl (fun i y u hy hu=>?_)) (fun w hg=>?_)
 ·match i with
  | 0=>simp at hy hu;subst hy;subst hu;exact .v _ _
  | 1=>simp at hy hu;subst hy;subst hu;exact .v _ _
  | i+2=>simp at hy
 refine (Any.bits_Mul64 Tryz.lays264 m n (by omega) (by omega) w).mono ?_
 rintro e w' ⟨rfl,rfl⟩
 exact ⟨rfl,Go.RowKit.Below.refl _ _⟩
theorem AL9 (s t:Str) (Hp:List AObj):AFun Tryz.prog 272 [Ah s,Ah t] Hp (A4 (Lib.compareBytes s t)):=by
 refine Kw (xs:=[sv s,sv t]) (v:=.int .i64 (Lib.compareBytes s t)) (fun G w=>.v _ _) (fun w hg=>?_)
 refine (Any.strings_Compare Tryz.lays106 ⟨s.toArray⟩ ⟨t.toArray⟩ w).mono ?_
 rintro e w' ⟨rfl,rfl⟩
 exact ⟨rfl,Go.RowKit.Below.refl _ _⟩
theorem ALa (a b:Int) (Hp:List AObj):AFun Tryz.prog 274 [A4 a,A4 b] Hp (.tup [A4 (Wr a b).1,A4 (Wr a b).2]):=by
 refine Ak [.tmp 4,.tmp 5] [0,1] Tryz.func274 Tryz.ntmps274 (fun d=>?_)
 refine jd ?_;refine Z2 ?_;refine A8 Tryz.call305 (AJ1 _ _) ?_;refine A5 ?_;refine A8 Tryz.call305 (AJ1 _ _) ?_;refine A8 Tryz.call304 (AL8 _ _ (yi a) (yi b) _) ?_;refine Z82 ?_;refine A2 [0,1,6,7] ?_;refine Z18 ?_;refine Z0 ?_;refine A2 [6,7,8] ?_;refine Z2 ?_;refine A2 [6,7,8,9] ?_;refine Z36 ?_;refine A2 [6,7,8,9,23] ?_
 refine A3 (fun ht23=>?_) (fun ht23=>?_)
 ·refine Z93 ?_
  refine A5 (h:=Q.add) (hr:=?_)
  refine A5 ?_;refine A2 [6,7,8,9] ?_;refine Ft ?_;refine Xt ?_;refine Z73 ?_;refine A2 [7,8,26] ?_
  refine A3 (fun ht26=>?_) (fun ht26=>?_)
  ·refine b9 ?_;refine Z5 ?_
   exact A7 (Aw A6 A6) ⟨by
    have w1:IntKind.u64.wrap 9223372036854775808=9223372036854775808:=rfl
    simp_all [Wr]
    try first|(rw [if_pos ht26];simp;done)|(rw [if_neg (by omega)];simp;done),rfl⟩
  refine Z1 ?_;refine A2 [7,34] ?_
  refine A3 (fun ht34=>?_) (fun ht34=>?_)
  ·refine Z18 ?_;refine jg ?_;refine Z5 ?_
   exact A7 (Aw A6 A6) ⟨by
    have w1:IntKind.u64.wrap 9223372036854775808=9223372036854775808:=rfl
    simp_all [Wr]
    try first|(rw [if_pos ht26];simp;done)|(rw [if_neg (by omega)];simp;done),rfl⟩
  refine Z20 ?_;refine AAx ?_
  exact A7 (Aw A6 A6) ⟨by
   have w1:IntKind.u64.wrap 9223372036854775808=9223372036854775808:=rfl
   simp_all [Wr]
   try first|(rw [if_pos ht26];simp;done)|(rw [if_neg (by omega)];simp;done),rfl⟩
 refine Z6 ?_;refine Xt ?_;refine Z73 ?_;refine A2 [7,8,26] ?_
 refine A3 (fun ht26=>?_) (fun ht26=>?_)
 ·refine b9 ?_;refine Z5 ?_
  exact A7 (Aw A6 A6) ⟨by
   have w1:IntKind.u64.wrap 9223372036854775808=9223372036854775808:=rfl
   simp_all [Wr]
   try first|(rw [if_pos ht26];simp;done)|(rw [if_neg (by omega)];simp;done),rfl⟩
 refine Z1 ?_;refine A2 [7,34] ?_
 refine A3 (fun ht34=>?_) (fun ht34=>?_)
 ·refine Z18 ?_;refine jg ?_;refine Z5 ?_
  exact A7 (Aw A6 A6) ⟨by
   have w1:IntKind.u64.wrap 9223372036854775808=9223372036854775808:=rfl
   simp_all [Wr]
   try first|(rw [if_pos ht26];simp;done)|(rw [if_neg (by omega)];simp;done),rfl⟩
 refine Z20 ?_;refine AAx ?_
 exact A7 (Aw A6 A6) ⟨by
  have w1:IntKind.u64.wrap 9223372036854775808=9223372036854775808:=rfl
  simp_all [Wr]
  try first|(rw [if_pos ht26];simp;done)|(rw [if_neg (by omega)];simp;done),rfl⟩

theorem ALb (a b:Int) (Hp:List AObj):AFun Tryz.prog 275 [A4 a,A4 b] Hp (.tup [A4 (l3 a b).1,A4 (l3 a b).2]):=by
 refine Ak [.tmp 4,.tmp 5] [0,1] Tryz.func275 Tryz.ntmps275 (fun d=>?_)
 refine jd ?_;refine Xt ?_;refine A2 [0,1,6] ?_
 refine A3 (fun ht6=>?_) (fun ht6=>?_)
 ·refine b9 ?_;exact AHa
 refine du ?_;refine A2 [0,1,9] ?_
 refine A3 (fun ht9=>?_) (fun ht9=>?_)
 ·refine b9 ?_;exact AHa
 refine Z20 ?_;refine Z1 ?_
 refine A5 (h:=Q.quo (h0:=fun _=>by simpa using ht6)) (hr:=?_)
 refine Z0 ?_;refine Z12 ?_;exact A7 (Aw A6 A6) ⟨by simp_all [l3]<;>(rw [if_neg (by rintro ⟨rfl,rfl⟩;simp_all)];exact ⟨rfl,rfl⟩),rfl⟩

theorem rr {a b:Int} (ha : -9223372036854775808≤a∧a≤9223372036854775807):IntKind.i64.wrap (a.tmod b)=a.tmod b:=by
 have h1:(a.tmod b).natAbs≤a.natAbs:=by rw [Int.natAbs_tmod];exact Nat.mod_le _ _
 rw [IntKind.wrap_i64]
 rcases Int.le_total 0 a with h|h
 ·have:=Int.tmod_nonneg b h
  omega
 have h2:=Int.tmod_nonneg b (show 0 ≤ -a by omega)
 rw [Int.neg_tmod] at h2
 omega
theorem ALc (a b:Int) (ha : -9223372036854775808≤a∧a≤9223372036854775807) (Hp:List AObj):AFun Tryz.prog 276 [A4 a,A4 b] Hp (.tup [A4 (Y6 a b).1,A4 (Y6 a b).2]):=by
 refine Ak [.tmp 4,.tmp 5] [0,1] Tryz.func276 Tryz.ntmps276 (fun d=>?_)
 refine jd ?_;refine Z36 ?_;refine A2 [0,1,6] ?_;refine Z94 ?_;refine A2 [0,1,6,7] ?_
 refine A3 (fun ht7=>?_) (fun ht7=>?_)
 ·have hm:Y6 a b=(0,5):=if_pos ht7
  refine b9 ?_;exact AHk
 refine Z1 ?_;refine A2 [0,1,9] ?_
 refine A3 (fun ht9=>?_) (fun ht9=>?_)
 ·have hm:Y6 a b=(0,0):=by unfold Y6;rw [if_neg (by rw [ht7];simp),if_pos ht9]
  refine b9 ?_;exact AHk
 have hm:Y6 a b=(a.tmod b,0):=by unfold Y6;rw [if_neg (by rw [ht7];simp),if_neg (by rw [ht9];simp),rr ha]
 refine Z20 ?_;refine Z1 ?_
 refine A5 (h:=Q.rem (h0:=fun _=>by simpa using ht7)) (hr:=?_)
 refine Z0 ?_;exact AEn

theorem AJ2 (a:Int) (Hp:List AObj):AFun Tryz.prog 301 [A4 a] Hp (B6 false):=by
 refine Ak [.tmp 2] [0] Tryz.func301 Tryz.ntmps301 (fun d=>?_)
 refine Z57 ?_;refine Z18 ?_;exact AHt

theorem AJ3 (a:Int) (Hp:List AObj):AFun Tryz.prog 302 [A4 a] Hp (B6 false):=by
 refine Ak [.tmp 2] [0] Tryz.func302 Tryz.ntmps302 (fun d=>?_)
 refine Z57 ?_;refine Z18 ?_;exact AHt

theorem ALd (a b:Int) (Hp:List AObj):AFun Tryz.prog 270 [A4 a,A4 b] Hp (A4 (Mx a b)):=by
 refine Ak [.tmp 4] [0,1] Tryz.func270 Tryz.ntmps270 (fun d=>?_)
 refine Z49 ?_;refine Z2 ?_;refine A8 Tryz.call301 (AJ2 _ _) ?_;refine A5 ?_;refine A2 [0,1,5] ?_;refine Z2 ?_;refine A8 Tryz.call301 (AJ2 _ _) ?_;refine A5 ?_;refine A2 [0,1,5,6] ?_;refine Z36 ?_;refine A2 [0,1,6,11] ?_
 refine A3 (fun ht11=>?_) (fun ht11=>?_)
 ·cases ht11
 refine bc ?_;refine A2 [0,1,13] ?_
 refine A3 (fun ht13=>?_) (fun ht13=>?_)
 ·cases ht13
 refine jl ?_;refine A2 [0,1,16] ?_
 refine A3 (fun ht16=>?_) (fun ht16=>?_)
 ·have hm:Mx a b = -1:=if_pos ht16
  exact pk
 refine jl ?_;refine A2 [19] ?_
 refine A3 (fun ht19=>?_) (fun ht19=>?_)
 ·have hm:Mx a b=1:=by unfold Mx;rw [if_neg (by rw [ht16];simp),if_pos ht19]
  exact pk
 have hm:Mx a b=0:=by unfold Mx;rw [if_neg (by rw [ht16];simp),if_neg (by rw [ht19];simp)]
 refine Z6 ?_;exact AAt

theorem ALe (a b:Int) (Hp:List AObj):AFun Tryz.prog 271 [A4 a,A4 b] Hp (A4 (Mx a b)):=by
 refine Ak [.tmp 4] [0,1] Tryz.func271 Tryz.ntmps271 (fun d=>?_)
 refine Z49 ?_;refine Z2 ?_;refine A8 Tryz.call302 (AJ3 _ _) ?_;refine A5 ?_;refine A2 [0,1,5] ?_;refine Z2 ?_;refine A8 Tryz.call302 (AJ3 _ _) ?_;refine A5 ?_;refine A2 [0,1,5,6] ?_;refine Z36 ?_;refine A2 [0,1,6,11] ?_
 refine A3 (fun ht11=>?_) (fun ht11=>?_)
 ·cases ht11
 refine bc ?_;refine A2 [0,1,13] ?_
 refine A3 (fun ht13=>?_) (fun ht13=>?_)
 ·cases ht13
 refine jl ?_;refine A2 [0,1,16] ?_
 refine A3 (fun ht16=>?_) (fun ht16=>?_)
 ·have hm:Mx a b = -1:=if_pos ht16
  exact pk
 refine jl ?_;refine A2 [19] ?_
 refine A3 (fun ht19=>?_) (fun ht19=>?_)
 ·have hm:Mx a b=1:=by unfold Mx;rw [if_neg (by rw [ht16];simp),if_pos ht19]
  exact pk
 have hm:Mx a b=0:=by unfold Mx;rw [if_neg (by rw [ht16];simp),if_neg (by rw [ht19];simp)]
 refine Z6 ?_;exact AAt

theorem yj {l:List Int} {x:Nat} (h:x<l.length) (hx:orI l=orI (l.drop x)):orI l=if l[x] != 0 then l[x] else orI (l.drop (x+1)):=by rw [hx,K5 h,orI]
theorem ALf (l:List Int) (hl:l.length≤1048576) (Hp:List AObj):AFun Tryz.prog 269 [n9 l] Hp (A4 (orI l)):=by
 refine Ak [.tmp 2] [0] Tryz.func269 Tryz.ntmps269 (fun d=>?_)
 refine Z57 ?_;refine Z2 ?_;refine S4 ?_;refine Z34 ?_;refine A2 [3,6,7,8] ?_
 refine Dp (α:=Nat) (fun x=>⟨18,Af 3 (A4 0) (Af 6 (n9 l) (Af 7 (A4 (l.length:Nat)) (Af 8 (A4 (x:Nat)) (fun _=>.any)))),Hp,[],[],none⟩) (fun x=>x≤l.length∧orI l=orI (l.drop x)) (fun x=>l.length-x) (0) ⟨Bc _,rfl⟩ (Co (by simp)) rfl (fun x hx=>?_)
 refine Z2 ?_;refine A2 [3,6,7,8,9] ?_
 refine Dn (fun ht9=>?_) (fun ht9=>?_)
 ·have hlt:x<l.length:=by simpa using ht9
  have hst:=yj hlt hx.2
  refine Z92 ?_
  refine A5 (h:=Ap (x) (A4 l[x]) (fun _=>Bv hlt)) (hr:=?_)
  refine Z0 ?_;refine A2 [3,5,6,7,8] ?_;refine Z13 ?_;refine A2 [3,5,6,7,8,14] ?_
  refine A3 (fun ht14=>?_) (fun ht14=>?_)
  ·have hm:orI l=l[x]:=by rw [hst,if_pos ht14]
   refine Z1 ?_;refine Z43 ?_;exact AAv
  have hn:orI l=orI (l.drop (x+1)):=by rw [hst,if_neg (by rw [ht14];simp)]
  refine Z68 ?_;refine A2 [3,6,7,8] ?_;exact AH8
 have hxe:l.length≤x:=by simpa using ht9
 have hm:orI l=0:=by rw [hx.2,im hxe];rfl
 refine Z39 ?_;refine Z1 ?_;exact AHp

theorem ALg (a b:Val) (Hp:List AObj):AFun Tryz.prog 218 [Bp a,Bp b] Hp (A4 (g0 a b)):=by
 refine Ak [.tmp 4] [0,1] Tryz.func218 Tryz.ntmps218 (fun d=>?_)
 refine Z13 ?_;refine A2 [2,3] ?_;refine Z36 ?_;refine A8 Tryz.call37 (c37 a _) ?_;refine dw ?_;refine C7 Tryz.call37 (fun hB=>c37 b _) ?_;refine Z64 ?_;refine A2 [2,3,12] ?_
 refine A3 (fun ht12=>?_) (fun ht12=>?_)
 ·have hm:g0 a b=0:=if_pos ht12
  exact pk
 have hm:g0 a b=orI [Mx a.kind b.kind,Mx a.n b.n,Lib.compareBytes a.s b.s]:=if_neg (by rw [ht12];simp)
 refine Z6 ?_;refine Ed [0,1,0,4,15,0,32,0,128,511,0,1024,0,4096,16383,32767,65535,131071] 14 Ar (by kernel_rfl) ?_;refine Vo ?_;refine D0 Tryz.call270 (ALd _ _ _) ?_;refine Vo ?_;refine D0 Tryz.call271 (ALe _ _ _) ?_;refine Z14 ?_;refine Z91 ?_;refine A8 Tryz.call272 (AL9 _ _ _) ?_;refine U6 ?_;refine A8 Tryz.call269 (ALf [Mx a.kind b.kind,Mx a.n b.n,Lib.compareBytes a.s b.s] (by simp) _) ?_;refine A5 ?_;refine Z21 ?_;exact qf

theorem ALh (t:Str) (a b:Int) (ha : -9223372036854775808≤a∧a≤9223372036854775807) (Hp:List AObj):AFun Tryz.prog 220 [Ah t,A4 a,A4 b] Hp (R1 (Ez (In t a b))):=by
 refine Ak [.cell 6 23,.tmp 7] [0,1,2] Tryz.func220 Tryz.ntmps220 (fun d=>?_)
 refine dt ?_;refine A2 [0,1,2,6] ?_;refine Z36 ?_;refine A2 [1,2,6,8] ?_;refine Z94 ?_;refine A2 [1,2,6,8,9] ?_
 refine A3 (fun ht9=>?_) (fun ht9=>?_)
 ·refine Z1 ?_;refine A8 Tryz.call273 (AL6 _ _ _) ?_;exact AB6
 refine Z1 ?_;refine A2 [1,2,6,8,19] ?_
 refine A3 (fun ht19=>?_) (fun ht19=>?_)
 ·refine Z1 ?_;refine A8 Tryz.call222 (AJ0 _ _ _) ?_;exact AB6
 refine Z1 ?_;refine A2 [1,2,6,8,29] ?_
 refine A3 (fun ht29=>?_) (fun ht29=>?_)
 ·refine Z1 ?_;refine A8 Tryz.call274 (ALa _ _ _) ?_;exact AB6
 refine Z1 ?_;refine A2 [1,2,6,39] ?_
 refine A3 (fun ht39=>?_) (fun ht39=>?_)
 ·refine Z1 ?_;refine A8 Tryz.call275 (ALb _ _ _) ?_;exact AB6
 refine Z20 ?_;refine Z1 ?_;refine A8 Tryz.call276 (ALc _ _ ha _) ?_;refine AB3 ?_;refine Z78 ?_;exact AI4

theorem ALi (a b:Val) (fa:Fine a) (fb:Fine b) (Hp:List AObj):AFun Tryz.prog 219 [.slice false 3 [Bp a,Bp b]] Hp (R1 (Lu a b)):=by
 refine Ak [.cell 2 23,.tmp 3] [0] Tryz.func219 Tryz.ntmps219 (fun d=>?_)
 refine dt ?_;refine A2 [0,2] ?_;refine Pk ?_;refine U7 ?_;refine A8 Tryz.call174 (yh [a,b] [2,2] (by simp) (by simp) _) ?_;refine Z0 ?_;refine A2 [0,2,4] ?_
 refine A3 (fun ht4=>?_) (fun ht4=>?_)
 ·have hm:Lu a b=C3 10:=if_pos ht4
  refine Xs ?_;refine Z60 ?_;exact Z17
 have hla:=fa.len
 have hlb:=fb.len
 refine Ed [0,1,3,7,15,0,32,96,224,480,1023,2047,4095] 10 Ar (by kernel_rfl) ?_;refine B1 ?_
 refine B1 (h:=Ap (0) (Bp a) (fun _=>show ([Bp a,Bp b]:List AV)[0]? = some (Bp a) from rfl)) (hr:=?_)
 refine Vo ?_
 refine B1 (h:=Ap (1) (Bp b) (fun _=>show ([Bp a,Bp b]:List AV)[1]? = some (Bp b) from rfl)) (hr:=?_)
 refine Z35 ?_;refine Er ?_
 refine A5 (h:=Q.add64 (h1:=fun _=>by omega) (h2:=fun _=>by omega)) (hr:=?_)
 refine Z0 ?_;refine A2 [0,2,12] ?_
 refine A3 (fun ht12=>?_) (fun ht12=>?_)
 ·have hm:Lu a b=C3 3:=by unfold Lu;rw [if_neg (by rw [ht4];simp),if_pos ht12]
  refine Xs ?_;refine Z60 ?_;exact Z17
 have hm:Lu a b=(Su (a.s++b.s),0):=by unfold Lu;rw [if_neg (by rw [ht4];simp),if_neg (by rw [ht12];simp)]
 refine Z20 ?_;refine Ed [0,1,3,7,0,16,48,112,255,511,1023,2047] 8 Ar (by kernel_rfl) ?_;refine B1 ?_
 refine B1 (h:=Ap (0) (Bp a) (fun _=>show ([Bp a,Bp b]:List AV)[0]? = some (Bp a) from rfl)) (hr:=?_)
 refine Z35 ?_
 refine B1 (h:=Ap (1) (Bp b) (fun _=>show ([Bp a,Bp b]:List AV)[1]? = some (Bp b) from rfl)) (hr:=?_)
 refine Z91 ?_
 refine A5 (h:=Q.sadd (hl:=fun _=>by omega)) (hr:=?_)
 refine A8 Tryz.call223 (qq _ _) ?_;exact AH4

theorem c173 (t:Str) (a b:Val) (fa:Fine a) (fb:Fine b) (Hp:List AObj):AFun Tryz.prog 173 [Ah t,.slice false 3 [Bp a,Bp b]] Hp (R1 (Hi t a b)):=by
 refine Ak [.cell 4 23,.tmp 5] [0,1] Tryz.func173 Tryz.ntmps173 (fun d=>?_)
 refine dt ?_;refine A2 [0,1,4] ?_;refine Jk ?_;refine Ed [0,0,2,6,0,16,48,126,255,511,1023,1023,2047,8191] 13 Ar (by kernel_rfl) ?_;refine Z14 ?_
 refine B1 (h:=Ap (0) (Bp a) (fun _=>show ([Bp a,Bp b]:List AV)[0]? = some (Bp a) from rfl)) (hr:=?_)
 refine Z14 ?_
 refine B1 (h:=Ap (1) (Bp b) (fun _=>show ([Bp a,Bp b]:List AV)[1]? = some (Bp b) from rfl)) (hr:=?_)
 refine B1 ?_;refine D0 Tryz.call218 (ALg _ _ _) ?_;refine D0 Tryz.call217 (AL5 _ _ _) ?_;refine Z14 ?_;refine Z91 ?_;refine A5 ?_;refine A2 [0,1,4,6,7] ?_;refine Z2 ?_;refine A2 [0,1,4,6,20] ?_
 refine A3 (fun ht20=>?_) (fun ht20=>?_)
 ·refine Jk ?_;refine Ed [0,1,3,7,0,16,48,112,255] 8 Ar (by kernel_rfl) ?_;refine B1 ?_
  refine B1 (h:=Ap (0) (Bp a) (fun _=>show ([Bp a,Bp b]:List AV)[0]? = some (Bp a) from rfl)) (hr:=?_)
  refine Z35 ?_
  refine B1 (h:=Ap (1) (Bp b) (fun _=>show ([Bp a,Bp b]:List AV)[1]? = some (Bp b) from rfl)) (hr:=?_)
  refine Z91 ?_;refine A5 ?_;refine A2 [4,6,29] ?_
  refine A3 (fun ht29=>?_) (fun ht29=>?_)
  ·have hm:Hi t a b=C3 10:=by unfold Hi;rw [if_pos ht20,if_pos ht29]
   refine Xs ?_;refine Z40 ?_;refine Cu ?_;exact Z26
  have hm:Hi t a b=(Cp (Hr t (g0 a b)).1,0):=by unfold Hi;rw [if_pos ht20,if_neg (by rw [ht29];simp)]
  refine Z74 ?_;refine A8 Tryz.call88 (c88 _ _) ?_;exact pl
 refine Z6 ?_;refine Z31 ?_;refine A2 [0,1,4,36] ?_
 refine A3 (fun ht36=>?_) (fun ht36=>?_)
 ·have hm:Hi t a b=Lu a b:=by unfold Hi;rw [if_neg (by rw [ht20];simp),if_pos ht36]
  refine Z2 ?_;refine A8 Tryz.call219 (ALi a b fa fb _) ?_;refine Z0 ?_;exact pl
 refine bc ?_;refine U7 ?_;refine A8 Tryz.call174 (yh [a,b] [1,1] (by simp) (by simp) _) ?_;refine A5 ?_;refine A2 [0,1,4,44] ?_
 refine A3 (fun ht44=>?_) (fun ht44=>?_)
 ·have hm:Hi t a b=C3 10:=by unfold Hi;rw [if_neg (by rw [ht20];simp),if_neg (by rw [ht36];simp),if_pos ht44]
  refine Xs ?_;exact pl
 have hm:Hi t a b=Ez (In t a.n b.n):=by unfold Hi;rw [if_neg (by rw [ht20];simp),if_neg (by rw [ht36];simp),if_neg (by rw [ht44];simp)]
 refine Z6 ?_;refine Ed [0,0,2,6,14,0,32,96,224,511,1023,1023,4095,8191] 12 Ar (by kernel_rfl) ?_;refine Z14 ?_
 refine B1 (h:=Ap (0) (Bp a) (fun _=>show ([Bp a,Bp b]:List AV)[0]? = some (Bp a) from rfl)) (hr:=?_)
 refine Z35 ?_
 refine B1 (h:=Ap (1) (Bp b) (fun _=>show ([Bp a,Bp b]:List AV)[1]? = some (Bp b) from rfl)) (hr:=?_)
 refine Z14 ?_;refine D0 Tryz.call220 (ALh _ _ _ ⟨fa.lo,fa.hi⟩ _) ?_;refine Z91 ?_;exact Z48

theorem AFm (s:Str) (n:Int):∃k:Nat,(if (0:Int)<(if (s.length:Int)<n then (s.length:Int) else n) then (if (s.length:Int)<n then (s.length:Int) else n) else 0)=(k:Int)∧k≤s.length∧k=(max 0 (min n s.length)).toNat:=by
 refine ⟨(max 0 (min n s.length)).toNat,?_,?_,rfl⟩<;>repeat' split
 all_goals omega
theorem ALj (t s:Str) (n:Int) (hs:s.length≤1048576) (Hp:List AObj):AFun Tryz.prog 178 [Ah t,Ah s,A4 n] Hp (Bp (Hj t s n)):=by
 refine Ak [.cell 6 23] [0,1,2] Tryz.func178 Tryz.ntmps178 (fun d=>?_)
 refine AB2 ?_;refine Z13 ?_;refine R.minI ?_;refine R.maxI ?_
 obtain ⟨k,hk,hks,hke⟩:=AFm s n
 simp only [hk]
 refine A5 ?_;refine A2 [0,1,6,7] ?_;refine Z31 ?_;refine A2 [1,6,7,14] ?_
 refine A3 (fun ht14=>?_) (fun ht14=>?_)
 ·have hm:Hj t s n=Su (s.take k):=by unfold Hj;rw [if_pos ht14,←hke]
  refine Z1 ?_
  refine A5 (h:=K9 k (fun _=>Bc _) (fun _=>hks)) (hr:=?_)
  refine A8 Tryz.call223 (qq _ _) ?_;refine I2 ?_;refine pm ?_;exact AI5
 have hm:Hj t s n=Su (s.drop (s.length-k)):=by unfold Hj;rw [if_neg (by rw [ht14];simp),←hke]
 refine Z6 ?_;refine Z18 ?_
 refine A5 (h:=Q.sub64 (h1:=fun _=>by omega) (h2:=fun _=>by omega)) (hr:=?_)
 refine A5 (h:=Q.scutL (s.length-k) (fun _=>show s.length-k≤s.length by omega) (fun _=>Al _)) (hr:=?_)
 refine A8 Tryz.call223 (qq _ _) ?_;refine vq ?_;exact AI5

theorem ALk (t:Str) (v:Val) (h:Fine v) (Hp:List AObj):AFun Tryz.prog 177 [Ah t,Bp v] Hp (R1 (G7 t v)):=by
 have hlen:=h.len
 refine Ak [.cell 4 23,.tmp 5] [0,1] Tryz.func177 Tryz.ntmps177 (fun d=>?_)
 refine ph ?_;refine A2 [0,3,4] ?_;refine Xt ?_;refine Z73 ?_;refine A2 [0,3,4,6] ?_
 refine A3 (fun ht6=>?_) (fun ht6=>?_)
 ·have hm:G7 t v=(Su (Lib.itoa v.n),0):=if_pos ht6
  refine Z1 ?_;refine A8 Tryz.call160 (AIp _ h.lo h.hi _) ?_;refine A8 Tryz.call223 (qq _ _) ?_;exact Z86
 refine Z13 ?_;refine Z73 ?_;refine A2 [0,3,4,18] ?_
 refine A3 (fun ht18=>?_) (fun ht18=>?_)
 ·have hm:G7 t v=(⟨1,v.s.length,[]⟩,0):=by unfold G7;rw [if_neg (by rw [ht6];simp),if_pos ht18]
  refine Z13 ?_;refine A8 Tryz.call221 (AF6 _ _) ?_;exact Z86
 refine Z13 ?_;refine Z73 ?_;refine A2 [3,4,30] ?_
 refine A3 (fun ht30=>?_) (fun ht30=>?_)
 ·have hm:G7 t v=Ez (C1 v.s):=by unfold G7;rw [if_neg (by rw [ht6];simp),if_neg (by rw [ht18];simp),if_pos ht30]
  refine Z1 ?_;refine A8 Tryz.call224 (AIo v.s (by omega) _) ?_;refine AB3 ?_;exact Z86
 have hm:G7 t v=C3 10:=by unfold G7;rw [if_neg (by rw [ht6];simp),if_neg (by rw [ht18];simp),if_neg (by rw [ht30];simp)]
 refine Z20 ?_;refine Xs ?_;exact Z48

theorem ACc {vs:List Val} (h:0<vs.length):vs.getD 0 noV=vs[0]:=by rw [Ch,Ae h];rfl
/-- As many values as a node asks for. -/
structure ArgsOk (o:Int) (vs:List Val):Prop where
 two:o=5→∃a b,vs=[a,b]
 one:o=3∨o=4→vs.length=1
 call:o=6→vs.length=1∨∃a b,vs=[a,b]
 fine:∀v∈vs,Fine v
theorem ALl (e:Expr) (vs:List Val) (h:ArgsOk e.op vs) (Hp:List AObj):AFun Tryz.prog 137 [Aa e,Cf vs] Hp (R1 (Aj e.op e.text vs)):=by
 refine Ak [.cell 4 23,.tmp 5] [0,1] Tryz.func137 Tryz.ntmps137 (fun d=>?_)
 refine ph ?_;refine A2 [1,2,4] ?_;refine Z22 ?_;refine Z18 ?_;refine A2 [1,2,4,6] ?_
 refine A3 (fun ht6=>?_) (fun ht6=>?_)
 ·obtain ⟨a,b,rfl⟩:=h.two (by simpa using ht6)
  have hm:Aj e.op e.text [a,b]=Hi e.text a b:=if_pos ht6
  refine Z13 ?_;refine A8 Tryz.call173 (c173 e.text a b (h.fine a (by simp)) (h.fine b (by simp)) _) ?_;refine Z0 ?_;exact Z86
 refine q8 ?_;refine G.buildSl jU jS jZ ?_
 refine C7 Tryz.call174 (C:=((e.op==3)==true)) (fun hB=>yh vs [1] (by have:=h.one (.inl (by simpa using hB));simp [this]) (by simp) _) ?_
 refine Z0 ?_;refine A2 [1,2,4,16] ?_
 refine A3 (fun ht16=>?_) (fun ht16=>?_)
 ·have hm0:((e.op==3)&&Bx vs [1])=true:=ht16
  have hop:e.op=3:=by simp only [Ai,beq_iff_eq] at hm0;exact hm0.1
  have hln:=h.one (.inl hop)
  have hg0:(vs.map Bp)[0]? = some (Bp (vs.getD 0 noV)):=by rw [ACc (by omega)];exact Bv (by omega)
  have hm:Aj e.op e.text vs=Ez (Jw 0 (vs.getD 0 noV).n):=by unfold Aj;rw [if_neg (by rw [ht6];simp),if_pos ht16]
  refine Z2 ?_
  refine A5 (h:=Ap (0) (Bp (vs.getD 0 noV)) (fun _=>hg0)) (hr:=?_)
  refine Z0 ?_;refine A8 Tryz.call176 (AL7 _ _) ?_;refine AB3 ?_;exact Z86
 refine q8 ?_;refine G.buildSl jU jS jZ ?_
 refine C7 Tryz.call174 (C:=((e.op==4)==true)) (fun hB=>yh vs [3] (by have:=h.one (.inr (by simpa using hB));simp [this]) (by simp) _) ?_
 refine Z0 ?_;refine A2 [1,2,4,35] ?_
 refine A3 (fun ht35=>?_) (fun ht35=>?_)
 ·have hm0:((e.op==4)&&Bx vs [3])=true:=ht35
  have hop:e.op=4:=by simp only [Ai,beq_iff_eq] at hm0;exact hm0.1
  have hln:=h.one (.inr hop)
  have hg0:(vs.map Bp)[0]? = some (Bp (vs.getD 0 noV)):=by rw [ACc (by omega)];exact Bv (by omega)
  have hm:Aj e.op e.text vs=(Cp ((vs.getD 0 noV).n==0),0):=by unfold Aj;rw [if_neg (by rw [ht6];simp),if_neg (by rw [ht16];simp),if_pos ht35]
  refine Z2 ?_
  refine A5 (h:=Ap (0) (Bp (vs.getD 0 noV)) (fun _=>hg0)) (hr:=?_)
  refine Z29 ?_;refine A8 Tryz.call88 (c88 _ _) ?_;exact Z86
 refine Z18 ?_;refine A2 [1,2,4,50] ?_
 refine A3 (fun ht50=>?_) (fun ht50=>?_)
 ·have hm:Aj e.op e.text vs=C3 10:=by unfold Aj;rw [if_neg (by rw [ht6];simp),if_neg (by rw [ht16];simp),if_neg (by rw [ht35];simp),if_pos ht50]
  refine Xs ?_;exact Z86
 have hop:e.op=6:=by simpa using ht50
 have hcl:=h.call hop
 refine Z18 ?_;refine A2 [1,2,4,57] ?_
 refine A3 (fun ht57=>?_) (fun ht57=>?_)
 ·rw [Au] at ht57
  have hln:vs.length=1:=by have:=ht57;simp only [beq_iff_eq] at this;omega
  have hg0:(vs.map Bp)[0]? = some (Bp (vs.getD 0 noV)):=by rw [ACc (by omega)];exact Bv (by omega)
  have hf0:Fine (vs.getD 0 noV):=by rw [ACc (by omega)];exact h.fine _ (C4 _)
  have hm:Aj e.op e.text vs=G7 e.text (vs.getD 0 noV):=by unfold Aj;rw [if_neg (by rw [ht6];simp),if_neg (by rw [ht16];simp),if_neg (by rw [ht35];simp),if_neg (by rw [ht50];simp),if_pos ht57]
  refine Ed [0,1,0,4,12,31,63,63,255,511] 8 Ar (by kernel_rfl) ?_;refine Z35 ?_
  refine B1 (h:=Ap (0) (Bp (vs.getD 0 noV)) (fun _=>hg0)) (hr:=?_)
  refine B1 ?_;refine D0 Tryz.call177 (ALk _ _ hf0 _) ?_;refine Z91 ?_;exact Z86
 rw [Au] at ht57
 obtain ⟨a,b,rfl⟩:∃a b,vs=[a,b]:=by
  rcases hcl with h1|h1
  ·exfalso
   have:=ht57
   rw [h1] at this
   simp at this
  exact h1
 refine Z2 ?_;refine U7 ?_;refine A8 Tryz.call174 (yh [a,b] [2,1] (by simp) (by simp) _) ?_;refine Z0 ?_;refine A2 [1,2,4,69] ?_
 refine A3 (fun ht69=>?_) (fun ht69=>?_)
 ·have hm:Aj e.op e.text [a,b]=C3 10:=by unfold Aj;rw [if_neg (by rw [ht6];simp),if_neg (by rw [ht16];simp),if_neg (by rw [ht35];simp),if_neg (by rw [ht50];simp),if_neg (by rw [ht57];simp),if_pos ht69]
  refine Xs ?_;exact Z86
 have hm:Aj e.op e.text [a,b]=(Hj e.text a.s b.n,0):=by unfold Aj;rw [if_neg (by rw [ht6];simp),if_neg (by rw [ht16];simp),if_neg (by rw [ht35];simp),if_neg (by rw [ht50];simp),if_neg (by rw [ht57];simp),if_neg (by rw [ht69];simp)];rfl
 refine Z20 ?_;refine Ed [0,1,0,4,12,28,0,64,192,448,1023,2047,4095] 10 Ar (by kernel_rfl) ?_;refine Z35 ?_
 refine B1 (h:=Ap (0) (Bp a) (fun _=>show ([Bp a,Bp b]:List AV)[0]? = some (Bp a) from rfl)) (hr:=?_)
 refine Z35 ?_
 refine B1 (h:=Ap (1) (Bp b) (fun _=>show ([Bp a,Bp b]:List AV)[1]? = some (Bp b) from rfl)) (hr:=?_)
 refine Z91 ?_
 refine A8 Tryz.call178 (ALj e.text a.s b.n (by have:=(h.fine a (by simp)).len;omega) _) ?_
 exact Z48

theorem On (a b:Val):((a.kind==b.kind&&a.n==b.n)&&a.s==b.s)=(a==b):=by
 obtain ⟨k,n,s⟩:=a
 obtain ⟨k',n',s'⟩:=b
 by_cases h:(⟨k,n,s⟩:Val)=⟨k',n',s'⟩
 ·injection h with h1 h2 h3
  subst h1;subst h2;subst h3
  simp
 have:((⟨k,n,s⟩:Val)==⟨k',n',s'⟩)=false:=by simpa using h
 rw [this]
 simp only [uc,beq_eq_false_iff_ne]
 by_cases h1:k=k'
 ·by_cases h2:n=n'
  ·right
   rintro rfl
   exact h (by rw [h1,h2])
  exact .inl (.inr h2)
 exact .inl (.inl h1)
/-- What eval answers for a tree, over any heap. -/
abbrev Jx (c:List Col) (l:List Val) (e:Expr) (r:Rs):Prop:=∀Hp,AFun Tryz.prog 44 [Ww c l,Aa e] Hp (R1 r)
theorem AJ4 (c:List Col) (l:List Val) (x:Expr) (r:Rs) (h:Jx c l x r) (Hp:List AObj):AFun Tryz.prog 136 [Ww c l,Aa x] Hp (R1 (B7 r)):=by
 refine Ak [.cell 4 23,.tmp 5] [0,1] Tryz.func136 Tryz.ntmps136 (fun d=>?_)
 refine Z1 ?_;refine vp ?_;refine Z1 ?_;refine A8 Tryz.call44 (h _) ?_;refine No ?_;refine A2 [4,6,7] ?_;refine Z34 ?_;refine Z73 ?_;refine Z9 ?_;refine Z64 ?_;refine A2 [4,6,7,25] ?_
 refine A3 (fun ht25=>?_) (fun ht25=>?_)
 ·have hm:B7 r=C3 10:=if_pos ht25
  refine Xs ?_;exact pl
 have hm:B7 r=r:=if_neg (by rw [ht25];simp)
 refine U5 ?_;exact Z48

theorem c87 (c:List Col) (l:List Val) (x k0 k1:Expr) (s:Val) (ra rb:Rs) (h0:(x.kids.map Aa)[0]? = some (Aa k0)) (h1:(x.kids.map Aa)[1]? = some (Aa k1)) (ha:Jx c l k0 ra) (hb:Jx c l k1 rb) (Hp:List AObj):AFun Tryz.prog 87 [Ww c l,Aa x,Bp s] Hp (R1 (H5 s ra rb)):=by
 refine Ak [.cell 6 23,.tmp 7] [0,1,2] Tryz.func87 Tryz.ntmps87 (fun d=>?_)
 refine Z13 ?_;refine Z37 ?_;refine A2 [3,4,5,6] ?_;refine Hd [0,0,2,6,14,31,63,127,127,0,767,2047] [9,10] [.q 9 [] [],.s [8] (some 0) [] [1],.s [] (some 1) [0] []] (fun _=>Hp) (fun B=>if B 0=true then [.cells 23 [A4 0,A4 0,Ah []],(if B 1=true then .cells 23 [A4 (B7 ra).1.kind,A4 (B7 ra).1.n,Ah (B7 ra).1.s] else .cells 23 [A4 0,A4 0,Ah []]:AObj)] else [.cells 23 [A4 0,A4 0,Ah []]]) Ar (by kernel_rfl) rfl rfl (fun _=>rfl) ?_
 apply Y.q
 ·intro B hT hF
  refine Z35 ?_
  refine B1 (h:=Ap (0) (Aa k0) (fun _=>h0)) (hr:=?_)
  refine B1 ?_;exact AHm
 case hTF=>decide
 refine Z52 ?_;refine AGw ?_;refine A2 [3,4,5,6,8,9] ?_;refine Z34 ?_;refine Z9 ?_
 refine Ca (h:=Ni Xw (fun w=>Iy (B7 ra).1.kind (B7 ra).1.n s.kind s.n (B7 ra).1.s s.s w)) (hr:=?_)
 refine A5 ?_;refine A2 [3,4,5,6,8,9,26] ?_
 refine A3 (fun ht26=>?_) (fun ht26=>?_)
 ·rw [On] at ht26
  have hm:H5 s ra rb=B7 ra:=if_pos ht26
  refine Z1 ?_;refine Z78 ?_;exact Z26
 rw [On] at ht26
 refine Z6 ?_;refine Hd [0,0,2,6,14,31,63,127,127,0,767,2047] [9,10] [.q 9 [] [],.s [10] (some 0) [] [1],.s [] (some 1) [0] []] (fun _=>Hp) (fun B=>if B 0=true then [.cells 23 [A4 0,A4 0,Ah []],.cells 23 [A4 (B7 ra).1.kind,A4 (B7 ra).1.n,Ah (B7 ra).1.s],(if B 1=true then .cells 23 [A4 (B7 rb).1.kind,A4 (B7 rb).1.n,Ah (B7 rb).1.s] else .cells 23 [A4 0,A4 0,Ah []]:AObj)] else [.cells 23 [A4 0,A4 0,Ah []],.cells 23 [A4 (B7 ra).1.kind,A4 (B7 ra).1.n,Ah (B7 ra).1.s]]) Ar (by kernel_rfl) rfl rfl (fun _=>rfl) ?_
 apply Y.q
 ·intro B hT hF
  refine Z35 ?_
  refine B1 (h:=Ap (1) (Aa k1) (fun _=>h1)) (hr:=?_)
  refine B1 ?_;refine D0 Tryz.call136 (AJ4 c l k1 rb hb _) ?_;exact AAw
 case hTF=>decide
 refine Y.alloc (zs:=[A4 0,A4 0,Ah []]) (n:=2) (u:=Hp.length) Tryz.zeroValue23 (fun B hT hF hB=>⟨rfl,by simp [hB],by simp [upd,hB,hF 1 (by simp)],rfl⟩) ?_;refine b6 (u:=Hp.length) (n:=2) (t':=23) (cs:=[A4 0,A4 0,Ah []]) (cs':=[A4 (B7 rb).1.kind,A4 (B7 rb).1.n,Ah (B7 rb).1.s]) Tryz.sizeOf23 (fun B hT hF hB=>⟨rfl,by simp [hT 0 (by simp),hB],by simp [upd,hT 0 (by simp),hB],rfl⟩) ?_;refine He (tn:=[9,10]) (O:=[.cells 23 [A4 0,A4 0,Ah []],.cells 23 [A4 (B7 ra).1.kind,A4 (B7 ra).1.n,Ah (B7 ra).1.s],.cells 23 [A4 (B7 rb).1.kind,A4 (B7 rb).1.n,Ah (B7 rb).1.s]]) ?_;refine A5 ?_;refine A2 [5,6,8,9,10] ?_;refine Z34 ?_;refine Z9 ?_
 refine Ca (h:=Ni Xw (fun w=>Iy (B7 rb).1.kind (B7 rb).1.n s.kind s.n (B7 rb).1.s s.s w)) (hr:=?_)
 refine S3 ?_;refine Z64 ?_;refine A2 [6,8,9,10,49] ?_
 refine A3 (fun ht49=>?_) (fun ht49=>?_)
 ·rw [On] at ht49
  have hm:H5 s ra rb=B7 rb:=by unfold H5;rw [if_neg (by rw [ht26];simp),if_pos ht49]
  refine Z1 ?_;refine Z78 ?_;exact Z26
 rw [On] at ht49
 have hm:H5 s ra rb=((B7 ra).1,0):=by unfold H5;rw [if_neg (by rw [ht26];simp),if_neg (by rw [ht49];simp)]
 refine Z74 ?_;exact AH5

theorem c89 (c:List Col) (l:List Val) (x k0 k1 k2:Expr) (ra rb d2:Rs) (h0:(x.kids.map Aa)[0]? = some (Aa k0)) (h1:(x.text==C0)=false→(x.kids.map Aa)[1]? = some (Aa k1)) (h2:(x.text==ifW)=true→(x.kids.map Aa)[2]? = some (Aa k2)) (ha:Jx c l k0 ra) (hb:(x.text==C0)=false→Jx c l k1 rb) (hd:(x.text==ifW)=true→Jx c l k2 d2) (Hp:List AObj):AFun Tryz.prog 89 [Ww c l,Aa x] Hp (R1 (Ea x.text ra rb d2)):=by
 refine Ak [.cell 4 23,.tmp 5] [0,1] Tryz.func89 Tryz.ntmps89 (fun d=>?_)
 refine Z1 ?_;refine vp ?_;refine Z34 ?_;refine A2 [2,3,4,12] ?_
 refine A3 (fun ht12=>?_) (fun ht12=>?_)
 ·have hni:(x.text==C0)=false:=by
   have e:x.text=ifW:=by simpa [ifW] using ht12
   rw [e];rfl
  have hc:Ea x.text ra rb d2=(if (B7 ra).2 != 0 then C3 (B7 ra).2 else if (B7 ra).1==Cp true then rb else d2):=if_pos ht12
  refine Hd [0,0,2,6,14,31,63,127,127,0,767,2047] [9,10] [.q 9 [] [],.s [6] (some 0) [] [1],.s [] (some 1) [0] []] (fun _=>Hp) (fun B=>if B 0=true then [.cells 23 [A4 0,A4 0,Ah []],(if B 1=true then .cells 23 [A4 (B7 ra).1.kind,A4 (B7 ra).1.n,Ah (B7 ra).1.s] else .cells 23 [A4 0,A4 0,Ah []]:AObj)] else [.cells 23 [A4 0,A4 0,Ah []]]) Ar (by kernel_rfl) rfl rfl (fun _=>rfl) ?_
  apply Y.q
  ·intro B hT hF
   refine Z35 ?_
   refine B1 (h:=Ap (0) (Aa k0) (fun _=>h0)) (hr:=?_)
   refine B1 ?_;exact AHm
  case hTF=>decide
  refine Z52 ?_;refine AGw ?_;refine A2 [2,3,4,6,7] ?_;refine Xt ?_;refine A2 [2,3,4,6,7,22] ?_
  refine A3 (fun ht22=>?_) (fun ht22=>?_)
  ·have hm:Ea x.text ra rb d2=C3 (B7 ra).2:=by rw [hc,if_pos ht22]
   refine Z2 ?_;refine Z46 ?_;refine Z40 ?_;refine Z5 ?_;exact Z26
  refine Ed [0,0,3,7] 2 Ar (by kernel_rfl) ?_;refine B1 ?_;refine D0 Tryz.call88 (c88 true _) ?_;refine Er ?_
  refine A5 (h:=Ni Xw (fun w=>Iy (B7 ra).1.kind (B7 ra).1.n 3 1 (B7 ra).1.s [] w)) (hr:=?_)
  refine A5 ?_;refine A2 [2,3,4,29] ?_
  refine A3 (fun ht29=>?_) (fun ht29=>?_)
  ·rw [On (B7 ra).1 ⟨3,1,[]⟩] at ht29
   have ht29b:((B7 ra).1==Cp true)=true:=ht29
   have hm:Ea x.text ra rb d2=rb:=by rw [hc,if_neg (by rw [ht22];simp),if_pos ht29b]
   refine AEj ?_
   refine B1 (h:=Ap (1) (Aa k1) (fun _=>h1 hni)) (hr:=?_)
   refine B1 ?_;refine D0 Tryz.call44 (hb hni _) ?_;refine Z91 ?_;refine Z40 ?_;refine Z5 ?_;exact Z26
  rw [On (B7 ra).1 ⟨3,1,[]⟩] at ht29
  have hm:Ea x.text ra rb d2=d2:=by rw [hc,if_neg (by rw [ht22];simp),if_neg (by show ¬((B7 ra).1==⟨3,1,[]⟩)=true;rw [ht29];simp)]
  refine Z20 ?_;refine AEj ?_
  refine B1 (h:=Ap (2) (Aa k2) (fun _=>h2 ht12)) (hr:=?_)
  refine B1 ?_;refine D0 Tryz.call44 (hd ht12 _) ?_;refine Z91 ?_;exact pl
 have hc:Ea x.text ra rb d2=(if ra.2 != 0 then C3 ra.2 else if x.text==C0 then (Cp (ra.1.kind==0),0) else if ra.1.kind != 0 then (ra.1,0) else rb):=if_neg (by show ¬(x.text==ifW)=true;rw [show (x.text==ifW)=false from ht12];simp)
 refine Z6 ?_;refine Hd [0,0,2,6,14,31,63,127,127,0,767,2047] [9,10] [.q 9 [] [],.s [8] (some 0) [] [1],.s [] (some 1) [0] []] (fun _=>Hp) (fun B=>if B 0=true then [.cells 23 [A4 0,A4 0,Ah []],(if B 1=true then .cells 23 [A4 ra.1.kind,A4 ra.1.n,Ah ra.1.s] else .cells 23 [A4 0,A4 0,Ah []]:AObj)] else [.cells 23 [A4 0,A4 0,Ah []]]) Ar (by kernel_rfl) rfl rfl (fun _=>rfl) ?_
 apply Y.q
 ·intro B hT hF
  refine Z35 ?_
  refine B1 (h:=Ap (0) (Aa k0) (fun _=>h0)) (hr:=?_)
  refine B1 ?_;refine D0 Tryz.call44 (ha _) ?_;exact AAw
 case hTF=>decide
 refine AI6 ?_;refine b6 (u:=Hp.length) (n:=1) (t':=23) (cs:=[A4 0,A4 0,Ah []]) (cs':=[A4 ra.1.kind,A4 ra.1.n,Ah ra.1.s]) Tryz.sizeOf23 (fun B hT hF hB=>⟨rfl,by simp [hT 0 (by simp),hB],by simp [upd,hT 0 (by simp),hB],rfl⟩) ?_;refine He (tn:=[9,10]) (O:=[.cells 23 [A4 0,A4 0,Ah []],.cells 23 [A4 ra.1.kind,A4 ra.1.n,Ah ra.1.s]]) ?_;refine A5 ?_;refine A2 [2,3,4,8,9] ?_;refine Xt ?_;refine A2 [2,3,4,8,9,58] ?_
 refine A3 (fun ht58=>?_) (fun ht58=>?_)
 ·have hm:Ea x.text ra rb d2=C3 ra.2:=by rw [hc,if_pos ht58]
  refine Z2 ?_;refine Z46 ?_;exact Z86
 refine Z18 ?_;refine A2 [2,3,4,8,65] ?_
 refine A3 (fun ht65=>?_) (fun ht65=>?_)
 ·have hm:Ea x.text ra rb d2=(Cp (ra.1.kind==0),0):=by rw [hc,if_neg (by rw [ht58];simp),if_pos (show (x.text==C0)=true from ht65)]
  refine Z13 ?_;refine A8 Tryz.call88 (c88 _ _) ?_;exact Z86
 refine Z18 ?_;refine A2 [2,3,4,8,73] ?_
 refine A3 (fun ht73=>?_) (fun ht73=>?_)
 ·have hm:Ea x.text ra rb d2=(ra.1,0):=by rw [hc,if_neg (by rw [ht58];simp),if_neg (by show ¬(x.text==C0)=true;rw [show (x.text==C0)=false from ht65];simp),if_pos ht73]
  refine Z2 ?_;exact Z86
 have hm:Ea x.text ra rb d2=rb:=by rw [hc,if_neg (by rw [ht58];simp),if_neg (by show ¬(x.text==C0)=true;rw [show (x.text==C0)=false from ht65];simp),if_neg (by rw [ht73];simp)]
 refine Z20 ?_;refine AEj ?_
 refine B1 (h:=Ap (1) (Aa k1) (fun _=>h1 ht65)) (hr:=?_)
 refine B1 ?_;refine D0 Tryz.call44 (hb ht65 _) ?_;refine Z91 ?_;exact Z48

abbrev Tq (s:Sign):AV:=.agg [.slice false 1 (s.kids.map A4),A4 s.own]
theorem AJ5 {n:Nat} (s:Sign):Low n (Tq s):=by simp [or_imp,forall_and]
theorem AFn {m:Sign} {a o:Int} (h:m=⟨[a],o⟩):AV.agg [.slice false 1 [A4 a],A4 o]=Tq m:=by rw [h];rfl
theorem yl {m:Sign} {a b o:Int} (h:m=⟨[a,b],o⟩):AV.agg [.slice false 1 [A4 a,A4 b],A4 o]=Tq m:=by rw [h];rfl
theorem AFo {m:Sign} {a b c o:Int} (h:m=⟨[a,b,c],o⟩):AV.agg [.slice false 1 [A4 a,A4 b,A4 c],A4 o]=Tq m:=by rw [h];rfl
theorem c127 (s:Str) (Hp:List AObj):AFun Tryz.prog 127 [Ah s] Hp (Tq (E8 s)):=by
 refine Ak [.cell 2 130] [0] Tryz.func127 Tryz.ntmps127 (fun d=>?_)
 refine Z61 ?_;refine Z36 ?_;refine A2 [2,3] ?_;refine wc ?_;refine A2 [2,3,4] ?_
 refine A3 (fun ht4=>?_) (fun ht4=>?_)
 ·refine Z6 ?_
  refine A3 (fun ht4=>?_) (fun ht4=>?_)
  ·exact Z51
  refine Z31 ?_;refine A2 [2,3,9] ?_
  refine A3 (fun ht9=>?_) (fun ht9=>?_)
  ·refine Z6 ?_
   refine A3 (fun ht9=>?_) (fun ht9=>?_)
   ·exact Z51
   refine Z88 ?_
   refine A3 (fun ht18=>?_) (fun ht18=>?_)
   ·exact Z51
   exact U3
  refine Z99 ?_
  refine A3 (fun ht9=>?_) (fun ht9=>?_)
  ·refine Z6 ?_
   refine A3 (fun ht9=>?_) (fun ht9=>?_)
   ·exact Z51
   refine Z88 ?_
   refine A3 (fun ht18=>?_) (fun ht18=>?_)
   ·exact Z51
   exact U3
  refine Z99 ?_
  refine A3 (fun ht9=>?_) (fun ht9=>?_)
  ·refine Z6 ?_
   refine A3 (fun ht9=>?_) (fun ht9=>?_)
   ·exact Z51
   refine Z88 ?_
   refine A3 (fun ht18=>?_) (fun ht18=>?_)
   ·exact Z51
   exact U3
  refine Z99 ?_
  refine A3 (fun ht9=>?_) (fun ht9=>?_)
  ·refine Z6 ?_
   refine A3 (fun ht9=>?_) (fun ht9=>?_)
   ·exact Z51
   refine Z88 ?_
   refine A3 (fun ht18=>?_) (fun ht18=>?_)
   ·exact Z51
   exact U3
  refine Z99 ?_
  refine A3 (fun ht9=>?_) (fun ht9=>?_)
  ·refine Z6 ?_
   refine A3 (fun ht9=>?_) (fun ht9=>?_)
   ·exact Z51
   refine Z88 ?_
   refine A3 (fun ht18=>?_) (fun ht18=>?_)
   ·exact Z51
   exact U3
  refine Z19 ?_;refine A2 [2,3,9] ?_;refine Ft ?_
  refine A3 (fun ht9=>?_) (fun ht9=>?_)
  ·exact Z51
  refine Z88 ?_
  refine A3 (fun ht18=>?_) (fun ht18=>?_)
  ·exact Z51
  exact U3
 refine Z19 ?_;refine A2 [2,3,4] ?_;refine Ft ?_
 refine A3 (fun ht4=>?_) (fun ht4=>?_)
 ·exact Z51
 refine Z31 ?_;refine A2 [2,3,9] ?_
 refine A3 (fun ht9=>?_) (fun ht9=>?_)
 ·refine Z6 ?_
  refine A3 (fun ht9=>?_) (fun ht9=>?_)
  ·exact Z51
  refine Z88 ?_
  refine A3 (fun ht18=>?_) (fun ht18=>?_)
  ·exact Z51
  exact U3
 refine Z99 ?_
 refine A3 (fun ht9=>?_) (fun ht9=>?_)
 ·refine Z6 ?_
  refine A3 (fun ht9=>?_) (fun ht9=>?_)
  ·exact Z51
  refine Z88 ?_
  refine A3 (fun ht18=>?_) (fun ht18=>?_)
  ·exact Z51
  exact U3
 refine Z99 ?_
 refine A3 (fun ht9=>?_) (fun ht9=>?_)
 ·refine Z6 ?_
  refine A3 (fun ht9=>?_) (fun ht9=>?_)
  ·exact Z51
  refine Z88 ?_
  refine A3 (fun ht18=>?_) (fun ht18=>?_)
  ·exact Z51
  exact U3
 refine Z99 ?_
 refine A3 (fun ht9=>?_) (fun ht9=>?_)
 ·refine Z6 ?_
  refine A3 (fun ht9=>?_) (fun ht9=>?_)
  ·exact Z51
  refine Z88 ?_
  refine A3 (fun ht18=>?_) (fun ht18=>?_)
  ·exact Z51
  exact U3
 refine Z99 ?_
 refine A3 (fun ht9=>?_) (fun ht9=>?_)
 ·refine Z6 ?_
  refine A3 (fun ht9=>?_) (fun ht9=>?_)
  ·exact Z51
  refine Z88 ?_
  refine A3 (fun ht18=>?_) (fun ht18=>?_)
  ·exact Z51
  exact U3
 refine Z19 ?_;refine A2 [2,3,9] ?_;refine Ft ?_
 refine A3 (fun ht9=>?_) (fun ht9=>?_)
 ·exact Z51
 refine Z88 ?_
 refine A3 (fun ht18=>?_) (fun ht18=>?_)
 ·exact Z51
 exact U3

theorem ALm (s:Str) (Hp:List AObj):AFun Tryz.prog 128 [Ah s] Hp (Tq (Fb s)):=by
 refine Ak [.cell 2 130] [0] Tryz.func128 Tryz.ntmps128 (fun d=>?_)
 refine Z61 ?_;refine Z36 ?_;refine A2 [2,3] ?_;refine wc ?_;refine A2 [2,3,4] ?_
 refine A3 (fun ht4=>?_) (fun ht4=>?_)
 ·refine Z6 ?_
  refine A3 (fun ht4=>?_) (fun ht4=>?_)
  ·exact Z89
  refine Z99 ?_
  refine A3 (fun ht9=>?_) (fun ht9=>?_)
  ·exact Z89
  refine Z31 ?_;refine A2 [2,3,13] ?_
  refine A3 (fun ht13=>?_) (fun ht13=>?_)
  ·refine Z6 ?_
   refine A3 (fun ht13=>?_) (fun ht13=>?_)
   ·exact Z89
   refine AB5 ?_
   refine A3 (fun ht18=>?_) (fun ht18=>?_)
   ·exact Z89
   refine Z1 ?_;refine A2 [2,22] ?_
   refine A3 (fun ht22=>?_) (fun ht22=>?_)
   ·exact Z89
   exact AB7
  refine Z19 ?_;refine A2 [2,3,13] ?_;refine Ft ?_
  refine A3 (fun ht13=>?_) (fun ht13=>?_)
  ·exact Z89
  refine AB5 ?_
  refine A3 (fun ht18=>?_) (fun ht18=>?_)
  ·exact Z89
  refine Z1 ?_;refine A2 [2,22] ?_
  refine A3 (fun ht22=>?_) (fun ht22=>?_)
  ·exact Z89
  exact AB7
 refine Z19 ?_;refine A2 [2,3,4] ?_;refine Ft ?_
 refine A3 (fun ht4=>?_) (fun ht4=>?_)
 ·exact Z89
 refine Z99 ?_
 refine A3 (fun ht9=>?_) (fun ht9=>?_)
 ·exact Z89
 refine Z31 ?_;refine A2 [2,3,13] ?_
 refine A3 (fun ht13=>?_) (fun ht13=>?_)
 ·refine Z6 ?_
  refine A3 (fun ht13=>?_) (fun ht13=>?_)
  ·exact Z89
  refine AB5 ?_
  refine A3 (fun ht18=>?_) (fun ht18=>?_)
  ·exact Z89
  refine Z1 ?_;refine A2 [2,22] ?_
  refine A3 (fun ht22=>?_) (fun ht22=>?_)
  ·exact Z89
  exact AB7
 refine Z19 ?_;refine A2 [2,3,13] ?_;refine Ft ?_
 refine A3 (fun ht13=>?_) (fun ht13=>?_)
 ·exact Z89
 refine AB5 ?_
 refine A3 (fun ht18=>?_) (fun ht18=>?_)
 ·exact Z89
 refine Z1 ?_;refine A2 [2,22] ?_
 refine A3 (fun ht22=>?_) (fun ht22=>?_)
 ·exact Z89
 exact AB7

theorem c79 (e:Expr) (Hp:List AObj):AFun Tryz.prog 79 [Aa e] Hp (Tq (J9 e.op e.text)):=by
 refine Ak [.cell 2 130] [0] Tryz.func79 Tryz.ntmps79 (fun d=>?_)
 refine w9 ?_;refine A2 [1,2] ?_;refine Z31 ?_;refine A2 [1,2,4] ?_;refine Z94 ?_;refine A2 [1,2,4,5] ?_
 refine A3 (fun ht5=>?_) (fun ht5=>?_)
 ·refine Z33 ?_;exact AEa
 refine Z1 ?_;refine A2 [1,2,4,9] ?_
 refine A3 (fun ht9=>?_) (fun ht9=>?_)
 ·refine Z33 ?_;exact AEa
 refine Z1 ?_;refine A2 [1,2,13] ?_
 refine A3 (fun ht13=>?_) (fun ht13=>?_)
 ·refine Z1 ?_;refine A8 Tryz.call127 (c127 e.text _) ?_;refine Z11 ?_;exact AEa
 refine Z20 ?_;refine Z1 ?_;refine A8 Tryz.call128 (ALm e.text _) ?_;refine Z11 ?_;exact AI7

theorem AJ6 (a b:Int) (Hp:List AObj):AFun Tryz.prog 129 [A4 a,A4 b] Hp (.tup [A4 (Gg a b).1,B6 (Gg a b).2]):=by
 refine Ak [.tmp 4,.tmp 5] [0,1] Tryz.func129 Tryz.ntmps129 (fun d=>?_)
 refine jd ?_;refine Xt ?_;refine A2 [0,1,6] ?_
 refine A3 (fun ht6=>?_) (fun ht6=>?_)
 ·refine Z13 ?_;refine Z12 ?_;exact AH9
 refine Z13 ?_;refine Z73 ?_;refine A2 [0,10] ?_
 refine A3 (fun ht10=>?_) (fun ht10=>?_)
 ·refine Z13 ?_;refine Z12 ?_;exact AH9
 refine Z20 ?_;refine b9 ?_;exact AI8

structure FitAt (s:Sign) (ks:List Int) (x:Nat×Int):Prop where
 le:x.1≤ks.length
 eq:H8 s.kids ks 0=H8 (s.kids.drop x.1) (ks.drop x.1) x.2
theorem FitAt.step {s:Sign} {ks:List Int} {x:Nat×Int} (h:FitAt s ks x) (hk:x.1<ks.length) (hs:x.1<s.kids.length):H8 s.kids ks 0=(if s.kids[x.1] == -2 then H8 (s.kids.drop (x.1+1)) (ks.drop (x.1+1)) x.2 else if s.kids[x.1] == -1 then (if (Gg x.2 ks[x.1]).2 then H8 (s.kids.drop (x.1+1)) (ks.drop (x.1+1)) (Gg x.2 ks[x.1]).1 else none) else if (Gg s.kids[x.1] ks[x.1]).2 then H8 (s.kids.drop (x.1+1)) (ks.drop (x.1+1)) x.2 else none):=by
 rw [h.eq,K5 hk,K5 hs,H8]
theorem FitAt.skip {s:Sign} {ks:List Int} {x:Nat×Int} (h:FitAt s ks x) (hk:x.1<ks.length) (hs:x.1<s.kids.length) (h2:(s.kids[x.1] == -2)=true):FitAt s ks (x.1+1,x.2):=⟨hk,by rw [h.step hk hs,if_pos h2]⟩
theorem FitAt.same {s:Sign} {ks:List Int} {x:Nat×Int} (h:FitAt s ks x) (hk:x.1<ks.length) (hs:x.1<s.kids.length) (h2:(s.kids[x.1] == -2)=false) (h1:(s.kids[x.1] == -1)=true) (hm:(Gg x.2 ks[x.1]).2=true):FitAt s ks (x.1+1,(Gg x.2 ks[x.1]).1):=⟨hk,by rw [h.step hk hs,if_neg (by rw [h2];simp),if_pos h1,if_pos hm]⟩
theorem FitAt.want {s:Sign} {ks:List Int} {x:Nat×Int} (h:FitAt s ks x) (hk:x.1<ks.length) (hs:x.1<s.kids.length) (h2:(s.kids[x.1] == -2)=false) (h1:(s.kids[x.1] == -1)=false) (hm:(Gg s.kids[x.1] ks[x.1]).2=true):FitAt s ks (x.1+1,x.2):=⟨hk,by rw [h.step hk hs,if_neg (by rw [h2];simp),if_neg (by rw [h1];simp),if_pos hm]⟩
theorem FitAt.bad {s:Sign} {ks:List Int} {x:Nat×Int} (h:FitAt s ks x) (hk:x.1<ks.length) (hs:x.1<s.kids.length) (h2:(s.kids[x.1] == -2)=false) (hm:(if s.kids[x.1] == -1 then (Gg x.2 ks[x.1]).2 else (Gg s.kids[x.1] ks[x.1]).2)=false):Pu s ks=(0,10):=by
 unfold Pu
 rw [h.step hk hs,if_neg (by rw [h2];simp)]
 split at hm
 ·rename_i h1
  rw [if_pos h1,if_neg (by rw [hm];simp)]
 rename_i h1
 rw [if_neg h1,if_neg (by rw [hm];simp)]
theorem FitAt.out {s:Sign} {ks:List Int} {x:Nat×Int} (h:FitAt s ks x) (hk:ks.length≤x.1):Pu s ks=if s.own == -1 then (x.2,0) else (s.own,0):=by
 unfold Pu
 rw [h.eq,im hk]
 cases s.kids.drop x.1<;>rfl
theorem c80 (s:Sign) (ks:List Int) (hks:ks.length≤s.kids.length) (hk2:ks.length≤1048576) (Hp:List AObj):AFun Tryz.prog 80 [Tq s,.slice false 1 (ks.map A4)] Hp (.tup [A4 (Pu s ks).1,A4 (Pu s ks).2]):=by
 refine Ak [.tmp 4,.tmp 5] [0,1] Tryz.func80 Tryz.ntmps80 (fun d=>?_)
 refine Z13 ?_;refine A2 [1,2] ?_;refine pt ?_;refine A2 [1,2,6] ?_;refine Z34 ?_;refine qg ?_
 refine Dp (α:=Nat×Int) (fun x=>⟨49,Af 2 (.ro [.slice false 1 (s.kids.map A4),A4 s.own]) (Af 6 (.ptr (oid Hp.length 0) 0) (Af 13 (.slice false 1 (ks.map A4)) (Af 14 (A4 (ks.length:Nat)) (Af 15 (A4 (x.1:Nat)) (fun _=>.any))))),Hp,[.cells 3 [A4 x.2]],[],none⟩) (fun x=>FitAt s ks x) (fun x=>ks.length-x.1) ((0,0)) ⟨Bc _,rfl⟩ (Co (by simp)) rfl (fun x hx=>?_)
 refine Z2 ?_;refine A2 [2,6,13,14,15,16] ?_
 refine Dn (fun ht16=>?_) (fun ht16=>?_)
 ·have hlt:x.1<ks.length:=by simpa using ht16
  have hls:x.1<s.kids.length:=by omega
  refine Pk ?_
  refine A5 (h:=Ap (x.1) (A4 ks[x.1]) (fun _=>Bv hlt)) (hr:=?_)
  refine Z29 ?_;refine A2 [2,6,7,8,13,14,15] ?_;refine Z13 ?_
  refine A5 (h:=Ap (x.1) (A4 s.kids[x.1]) (fun _=>Bv hls)) (hr:=?_)
  refine Vm ?_;refine A2 [2,6,8,9,13,14,15] ?_;refine Z31 ?_;refine A2 [2,6,8,9,13,14,15,26] ?_
  refine A3 (fun ht26=>?_) (fun ht26=>?_)
  ·refine Fu [2,6,13,14,15] ?_;refine jb ?_;refine K.blE ?_;refine Ft ?_;refine Z19 ?_;refine qg ?_
   first|(refine Cd (x.1+1,x.2) (hx.skip hlt hls ht26) (by show ks.length-(x.1+1)<ks.length-x.1;omega) ?_;exact Dk (own:=[.cells 3 [A4 x.2]]) (fun _=>.refl _) (by repeat (first|exact Bg|refine Bf (by first|(simp [or_imp,forall_and];done)|(simp [oid]<;>omega)) ?_)) (by intro y hy;rw [B2.1 hy];intro z hz;rw [B2.1 hz];simp) (by simp))|(refine Cd (x.1+1,(Gg x.2 ks[x.1]).1) (hx.same hlt hls ht26 ht28 (by simpa using ht38)) (by show ks.length-(x.1+1)<ks.length-x.1;omega) ?_;exact Dk (own:=[.cells 3 [A4 (Gg x.2 ks[x.1]).1]]) (fun _=>.refl _) (by repeat (first|exact Bg|refine Bf (by first|(simp [or_imp,forall_and];done)|(simp [oid]<;>omega)) ?_)) (by intro y hy;rw [B2.1 hy];intro z hz;rw [B2.1 hz];simp) (by simp))|(refine Cd (x.1+1,x.2) (hx.want hlt hls ht26 ht28 (by simpa using ht38)) (by show ks.length-(x.1+1)<ks.length-x.1;omega) ?_;exact Dk (own:=[.cells 3 [A4 x.2]]) (fun _=>.refl _) (by repeat (first|exact Bg|refine Bf (by first|(simp [or_imp,forall_and];done)|(simp [oid]<;>omega)) ?_)) (by intro y hy;rw [B2.1 hy];intro z hz;rw [B2.1 hz];simp) (by simp))
  refine Z74 ?_;refine A2 [2,6,8,9,10,13,14,15] ?_;refine Z31 ?_;refine A2 [2,6,8,10,13,14,15,28] ?_
  refine A3 (fun ht28=>?_) (fun ht28=>?_)
  ·refine Z93 ?_;refine A2 [2,6,8,10,13,14,15] ?_;refine Ft ?_;refine Z18 ?_;refine A8 Tryz.call129 (AJ6 _ _ _) ?_;refine Z82 ?_;refine A2 [2,6,10,11,12,13,14,15] ?_;refine Z31 ?_;refine A2 [2,6,10,11,13,14,15,38] ?_
   refine A3 (fun ht38=>?_) (fun ht38=>?_)
   ·have hbad:=hx.bad hlt hls ht26 (by first|(rw [if_pos ht28];simpa using ht38)|(rw [if_neg (by rw [ht28];simp)];simpa using ht38))
    refine vt ?_;exact AHd
   refine Z6 ?_;refine Z85 ?_;refine I2 ?_;refine qg ?_;refine Vn ?_;refine qg ?_
   first|(refine Cd (x.1+1,x.2) (hx.skip hlt hls ht26) (by show ks.length-(x.1+1)<ks.length-x.1;omega) ?_;exact Dk (own:=[.cells 3 [A4 x.2]]) (fun _=>.refl _) (by repeat (first|exact Bg|refine Bf (by first|(simp [or_imp,forall_and];done)|(simp [oid]<;>omega)) ?_)) (by intro y hy;rw [B2.1 hy];intro z hz;rw [B2.1 hz];simp) (by simp))|(refine Cd (x.1+1,(Gg x.2 ks[x.1]).1) (hx.same hlt hls ht26 ht28 (by simpa using ht38)) (by show ks.length-(x.1+1)<ks.length-x.1;omega) ?_;exact Dk (own:=[.cells 3 [A4 (Gg x.2 ks[x.1]).1]]) (fun _=>.refl _) (by repeat (first|exact Bg|refine Bf (by first|(simp [or_imp,forall_and];done)|(simp [oid]<;>omega)) ?_)) (by intro y hy;rw [B2.1 hy];intro z hz;rw [B2.1 hz];simp) (by simp))|(refine Cd (x.1+1,x.2) (hx.want hlt hls ht26 ht28 (by simpa using ht38)) (by show ks.length-(x.1+1)<ks.length-x.1;omega) ?_;exact Dk (own:=[.cells 3 [A4 x.2]]) (fun _=>.refl _) (by repeat (first|exact Bg|refine Bf (by first|(simp [or_imp,forall_and];done)|(simp [oid]<;>omega)) ?_)) (by intro y hy;rw [B2.1 hy];intro z hz;rw [B2.1 hz];simp) (by simp))
  refine Z6 ?_;refine Z18 ?_;refine A8 Tryz.call129 (AJ6 _ _ _) ?_;refine Z82 ?_;refine A2 [2,6,10,11,12,13,14,15] ?_;refine Z31 ?_;refine A2 [2,6,10,11,13,14,15,38] ?_
  refine A3 (fun ht38=>?_) (fun ht38=>?_)
  ·have hbad:=hx.bad hlt hls ht26 (by first|(rw [if_pos ht28];simpa using ht38)|(rw [if_neg (by rw [ht28];simp)];simpa using ht38))
   refine vt ?_;exact AHd
  refine Z6 ?_;refine Z85 ?_;refine I2 ?_;refine qg ?_;refine Vn ?_;refine qg ?_
  first|(refine Cd (x.1+1,x.2) (hx.skip hlt hls ht26) (by show ks.length-(x.1+1)<ks.length-x.1;omega) ?_;exact Dk (own:=[.cells 3 [A4 x.2]]) (fun _=>.refl _) (by repeat (first|exact Bg|refine Bf (by first|(simp [or_imp,forall_and];done)|(simp [oid]<;>omega)) ?_)) (by intro y hy;rw [B2.1 hy];intro z hz;rw [B2.1 hz];simp) (by simp))|(refine Cd (x.1+1,(Gg x.2 ks[x.1]).1) (hx.same hlt hls ht26 ht28 (by simpa using ht38)) (by show ks.length-(x.1+1)<ks.length-x.1;omega) ?_;exact Dk (own:=[.cells 3 [A4 (Gg x.2 ks[x.1]).1]]) (fun _=>.refl _) (by repeat (first|exact Bg|refine Bf (by first|(simp [or_imp,forall_and];done)|(simp [oid]<;>omega)) ?_)) (by intro y hy;rw [B2.1 hy];intro z hz;rw [B2.1 hz];simp) (by simp))|(refine Cd (x.1+1,x.2) (hx.want hlt hls ht26 ht28 (by simpa using ht38)) (by show ks.length-(x.1+1)<ks.length-x.1;omega) ?_;exact Dk (own:=[.cells 3 [A4 x.2]]) (fun _=>.refl _) (by repeat (first|exact Bg|refine Bf (by first|(simp [or_imp,forall_and];done)|(simp [oid]<;>omega)) ?_)) (by intro y hy;rw [B2.1 hy];intro z hz;rw [B2.1 hz];simp) (by simp))
 have hxe:ks.length≤x.1:=by simpa using ht16
 have hout:=hx.out hxe
 refine Z39 ?_;refine Z34 ?_;refine A2 [2,6,45] ?_
 refine A3 (fun ht45=>?_) (fun ht45=>?_)
 ·refine Z13 ?_;refine Z12 ?_;refine Cu ?_;exact A7 (Aw A6 A6) ⟨by rw [hout,if_pos ht45],rfl⟩
 refine Z6 ?_;refine AAx ?_;exact A7 (Aw A6 A6) ⟨by rw [hout,if_neg (by rw [ht45];simp)],rfl⟩

theorem ym {n k:Nat} {own:Bool} {l:List Int}:Low n (.slice own k (l.map A4)):=low_slice.2 fun y hy=>by
 obtain ⟨z,_,rfl⟩:=Cw.1 hy
 simp
theorem R2 {n:Nat} {e:Expr}:Low n (.ro (Bw e)):=by have:=Ab n e;rw [Ad] at this;simpa using this
theorem Ny {c:List Col} {t:Str} (h:¬(Br t c<0)):∃(j:Nat),Br t c=(j:Int)∧j<c.length:=by
 obtain ⟨j,y,h2,_,h3⟩:=find_mem.1 h
 exact ⟨j,h3,(Ac.1 h2).1⟩
theorem yn {c:List Col} {e:Expr} (h:(e.op==1)=true):Bi c e=(e.val.kind,0):=by rw [Lt];unfold Mv;rw [if_pos h]
theorem rt {c:List Col} {e:Expr} (h1:(e.op==1)=false) (h:(e.op==2)=true):Bi c e=Qx c e.text:=by rw [Lt];unfold Mv;rw [h1,if_pos h];rfl
theorem yp {c:List Col} {e:Expr} (h1:(e.op==1)=false) (h2:(e.op==2)=false) {x:Nat} (hx:x<e.kids.length) (h0:∀(j:Nat) (y:Expr),j<x→e.kids[j]? = some y→((Bi c y).2 != 0)=false) (hb:((Bi c e.kids[x]).2 != 0)=true):Bi c e=(0,(Bi c e.kids[x]).2):=by
 rw [Lt]
 unfold Mv
 rw [h1,h2]
 have:(e.kids.map (Bi c)).find? (fun q=>q.2 != 0)=some ((e.kids.map (Bi c))[x]'(by simpa using hx)):=bj (by simpa using hx) (by simpa using hb) (fun j y hj hy=>by
  rw [Cm,Ei] at hy
  obtain ⟨z,hz,rfl⟩:=hy
  exact h0 j z hj hz)
 rw [this]
 simp
theorem yq {c:List Col} {e:Expr} (h1:(e.op==1)=false) (h2:(e.op==2)=false) (h0:∀(j:Nat) (y:Expr),j<e.kids.length→e.kids[j]? = some y→((Bi c y).2 != 0)=false):Bi c e=Pu (J9 e.op e.text) (e.kids.map fun y=>(Bi c y).1):=by
 rw [Lt]
 unfold Mv
 rw [h1,h2]
 have:(e.kids.map (Bi c)).find? (fun q=>q.2 != 0)=none:=S7 (fun j y hy=>by
  rw [Cm,Ei] at hy
  obtain ⟨z,hz,rfl⟩:=hy
  exact h0 j z (Ac.1 hz).1 hz)
 rw [this]
 simp only [Hv]
 rfl
theorem ru (f:Expr→Int) (l:List Expr) {x:Nat} (h:x<l.length):((l.take x).map f).map A4++[A4 (f l[x])]=((l.take (x+1)).map f).map A4:=by rw [Iv h,Cr,Cr];rfl
theorem c39 (c:List Col) (hc:OkCols c):∀(n:Nat) (e:Expr),okE n e→Be Cb e=true→∀Hp:List AObj,AFun Tryz.prog 39 [Aa e,Ax c] Hp (.tup [A4 (Bi c e).1,A4 (Bi c e).2]):=by
 intro n
 induction n with
 | zero=>exact fun e h=>h.elim
 | succ n ih =>
 intro e hok hnd Hp
 have hnd0:=hnd
 rw [Db,Ai] at hnd0
 refine Ak [.tmp 4,.tmp 5] [0,1] Tryz.func39 Tryz.ntmps39 (fun d=>?_)
 refine Z13 ?_;refine A2 [1,2] ?_;refine Z31 ?_;refine A2 [1,2,13] ?_;refine Z94 ?_;refine A2 [1,2,13,14] ?_
 refine A3 (fun ht14=>?_) (fun ht14=>?_)
 ·have hk:=yn (c:=c) ht14
  refine Z18 ?_;refine jg ?_;refine Z5 ?_;exact AEw
 refine Z1 ?_;refine A2 [1,2,19] ?_
 refine A3 (fun ht19=>?_) (fun ht19=>?_)
 ·have hk:=rt (c:=c) ht14 ht19
  refine Z13 ?_;refine A8 Tryz.call58 (c58 c hc e.text _) ?_;refine A5 ?_;refine A2 [1,6] ?_;refine Z31 ?_;refine A2 [1,6,26] ?_
  refine A3 (fun ht26=>?_) (fun ht26=>?_)
  ·have hk2:Qx c e.text=(0,9):=if_pos (by simpa using ht26)
   refine vt ?_;exact AHe
  have hneg:¬(Br e.text c<0):=by simpa using ht26
  obtain ⟨j,hj,hjl⟩:=Ny hneg
  have hk2:Qx c e.text=(c[j].kind,0):=by
   unfold Qx
   rw [if_neg hneg,hj,Int.toNat_natCast,Ch,Ae hjl]
   rfl
  rw [hj]
  refine U5 ?_
  refine A5 (h:=Ap (j) (El c[j]) (fun _=>Bv hjl)) (hr:=?_)
  refine Z69 ?_;refine Z12 ?_;exact AHe
 refine Z20 ?_;refine Z2 ?_;refine A2 [1,2,7] ?_;refine Z56 ?_;refine Pj 7 1 ?_;refine Z69 ?_;refine A2 [1,2,7,33,34,35] ?_
 refine Dp (α:=Nat) (fun x=>⟨59,Af 1 (Ax c) (Af 2 (.ro (Bw e)) (Af 7 (.slice true 1 (((e.kids.take x).map fun y=>(Bi c y).1).map A4)) (Af 33 (.slice false 6 (e.kids.map Aa)) (Af 34 (A4 (e.kids.length:Nat)) (Af 35 (A4 (x:Nat)) (fun _=>.any)))))),Hp,[],[],none⟩) (fun x=>x≤e.kids.length∧∀(j:Nat) (y:Expr),j<x→e.kids[j]? = some y→((Bi c y).2 != 0)=false) (fun x=>e.kids.length-x) (0) ⟨Bc _,fun j y h=>by omega⟩ (Co (by simp)) rfl (fun x hx=>?_)
 refine Z2 ?_;refine A2 [1,2,7,33,34,35,36] ?_
 refine Dn (fun ht36=>?_) (fun ht36=>?_)
 ·have hlt:x<e.kids.length:=by simpa using ht36
  have hkl:=hok.2.1
  refine Z92 ?_
  refine A5 (h:=Ap (x) (Aa e.kids[x]) (fun _=>Bv hlt)) (hr:=?_)
  refine Vm ?_;refine A2 [1,2,7,9,33,34,35] ?_;refine Z1 ?_;refine A8 Tryz.call39 (ih e.kids[x] (hok.2.2 _ (C4 hlt)) ((Bk _ _).1 hnd0.2 _ (C4 hlt)) _) ?_;refine Z82 ?_;refine A2 [1,2,7,10,11,33,34,35] ?_;refine Z31 ?_;refine A2 [1,2,7,10,11,33,34,35,46] ?_
  refine A3 (fun ht46=>?_) (fun ht46=>?_)
  ·have hkb:=yp (c:=c) ht14 ht19 hlt hx.2 ht46
   refine Z13 ?_;refine Z12 ?_;refine Cu ?_;refine Z97 ?_;exact A7 (Aw A6 A6) ⟨by rw [hkb],rfl⟩
  refine Z6 ?_;refine jc ?_;refine Z76 ?_
  refine Gq jU Tryz.type3 ?_ ?_ ?_
  ·simp only [Au,Da,At,B3,Tryz.t3];omega
  ·simp only [Au,Da,At,B3,Tryz.t3];omega
  refine Ji ?_;refine A2 [1,2,7,33,34,35] ?_;refine Vn ?_;refine A2 [1,2,7,33,34,35] ?_;refine Cd (x+1) ⟨hlt,Fg hlt hx.2 ht46⟩ (by omega) ?_
  simp only [show Tryz.t3.size=1 from rfl,ru]
  exact Dk (own:=[]) (fun _=>.refl _) (by repeat (first|exact Bg|refine Bf (by first|exact ym|exact R2|exact E2|(simp [or_imp,forall_and];done)) ?_)) (by simp) (by simp)
 have hxe:e.kids.take x=e.kids:=Fa (by simp at ht36;omega)
 have hxl:e.kids.length≤x:=by simp at ht36;omega
 have hka:=yq (c:=c) ht14 ht19 (fun j y hj hy=>hx.2 j y (by omega) hy)
 rw [hxe]
 refine Z39 ?_;refine Z2 ?_;refine A8 Tryz.call79 (c79 e _) ?_;refine A5 ?_
 refine A8 Tryz.call80 (c80 (J9 e.op e.text) (e.kids.map fun y=>(Bi c y).1) (by rw [xu hnd0.1 ht14 ht19];simp) (by simpa using hok.2.1) _) ?_
 refine Z69 ?_;refine Z12 ?_;exact A7 (Aw A6 A6) ⟨by rw [hka],rfl⟩

theorem Jb {e:Expr} (h:Am e=true):Be Cb e=true:=by
 rw [Em] at h
 unfold Fh at h
 rw [Ai] at h
 exact h.2
theorem c13 (n:Nat) (e:Expr) (hok:okE n e) (hn:n≤1048576) (c:List Col) (hc:OkCols c) (Hp:List AObj):AFun Tryz.prog 13 [Aa e,Ax c] Hp (.tup [A4 (Hq e c).1,A4 (Hq e c).2]):=by
 refine Ak [.tmp 4,.tmp 5] [0,1] Tryz.func13 Tryz.ntmps13 (fun d=>?_)
 refine Z13 ?_;refine A2 [1,2] ?_;refine Z36 ?_;refine A8 Tryz.call38 (c38 n e hok hn _) ?_;refine dw ?_;refine C7 Tryz.call36 (fun hB=>c36 c hc _) ?_;refine Z64 ?_;refine A2 [1,2,13] ?_
 refine A3 (fun ht13=>?_) (fun ht13=>?_)
 ·have hk:Hq e c=(0,1):=if_pos ht13
  refine vt ?_;exact AEw
 have hk:Hq e c=Bi c e:=if_neg (by rw [ht13];simp)
 have hr:Am e=true:=by simp only [Fe,K1] at ht13;exact ht13.1
 refine U5 ?_;refine A8 Tryz.call39 (c39 c hc n e hok (Jb hr) _) ?_;refine Z69 ?_;refine Z12 ?_;exact AEw

/-- The first fault of those that were asked. -/
structure AllAt (f:Expr→Rs) (k:List Expr) (x:Nat):Prop where
 le:x≤k.length
 ok:∀(j:Nat) (y:Expr),j<x→k[j]? = some y→((f y).2 != 0)=false
theorem AllAt.bad {f:Expr→Rs} {k:List Expr} {x:Nat} (h:AllAt f k x) (hx:x<k.length) (hb:((f k[x]).2 != 0)=true) (g:List Val→Rs):E9 g (k.map f)=C3 (f k[x]).2:=by
 unfold E9
 have:(k.map f).find? (fun q=>q.2 != 0)=some ((k.map f)[x]'(by simpa using hx)):=bj (by simpa using hx) (by simpa using hb) (fun j y hj hy=>by
  rw [Cm,Ei] at hy
  obtain ⟨z,hz,rfl⟩:=hy
  exact h.ok j z hj hz)
 rw [this]
 simp
theorem AllAt.all {f:Expr→Rs} {k:List Expr} {x:Nat} (h:AllAt f k x) (hx:k.length≤x) (g:List Val→Rs):E9 g (k.map f)=if (k.take x).any (fun y=>(f y).1.kind==0) then (noV,0) else g ((k.take x).map fun y=>(f y).1):=by
 unfold E9
 have:(k.map f).find? (fun q=>q.2 != 0)=none:=S7 (fun j y hy=>by
  rw [Cm,Ei] at hy
  obtain ⟨z,hz,rfl⟩:=hy
  exact h.ok j z (by have:=(Ac.1 hz).1;omega) hz)
 rw [this,Fa hx]
 simp only [List.any_map,Hv]
 rfl
theorem AllAt.next {f:Expr→Rs} {k:List Expr} {x:Nat} (h:AllAt f k x) (hx:x<k.length) (hb:((f k[x]).2 != 0)=false):AllAt f k (x+1):=⟨hx,Fg hx h.ok hb⟩
theorem yr (f:Expr→Bool) (k:List Expr) {x:Nat} (h:x<k.length):(k.take (x+1)).any f=((k.take x).any f || f k[x]):=by rw [Iv h,List.any_append];simp
theorem rx (f:Expr→Val) (l:List Expr) {x:Nat} (h:x<l.length):((l.take x).map f).map Bp++[Bp (f l[x])]=((l.take (x+1)).map f).map Bp:=by rw [Iv h,Cr,Cr];rfl
theorem ga {n k:Nat} {own:Bool} {l:List Val}:Low n (.slice own k (l.map Bp)):=low_slice.2 fun y hy=>by
 obtain ⟨z,_,rfl⟩:=Cw.1 hy
 simp [or_imp,forall_and]
theorem c90 (c:List Col) (l:List Val) (e:Expr) (hk:e.kids.length≤1048576) (hev:∀y∈e.kids,Jx c l y (Ag c l y)) (hargs:((∀y∈e.kids,(Ag c l y).2=0)→ArgsOk e.op (e.kids.map fun y=>(Ag c l y).1))) (Hp:List AObj):AFun Tryz.prog 90 [Ww c l,Aa e] Hp (R1 (E9 (Aj e.op e.text) (e.kids.map (Ag c l)))):=by
 refine Ak [.cell 4 23,.tmp 5] [0,1] Tryz.func90 Tryz.ntmps90 (fun d=>?_)
 refine Z1 ?_;refine vp ?_;refine Z2 ?_;refine A2 [2,3,4,6] ?_;refine Es ?_;refine Pj 6 3 ?_;refine A5 ?_;refine A2 [2,3,4,6,7] ?_;refine Z59 ?_;refine A2 [2,3,4,6,7,13,14,15] ?_
 refine Dp (α:=Nat) (fun x=>⟨49,Af 2 (.ro [Ax c,Cf l]) (Af 3 (.ro (Bw e)) (Af 4 (.ptr (oid Hp.length 0) 0) (Af 6 (.slice true 3 (((e.kids.take x).map fun y=>(Ag c l y).1).map Bp)) (Af 7 (B6 ((e.kids.take x).any fun y=>(Ag c l y).1.kind==0)) (Af 13 (.slice false 6 (e.kids.map Aa)) (Af 14 (A4 (e.kids.length:Nat)) (Af 15 (A4 (x:Nat)) (fun _=>.any)))))))),Hp,[.cells 23 [A4 0,A4 0,Ah []]],[],none⟩) (fun x=>AllAt (Ag c l) e.kids x) (fun x=>e.kids.length-x) (0) ⟨Bc _,fun j y h=>by omega⟩ (Co (by simp)) rfl (fun x hx=>?_)
 refine Z2 ?_;refine A2 [2,3,4,6,7,13,14,15,16] ?_
 refine Dn (fun ht16=>?_) (fun ht16=>?_)
 ·have hlt:x<e.kids.length:=by simpa using ht16
  refine Z92 ?_
  refine A5 (h:=Ap (x) (Aa e.kids[x]) (fun _=>Bv hlt)) (hr:=?_)
  refine Vm ?_;refine A2 [2,3,4,6,7,9,13,14,15] ?_;refine Z1 ?_;refine A8 Tryz.call44 (hev _ (C4 hlt) _) ?_;refine No ?_;refine A2 [2,3,4,6,7,10,11,13,14,15] ?_;refine Z31 ?_;refine A2 [2,3,4,6,7,10,11,13,14,15,26] ?_
  refine A3 (fun ht26=>?_) (fun ht26=>?_)
  ·have hm:=hx.bad hlt ht26 (Aj e.op e.text)
   refine Z2 ?_;refine Z46 ?_;refine Z40 ?_;refine Cu ?_;refine Z5 ?_;refine Jj ?_;exact Z26
  refine U5 ?_;refine Z73 ?_;refine A2 [2,3,4,6,7,10,13,14,15] ?_;refine jc ?_;refine Z76 ?_
  refine Gq jU Tryz.type23 ?_ ?_ ?_
  ·simp only [Au,Da,At,B3,Tryz.t23];omega
  ·simp only [Au,Da,At,B3,Tryz.t23];omega
  refine Ji ?_;refine A2 [2,3,4,6,7,13,14,15] ?_;refine Vn ?_;refine A2 [2,3,4,6,7,13,14,15] ?_;refine Cd (x+1) (hx.next hlt ht26) (by omega) ?_
  simp only [show Tryz.t23.size=3 from rfl,yr _ _ hlt]
  have hvs:((e.kids.take x).map fun y=>(Ag c l y).1).map Bp++[.agg [.v (.int .i64 (Ag c l e.kids[x]).1.kind),.v (.int .i64 (Ag c l e.kids[x]).1.n),.v (sv (Ag c l e.kids[x]).1.s)]]=((e.kids.take (x+1)).map fun y=>(Ag c l y).1).map Bp:=rx _ _ hlt
  simp only [hvs]
  exact Dk (own:=[.cells 23 [A4 0,A4 0,Ah []]]) (fun _=>.refl _) (by repeat (first|exact Bg|refine Bf (by first|exact E2|exact ga|exact R2|(simp [or_imp,forall_and,oid]<;>omega)) ?_)) (by intro y hy;rw [B2.1 hy];intro z hz;simp only [Bj,Hy,or_false] at hz;rcases hz with rfl|rfl|rfl<;>simp) (by simp)
 have hxe:e.kids.length≤x:=by simpa using ht16
 have ha:=hx.all hxe (Aj e.op e.text)
 have htk:e.kids.take x=e.kids:=Fa hxe
 have h00:∀y∈e.kids,(Ag c l y).2=0:=fun y hy=>by
  obtain ⟨j,hj⟩:=Ct hy
  have:=hx.ok j y (by have:=(Ac.1 hj).1;omega) hj
  simpa using this
 have hao:=hargs h00
 rw [←htk] at hao
 refine Z39 ?_;refine Z36 ?_;refine A2 [3,4,6,42] ?_
 refine A3 (fun ht42=>?_) (fun ht42=>?_)
 ·have hm:E9 (Aj e.op e.text) (e.kids.map (Ag c l))=(noV,0):=by rw [ha,if_pos ht42]
  refine AEt ?_;exact pl
 have hm:E9 (Aj e.op e.text) (e.kids.map (Ag c l))=Aj e.op e.text ((e.kids.take x).map fun y=>(Ag c l y).1):=by rw [ha,if_neg (by rw [ht42];simp)]
 refine U5 ?_;refine A8 Tryz.call137 (ALl e _ hao _) ?_;refine Z0 ?_;exact Z48

set_option maxRecDepth 8000
theorem yt {x:Expr} {c:List Col} (h:(Hq x c).2=0):Am x=true∧Ic c=true∧Hq x c=Bi c x:=by
 unfold Hq at h ⊢
 split at h
 ·cases h
 rename_i h1
 rw [if_neg h1]
 simp only [Di,If,not_or,V3] at h1
 exact ⟨h1.1,by rw [←Mh];exact h1.2,rfl⟩
set_option maxRecDepth 4000
theorem yu {a b:List Expr} (hl:a.length=b.length) (h:∀(j:Nat) (y z:Expr),j<a.length→a[j]? = some y→b[j]? = some z→eqE y z=true):eqL a b=true:=by
 rw [Qt]
 refine Y4 hl fun j y hj hy=>?_
 have hjb:j<b.length:=by omega
 have:=h j y b[j] hj hy (Ae hjb)
 rw [Ae hjb,(c7 _ _).1 this]
theorem AFp {a b:List Expr} (h:eqL a b=true) {j:Nat} (hj:j<a.length) (hb:j<b.length):eqE a[j] b[j]=true:=by
 have e:=(Qt _ _).1 h
 subst e
 exact xc _
theorem AFq {a b:List Expr} {j:Nat} (hj:j<a.length) (hb:j<b.length) (h:eqE a[j] b[j]=false):eqL a b=false:=by
 rw [L4]
 intro h2
 rw [AFp h2 hj hb] at h
 cases h
theorem ACd {a b:List Expr} (h:a.length≠b.length):eqL a b=false:=by
 rw [L4]
 exact fun h2=>h (ABr h2)
theorem AJ7 {a b:List Expr} {x:Nat} (hx:x<a.length) (hb:x<b.length) (h:∀(j:Nat) (y z:Expr),j<x→a[j]? = some y→b[j]? = some z→eqE y z=true) (he:eqE a[x] b[x]=true):∀(j:Nat) (y z:Expr),j<x+1→a[j]? = some y→b[j]? = some z→eqE y z=true:=by
 intro j y z hj h1 h2
 rcases Bo j x with h3|h3
 ·exact h j y z h3 h1 h2
 have:j=x:=by omega
 subst this
 rw [Ae hx] at h1
 rw [Ae hb] at h2
 injection h1 with h1
 injection h2 with h2
 rw [←h1,←h2]
 exact he
theorem ALn (n:Nat) (a b:List Expr) (ha:a.length≤1048576) (hok:∀y∈a,okE n y) (ih:∀(x:Expr),okE n x→∀(y:Expr) (Hp:List AObj),AFun Tryz.prog 239 [Aa x,Aa y] Hp (B6 (eqE x y))) (Hp:List AObj):AFun Tryz.prog 285 [.slice false 6 (a.map Aa),.slice false 6 (b.map Aa),.fn (.func 239) [] []] Hp (B6 (eqL a b)):=by
 refine Ak [.tmp 6] [0,1,2] Tryz.func285 Tryz.ntmps285 (fun d=>?_)
 refine Z2 ?_;refine Xv ?_;refine Z59 ?_;refine A5 ?_;refine A2 [0,1,2,14] ?_
 refine A3 (fun ht14=>?_) (fun ht14=>?_)
 ·have hf:eqL a b=false:=ACd (by have:=ht14;simp at this;omega)
  refine Z2 ?_;refine pm ?_;exact A7 (An A6) ⟨by rw [hf],rfl⟩
 have hlen:a.length=b.length:=by have:=ht14;simp at this;omega
 refine jl ?_;refine A2 [1,2,15,16,17] ?_
 refine Dp (α:=Nat) (fun i=>⟨32,Af 1 (.slice false 6 (b.map Aa)) (Af 2 (.fn (.func 239) [] []) (Af 15 (.slice false 6 (a.map Aa)) (Af 16 (A4 (a.length:Nat)) (Af 17 (A4 (i:Nat)) (fun _=>.any))))),Hp,[],[],none⟩) (fun i=>i≤a.length∧∀(j:Nat) (y z:Expr),j<i→a[j]? = some y→b[j]? = some z→eqE y z=true) (fun i=>a.length-i) (0) ⟨Bc _,fun j y z h=>by omega⟩ (Co (by simp)) rfl (fun i hi=>?_)
 refine Z2 ?_;refine A2 [1,2,15,16,17,18] ?_
 refine Dn (fun ht18=>?_) (fun ht18=>?_)
 ·have hlt:i<a.length:=by simpa using ht18
  have hlb:i<b.length:=by omega
  refine Pk ?_
  refine A5 (h:=Ap (i) (Aa a[i]) (fun _=>Bv hlt)) (hr:=?_)
  refine dr ?_;refine A2 [1,2,7,8,15,16,17] ?_;refine Z1 ?_
  refine A5 (h:=Ap (i) (Aa b[i]) (fun _=>Bv hlb)) (hr:=?_)
  refine Vm ?_;refine A2 [1,2,8,9,15,16,17] ?_;refine Z13 ?_;refine Ry Tryz.call239 (ih a[i] (hok _ (C4 hlt)) b[i] _) ?_;refine A5 ?_;refine A2 [1,2,15,16,17,30] ?_
  refine A3 (fun ht30=>?_) (fun ht30=>?_)
  ·have hf:eqL a b=false:=AFq hlt hlb (by simpa using ht30)
   refine Z2 ?_;refine Z75 ?_;refine Z97 ?_;exact A7 (An A6) ⟨by rw [hf],rfl⟩
  have he:eqE a[i] b[i]=true:=by simpa using ht30
  refine Z68 ?_;refine A2 [1,2,15,16,17] ?_;refine Cd (i+1) ⟨hlt,AJ7 hlt hlb hi.2 he⟩ (by omega) ?_
  exact Dk (own:=[]) (fun _=>.refl _) (by repeat (first|exact Bg|refine Bf (by first|exact E2|(simp;done)) ?_)) (by simp) (by simp)
 have hxe:a.length≤i:=by simpa using ht18
 refine Z39 ?_;refine Z2 ?_;refine Z75 ?_;exact A7 (An A6) ⟨by rw [yu hlen (fun j y z hj=>hi.2 j y z (by omega))],rfl⟩

theorem AJ8:∀(n:Nat) (x:Expr),okE n x→∀(y:Expr) (Hp:List AObj),AFun Tryz.prog 239 [Aa x,Aa y] Hp (B6 (eqE x y)):=by
 intro n
 induction n with
 | zero=>exact fun x h=>h.elim
 | succ n ih =>
 intro x hok y Hp
 refine Ak [.tmp 4] [0,1] Tryz.func239 Tryz.ntmps239 (fun d=>?_)
 refine Z13 ?_;refine A2 [2,3] ?_;refine Z18 ?_;refine Z0 ?_;refine Z47 ?_;refine Z38 ?_;refine Z47 ?_
 refine Ca (h:=Ni Xw (fun w=>Iy x.val.kind x.val.n y.val.kind y.val.n x.val.s y.val.s w)) (hr:=?_)
 refine Z0 ?_;refine Z47 ?_;refine C7 Tryz.call285 (fun hB=>ALn n x.kids y.kids hok.2.1 hok.2.2 ih _) ?_;refine Z0 ?_;refine Z21 ?_;exact A7 (An A6) ⟨by rw [AFd],rfl⟩

theorem Wx (o:Int) (t:Str) (v:Val) (k:List Expr):Aa (.mk o t v k)=.agg [A4 o,.v (sv t),A4 v.kind,A4 v.n,.v (sv v.s),.slice false 6 (k.map Aa)]:=by rw [Ad];rfl
set_option maxRecDepth 8000
/-! Who decides decides: the law's sources, columns and truths. -/
/-! Rows. -/
theorem row_iff {c:List Col} {l:List Val}:Gl c l=true↔Ic c=true∧l.length=c.length∧∀(i:Nat) (v:Val) (y:Col),l[i]? = some v→c[i]? = some y→Cv v=true∧(v.kind=0∨v.kind=y.kind):=by
 unfold Gl
 rw [Ai,Ai,Mh,beq_iff_eq,B5,and_assoc]
 refine and_congr_right fun _=>and_congr_right fun hl=>⟨fun h i v y hv hy=>?_,fun h p hp=>?_⟩
 ·have:=h (v,y) (Az (i:=i) (by rw [Rp];exact ⟨hv,hy⟩))
  simpa using this
 obtain ⟨i,hi⟩:=Ct hp
 rw [Rp] at hi
 have:=h i p.1 p.2 hi.1 hi.2
 simpa using this
theorem Uq {x:Expr} {c:List Col} {l:List Val} (h1:Am x=true) (h2:Gl c l=true):C6 x c l=Ag c l x:=by
 unfold C6 P6
 rw [h1,h2]
 rfl
/-! Rows that differ in what is not named. -/
/-! Who has a kind AJe to it. -/
/-- What a tree of this kind may come to. -/
structure KOk (k:Int) (r:Rs):Prop where
 kind:r.2=0→r.1.kind=k∨r.1.kind=0
 err:r.2≠0→r.2=4∨r.2=5∨r.2=6∨r.2=3
theorem KOk.null (k:Int):KOk k (noV,0):=⟨fun _=>.inr rfl,fun h=>absurd rfl h⟩
theorem KOk.val {k:Int} {v:Val} (h:v.kind=k):KOk k (v,0):=⟨fun _=>.inl h,fun h=>absurd rfl h⟩
theorem KOk.wrong {k e:Int} (h:e=4∨e=5∨e=6∨e=3):KOk k (C3 e):=⟨fun h0=>by rw [show e=0 from h0] at h;omega,fun _=>h⟩
theorem KOk.whole {x:Int×Int} (h:x.2≠0→x.2=4∨x.2=5∨x.2=6∨x.2=3):KOk 1 (Ez x):=by
 unfold Ez
 split
 ·rename_i h1;exact .wrong (h (by simpa using h1))
 exact .val rfl
theorem KOk.mono {k k':Int} {r:Rs} (h:KOk k r) (hk:k=k'∨k=0):KOk k' r:=⟨fun h0=>by have:=h.kind h0;omega,h.err⟩
theorem Tr {α:Type} {g:α→Int} {r:α→Rs} {l:List α} (h:∀y∈l,KOk (g y) (r y)) {k:Int} {f:List Val→Rs} (hs:∀vs:List Val,vs.map (·.kind)=l.map g→(∀v∈vs,v.kind≠0)→KOk k (f vs)):KOk k (E9 f (l.map r)):=by
 unfold E9
 split
 ·rename_i q hq
  have h1:=V5 hq
  obtain ⟨y,hy,rfl⟩:=Cw.1 (List.mem_of_find?_eq_some hq)
  exact .wrong ((h y hy).err (by simpa using h1))
 rename_i hq
 have h0:∀y∈l,(r y).2=0:=fun y hy=>by
  have:=M3.1 hq (r y) (ae hy)
  simpa using this
 split
 ·exact .null k
 rename_i hn
 have hnn:∀y∈l,(r y).1.kind≠0:=fun y hy e=>hn (by rw [L5];exact ⟨r y,ae hy,by simpa using e⟩)
 refine hs _ ?_ ?_
 ·rw [Hv,Hv]
  refine Q8 fun y hy=>?_
  have:=(h y hy).kind (h0 y hy)
  have:=hnn y hy
  show (r y).1.kind=g y
  omega
 intro v hv
 rw [Hv] at hv
 obtain ⟨y,hy,rfl⟩:=Cw.1 hv
 exact hnn y hy
theorem R3 {a b:Int} (h:(Gg a b).2=true):((a=0∧(Gg a b).1=b)∨(a≠0∧(b=0∨b=a)∧(Gg a b).1=a)):=by
 unfold Gg at h ⊢
 split
 ·rename_i e;exact .inl ⟨by simpa using e,rfl⟩
 rename_i e
 rw [if_neg e] at h
 split
 ·rename_i e2
  exact .inr ⟨by simpa using e,by simp only [Di,beq_iff_eq] at e2;omega,rfl⟩
 rename_i e2
 rw [if_neg e2] at h
 cases h
theorem AFr {s:Sign} {ks:List Int} (h:(Pu s ks).2=0):∃c,H8 s.kids ks 0=some c∧(Pu s ks).1=if s.own == -1 then c else s.own:=by
 unfold Pu at h ⊢
 cases hk:H8 s.kids ks 0 with
 | none=>rw [hk] at h;cases h
 | some c=>exact ⟨c,rfl,by simp only;split<;>rfl⟩
/-- One kid, of a kind. -/
theorem ry {w k0 c:Int} (h1:(w == -2)=false) (h2:(w == -1)=false) (h3:w≠0) (h:H8 [w] [k0] 0=some c):k0=0∨k0=w:=by
 rw [H8,h1,h2] at h
 simp only [Bd,if_false] at h
 split at h
 ·rename_i hm;have:=R3 hm;omega
 cases h
theorem rz {w w' k0 k1 c:Int} (h1:(w == -2)=false) (h2:(w == -1)=false) (h3:w≠0) (h1':(w' == -2)=false) (h2':(w' == -1)=false) (h3':w'≠0) (h:H8 [w,w'] [k0,k1] 0=some c):(k0=0∨k0=w)∧(k1=0∨k1=w'):=by
 rw [H8,h1,h2] at h
 simp only [Bd,if_false] at h
 split at h
 ·rename_i hm
  rw [H8,h1',h2'] at h
  simp only [Bd,if_false] at h
  split at h
  ·rename_i hm';have:=R3 hm;have:=R3 hm';omega
  cases h
 cases h
/-- Two kids of one kind, whichever. -/
theorem ck {k0 k1 c c0:Int} (h:H8 [-1, -1] [k0,k1] c0=some c) (h0:c0=0):(k0=0∨k0=c)∧(k1=0∨k1=c)∧(k0≠0→k1≠0→k0=k1):=by
 subst h0
 rw [H8] at h
 simp only [show ((-1:Int) == -2)=false from rfl,show ((-1:Int) == -1)=true from rfl,Bd,if_false,if_true] at h
 split at h
 ·rename_i hm
  rw [H8] at h
  simp only [show ((-1:Int) == -2)=false from rfl,show ((-1:Int) == -1)=true from rfl,Bd,if_false,if_true] at h
  split at h
  ·rename_i hm'
   rw [H8] at h
   injection h with h
   have a:=R3 hm
   have b:=R3 hm'
   omega
  cases h
 cases h
theorem Oo {c:List Col} {o:Int} {t:Str} {v:Val} {k:List Expr} (h:(Bi c (.mk o t v k)).2=0) (h1:(o==1)=false) (h2:(o==2)=false):
  (∀y∈k,(Bi c y).2=0)∧∃m,H8 (J9 o t).kids (k.map fun y=>(Bi c y).1) 0=some m∧(Bi c (.mk o t v k)).1=if (J9 o t).own == -1 then m else (J9 o t).own:=by
 rw [Bi] at h ⊢
 have hk:=xv h h1 h2
 rw [So] at hk h ⊢
 have hk':∀y∈k,(Bi c y).2=0:=fun y hy=>hk _ (ae hy)
 refine ⟨hk',?_⟩
 have e:Mv c o t v (k.map (Bi c))=Pu (J9 o t) (k.map fun y=>(Bi c y).1):=by
  unfold Mv
  rw [h1,h2]
  have:(k.map (Bi c)).find? (fun q=>q.2 != 0)=none:=M3.2 fun q hq=>by simpa using hk q hq
  simp only [Bd,if_false,this,Hv]
  rfl
 rw [e] at h ⊢
 exact AFr h
theorem s0 (t:Str) (a b:Int):(In t a b).2≠0→(In t a b).2=4∨(In t a b).2=5∨(In t a b).2=6∨(In t a b).2=3:=by
 unfold In Y5 Jw Wr l3 Y6
 simp only
 repeat' split
 all_goals simp
theorem ACe (a b:Int):(Jw a b).2≠0→(Jw a b).2=4∨(Jw a b).2=5∨(Jw a b).2=6∨(Jw a b).2=3:=by
 unfold Jw
 repeat' split
 all_goals simp
theorem ACf (s:Str):(C1 s).2≠0→(C1 s).2=4∨(C1 s).2=5∨(C1 s).2=6∨(C1 s).2=3:=by
 unfold C1
 repeat' split
 all_goals simp
theorem AFs {a b:Val} (ha:a.kind=2) (hb:b.kind=2):KOk 2 (Lu a b):=by
 unfold Lu
 rw [show Bx [a,b] [2,2]=true by simp [Bx,ha,hb]]
 simp only [K2,Bd,if_false]
 split
 ·exact .wrong (by omega)
 exact .val rfl
/-- A mark of two values of the kinds that its sign asks for. -/
theorem AJ9 {t:Str} {a b:Val} (ht:t∈[[61],[33,61],[60],[60,61],[62],[62,61],[43],[45],[38],[42],[47],[37]]) {m:Int} (hf:H8 (E8 t).kids [a.kind,b.kind] 0=some m) (ha:a.kind≠0) (hb:b.kind≠0):
  KOk (if (E8 t).own == -1 then m else (E8 t).own) (Hi t a b):=by
 have hcmp:∀t:Str,(Hr t (g0 a b)).2=true→E8 t=⟨[-1, -1],3⟩→H8 (E8 t).kids [a.kind,b.kind] 0=some m→KOk (if (E8 t).own == -1 then m else (E8 t).own) (Hi t a b):=fun t h1 h2 hf=>by
  rw [h2] at hf ⊢
  have:=ck hf rfl
  have e:a.kind=b.kind:=this.2.2 ha hb
  unfold Hi
  rw [h1,if_pos rfl,e]
  simp only [bne_self_eq_false,Bd,if_false]
  exact .val rfl
 have har:∀t:Str,(Hr t (g0 a b)).2=false→(t==[38])=false→E8 t=⟨[1,1],1⟩→H8 (E8 t).kids [a.kind,b.kind] 0=some m→KOk (if (E8 t).own == -1 then m else (E8 t).own) (Hi t a b):=fun t h1 h2 h3 hf=>by
  rw [h3] at hf ⊢
  have:=rz rfl rfl (by decide) rfl rfl (by decide) hf
  unfold Hi
  rw [h1,h2,show Bx [a,b] [1,1]=true by simp [Bx];omega]
  exact KOk.whole (s0 _ _ _)
 simp only [Bj,Hy,or_false] at ht
 rcases ht with rfl|rfl|rfl|rfl|rfl|rfl|rfl|rfl|rfl|rfl|rfl|rfl
 ·exact qh
 ·exact qh
 ·exact qh
 ·exact qh
 ·exact qh
 ·exact qh
 ·exact wg
 ·exact wg
 ·have h3:E8 [38]=⟨[2,2],2⟩:=rfl
  rw [h3] at hf ⊢
  have:=rz rfl rfl (by decide) rfl rfl (by decide) hf
  exact AFs (by omega) (by omega)
 ·exact wg
 ·exact wg
 exact wg
theorem cl {r:Rs} (h:KOk 3 r):B7 r=r:=by
 unfold B7
 split
 ·rename_i e
  simp only [Ai,beq_iff_eq,bne_iff_ne] at e
  have:=h.kind e.1.1
  omega
 rfl
theorem na {s:Val} {a b:Rs} (ha:KOk 3 a) (hb:KOk 3 b):KOk 3 (H5 s a b):=by
 unfold H5
 rw [cl ha,cl hb]
 split
 ·exact ha
 rename_i h1
 split
 ·exact hb
 simp only [Di,bne_iff_ne,not_or,Decidable.not_not] at h1
 exact ⟨fun _=>ha.kind h1.1,fun h=>absurd rfl h⟩
theorem F7 {t:Str} {n:Nat} (h:C8 t=(n:Int)):(t=[108,101,110]∧n=1)∨(t=[115,116,114]∧n=1)∨(t=[110,117,109]∧n=1)∨(t=C0∧n=1)∨(t=Gy∧n=2)∨(t=[108,101,102,116]∧n=2)∨(t=[114,105,103,104,116]∧n=2)∨(t=ifW∧n=3):=by
 by_cases hm:t∈arityList.map (·.1)
 ·have ha:∀s∈arityList.map (·.1),(s=[108,101,110]∧C8 s=1)∨(s=[115,116,114]∧C8 s=1)∨(s=[110,117,109]∧C8 s=1)∨(s=C0∧C8 s=1)∨(s=Gy∧C8 s=2)∨(s=[108,101,102,116]∧C8 s=2)∨(s=[114,105,103,104,116]∧C8 s=2)∨(s=ifW∧C8 s=3):=by
   have:((arityList.map (·.1)).all fun s=>decide ((s=[108,101,110]∧C8 s=1)∨(s=[115,116,114]∧C8 s=1)∨(s=[110,117,109]∧C8 s=1)∨(s=C0∧C8 s=1)∨(s=Gy∧C8 s=2)∨(s=[108,101,102,116]∧C8 s=2)∨(s=[114,105,103,104,116]∧C8 s=2)∨(s=ifW∧C8 s=3)))=true:=by kernel_rfl
   exact fun s hs=>of_decide_eq_true (B5.1 this s hs)
  have:=ha t hm
  rw [h] at this
  rcases this with ⟨e,h2⟩|⟨e,h2⟩|⟨e,h2⟩|⟨e,h2⟩|⟨e,h2⟩|⟨e,h2⟩|⟨e,h2⟩|⟨e,h2⟩
  ·exact .inl ⟨e,by omega⟩
  ·exact .inr (.inl ⟨e,by omega⟩)
  ·exact .inr (.inr (.inl ⟨e,by omega⟩))
  ·exact .inr (.inr (.inr (.inl ⟨e,by omega⟩)))
  ·exact .inr (.inr (.inr (.inr (.inl ⟨e,by omega⟩))))
  ·exact .inr (.inr (.inr (.inr (.inr (.inl ⟨e,by omega⟩)))))
  ·exact .inr (.inr (.inr (.inr (.inr (.inr (.inl ⟨e,by omega⟩))))))
  exact .inr (.inr (.inr (.inr (.inr (.inr (.inr ⟨e,by omega⟩))))))
 have h1:C8 t = -1:=by
  unfold C8
  rw [M3.2 fun p hp=>by
   simp only [beq_iff_eq]
   rintro rfl
   exact hm (Cw.2 ⟨p,hp,rfl⟩)]
 omega
theorem Ur {k:List Expr} (h:k.length=1):∃a,k=[a]:=by match k,h with|[a],_=>exact ⟨a,rfl⟩
theorem Oq {k:List Expr} (h:k.length=2):∃a b,k=[a,b]:=by match k,h with|[a,b],_=>exact ⟨a,b,rfl⟩
theorem s6 {k:List Expr} (h:k.length=3):∃a b c,k=[a,b,c]:=by match k,h with|[a,b,c],_=>exact ⟨a,b,c,rfl⟩
theorem Lv {vs:List Val} {k:Int} (h:vs.map (·.kind)=[k]):∃v,vs=[v]∧v.kind=k:=by
 match vs,h with
 | [v],h=>exact ⟨v,rfl,by simpa using h⟩
theorem Sx {vs:List Val} {k k':Int} (h:vs.map (·.kind)=[k,k']):∃v v',vs=[v,v']∧v.kind=k∧v'.kind=k':=by
 match vs,h with
 | [v,v'],h=>exact ⟨v,v',rfl,by simpa using h⟩
theorem cm {c:List Col} {l:List Val} (hl:Gl c l=true):∀(n:Nat) (e:Expr),sizeE e≤n→Be Cb e=true→(Bi c e).2=0→KOk (Bi c e).1 (Ag c l e)
 | 0,e,hn,_,_=>by have:=Gt e;omega
 | n+1,e,hn,hnd,hk=>by
  have hnd0:=hnd
  rw [Db,Ai] at hnd0
  have ih:∀y∈e.kids,(Bi c y).2=0→KOk (Bi c y).1 (Ag c l y):=fun y hy h0=>cm hl n y (rm hn hy) ((Bk _ _).1 hnd0.2 y hy) h0
  obtain ⟨r1,r2,r3⟩:=row_iff.1 hl
  have hNC:=Hh hnd0.1
  cases hNC with
  | val v hp h0 =>
   have:Bi c (Dl v)=(v.kind,0):=by rw [Dl,Bi];rfl
   rw [this]
   exact .val rfl
  | name t ht =>
   have e1:Bi c (Bb t)=Qx c t:=by rw [Bb,Bi];rfl
   have e2:Ag c l (Bb t)=Gv c l t:=by rw [Ag,Bb,Dx];rfl
   rw [e1] at hk ⊢
   rw [e2]
   unfold Qx at hk ⊢
   unfold Gv
   split at hk
   ·cases hk
   rename_i hf
   rw [if_neg hf,if_neg hf]
   obtain ⟨j,z,hj,hz,hfj⟩:=find_mem.1 hf
   have hjl:j<l.length:=by rw [r2];exact (Ac.1 hj).1
   have:=r3 j l[j] z (Ae hjl) hj
   rw [hfj,Int.toNat_natCast,Ch,Ch,hj,Ae hjl]
   exact ⟨fun _=>by show l[j].kind=z.kind∨l[j].kind=0;omega,fun h=>absurd rfl h⟩
  | neg a =>
   rw [G4] at hk ⊢
   obtain ⟨hky,m,hf,ho⟩:=Oo hk rfl rfl
   rw [ho,Ag,Dx,Jy]
   have hs:J9 3 []=⟨[1],1⟩:=rfl
   rw [hs] at hf ⊢
   have hm:=ry rfl rfl (by decide) hf
   show KOk 1 (E9 (Aj 3 []) ([a].map (Dx Aj c l)))
   refine Tr (g:=fun y=>(Bi c y).1) (fun y hy=>ih y hy (hky y hy)) (fun vs hvs hnz=>?_)
   obtain ⟨v,rfl,hv⟩:=Lv hvs
   have hv0:=hnz v (by simp)
   have hv1:v.kind=1:=by omega
   unfold Aj
   rw [show Bx [v] [1]=true by simp [Bx,hv1]]
   exact KOk.whole (ACe _ _)
  | no a =>
   rw [G4] at hk ⊢
   obtain ⟨hky,m,hf,ho⟩:=Oo hk rfl rfl
   rw [ho,Ag,Dx,Jy]
   have hs:J9 4 []=⟨[3],3⟩:=rfl
   rw [hs] at hf ⊢
   have hm:=ry rfl rfl (by decide) hf
   show KOk 3 (E9 (Aj 4 []) ([a].map (Dx Aj c l)))
   refine Tr (g:=fun y=>(Bi c y).1) (fun y hy=>ih y hy (hky y hy)) (fun vs hvs hnz=>?_)
   obtain ⟨v,rfl,hv⟩:=Lv hvs
   have hv0:=hnz v (by simp)
   have hv1:v.kind=3:=by omega
   unfold Aj
   rw [show Bx [v] [3]=true by simp [Bx,hv1]]
   exact KOk.val rfl
  | bin t a b ht =>
   rw [Ib] at hk ⊢
   obtain ⟨hky,m,hf,ho⟩:=Oo hk rfl rfl
   have ha:=ih a (by simp [Ib,Expr.kids]) (hky a (by simp))
   have hb:=ih b (by simp [Ib,Expr.kids]) (hky b (by simp))
   rw [ho,Ag,Dx,Jy]
   rw [show J9 5 t=E8 t from rfl] at hf ⊢
   have hmem:t∈levels.flatten:=by
    rcases Ja t with h|h
    ·exact h
    omega
   by_cases h1:(t==orW)=true
   ·have e:t=orW:=by simpa using h1
    subst e
    rw [show E8 orW=⟨[3,3],3⟩ from rfl] at hf ⊢
    have hm:((Bi c a).1=0∨(Bi c a).1=3)∧((Bi c b).1=0∨(Bi c b).1=3):=rz rfl rfl (by decide) rfl rfl (by decide) hf
    exact na (ha.mono (by omega)) (hb.mono (by omega))
   by_cases h2:(t==Sv)=true
   ·have e:t=Sv:=by simpa using h2
    subst e
    rw [show E8 Sv=⟨[3,3],3⟩ from rfl] at hf ⊢
    have hm:((Bi c a).1=0∨(Bi c a).1=3)∧((Bi c b).1=0∨(Bi c b).1=3):=rz rfl rfl (by decide) rfl rfl (by decide) hf
    exact na (ha.mono (by omega)) (hb.mono (by omega))
   have e:F8 Aj c l 5 t noV ([a,b].map (Dx Aj c l))=E9 (Aj 5 t) ([a,b].map (Dx Aj c l)):=by
    unfold F8
    rw [show (t==orW)=false by simpa using h1,show (t==Sv)=false by simpa using h2]
    rfl
   rw [e]
   have hm12:t∈[[61],[33,61],[60],[60,61],[62],[62,61],[43],[45],[38],[42],[47],[37]]:=by
    have h1':t≠orW:=by simpa using h1
    have h2':t≠Sv:=by simpa using h2
    simp only [levels,List.flatten_cons,List.flatten_nil,Dd,Cz,Ig,Bj,Hy,or_false] at hmem ⊢
    rcases hmem with h|h|h
    ·exact absurd h h1'
    ·exact absurd h h2'
    exact h
   refine Tr (g:=fun y=>(Bi c y).1) (fun y hy=>ih y hy (hky y hy)) (fun vs hvs hnz=>?_)
   obtain ⟨v,v',rfl,hv,hv'⟩:=Sx hvs
   have hf':H8 (E8 t).kids [v.kind,v'.kind] 0=some m:=by rw [hv,hv'];exact hf
   exact AJ9 hm12 hf' (hnz v (by simp)) (hnz v' (by simp))
  | call t k ht =>
   obtain ⟨hky,m,hf,ho⟩:=Oo hk rfl rfl
   rw [ho,Ag,Dx,Jy]
   rw [show J9 6 t=Fb t from rfl] at hf ⊢
   rcases F7 ht with ⟨rfl,hn1⟩|⟨rfl,hn1⟩|⟨rfl,hn1⟩|⟨rfl,hn1⟩|⟨rfl,hn1⟩|⟨rfl,hn1⟩|⟨rfl,hn1⟩|⟨rfl,hn1⟩
   ·obtain ⟨a,rfl⟩:=Ur hn1
    have hs:Fb [108,101,110]=⟨[2],1⟩:=rfl
    rw [hs] at hf ⊢
    have hm:=ry rfl rfl (by decide) hf
    show KOk 1 (E9 (Aj 6 [108,101,110]) ([a].map (Dx Aj c l)))
    refine Tr (g:=fun y=>(Bi c y).1) (fun y hy=>ih y hy (hky y hy)) (fun vs hvs hnz=>?_)
    obtain ⟨v,rfl,hv⟩:=Lv hvs
    have hv0:=hnz v (by simp)
    have hv1:v.kind=2:=by omega
    show KOk 1 (G7 [108,101,110] v)
    unfold G7
    rw [hv1]
    exact KOk.val rfl
   ·obtain ⟨a,rfl⟩:=Ur hn1
    have hs:Fb [115,116,114]=⟨[1],2⟩:=rfl
    rw [hs] at hf ⊢
    have hm:=ry rfl rfl (by decide) hf
    show KOk 2 (E9 (Aj 6 [115,116,114]) ([a].map (Dx Aj c l)))
    refine Tr (g:=fun y=>(Bi c y).1) (fun y hy=>ih y hy (hky y hy)) (fun vs hvs hnz=>?_)
    obtain ⟨v,rfl,hv⟩:=Lv hvs
    have hv0:=hnz v (by simp)
    have hv1:v.kind=1:=by omega
    show KOk 2 (G7 [115,116,114] v)
    unfold G7
    rw [hv1]
    exact KOk.val rfl
   ·obtain ⟨a,rfl⟩:=Ur hn1
    have hs:Fb [110,117,109]=⟨[2],1⟩:=rfl
    rw [hs] at hf ⊢
    have hm:=ry rfl rfl (by decide) hf
    show KOk 1 (E9 (Aj 6 [110,117,109]) ([a].map (Dx Aj c l)))
    refine Tr (g:=fun y=>(Bi c y).1) (fun y hy=>ih y hy (hky y hy)) (fun vs hvs hnz=>?_)
    obtain ⟨v,rfl,hv⟩:=Lv hvs
    have hv0:=hnz v (by simp)
    have hv1:v.kind=2:=by omega
    show KOk 1 (G7 [110,117,109] v)
    unfold G7
    rw [hv1]
    exact KOk.whole (ACf _)
   ·obtain ⟨a,rfl⟩:=Ur hn1
    have ha:=ih a (by simp [Expr.kids]) (hky a (by simp))
    have hs:Fb C0=⟨[-2],3⟩:=rfl
    rw [hs]
    show KOk 3 (Ea C0 (Ag c l a) (noV,0) (noV,0))
    unfold Ea
    rw [show (C0==ifW)=false from rfl,show (C0==C0)=true from rfl]
    simp only [Bd,if_false,if_true]
    split
    ·rename_i h;exact .wrong (ha.err (by simpa using h))
    exact .val rfl
   ·obtain ⟨a,b,rfl⟩:=Oq hn1
    have ha:=ih a (by simp [Expr.kids]) (hky a (by simp))
    have hb:=ih b (by simp [Expr.kids]) (hky b (by simp))
    have hs:Fb Gy=⟨[-1, -1], -1⟩:=rfl
    rw [hs] at hf ⊢
    have hm:((Bi c a).1=0∨(Bi c a).1=m)∧((Bi c b).1=0∨(Bi c b).1=m)∧((Bi c a).1≠0→(Bi c b).1≠0→(Bi c a).1=(Bi c b).1):=ck hf rfl
    show KOk m (Ea Gy (Ag c l a) (Ag c l b) (noV,0))
    unfold Ea
    rw [show (Gy==ifW)=false from rfl,show (Gy==C0)=false from rfl]
    simp only [Bd,if_false]
    split
    ·rename_i h;exact .wrong (ha.err (by simpa using h))
    rename_i h
    split
    ·rename_i h2
     have:=ha.kind (by simpa using h)
     have h2:(Ag c l a).1.kind≠0:=by simpa using h2
     exact .val (by omega)
    exact hb.mono (by omega)
   ·obtain ⟨a,b,rfl⟩:=Oq hn1
    have hs:Fb [108,101,102,116]=⟨[2,1],2⟩:=rfl
    rw [hs] at hf ⊢
    have hm:=rz rfl rfl (by decide) rfl rfl (by decide) hf
    show KOk 2 (E9 (Aj 6 [108,101,102,116]) ([a,b].map (Dx Aj c l)))
    refine Tr (g:=fun y=>(Bi c y).1) (fun y hy=>ih y hy (hky y hy)) (fun vs hvs hnz=>?_)
    obtain ⟨v,v',rfl,hv,hv'⟩:=Sx hvs
    have hv0:=hnz v (by simp)
    have hv0':=hnz v' (by simp)
    have hv1:v.kind=2:=by omega
    have hv1':v'.kind=1:=by omega
    unfold Aj
    rw [show Bx [v,v'] [2,1]=true by simp [Bx,hv1,hv1']]
    exact KOk.val rfl
   ·obtain ⟨a,b,rfl⟩:=Oq hn1
    have hs:Fb [114,105,103,104,116]=⟨[2,1],2⟩:=rfl
    rw [hs] at hf ⊢
    have hm:=rz rfl rfl (by decide) rfl rfl (by decide) hf
    show KOk 2 (E9 (Aj 6 [114,105,103,104,116]) ([a,b].map (Dx Aj c l)))
    refine Tr (g:=fun y=>(Bi c y).1) (fun y hy=>ih y hy (hky y hy)) (fun vs hvs hnz=>?_)
    obtain ⟨v,v',rfl,hv,hv'⟩:=Sx hvs
    have hv0:=hnz v (by simp)
    have hv0':=hnz v' (by simp)
    have hv1:v.kind=2:=by omega
    have hv1':v'.kind=1:=by omega
    unfold Aj
    rw [show Bx [v,v'] [2,1]=true by simp [Bx,hv1,hv1']]
    exact KOk.val rfl
   obtain ⟨a,b,d,rfl⟩:=s6 hn1
   have ha:=ih a (by simp [Expr.kids]) (hky a (by simp))
   have hb:=ih b (by simp [Expr.kids]) (hky b (by simp))
   have hd:=ih d (by simp [Expr.kids]) (hky d (by simp))
   have hs:Fb ifW=⟨[3, -1, -1], -1⟩:=rfl
   rw [hs] at hf ⊢
   have hf':H8 [3] [(Bi c a).1] 0=some 0∧H8 [-1, -1] [(Bi c b).1,(Bi c d).1] 0=some m:=by
    simp only [C9,F9] at hf
    rw [H8] at hf
    simp only [show ((3:Int) == -2)=false from rfl,show ((3:Int) == -1)=false from rfl,Bd,if_false] at hf
    split at hf
    ·rename_i hm
     refine ⟨?_,hf⟩
     rw [H8]
     simp only [show ((3:Int) == -2)=false from rfl,show ((3:Int) == -1)=false from rfl,Bd,if_false,hm,if_true]
     rw [H8]
    cases hf
   have hm1:=ry rfl rfl (by decide) hf'.1
   have hm:=ck hf'.2 rfl
   show KOk m (Ea ifW (Ag c l a) (Ag c l b) (Ag c l d))
   unfold Ea
   rw [show (ifW==ifW)=true from rfl,if_pos rfl,cl (ha.mono (by omega))]
   split
   ·rename_i h;exact .wrong (ha.err (by simpa using h))
   split
   ·exact hb.mono (by omega)
   exact hd.mono (by omega)
set_option maxRecDepth 4000
theorem Lw {e:Expr} (h:Cb e=true):(e.op=5→e.kids.length=2)∧(e.op=3∨e.op=4→e.kids.length=1)∧(e.op=6→C8 e.text=(e.kids.length:Int))∧(e.op=1∨e.op=2∨e.op=3∨e.op=4∨e.op=5∨e.op=6):=by
 cases Hh h with
 | val v hp h0=>simp [Dl,Expr.op]
 | name t ht=>simp [Bb,Expr.op]
 | neg a=>simp [G4,Expr.op,Expr.kids]
 | no a=>simp [G4,Expr.op,Expr.kids]
 | bin t a b ht=>simp [Ib,Expr.op,Expr.kids]
 | call t k ht=>simpa [Expr.op,Expr.kids,Expr.text] using ht
theorem H9 {k:List Expr} {i:Nat} (h:i<k.length):(k.map Aa)[i]? = some (Aa (k.getD i A9))∧k.getD i A9∈k∧∀(f:Expr→Rs) (d:Rs),(k.map f).getD i d=f (k.getD i A9):=by
 have e:k.getD i A9=k[i]:=by rw [Ch,Ae h];rfl
 rw [e]
 refine ⟨by simp [h],C4 h,fun f d=>?_⟩
 rw [Ch,Cm,Ae h]
 rfl
theorem cn {c:List Col} {l:List Val} {e:Expr} (h1:(e.op==1)=false) (h2:(e.op==2)=false) (h3:((e.op==5)&&(e.text==orW))=false) (h4:((e.op==5)&&(e.text==Sv))=false) (h5:((e.op==6)&&(((e.text==ifW) || (e.text==Gy)) || (e.text==C0)))=false):Ag c l e=E9 (Aj e.op e.text) (e.kids.map (Ag c l)):=by
 rw [Ag,Eh]
 unfold F8
 rw [h1,h2,h3,h4,h5]
 rfl
theorem ACg {c:List Col} {l:List Val} (hf:∀v∈l,Fine v) {e:Expr} (hnd:Be Cb e=true) (hrg:Be Ci e=true) (hv:Be Kz e=true) (h5:((e.op==6)&&(((e.text==ifW) || (e.text==Gy)) || (e.text==C0)))=false):ArgsOk e.op (e.kids.map fun y=>(Ag c l y).1):=by
 rw [Db,Ai] at hnd hrg hv
 obtain ⟨k5,k34,k6,_⟩:=Lw hnd.1
 refine ⟨fun h=>?_,fun h=>by rw [Au];exact k34 h,fun h=>?_,fun v hv'=>?_⟩
 ·obtain ⟨a,b,e⟩:=Oq (k5 h)
  rw [e]
  exact ⟨_,_,rfl⟩
 ·rw [Au]
  rw [h] at h5
  simp only [beq_self_eq_true,P9,Fe,beq_eq_false_iff_ne] at h5
  rcases F7 (k6 h) with ⟨_,h⟩|⟨_,h⟩|⟨_,h⟩|⟨e,_⟩|⟨e,_⟩|⟨_,h⟩|⟨_,h⟩|⟨e,_⟩
  ·exact .inl h
  ·exact .inl h
  ·exact .inl h
  ·exact absurd e h5.2
  ·exact absurd e h5.1.2
  ·obtain ⟨a,b,e⟩:=Oq h
   rw [e]
   exact .inr ⟨_,_,rfl⟩
  ·obtain ⟨a,b,e⟩:=Oq h
   rw [e]
   exact .inr ⟨_,_,rfl⟩
  exact absurd e h5.1.1
 obtain ⟨y,hy,rfl⟩:=Cw.1 hv'
 exact Hs hf y ((Bk _ _).1 hv.2 y hy) ((Bk _ _).1 hrg.2 y hy)
theorem Ts (a b d:Rs):Ea C0 a b d=Ea C0 a (noV,0) (noV,0):=by
 unfold Ea
 rw [show (C0==ifW)=false from rfl,show (C0==C0)=true from rfl]
 rfl
theorem l4 {t:Str} (h:(t==ifW)=false) (a b d d':Rs):Ea t a b d=Ea t a b d':=by
 unfold Ea
 rw [h]
 rfl
theorem gb {t:Str} (h:(t==C0)=true) (a b b' d d':Rs):Ea t a b d=Ea t a b' d':=by
 have e:t=C0:=by simpa using h
 subst e
 rw [Ts,Ts a b' d']
theorem s7 {t:Str} {k:List Expr} {f:Expr→Rs} {a:Rs} (h1:(t==C0)=false→1<k.length) (h2:(t==ifW)=true→2<k.length):Ea t a ((k.map f).getD 1 (noV,0)) ((k.map f).getD 2 (noV,0))=Ea t a (f (k.getD 1 A9)) (f (k.getD 2 A9)):=by
 cases hn:t==C0 with
 | true=>exact gb hn _ _ _ _ _
 | false =>
  rw [(H9 (h1 hn)).2.2]
  cases hi:t==ifW with
  | true=>rw [(H9 (h2 hi)).2.2]
  | false=>exact l4 hi _ _ _ _
theorem c44 (c:List Col) (l:List Val) (hc:OkCols c) (hl:l.length=c.length) (hf:∀v∈l,Fine v):∀(n:Nat) (e:Expr),okE n e→Be Cb e=true→Be Ci e=true→Be Kz e=true→Jx c l e (Ag c l e):=by
 intro n
 induction n with
 | zero=>exact fun e h=>h.elim
 | succ n ih =>
 intro e hok hnd hrg hvo Hp
 have hnd0:=hnd
 have hrg0:=hrg
 have hvo0:=hvo
 rw [Db,Ai] at hnd0 hrg0 hvo0
 have hev:∀y∈e.kids,Jx c l y (Ag c l y):=fun y hy=>ih y (hok.2.2 y hy) ((Bk _ _).1 hnd0.2 y hy) ((Bk _ _).1 hrg0.2 y hy) ((Bk _ _).1 hvo0.2 y hy)
 obtain ⟨k5,k34,k6,_⟩:=Lw hnd0.1
 have hev0:Ag c l e=F8 Aj c l e.op e.text e.val (e.kids.map (Ag c l)):=Eh _ _ _ _
 refine Ak [.cell 4 23,.tmp 5] [0,1] Tryz.func44 Tryz.ntmps44 (fun d=>?_)
 refine Z1 ?_;refine vp ?_;refine Z22 ?_;refine Z18 ?_;refine A2 [2,3,4,7] ?_
 refine A3 (fun ht7=>?_) (fun ht7=>?_)
 ·have hm:Ag c l e=(e.val,0):=by rw [hev0];unfold F8;rw [if_pos ht7]
  refine Z1 ?_;exact Z86
 refine Z18 ?_;refine A2 [2,3,4,13] ?_
 refine A3 (fun ht13=>?_) (fun ht13=>?_)
 ·have hm0:Ag c l e=Gv c l e.text:=by rw [hev0];unfold F8;rw [if_neg (by rw [ht7];simp),if_pos ht13]
  refine Z18 ?_;refine A8 Tryz.call58 (c58 c hc e.text _) ?_;refine A5 ?_;refine A2 [2,4,6] ?_;refine Z31 ?_;refine A2 [2,4,6,23] ?_
  refine A3 (fun ht23=>?_) (fun ht23=>?_)
  ·have hm:Ag c l e=C3 9:=by rw [hm0];exact if_pos (by simpa using ht23)
   refine Xs ?_;refine Z40 ?_;refine Cu ?_;exact Z17
  have hneg:¬(Br e.text c<0):=by simpa using ht23
  obtain ⟨j,hj,hjc⟩:=Ny hneg
  have hjl:j<l.length:=by omega
  have hm:Ag c l e=(l[j],0):=by
   rw [hm0]
   unfold Gv
   rw [if_neg hneg,hj,Int.toNat_natCast,Ch,Ae hjl]
   rfl
  rw [hj]
  refine U4 ?_
  refine A5 (h:=Ap (j) (Bp l[j]) (fun _=>Bv hjl)) (hr:=?_)
  refine A5 ?_;exact Z86
 refine be ?_;refine A2 [2,3,4,32] ?_
 refine A3 (fun ht32=>?_) (fun ht32=>?_)
 ·have h32:((e.op==5)&&(e.text==orW))=true:=ht32
  have hop:e.op=5:=by simp only [Ai,beq_iff_eq] at h32;exact h32.1
  have hkl:=k5 hop
  have hm:Ag c l e=H5 (Cp true) (Ag c l (e.kids.getD 0 A9)) (Ag c l (e.kids.getD 1 A9)):=by rw [hev0];unfold F8;rw [if_neg (by rw [ht7];simp),if_neg (by rw [ht13];simp),if_pos h32,(H9 (by omega)).2.2,(H9 (by omega)).2.2]
  refine AHu ?_;refine D0 Tryz.call88 (c88 _ _) ?_;refine D0 Tryz.call87 (c87 c l e (e.kids.getD 0 A9) (e.kids.getD 1 A9) (Cp true) _ _ (H9 (by omega)).1 (H9 (by omega)).1 (hev _ (H9 (by omega)).2.1) (hev _ (H9 (by omega)).2.1) _) ?_;refine Z91 ?_;exact Z86
 have h32:((e.op==5)&&(e.text==orW))=false:=ht32
 refine be ?_;refine A2 [2,3,4,47] ?_
 refine A3 (fun ht47=>?_) (fun ht47=>?_)
 ·have h47:((e.op==5)&&(e.text==Sv))=true:=ht47
  have hop:e.op=5:=by simp only [Ai,beq_iff_eq] at h47;exact h47.1
  have hkl:=k5 hop
  have hm:Ag c l e=H5 (Cp false) (Ag c l (e.kids.getD 0 A9)) (Ag c l (e.kids.getD 1 A9)):=by rw [hev0];unfold F8;rw [if_neg (by rw [ht7];simp),if_neg (by rw [ht13];simp),if_neg (by rw [h32];simp),if_pos h47,(H9 (by omega)).2.2,(H9 (by omega)).2.2]
  refine AHu ?_;refine D0 Tryz.call88 (c88 _ _) ?_;refine D0 Tryz.call87 (c87 c l e (e.kids.getD 0 A9) (e.kids.getD 1 A9) (Cp false) _ _ (H9 (by omega)).1 (H9 (by omega)).1 (hev _ (H9 (by omega)).2.1) (hev _ (H9 (by omega)).2.1) _) ?_;refine Z91 ?_;exact Z86
 have h47:((e.op==5)&&(e.text==Sv))=false:=ht47
 refine Z18 ?_;refine Z47 ?_;refine Z47 ?_;refine Z47 ?_;refine Z38 ?_;refine A2 [2,3,4,62] ?_
 refine A3 (fun ht62=>?_) (fun ht62=>?_)
 ·have h62:((e.op==6)&&(((e.text==ifW) || (e.text==Gy)) || (e.text==C0)))=true:=ht62
  obtain ⟨hkl,hl1,hl2⟩:0<e.kids.length∧((e.text==C0)=false→1<e.kids.length)∧((e.text==ifW)=true→2<e.kids.length):=by
   have h:=h62
   simp only [Ai,Di,beq_iff_eq] at h
   have ha:=k6 h.1
   rcases h.2 with (h1|h1)|h1
   ·rw [h1] at ha ⊢
    have:e.kids.length=3:=by
     have:C8 ifW=3:=by kernel_rfl
     omega
    exact ⟨by omega,fun _=>by omega,fun _=>by omega⟩
   ·rw [h1] at ha ⊢
    have:e.kids.length=2:=by
     have:C8 Gy=2:=by kernel_rfl
     omega
    exact ⟨by omega,fun _=>by omega,fun h=>absurd h (by decide)⟩
   rw [h1] at ha ⊢
   have:e.kids.length=1:=by
    have:C8 C0=1:=by kernel_rfl
    omega
   exact ⟨by omega,fun h=>absurd h (by decide),fun h=>absurd h (by decide)⟩
  have hm:Ag c l e=Ea e.text (Ag c l (e.kids.getD 0 A9)) (Ag c l (e.kids.getD 1 A9)) (Ag c l (e.kids.getD 2 A9)):=by
   rw [hev0]
   unfold F8
   rw [if_neg (by rw [ht7];simp),if_neg (by rw [ht13];simp),if_neg (by rw [h32];simp),if_neg (by rw [h47];simp),if_pos h62,(H9 hkl).2.2]
   exact s7 hl1 hl2
  refine Z1 ?_;refine A8 Tryz.call89 (c89 c l e (e.kids.getD 0 A9) (e.kids.getD 1 A9) (e.kids.getD 2 A9) _ _ _ (H9 (by omega)).1 (fun h=>(H9 (hl1 h)).1) (fun h=>(H9 (hl2 h)).1) (hev _ (H9 (by omega)).2.1) (fun h=>hev _ (H9 (hl1 h)).2.1) (fun h=>hev _ (H9 (hl2 h)).2.1) _) ?_;refine Z0 ?_;exact Z86
 have h62:((e.op==6)&&(((e.text==ifW) || (e.text==Gy)) || (e.text==C0)))=false:=ht62
 have hm:=cn (c:=c) (l:=l) ht7 ht13 h32 h47 h62
 refine Z20 ?_;refine Z1 ?_;refine A8 Tryz.call90 (c90 c l e hok.2.1 hev (fun _=>ACg hf hnd hrg hvo h62) _) ?_;refine Z0 ?_;exact Z48

end Go.SX.Nb
