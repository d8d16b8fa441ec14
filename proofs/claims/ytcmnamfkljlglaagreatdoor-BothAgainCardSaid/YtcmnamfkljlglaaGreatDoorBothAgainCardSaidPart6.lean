/- On the way (part 6). -/
import Derived.ReadAgain
import Derived.ChangeSame
import Derived.ChangeArms
import Derived.ChangeOld
import Derived.ChangeFn
import Derived.MapPlaces
import Derived.DataReads
import Derived.OpenShut
import Derived.RowKit
import Derived.Deep.DeepHandedRow
import Derived.Test.YtcmnamfkljlglaaGreatDoorCards
import Derived.Test.YtcmnamfkljlglaaGreatDoorTie
import Derived.Lay
import Derived.Lib.LaidTab
import Derived.Stop.LaidErr
import Derived.Shelf.Vars
import Derived.ChangeBears
import Derived.Lib.SliceRun
import Derived.Test.YtcmnamfkljlglaaGreatDoorBothAgainCardSaidPart5
set_option linter.all false
namespace Go.SX
variable [GI:GlobInv]
open Classical Go.RowKit Go.ChangeShapes
section
variable {P:Program} {H:Type} {enc:TypeId×Value→H}

/-- The first ghost: whatever lies there is read for good. -/
noncomputable def G0 (W:World):Gh:=⟨fun b o=>if (W.cell? ⟨b,o,none⟩).isSome then .fix else .free,fun _=>0,0⟩
theorem jm {W:World} {b o:Nat} {u:Value} (h:W.cell? ⟨b,o,none⟩=some u):(G0 W).tag b o=.fix:=by simp [G0,h]
theorem M0 {W:World} {b:Nat} (h:b<W.heap.size):Gm (G0 W) W b:=⟨h,fun o=>by simp only [G0];split<;>simp,fun i hi=>absurd hi (Nat.not_lt_zero _)⟩
theorem fc (W:World):HeapRel (G0 W) [] W:=⟨fun i x h=>by simp at h,rfl,fun i j hi=>absurd hi (Nat.not_lt_zero _)⟩
theorem fe {W:World} (h:Fv W):TagOK (G0 W) W:=by
 refine ⟨fun b o hb=>?_,fun b o i hb=>?_,fun b o L hb=>?_,fun x hx=>?_⟩
 ·simp only [G0] at hb
  split at hb
  ·rename_i hs;exact Option.isSome_iff_exists.1 hs
  exact absurd rfl hb
 ·simp only [G0] at hb;split at hb<;>cases hb
 ·simp only [G0] at hb;split at hb<;>cases hb
 obtain ⟨v,h1,h2⟩:=h x hx
 exact ⟨M0 (N9.1 h1).1,v,h1,h2⟩

/-- What a datum of a plain type nq as. -/
inductive DRep (P:Program):TypeId→DataW H→AV→Prop
 | int {t:TypeId} {k:IntKind} {n:Int} (hu:P.underlying t=some (.int k)) (wf:(Lit.int k n).wf=true):DRep P t (.lit (.int k n)) (.v (.int k n))
 | bool {t:TypeId} {b:Bool} (hu:P.underlying t=some .bool):DRep P t (.lit (.bool b)) (.v (.bool b))
 | str {t:TypeId} {bs:List UInt8} (hu:P.underlying t=some .string):DRep P t (.lit (.string bs)) (.v (sv bs))
 | nil {t e:TypeId} (hu:P.underlying t=some (.slice e)):DRep P t .nil (.slice false (P.cellsOf e) [])
 | slice {t e:TypeId} {elems spare:List (DataW H)} {ys:List AV} (hu:P.underlying t=some (.slice e)) (hn:ys.length=elems.length)
   (h:∀(i:Nat) (d:DataW H) (y:AV),elems[i]? = some d→ys[i]? = some y→DRep P e d y):DRep P t (.slice elems spare) (.slice false (P.cellsOf e) ys)
 | struct {t:TypeId} {fs:Array Field} {parts:List (DataW H)} {ys:List AV} (hu:P.underlying t=some (.struct fs)) (hn:parts.length=fs.size) (hn':ys.length=fs.size)
   (h:∀(i:Nat) (f:Field) (d:DataW H) (y:AV),fs[i]? = some f→parts[i]? = some d→ys[i]? = some y→DRep P f.type d y):DRep P t (.agg parts) (.agg (ys.flatMap AV.cells))

/-- Types that are made of numbers, texts, bools, slices and structs alone. -/
structure PlainT (P:Program) (T:TypeId→Prop):Prop where
 look:∀t,T t→(P.cellsOf t=1∧((∃k,P.underlying t=some (.int k))∨P.underlying t=some .bool∨P.underlying t=some .string∨(∃e,P.underlying t=some (.slice e)∧T e∧0<P.cellsOf e))) ∨
  (∃fs,P.underlying t=some (.struct fs)∧(∀f∈fs.toList,T f.type)∧P.cellsOf t=(fs.toList.map fun f=>P.cellsOf f.type).sum ∧
   ∀(j:Nat) (f:Field),fs.toList[j]? = some f→f.offset=((fs.toList.take j).map fun f=>P.cellsOf f.type).sum)

/-- The reading of a row of cells. -/
def CRep (W:World) (y:AV) (cs:List Value):Prop:=
 y.cells.length=cs.length∧(∀c∈y.cells,c.one=true)∧∀(j:Nat) (c:AV) (v:Value),y.cells[j]? = some c→cs[j]? = some v→Rep (G0 W) W none c v

theorem CRep.v1 {W:World} {x:Value} (h:x.oneCell'=true):CRep W (.v x) [x]:=
 ⟨rfl,by simp [AV.cells,AV.one,h],fun j c v h1 h2=>by
  match j with
  | 0=>simp [AV.cells] at h1 h2;subst h1;subst h2;exact .v _ _
  | j+1=>simp [AV.cells] at h1⟩

theorem Sw {f:AV→List AV}:∀(ys:List AV) (j:Nat) (c:AV),(ys.flatMap f)[j]? = some c→∃(i:Nat) (y:AV) (q:Nat),ys[i]? = some y∧(f y)[q]? = some c∧j=((ys.take i).map fun y=>(f y).length).sum+q
 | [],j,c,h=>by simp at h
 | y::r,j,c,h=>by
  rw [U1] at h
  rcases B3 j (f y).length with h'|h'
  ·rw [C8 h'] at h
   exact ⟨0,y,j,rfl,h,by simp⟩
  rw [Cb h'] at h
  obtain ⟨i,z,q,h1,h2,h3⟩:=Sw r _ c h
  exact ⟨i+1,z,q,h1,h2,by simp only [List.take_succ_cons,Dg,List.sum_cons];omega⟩
theorem It {α:Type} {R:Nat→α→Prop}:∀(n:Nat),(∀i,i<n→∃y,R i y)→∃ys:List α,ys.length=n∧∀(i:Nat) (y:α),ys[i]? = some y→R i y
 | 0,_=>⟨[],rfl,fun i y h=>by simp at h⟩
 | n+1,h=>by
  obtain ⟨ys,h1,h2⟩:=It n (fun i hi=>h i (by omega))
  obtain ⟨y,hy⟩:=h n (by omega)
  refine ⟨ys++[y],by simp [h1],fun i z hz=>?_⟩
  rcases B3 i n with h'|h'
  ·rw [C8 (by omega)] at hz;exact h2 i z hz
  rw [Cb (by omega)] at hz
  have:i=n:=by
   have:=(A8.1 hz).1
   simp at this;omega
  subst this
  rw [h1] at hz
  simp at hz
  exact hz ▸ hy
theorem K4 {α β:Type} {f:α→Nat} {g:β→Nat}:∀(l:List α) (m:List β),l.length=m.length→(∀(i:Nat) (a:α) (b:β),l[i]? = some a→m[i]? = some b→f a=g b)→(l.map f).sum=(m.map g).sum
 | [],[],_,_=>rfl
 | [],b::m,h,_=>by simp at h
 | a::l,[],h,_=>by simp at h
 | a::l,b::m,h,hh=>by
  simp only [Dg,List.sum_cons]
  rw [hh 0 a b rfl rfl,K4 l m (by simpa using h) (fun i a b h1 h2=>hh (i+1) a b h1 h2)]

theorem bc {T:TypeId→Prop} (PT:PlainT P T) {W:World}:∀(n:Nat) (t:TypeId) (cs:List Value) (x:DataW H×List MemPlace),T t→DataW.trod enc P W 0 (fun _=>true) true n t cs=some x →
  ∃y,DRep P t x.1 y∧CRep W y cs∧cs.length=P.cellsOf t:=by
 intro n
 induction n with
 | zero=>intro t cs x _ h;simp [DataW.trod] at h
 | succ n ih =>
  intro t cs x hT h
  rcases PT.look t hT with ⟨hc1,⟨k,hu⟩|hu|hu|⟨e,hu,he,hz⟩⟩|⟨fs,hu,hf,hsum,hoff⟩
  ·obtain ⟨m,rfl,rfl,hw⟩:=DataW.trod_int hu h
   exact ⟨_,.int hu hw,.v1 rfl,hc1.symm⟩
  ·obtain ⟨b,rfl,rfl⟩:=DataW.trod_bool hu h
   exact ⟨_,.bool hu,.v1 rfl,hc1.symm⟩
  ·obtain ⟨s,rfl,rfl,_⟩:=DataW.trod_string hu h
   exact ⟨_,.str hu,.v1 rfl,hc1.symm⟩
  ·rcases DataW.trod_slice hu h with ⟨rfl,rfl⟩|⟨a,len,cap,elems,rest,m,hm,rfl,rfl,hb,hlc,hcm,hel,hE,_,_⟩
   ·refine ⟨_,.nil hu,⟨rfl,by simp [AV.cells,AV.one],fun j c v h1 h2=>?_⟩,hc1.symm⟩
    match j with
    | 0=>simp [AV.cells] at h1 h2;subst h1;subst h2;exact .slice0 _ _ _
    | j+1=>simp [AV.cells] at h1
   injection hm with hm
   subst hm
   subst hel
   have hEi:∀i,i<elems.length→∃y,(∀d,elems[i]? = some d→DRep P e d.1 y)∧∃ci,W.cells? 0 (a.add (i*P.cellsOf e)) (P.cellsOf e)=some ci∧CRep W y ci:=fun i hi=>by
    have h1:=hE i hi
    rw [A9 hi,Option.bind_eq_some_iff] at h1
    obtain ⟨ci,h2,h3⟩:=h1
    obtain ⟨y,h4,h5,_⟩:=ih e ci _ he h3
    exact ⟨y,fun d hd=>by rw [A9 hi] at hd;injection hd with hd;subst hd;exact h4,ci,h2,h5⟩
   obtain ⟨ys,hyl,hys⟩:=It elems.length hEi
   refine ⟨.slice false (P.cellsOf e) ys,.slice hu (by simp [hyl]) (fun i d y hd hy=>?_),⟨rfl,by simp [AV.cells,AV.one],fun j c v h1 h2=>?_⟩,hc1.symm⟩
   ·rw [Cc,Cv] at hd
    obtain ⟨d',hd',rfl⟩:=hd
    exact (hys i y hy).1 d' hd'
   match j with
   | j+1=>simp [AV.cells] at h1
   | 0 =>
    simp [AV.cells] at h1 h2
    subst h1;subst h2
    by_cases h0:elems.length=0
    ·have:ys=[]:=Lf (by omega)
     subst this
     rw [h0]
     exact .sliceE _ _ _ _
    have hspot:a.spot=none:=by
     obtain ⟨ci,hci,_⟩:=(hys 0 ys[0] (A9 (by omega))).2
     obtain ⟨_,g1,g2⟩:=World.cells?_some hci
     have g3:=g2 0 hz
     rw [A9 (by omega)] at g3
     simp only [Nat.zero_mul,Addr.add,if_true] at g3
     unfold World.cell? at g3
     split at g3
     ·split at g3
      ·cases g3
      rename_i hs;simpa using hs
     cases g3
    refine .slice _ false _ ys a _ cap (fun i j=>(W.cell? ⟨a.block,a.off+i*P.cellsOf e+j,none⟩).getD undef) hspot hyl.symm hlc (fun x hx=>?_) (fun x hx=>?_) (fun i x j y hx hy=>?_) (fun i x j y hx hy=>?_) (fun h=>by cases h)
    ·obtain ⟨i,hi⟩:=C3 hx
     obtain ⟨ci,hci,hcr⟩:=(hys i x hi).2
     rw [hcr.1]
     exact (World.cells?_some hci).2.1
    ·obtain ⟨i,hi⟩:=C3 hx
     obtain ⟨ci,hci,hcr⟩:=(hys i x hi).2
     exact hcr.2.1
    ·obtain ⟨ci,hci,hcr⟩:=(hys i x hx).2
     obtain ⟨_,g1,g2⟩:=World.cells?_some hci
     have hj:j<P.cellsOf e:=by
      have:=(A8.1 hy).1
      rw [hcr.1] at this;omega
     have g3:=g2 j hj
     rw [A9 (by omega),By hspot,By rfl] at g3
     exact ⟨jm g3,by rw [g3];rfl⟩
    obtain ⟨ci,hci,hcr⟩:=(hys i x hx).2
    obtain ⟨_,g1,g2⟩:=World.cells?_some hci
    have hj:j<P.cellsOf e:=by
     have:=(A8.1 hy).1
     rw [hcr.1] at this;omega
    have g3:=g2 j hj
    rw [A9 (by omega),By hspot,By rfl] at g3
    simp only at g3
    rw [g3]
    exact hcr.2.2 j y _ hy (A9 (by omega))
  obtain ⟨xs,m,hm,rfl,hcl,hxl,hX⟩:=DataW.trod_struct hu h
  injection hm with hm
  subst hm
  have hXi:∀i,i<fs.size→∃y,∀(f:Field),fs[i]? = some f→(∀d,xs[i]? = some d→DRep P f.type d.1 y)∧CRep W y ((cs.drop f.offset).take (P.cellsOf f.type))∧y.cells.length=P.cellsOf f.type:=fun i hi=>by
   have h1:=hX i fs[i] (D8 hi)
   rw [A9 (by omega)] at h1
   obtain ⟨y,h2,h3,h4⟩:=ih _ _ _ (hf _ (by simp)) h1
   refine ⟨y,fun f hf'=>?_⟩
   rw [D8 hi] at hf'
   injection hf' with hf'
   subst hf'
   exact ⟨fun d hd=>by rw [A9 (by omega)] at hd;injection hd with hd;subst hd;exact h2,h3,by rw [h3.1,h4]⟩
  obtain ⟨ys,hyl,hys⟩:=It fs.size hXi
  have hlenI:∀(i:Nat),((ys.take i).map fun y=>y.cells.length).sum=((fs.toList.take i).map fun f=>P.cellsOf f.type).sum:=fun i=>by
   refine K4 _ _ (by simp [hyl]) (fun j y f h1 h2=>?_)
   rw [Fm] at h1 h2
   split at h1
   ·rename_i hj
    rw [if_pos hj] at h2
    exact (hys j y h1 f (by simpa using h2)).2.2
   cases h1
  have htot:(ys.flatMap AV.cells).length=cs.length:=by
   rw [List.length_flatMap,hcl,hsum]
   refine K4 _ _ (by simp [hyl]) (fun j y f h1 h2=>(hys j y h1 f (by simpa using h2)).2.2)
  refine ⟨.agg (ys.flatMap AV.cells),.struct hu (by simp [hxl]) hyl (fun i f d y hf' hd hy=>?_),⟨htot,fun c hc=>?_,fun j c v h1 h2=>?_⟩,hcl⟩
  ·rw [Cc,Cv] at hd
   obtain ⟨d',hd',rfl⟩:=hd
   exact (hys i y hy f hf').1 d' hd'
  ·obtain ⟨y,hy,hcy⟩:=List.mem_flatMap.1 hc
   obtain ⟨i,hi⟩:=C3 hy
   have hlt:i<fs.size:=by rw [←hyl];exact (A8.1 hi).1
   exact ((hys i y hi fs[i] (D8 hlt)).2.1).2.1 c hcy
  obtain ⟨i,y,q,g1,g2,rfl⟩:=Sw ys j c h1
  have hlt:i<fs.size:=by rw [←hyl];exact (A8.1 g1).1
  obtain ⟨_,k2,k3⟩:=hys i y g1 fs[i] (D8 hlt)
  have hq:q<P.cellsOf (fs[i]).type:=by have:=(A8.1 g2).1;omega
  refine k2.2.2 q c v g2 ?_
  rw [Fm,if_pos hq,El,hoff i fs[i] (by simp [hlt]),←hlenI i]
  exact h2

/-- A measure of data. -/
structure Bulk (B:DataW H→Nat):Prop where
 str:∀bs,bs.length≤B (.lit (.string bs))
 slice:∀elems spare,elems.length≤B (.slice elems spare)∧∀d∈elems,B d≤B (.slice elems spare)
 agg:∀parts,∀d∈parts,B d≤B (.agg parts)
theorem DRep.int' {t:TypeId} {k:IntKind} {d:DataW H} {y:AV} (hu:P.underlying t=some (.int k)) (h:DRep P t d y):∃n,d=.lit (.int k n)∧y=.v (.int k n)∧k.min≤n∧n≤k.max:=by
 cases h with
 | int hu' wf=>rw [hu] at hu';injection hu' with e;injection e with e;subst e;exact ⟨_,rfl,rfl,by simpa [Lit.wf] using wf⟩
 | _ hu'=>rw [hu] at hu';cases hu'
theorem DRep.str' {t:TypeId} {d:DataW H} {y:AV} (hu:P.underlying t=some .string) (h:DRep P t d y):∃s,d=.lit (.string s)∧y=.v (sv s):=by
 cases h with
 | str hu'=>exact ⟨_,rfl,rfl⟩
 | _ hu'=>rw [hu] at hu';cases hu'
theorem DRep.slice' {t e:TypeId} {d:DataW H} {y:AV} {B:DataW H→Nat} (hB:Bulk B) {α:Type} (A:α→AV) (R:α→Prop) {b:Nat} (hu:P.underlying t=some (.slice e)) (h:DRep P t d y) (hb:B d≤b)
  (hE:∀d y,B d≤b→DRep P e d y→∃x,y=A x∧R x):∃l:List α,y=.slice false (P.cellsOf e) (l.map A)∧l.length≤b∧∀x∈l,R x:=by
 cases h with
 | nil hu'=>rw [hu] at hu';injection hu' with e';injection e' with e';subst e';exact ⟨[],rfl,Au _,fun x hx=>by cases hx⟩
 | slice hu' hn hh =>
  rw [hu] at hu';injection hu' with e';injection e' with e';subst e'
  rename_i elems spare ys
  obtain ⟨h1,h2⟩:=hB.slice elems spare
  have key:∀(ys:List AV) (es:List (DataW H)),ys.length=es.length→(∀d∈es,B d≤b)→(∀(i:Nat) (d:DataW H) (y:AV),es[i]? = some d→ys[i]? = some y→DRep P e d y)→∃l:List α,ys=l.map A∧∀x∈l,R x:=by
   intro ys
   induction ys with
   | nil=>exact fun es _ _ _=>⟨[],rfl,fun x hx=>by cases hx⟩
   | cons y ys ih =>
    intro es hl hb2 hr
    cases es with
    | nil=>simp at hl
    | cons d es =>
     obtain ⟨x,rfl,hx⟩:=hE d y (hb2 d (by simp)) (hr 0 d y rfl rfl)
     obtain ⟨l,rfl,hR⟩:=ih es (by simpa using hl) (fun d hd=>hb2 d (by simp [hd])) (fun i d y a c=>hr (i+1) d y a c)
     exact ⟨x::l,rfl,fun z hz=>by
      rcases Cd.1 hz with rfl|hz
      ·exact hx
      exact hR z hz⟩
  obtain ⟨l,rfl,hR⟩:=key ys elems hn (fun d hd=>Kl (h2 d hd) hb) hh
  exact ⟨l,rfl,by simp at hn;omega,hR⟩
 | _ hu'=>rw [hu] at hu';cases hu'
theorem DRep.struct' {t:TypeId} {fs:Array Field} {d:DataW H} {y:AV} {B:DataW H→Nat} (hB:Bulk B) (hu:P.underlying t=some (.struct fs)) (h:DRep P t d y):
  ∃ys:List AV,ys.length=fs.size∧y=.agg (ys.flatMap AV.cells)∧∀(i:Nat) (f:Field) (z:AV),fs[i]? = some f→ys[i]? = some z→∃d',B d'≤B d∧DRep P f.type d' z:=by
 cases h with
 | struct hu' hn hn' hh =>
  rw [hu] at hu';injection hu' with e';injection e' with e';subst e'
  rename_i parts ys
  refine ⟨ys,hn',rfl,fun i f z h1 h2=>?_⟩
  have hlt:i<parts.length:=by rw [hn];exact (N9.1 h1).1
  exact ⟨parts[i],hB.agg parts _ (Bc hlt),hh i f parts[i] z h1 (A9 hlt) h2⟩
 | _ hu'=>rw [hu] at hu';cases hu'

/-- An argument's reading. -/
theorem ff {T:TypeId→Prop} (PT:PlainT P T) {W:World} {t:TypeId} {v:Value} {d:DataW H} {ps:List MemPlace} {b0:Nat} (hT:T t) (hok:Value.okWide P W .any b0 t v) (h:DataW.Trod enc P W 0 (fun _=>true) true t v d ps):
  ∃y,DRep P t d y∧Rep (G0 W) W none y v:=by
 obtain ⟨n,hn⟩:=h
 obtain ⟨y,h1,h2,h3⟩:=bc PT n t _ _ hT hn
 refine ⟨y,h1,?_⟩
 rcases PT.look t hT with ⟨hc1,hone⟩|⟨fs,hu,_⟩
 ·have hva:∀cs,v≠.agg cs:=fun cs e=>by
   subst e
   rcases hone with ⟨k,hu⟩|hu|hu|⟨e,hu,he,hz⟩<;>simp [Value.okWide,hu,Cell.okWide,Cell.ok] at hok
  have hvc:v.cells=#[v]:=by cases v<;>first|rfl|exact absurd rfl (hva _)
  have hyc:y.cells=[y]:=by
   cases h1 with
   | struct hu=>rcases hone with ⟨k,hu'⟩|hu'|hu'|⟨e,hu',he,hz⟩<;>rw [hu] at hu'<;>cases hu'
   | _=>rfl
  have:=h2.2.2 0 y v (by rw [hyc];rfl) (by rw [hvc];rfl)
  exact this
 obtain ⟨cs,rfl,hsz,_⟩:∃cs,v=.agg cs∧cs.size=P.cellsOf t∧Row.okWide P W .any b0 t cs:=by
  simp only [Value.okWide,hu] at hok
  exact hok
 cases h1 with
 | struct hu' hn1 hn2 hh =>
  refine .agg _ _ _ (by have:=h2.1;simp only [AV.cells,Value.cells,Array.length_toList] at this;exact this.symm) h2.2.1 (fun i c u a b=>h2.2.2 i c u a (by simpa [Value.cells] using b))
 | int hu'=>rw [hu] at hu';cases hu'
 | bool hu'=>rw [hu] at hu';cases hu'
 | str hu'=>rw [hu] at hu';cases hu'
 | nil hu'=>rw [hu] at hu';cases hu'
 | slice hu'=>rw [hu] at hu';cases hu'

def DReps (P:Program):List TypeId→List (DataW H)→List AV→Prop
 | [],[],[]=>True
 | t::ts,d::ds,y::ys=>DRep P t d y∧DReps P ts ds ys
 | _,_,_=>False

theorem DReps.cons' {t:TypeId} {ts:List TypeId} {ds:List (DataW H)} {ys:List AV} (h:DReps P (t::ts) ds ys):∃d ds' y ys',ds=d::ds'∧ys=y::ys'∧DRep P t d y∧DReps P ts ds' ys':=by
 match ds,ys,h with
 | d::ds',y::ys',⟨h1,h2⟩=>exact ⟨d,ds',y,ys',rfl,rfl,h1,h2⟩
 | [],_,h=>simp [DReps] at h
 | _::_,[],h=>simp [DReps] at h
theorem DReps.nil' {ds:List (DataW H)} {ys:List AV} (h:DReps P [] ds ys):ds=[]∧ys=[]:=by
 match ds,ys,h with
 | [],[],_=>exact ⟨rfl,rfl⟩
 | [],_::_,h=>simp [DReps] at h
 | _::_,_,h=>simp [DReps] at h
theorem Pz {T:TypeId→Prop} (PT:PlainT P T) {W:World} {b0:Nat}:∀(ts:List TypeId) (vs:List Value) (ds:List (DataW H)) (ps:List MemPlace),(∀t∈ts,T t) →
  (∀(j:Nat) t v,ts[j]? = some t→vs[j]? = some v→Value.okWide P W .any b0 t v)→DataW.TrodAll enc P W 0 (fun _=>true) true ts vs ds ps →
  ∃ys,DReps P ts ds ys∧ys.length=vs.length∧∀(i:Nat) (y:AV) (u:Value),ys[i]? = some y→vs[i]? = some u→Rep (G0 W) W none y u
 | [],[],[],_,_,_,_=>⟨[],trivial,rfl,fun i y u h=>by simp at h⟩
 | t::ts,v::vs,d::ds,ps,hT,hok,⟨p,q,h1,h2,_⟩=>by
  obtain ⟨y,k1,k2⟩:=ff PT (hT t (by simp)) (hok 0 t v rfl rfl) h1
  obtain ⟨ys,k3,k4,k5⟩:=Pz PT ts vs ds q (fun t ht=>hT t (by simp [ht])) (fun j t v a b=>hok (j+1) t v a b) h2
  refine ⟨y::ys,⟨k1,k3⟩,by simp [k4],fun i z u a b=>?_⟩
  match i with
  | 0=>simp at a b;subst a;subst b;exact k2
  | i+1=>exact k5 i z u a b
 | [],_::_,_,_,_,_,h=>by simp [DataW.TrodAll] at h
 | [],[],_::_,_,_,_,h=>by simp [DataW.TrodAll] at h
 | _::_,[],_,_,_,_,h=>by simp [DataW.TrodAll] at h
 | _::_,_::_,[],_,_,_,h=>by simp [DataW.TrodAll] at h

theorem Ml {W:World} {sp:Nat→Bool} {hd:Bool}:∀{ts:List TypeId} {vs:List Value} {ds:List (DataW H)} {ps:List MemPlace},DataW.TrodAll enc P W 0 sp hd ts vs ds ps→ds.length=ts.length
 | [],[],[],_,_=>rfl
 | _::_,_::_,_::_,_,⟨_,_,_,h,_⟩=>by rw [Bj,Bj,Ml h]
 | [],_::_,_,_,h=>by simp [DataW.TrodAll] at h
 | [],[],_::_,_,h=>by simp [DataW.TrodAll] at h
 | _::_,[],_,_,h=>by simp [DataW.TrodAll] at h
 | _::_,_::_,[],_,h=>by simp [DataW.TrodAll] at h
theorem Iu {W W':World} {sp:Nat→Bool}:∀{ts:List TypeId} {vs:List Value} {ds:List (DataW H)} {ps:List MemPlace},DataW.TrodAll enc P W 0 sp true ts vs ds ps→(∀p∈ps,W.sameAt W' p)→DataW.TrodAll enc P W' 0 sp true ts vs ds ps
 | [],[],[],_,h,_=>h
 | _::_,_::_,_::_,_,⟨p,q,⟨n,hn⟩,h2,e⟩,hs=>⟨p,q,⟨n,DataW.trod_carry n _ _ _ hn (fun x hx=>hs x (by rw [e];exact Zj _ hx))⟩,Iu h2 (fun x hx=>hs x (by rw [e];exact U4 _ hx)),e⟩
 | [],_::_,_,_,h,_=>by simp [DataW.TrodAll] at h
 | [],[],_::_,_,h,_=>by simp [DataW.TrodAll] at h
 | _::_,[],_,_,h,_=>by simp [DataW.TrodAll] at h
 | _::_,_::_,[],_,h,_=>by simp [DataW.TrodAll] at h

/-- **A law that answers true, for whatever can be read.** -/
theorem Y2 {f:FuncId} {fn:Func} {s:ChangeSpec} {T:TypeId→Prop} {tb:TypeId} {W:World} {base:Nat} {args:Array Value} {ds gs:List (DataW H)} {before:List MemPlace} (K:Kids P (·<P.types.size)) (hz:∀t e,t<P.types.size→P.underlying t=some (.slice e)→0<P.cellsOf e)
  (PT:PlainT P T) (hT:∀t∈fn.params.toList,T t∧t<P.types.size) (hb:P.underlying tb=some .bool) (hres:fn.resultTypes=#[tb]) (hvars:s.vars=[])
  (hspec:∀ds:List (DataW H),ds.length=fn.params.size→s.fn H ds={ results:=[.lit (.bool true)],args:=ds })
  (hval:∀(j:Nat) t v,fn.params[j]? = some t→args[j]? = some v→Value.okWide P W .any base t v) (hW:DataW.Whole enc P fn.params.toList s.vars false W args.toList ds gs before)
  (hglob:Fv W)
  (main:∀ys:List AV,DReps P fn.params.toList ds ys→AFun P f ys [] (.v (.bool true))) (hbd:GI.bd≤0:=by exact Al 0):
  Calls P f args W (fun e W'=>∃v,e=.returned v∧s.post enc P fn false true false false W args v W'):=by
 have hW0:=hW
 obtain ⟨p,q,hA,hV,hpq,hfz,hnd⟩:=hW
 rw [hvars] at hV
 obtain ⟨rfl,rfl⟩:=trodVars_none hV
 rw [Hb] at hpq
 subst hpq
 obtain ⟨ys,h1,h2,h3⟩:=Pz PT _ _ _ _ (fun t ht=>(hT t ht).1) (fun j t v a b=>hval j t v (by simpa using a) (by simpa using b)) hA
 have hlen:=Ml hA
 have hc:=main ys h1 0 (G0 W) W args (by simpa using h2.symm) (fun i y u a b=>(h3 i y u a (by simpa using b)).lift) (fc W) (fe hglob)
 refine (callsIn_wide.1 (hc hbd)).mono ?_
 rintro e W' ⟨v,G',r,H',rfl,hr,hH,hTg,hk,hl,rfl,rfl⟩
 have hv:=Ko hr
 subst hv
 refine ⟨_,rfl,ds,[],before,[],before,[],hW0,?_,?_,?_,?_,fun h=>by cases h⟩
 ·rw [hres,Hb,hspec ds (by simpa using hlen)]
  exact trodAll_cons_mk (p:=[]) (shut_bool hb true) trodAll_mk0
 ·rw [Hb,hspec ds (by simpa using hlen)]
  refine Iu (DataW.TrodAll.respare K hz (fun t ht=>(hT t ht).2) hA (fun p hp=>by simpa using hW0.lt p hp)) (fun p hp=>?_)
  have hlt:=hW0.lt p hp
  have hb:=(hk.old _ (M0 hlt)).1
  cases p with
  | cell b o=>exact F0 hb
  | map b=>exact hb
 ·rw [hvars,Hb,hspec ds (by simpa using hlen)]
  rfl
 refine ⟨hk.os,hk.output,fun i hi=>?_⟩
 have hb:=(hk.old i (M0 hi)).1
 rw [hb]
 cases ho:W.heap[i]? with
 | none=>simp
 | some o=>cases o<;>simp
end
end Go.SX
namespace Go.Proofs.YtcmnamfkljlglaaGreatDoor
open Go Go.SX Go.SX.Nb Go.ChangeShapes Go.RowKit
set_option maxRecDepth 100000

theorem own:ownKnob Tryz.prog.godebug=none:=by kernel_rfl
theorem kids:Kids Tryz.prog (·<Tryz.prog.types.size):=kids_rows (by kernel_rfl) (by kernel_rfl)
theorem full:∀t e,t<Tryz.prog.types.size→Tryz.prog.underlying t=some (.slice e)→0<Tryz.prog.cellsOf e:=slices_full_of Tryz.prog (by kernel_rfl)
theorem be {H:Type}:∀d:DataW H,1≤Rows.uptoBulk d
 | .lit (.string b)=>by rw [Rows.uptoBulk];omega
 | .lit (.bool _)=>by simp [Rows.uptoBulk]
 | .lit (.int _ _)=>by simp [Rows.uptoBulk]
 | .lit (.float _ _)=>by simp [Rows.uptoBulk]
 | .lit .nil=>by simp [Rows.uptoBulk]
 | .nil=>by simp [Rows.uptoBulk]
 | .ptr d=>by rw [Rows.uptoBulk];omega
 | .slice a b=>by rw [Rows.uptoBulk];omega
 | .agg a=>by rw [Rows.uptoBulk];omega
 | .iface _ d=>by rw [Rows.uptoBulk];omega
 | .map a=>by rw [Rows.uptoBulk];omega
 | .held _=>by simp [Rows.uptoBulk]
theorem O5 {H:Type}:∀l:List (DataW H),l.length≤Rows.uptoBulkAll l∧∀d∈l,Rows.uptoBulk d≤Rows.uptoBulkAll l
 | []=>⟨Nat.zero_le _,fun d h=>by cases h⟩
 | d::r=>by
  obtain ⟨h1,h2⟩:=O5 r
  have:=be d
  rw [Rows.uptoBulkAll,List.length_cons]
  refine ⟨by omega,fun x hx=>?_⟩
  rcases List.mem_cons.1 hx with rfl|hx
  ·omega
  have:=h2 x hx;omega
theorem Vd {H:Type}:Bulk (Rows.uptoBulk (H:=H)) where
 str:=fun bs=>by rw [Rows.uptoBulk];omega
 slice:=fun elems spare=>by
  obtain ⟨h1,h2⟩:=O5 elems
  rw [Rows.uptoBulk]
  exact ⟨by omega,fun d hd=>by have:=h2 d hd;omega⟩
 agg:=fun parts d hd=>by
  have:=(O5 parts).2 d hd
  rw [Rows.uptoBulk]
  omega

/-- What the rows of this seat list. -/
def bf:List (String×DataW Unit):=Rows.bothAgainUptoRow.laid
theorem Y3:∀u,Tryz.prog.typeName? 3 u=some "*errors.errorString" → u=260:=by
 intro u hu
 exact typeName_ptr_named (nm := "errors.errorString") (by kernel_rfl) (by kernel_rfl) (by decide) u hu
theorem fg {W:World} (h:laidMet Tryz.prog bf W):∃a:Addr,W.var? Tryz.prog "strconv.ErrRange" = some #[.iface 260 (.pointer (some a))]:=by
 have h':=h.tail.tail.tail.tail
 obtain ⟨a,s,h1,_⟩:=laid_sentinel (g:=3) (ti:=211) (tp:=260) (te:=262) (ts:=9) h' (by kernel_rfl) (by kernel_rfl) Tryz.underlying211 Y3 Tryz.underlying260 Tryz.underlying262 rfl rfl Tryz.underlying9 (by kernel_rfl) (by kernel_rfl)
 exact ⟨a,h1⟩
theorem fh {W:World} (h:laidMet Tryz.prog bf W):Lib.TabIs Tryz.prog W "internal/strconv.uint64pow10" .u64 Lib.pow10Tab:=
 Lib.tabIs_of_head (g:=4) (t:=250) (e:=77) (n:=20) (by kernel_rfl) (by kernel_rfl) (by kernel_rfl) (by kernel_rfl) (by kernel_rfl) (by kernel_rfl) h.tail.tail
theorem Q0 {P:Program} {W:World} {n:String} {g:Nat} {cs:Array Value} (hg:P.globalNamed n=some g) (h:W.var? P n=some cs):∃t f,W.heap[g]? = some (.cells cs t f):=by
 unfold World.var? at h
 rw [hg] at h
 simp only [Option.bind_some] at h
 split at h
 ·rename_i cs' t f e
  injection h with h
  subst h
  exact ⟨t,f,e⟩
 cases h
theorem glob {W:World} [E:ErrAt] (h:W.ShapedOpen Tryz.prog) (hl:laidMet Tryz.prog bf W) (he:W.var? Tryz.prog "strconv.ErrRange" = some #[.iface 260 (.pointer (some E.b))]):Fv W:=by
 intro x hx
 have hx':x∈Pt:=hx
 unfold Pt at hx'
 simp only [List.mem_cons,List.mem_nil_iff,or_false] at hx'
 rcases hx' with rfl|rfl|rfl
 ·obtain ⟨m,hm⟩:=cell_of_shapedOpen_int (g:=0) (t:=3) (zero:=#[.int .i64 0]) (k:=.i64) h (of_decide_eq_true (by kernel_rfl)) (by kernel_rfl) rfl (by kernel_rfl) (by kernel_rfl) Tryz.underlying3
  obtain ⟨cs,hh,hs,_⟩:=h.1 0 #[.int .i64 0] 3 (of_decide_eq_true (by kernel_rfl)) (by kernel_rfl)
  have hs':cs.size=1:=hs
  have h1:0<cs.size:=by omega
  have hc:cs[0]=.int .i64 m:=by
   simp [World.cell?,hh,h1] at hm
   exact hm
  have:cs=#[.int .i64 m]:=by
   apply Array.ext
   ·simpa using hs'
   intro i h1 h2
   have:i=0:=by omega
   subst this
   simpa using hc
  rw [this] at hh
  exact ⟨_,hh,m,3,_,rfl⟩
 ·obtain ⟨t,f,e⟩:=Q0 (g:=3) (by kernel_rfl) he
  exact ⟨_,e,t,f,rfl⟩
 obtain ⟨t,f,e⟩:=Q0 (g:=4) (by kernel_rfl) (fh hl)
 exact ⟨_,e,t,f,rfl⟩
end Go.Proofs.YtcmnamfkljlglaaGreatDoor
namespace Go.SX.Nb
open Go Go.SX Go.Proofs
variable [ErrAt]
set_option maxRecDepth 4000
mutual
def M1:Expr→Nat
 | .mk _ _ _ k=>O6 k+1
def O6:List Expr→Nat
  | []=>0
  | e::r=>max (M1 e) (O6 r)
 end
mutual
def D6 (p:Expr→Bool):Expr→Bool
 | .mk o t v k=>p (.mk o t v k)&&H0 p k
def H0 (p:Expr→Bool):List Expr→Bool
  | []=>true
  | e::r=>D6 p e&&H0 p r
 end
mutual
def M2:Expr→List Expr
 | .mk o t v k=>.mk o t v k::M3 k
def M3:List Expr→List Expr
  | []=>[]
  | e::r=>M2 e++M3 r
 end
theorem L0 (p:Expr→Bool) (e:Expr):D6 p e=(p e&&H0 p e.kids):=by cases e;rfl
theorem L1:∀a b,Ek (a++b)=Ek a+Ek b
 | [],b=>by rw [Dq,Ek,C4]
 | e::r,b=>by rw [Dv,Ek,Ek,L1 r b,Kk]
theorem Ee (p:Expr→Bool):∀l:List Expr,H0 p l=true↔∀y∈l,D6 p y=true
 | []=>by simp [H0]
 | e::r=>by rw [H0,Ah,Ee p r];simp
mutual
theorem Fz:∀(d:Int) (e:Expr),(B9 d e).length=Kw e
 | d,.mk o t v k=>by rw [B9,Kw,Bj,O7 (d+1) k,Nat.add_comm]
theorem O7:∀(d:Int) (l:List Expr),(At d l).length=Ek l
  | d,[]=>rfl
  | d,e::r=>by rw [At,Ek,Ai,Fz d e,O7 d r]
 end
mutual
theorem O8:∀(d:Int) (e:Expr),(B9 d e).map (·.2)=M2 e
 | d,.mk o t v k=>by rw [B9,M2,Dg,O9 (d+1) k]
theorem O9:∀(d:Int) (l:List Expr),(At d l).map (·.2)=M3 l
  | d,[]=>rfl
  | d,e::r=>by rw [At,M3,Cu,O8 d e,O9 d r]
 end
mutual
theorem Q2 (p:Expr→Bool):∀e:Expr,(M2 e).all p=D6 p e
 | .mk o t v k=>by rw [M2,D6,List.all_cons,Oa p k]
theorem Oa (p:Expr→Bool):∀l:List Expr,(M3 l).all p=H0 p l
  | []=>rfl
  | e::r=>by rw [M3,H0,List.all_append,Q2 p e,Oa p r]
 end
theorem Y4 (p:Expr→Bool) (d:Int) (e:Expr):((B9 d e).all fun it=>p it.2)=D6 p e:=by
 rw [←Q2 p e,←O8 d e,List.all_map]
 rfl
def I1 (m:Int) (L:List (Int×Expr)):Int:=L.foldl (fun m it=>max m it.1) m
mutual
theorem Ob:∀(d m:Int) (e:Expr),I1 m (B9 d e)=max m (d-1+M1 e)
 | d,m,.mk o t v k=>by
  rw [B9,M1]
  show I1 (max m d) (At (d+1) k)=_
  rw [Oc (d+1) (max m d) k (by omega)]
  omega
theorem Oc:∀(d m:Int) (l:List Expr),d-1≤m→I1 m (At d l)=max m (d-1+O6 l)
  | d,m,[],h=>by
    rw [At,O6]
    show m=_
    omega
  | d,m,e::r,h=>by
    rw [At,O6]
    unfold I1
    rw [List.foldl_append]
    show I1 (I1 m (B9 d e)) (At d r)=_
    rw [Ob d m e,Oc d _ r (by omega)]
    omega
 end
theorem Sx (e:Expr):I1 0 (B9 1 e)=M1 e:=by rw [Ob];omega
theorem Sy:∀(L:List (Int×Expr)) (m b:Int),m≤b→(I1 m L≤b↔∀it∈L,it.1≤b)
 | [],m,b,h=>by simp [I1,h]
 | it::r,m,b,h=>by
  show I1 (max m it.1) r≤b↔_
  rcases Decidable.em (it.1≤b) with h1|h1
  ·rw [Sy r (max m it.1) b (by omega)]
   simp [h1]
  constructor
  ·intro h2
   have:∀(r:List (Int×Expr)) (m:Int),m≤I1 m r:=by
    intro r
    induction r with
    | nil=>intro m;exact Int.le_refl _
    | cons a r ih=>intro m;have:=ih (max m a.1);show m≤I1 (max m a.1) r;omega
   have:=this r (max m it.1)
   omega
  intro h2
  exact absurd (h2 it (by simp)) h1
theorem fj (e:Expr) {b:Nat}:(∀it∈B9 1 e,it.1≤(b:Int))↔M1 e≤b:=by
 rw [←Sy (B9 1 e) 0 b (by omega),Sx]
 omega
def H1 (e:Expr):Bool:=(decide (M1 e≤30)&&decide (Kw e≤300))&&D6 D5 e
theorem L2 (e:Expr):B1 e=H1 e:=by
 have hpos:1≤Kw e:=by rw [So];omega
 rw [Nc]
 unfold B1 H1
 rw [Ax]
 simp only [Ah,decide_eq_true_eq,Kh,Fz]
 rw [←fj e,←Y4 D5 1 e,Ax]
 constructor
 ·intro h
  have key:∀(k:Nat) (hk:k<(B9 1 e).length),D5 (B9 1 e)[k].2=true∧(B9 1 e)[k].1≤30∧(k:Int)+1≤300:=fun k hk=>by
   have:=h k (by rw [Fz] at hk;exact hk)
   rw [Re (A9 hk)] at this
   simp only [I8,D0,Nd,decide_eq_false_iff_not] at this
   exact ⟨this.1.1,by have:=this.1.2;omega,by have:=this.2;omega⟩
  refine ⟨⟨fun it hit=>?_,?_⟩,fun it hit=>?_⟩
  ·obtain ⟨k,hk,rfl⟩:=U2 hit
   exact (key k hk).2.1
  ·have:=(key (Kw e-1) (by rw [Fz];omega)).2.2
   omega
  obtain ⟨k,hk,rfl⟩:=U2 hit
  exact (key k hk).1
 rintro ⟨⟨h1,h2⟩,h3⟩ k hk
 have hk':k<(B9 1 e).length:=by rw [Fz];exact hk
 rw [Re (A9 hk')]
 have a1:=h1 _ (Bc hk')
 have a3:=h3 _ (Bc hk')
 have a3':D5 (B9 1 e)[k].2=true:=a3
 rw [a3']
 simp only [I8,D0,Tw,decide_eq_false_iff_not]
 exact ⟨⟨trivial,by have:(B9 1 e)[k].1≤(30:Int):=a1;omega⟩,by omega⟩
/-- Its number is one of 64 bits. -/
def H2 (e:Expr):Bool:=decide (-9223372036854775808≤e.val.n)&&decide (e.val.n≤9223372036854775807)
/-! Names. -/
def named (s:Str) (e:Expr):Bool:=(M2 e).any fun y=>(y.op==2)&&(y.text==s)
mutual
def eqE:Expr→Expr→Bool
 | .mk o t v k,.mk o' t' v' k'=>((((o==o')&&(t==t'))&&((v.kind==v'.kind&&v.n==v'.n)&&v.s==v'.s)))&&eqL k k'
def eqL:List Expr→List Expr→Bool
  | [],[]=>true
  | e::r,e'::r'=>eqE e e'&&eqL r r'
  | _,_=>false
 end
theorem jn (x y:Expr):eqE x y=((((x.op==y.op)&&(x.text==y.text))&&((x.val.kind==y.val.kind&&x.val.n==y.val.n)&&x.val.s==y.val.s))&&eqL x.kids y.kids):=by
 cases x;cases y;rw [eqE];rfl
mutual
theorem Rj:∀x y:Expr,eqE x y=true↔x=y
 | .mk o t v k,.mk o' t' v' k'=>by
  rw [eqE]
  simp only [Ah,beq_iff_eq,L3 k k',Expr.mk.injEq]
  constructor
  ·rintro ⟨⟨⟨rfl,rfl⟩,⟨h1,h2⟩,h3⟩,rfl⟩
   refine ⟨rfl,rfl,?_,rfl⟩
   cases v;cases v'
   simp_all
  rintro ⟨rfl,rfl,rfl,rfl⟩
  exact ⟨⟨⟨rfl,rfl⟩,⟨rfl,rfl⟩,rfl⟩,rfl⟩
theorem L3:∀x y:List Expr,eqL x y=true↔x=y
  | [],[]=>by simp [eqL]
  | [],e::r=>by simp [eqL]
  | e::r,[]=>by simp [eqL]
  | e::r,e'::r'=>by rw [eqL,Ah,Rj e e',L3 r r',Qo]
 end
theorem fk:∀{x y:List Expr},eqL x y=true→x.length=y.length:=fun h=>by rw [(L3 _ _).1 h]
theorem bg (x:Expr):eqE x x=true:=(Rj x x).2 rfl
/-! A node by itself, and marks. -/
theorem Rk {of:Str} {ws:List Str} (h:of=Is ws) (hp:∀w∈ws,(32:UInt8)∉w) (s:Str):Jc s of=(!(s==[])&&ws.contains s):=by
 unfold Jc
 rw [Sv]
 cases hb:s.contains 32 with
 | false =>
  have h2:(32:UInt8)∉s:=by simpa using hb
  rw [h,Fy s h2 ws hp,Bool.not_false,Tt]
  congr 1
  rw [List.contains_eq_any_beq]
  congr 1
  funext w
  rw [Nc,beq_iff_eq,beq_iff_eq]
  exact eq_comm
 | true =>
  have h2:(32:UInt8)∈s:=by simpa using hb
  have h3:ws.contains s=false:=by
   rw [I7]
   intro h4
   exact hp s (by simpa using h4) h2
  rw [h3]
  simp
def levels:List (List Str):=[[[111,114]],[[97,110,100]],[],[[61],[33,61],[60],[60,61],[62],[62,61]],[[43],[45],[38]],[[42],[47],[37]]]
def F7 (s:Str):Int:=match levels.findIdx? (fun l=>l.contains s) with|some i=>i|none => -1
def M4:List Str:=[[111,114],[],[97,110,100],[],[61],[33,61],[60],[60,61],[62],[62,61],[],[43],[45],[38],[],[42],[47],[37]]
theorem Ve:Jd=Is M4:=by kernel_rfl
theorem Sz:∀w∈M4,(32:UInt8)∉w:=by decide
theorem Vf (s:Str):Jc s Jd=decide (0≤F7 s):=by
 rw [Rk Ve Sz s]
 have h1:decide (0≤F7 s)=levels.any (fun l=>l.contains s):=by
  unfold F7
  cases h:levels.findIdx? (fun l=>l.contains s) with
  | some i =>
   have:levels.any (fun l=>l.contains s)=true:=by
    have:=Jr.1 h
    obtain ⟨hi,hp,_⟩:=this
    exact Gl.2 ⟨_,Bc hi,hp⟩
   rw [this]
   simp
  | none =>
   have:=Nf.1 h
   have e:levels.any (fun l=>l.contains s)=false:=by
    rw [Fl]
    intro l hl
    rw [this l hl]
    simp
   rw [e]
   rfl
 rw [h1]
 by_cases h0:s=[]
 ·subst h0;rfl
 have:(s==[])=false:=by simpa using h0
 rw [this,Bool.not_false,Jq]
 simp [levels,M4,h0,Bool.or_assoc]
def Od (e:Expr):Bool:=
 if e.op==1 then ((Cn e.val&&decide (0≤e.val.n))&&(e.text==[]))&&((e.kids.length:Int)==0)
 else if !(I0 e.val) then false
 else if e.op==2 then Mj e.text&&((e.kids.length:Int)==0)
 else if e.op==3 || e.op==4 then (e.text==[])&&((e.kids.length:Int)==1)
 else if e.op==5 then decide (0≤F7 e.text)&&((e.kids.length:Int)==2)
 else if e.op==6 then Be e.text==(e.kids.length:Int)
 else false
theorem T0 (e:Expr):D5 e=Od e:=by
 unfold D5 Od
 rw [Vf,Hs]
 cases I0 e.val<;>simp
/-! What is wide. -/
def M5 (e:Expr):Bool:=((decide ((100:Int)<e.text.length) || decide ((400:Int)<e.val.s.length)) || decide ((100:Int)<e.kids.length))
/-- Among trees, when n have been seen: is one too much? -/
def Jm (l:List Expr) (n:Nat):Bool:=decide (500<n+l.length) || l.any M5
def Dz:Nat→List Expr→Nat→Bool
 | 0,l,n => !l.isEmpty
 | f+1,l,n=>if l.isEmpty then false else if Jm l n then true else if decide ((500:Int)<(l.flatMap Expr.kids).length) then true else Dz f (l.flatMap Expr.kids) (n+l.length)
theorem Oe:∀l:List Expr,Ek l=l.length+Ek (l.flatMap Expr.kids)
 | []=>rfl
 | e::r=>by
  rw [Ek,So,U1,L1,Oe r,Bj]
  omega
theorem Of {l:List Expr} {n:Nat} (h:Jm l n=false):n+l.length≤500∧∀e∈l,M5 e=false:=by
 unfold Jm at h
 simp only [D0,decide_eq_false_iff_not,Fl,Bool.not_eq_true] at h
 exact ⟨by omega,h.2⟩
theorem Rl {e:Expr} (h:M5 e=false):e.text.length≤100∧e.val.s.length≤400∧e.kids.length≤100:=by
 unfold M5 at h
 simp only [D0,decide_eq_false_iff_not] at h
 omega
theorem Q3 {f:Nat} {l:List Expr} {n:Nat} (h:Dz (f+1) l n=false) (hl:l.isEmpty=false):Jm l n=false∧(l.flatMap Expr.kids).length≤500∧Dz f (l.flatMap Expr.kids) (n+l.length)=false:=by
 rw [Dz,if_neg (by rw [hl];simp)] at h
 split at h
 ·cases h
 rename_i h1
 split at h
 ·cases h
 rename_i h2
 simp only [decide_eq_true_eq] at h2
 exact ⟨by simpa using h1,by omega,h⟩
theorem Wb:∀(f:Nat) (l:List Expr) (n:Nat),Dz f l n=false→∀e∈l,okE f e∧D6 (fun y => !M5 y) e=true
 | 0,l,n,h,e,he=>by
  have:l=[]:=by simpa [Dz] using h
  subst this
  cases he
 | f+1,l,n,h,e,he=>by
  have hl:l.isEmpty=false:=by cases l<;>simp_all
  obtain ⟨h1,h2,h3⟩:=Q3 h hl
  have h4:=Rl ((Of h1).2 e he)
  have ih:=Wb f _ _ h3
  have hk:∀y∈e.kids,okE f y∧D6 (fun y => !M5 y) y=true:=fun y hy=>ih y (List.mem_flatMap.2 ⟨e,he,hy⟩)
  refine ⟨⟨by omega,by omega,fun y hy=>(hk y hy).1⟩,?_⟩
  rw [L0,(Of h1).2 e he,(Ee _ _).2 fun y hy=>(hk y hy).2]
  rfl
theorem Q4:∀(f:Nat) (l:List Expr) (n:Nat),n≤500→Dz f l n=false→n+Ek l≤500
 | 0,l,n,hn,h=>by
  have:l=[]:=by simpa [Dz] using h
  subst this
  simpa [Ek] using hn
 | f+1,l,n,hn,h=>by
  by_cases hl:l.isEmpty=true
  ·have:l=[]:=by simpa using hl
   subst this
   simpa [Ek] using hn
  have hl':l.isEmpty=false:=by simpa using hl
  obtain ⟨h1,h2,h3⟩:=Q3 h hl'
  have:=Q4 f _ _ (Of h1).1 h3
  rw [Oe l]
  omega
def Og (e:Expr):Bool:=Dz 61 [e] 0
/-- A tree that is gone through. -/
structure Slim (e:Expr):Prop where
 ok:okE 61 e
 size:Kw e≤500
 slim:D6 (fun y => !M5 y) e=true
theorem fl {e:Expr} (h:Og e=false):Slim e:=by
 obtain ⟨h1,h2⟩:=Wb _ _ _ h e (by simp)
 have:=Q4 _ _ _ (by decide) h
 exact ⟨h1,by simpa [Ek] using this,h2⟩
end Go.SX.Nb
namespace Go.Proofs.YtcmnamfkljlglaaGreatDoor
open Go Go.SX Go.SX.Nb Go.ChangeShapes Go.RowKit
set_option maxRecDepth 100000
theorem Vg {ys:List AV} (h:∀(i:Nat) (y:AV),ys[i]? = some y→∃e:Nb.Expr,y=Af e∧D6 H2 e=true):∃l:List Nb.Expr,ys=l.map Af∧H0 H2 l=true:=by
 induction ys with
 | nil=>exact ⟨[],rfl,rfl⟩
 | cons y ys ih =>
  obtain ⟨e,rfl,he⟩:=h 0 y rfl
  obtain ⟨l,rfl,hl⟩:=ih (fun i z hz=>h (i+1) z hz)
  exact ⟨e::l,rfl,by rw [H0,he,hl];rfl⟩
theorem Wc {H:Type} [ErrAt] (d:DataW H) (y:AV) (h:DRep Tryz.prog 44 d y):∃v:Val,y=Av v ∧ -9223372036854775808≤v.n∧v.n≤9223372036854775807:=by
 obtain ⟨ys,hn,rfl,hh⟩:=h.struct' Vd Tryz.underlying44
 match ys,hn with
 | [y0,y1,y2],_ =>
  obtain ⟨d0,b0,h0⟩:=hh 0 _ y0 rfl rfl
  obtain ⟨d1,b1,h1⟩:=hh 1 _ y1 rfl rfl
  obtain ⟨d2,b2,h2⟩:=hh 2 _ y2 rfl rfl
  obtain ⟨k,rfl,rfl,_⟩:=h0.int' Tryz.underlying3
  obtain ⟨n,rfl,rfl,hn1,hn2⟩:=h1.int' Tryz.underlying2
  obtain ⟨s,rfl,rfl⟩:=h2.str' Tryz.underlying9
  exact ⟨⟨k,n,s⟩,rfl,hn1,hn2⟩
theorem bh {H:Type} [ErrAt] {t:TypeId} {d:DataW H} {y:AV} (h:DRep Tryz.prog t d y):(t=53→∃e:Nb.Expr,y=Af e∧D6 H2 e=true)∧(t=48→∃l:List Nb.Expr,y=.slice false 6 (l.map Af)∧H0 H2 l=true):=by
 induction h with
 | int hu _=>exact ⟨fun e=>(by subst e;rw [Tryz.underlying53] at hu;cases hu),fun e=>by subst e;rw [Tryz.underlying48] at hu;cases hu⟩
 | bool hu=>exact ⟨fun e=>(by subst e;rw [Tryz.underlying53] at hu;cases hu),fun e=>by subst e;rw [Tryz.underlying48] at hu;cases hu⟩
 | str hu=>exact ⟨fun e=>(by subst e;rw [Tryz.underlying53] at hu;cases hu),fun e=>by subst e;rw [Tryz.underlying48] at hu;cases hu⟩
 | nil hu =>
  refine ⟨fun e=>(by subst e;rw [Tryz.underlying53] at hu;cases hu),fun e=>?_⟩
  subst e
  rw [Tryz.underlying48] at hu
  injection hu with hu
  injection hu with hu
  subst hu
  exact ⟨[],by rw [show Tryz.prog.cellsOf 53=6 by kernel_rfl];rfl,rfl⟩
 | slice hu hn hh ih =>
  refine ⟨fun e=>(by subst e;rw [Tryz.underlying53] at hu;cases hu),fun e=>?_⟩
  subst e
  rw [Tryz.underlying48] at hu
  injection hu with hu
  injection hu with hu
  subst hu
  rename_i elems spare ys
  obtain ⟨l,rfl,hl⟩:=Vg (ys:=ys) (fun i y hy=>by
   have hlt:i<elems.length:=by rw [←hn];exact (List.getElem?_eq_some_iff.1 hy).1
   exact (ih i elems[i] y (List.getElem?_eq_getElem hlt) hy).1 rfl)
  exact ⟨l,by rw [show Tryz.prog.cellsOf 53=6 by kernel_rfl],hl⟩
 | struct hu hn hn' hh ih =>
  refine ⟨fun e=>?_,fun e=>by subst e;rw [Tryz.underlying48] at hu;cases hu⟩
  subst e
  rw [Tryz.underlying53] at hu
  injection hu with hu
  injection hu with hu
  subst hu
  rename_i parts ys
  match parts,hn,ys,hn' with
  | [p0,p1,p2,p3],_,[y0,y1,y2,y3],_ =>
   obtain ⟨o,rfl,rfl,_⟩:=(hh 0 _ p0 y0 rfl rfl rfl).int' Tryz.underlying3
   obtain ⟨s,rfl,rfl⟩:=(hh 1 _ p1 y1 rfl rfl rfl).str' Tryz.underlying9
   obtain ⟨v,rfl,hv1,hv2⟩:=Wc p2 y2 (hh 2 _ p2 y2 rfl rfl rfl)
   obtain ⟨l,rfl,hl⟩:=(ih 3 _ p3 y3 rfl rfl rfl).2 rfl
   refine ⟨.mk o s v l,?_,?_⟩
   ·rw [Fx];rfl
   rw [D6,hl,Bool.and_true]
   show (decide (-9223372036854775808≤v.n)&&decide (v.n≤9223372036854775807))=true
   simp [hv1,hv2]
end Go.Proofs.YtcmnamfkljlglaaGreatDoor
namespace Go.SX.Nb
open Go Go.SX Go.Proofs
variable [ErrAt]
set_option maxRecDepth 4000
/-! ### Gaps -/
/-! ### Words -/
/-! What is printed of columns, word by word. -/
def ktT (t:Tok):Int×Str:=(t.kind,t.text)
theorem wrap_u64 {n:Int} (h1:0≤n) (h2:n<18446744073709551616):IntKind.u64.wrap n=n:=by
 have e1:(2 ^ IntKind.u64.bits:Int)=18446744073709551616:=rfl
 have e3:IntKind.u64.signed=false:=rfl
 unfold IntKind.wrap
 simp only [e1,e3,Tu]
 simp
 omega
/-! What is printed of a schema is read. -/
theorem om (c:List Col) (Hp:List AObj):AFun Tryz.prog 6 [Ad c] Hp (Ag (Ed c)):=by
 refine Ac [.tmp 2] [0] Tryz.func6 Tryz.ntmps6 (fun d=>?_)
 refine Ut ?_;refine A0 [0,6] ?_
 refine A1 (fun ht6=>?_) (fun ht6=>?_)
 ·refine Z51 ?_;refine Bn ?_;exact A5 (Aa A4) ⟨by simp [Ed] at ht6 ⊢;omega,rfl⟩
 refine Pc ?_;refine Mw ?_
 refine Bz (α:=Nat) (fun x=>⟨20,A6 0 (Ad c) (A6 3 (A3 (x:Nat)) (fun _=>.any)),Hp,[],[],none⟩) (fun x=>x≤c.length∧∀(j:Nat) (y:Col),j<x→c[j]? = some y→decide ((100:Int)<y.name.length)=false) (fun x=>c.length-x) (0) (by simp) (Li _) rfl (fun x hx=>?_)
 refine Z93 ?_;refine A0 [0,3,10] ?_
 refine A1 (fun ht10=>?_) (fun ht10=>?_)
 ·have hlt:x<c.length:=by simpa using ht10
  have hcl:c.length≤50:=by simp at ht6;omega
  refine Z9 ?_;refine Xg ?_
  refine A2 (h:=Ab (x) (Co c[x]) (fun _=>As hlt)) (hr:=?_)
  refine Lp ?_;refine A0 [0,3,19] ?_
  refine A1 (fun ht19=>?_) (fun ht19=>?_)
  ·refine Xo ?_;exact A5 (Aa A4) ⟨by rw [show Ed c=true from by unfold Ed;rw [je (p:=fun y:Col=>decide ((100:Int)<y.name.length)) hlt ht19,F3]],rfl⟩
  refine Z50 ?_;refine ag ?_;exact B0 (x+1) ⟨hlt,Ce hlt hx.2 ht19⟩ (by omega) (Dn rfl)
 refine Pb ?_;refine Z51 ?_;exact A5 (Aa A4) ⟨by rw [show Ed c=false from by unfold Ed;rw [au (Ku (by simp at ht10;omega) hx.2)];simpa using ht6],rfl⟩
theorem Wd {c:List Col} (h:Ed c=false):OkCols c:=by
 unfold Ed at h
 simp only [D0,decide_eq_false_iff_not,Fl,decide_eq_true_eq] at h
 refine ⟨by omega,fun y hy=>?_⟩
 have:=h.2 y hy
 omega
def I4 {α:Type} [BEq α] (v:α) (l:List α):Int:=match l.findIdx? (·==v) with|some i=>i|none => -1
theorem jo {α:Type} [BEq α] [LawfulBEq α] {v:α} {l:List α} {x:Nat} (h:x<l.length) (h1:l[x]=v) (h2:∀(j:Nat) (y:α),j<x→l[j]? = some y→¬(y=v)):I4 v l=x:=by
 have:l.findIdx? (·==v)=some x:=by
  rw [Jr]
  exact ⟨h,by simpa using h1,fun j hj=>by simpa using h2 j l[j] hj (A9 _)⟩
 simp [I4,this]
theorem bi {α:Type} [BEq α] [LawfulBEq α] {v:α} {l:List α} (h:∀(j:Nat) (y:α),l[j]? = some y→¬(y=v)):I4 v l = -1:=by
 have:l.findIdx? (·==v)=none:=by
  rw [Nf]
  intro y hy
  obtain ⟨j,hj⟩:=C3 hy
  simpa using h j y hj
 simp [I4,this]
theorem We {α:Type} [BEq α] [LawfulBEq α] (v:α) (l:List α):decide (0≤I4 v l)=l.contains v:=by
 unfold I4
 cases h:l.findIdx? (·==v) with
 | none =>
  rw [Nf] at h
  have:l.contains v=false:=by
   rw [I7]
   intro hc
   have:=h v (by simpa using hc)
   simp at this
  rw [this];rfl
 | some i =>
  rw [Jr] at h
  obtain ⟨hi,e,_⟩:=h
  have:l.contains v=true:=by
   have:l[i]=v:=by simpa using e
   rw [←this]
   simp
  rw [this]
  simp only [decide_eq_true_eq]
  omega
theorem c70 (l:List Str) (v:Str) (hl:l.length≤1048576) (Hp:List AObj):AFun Tryz.prog 70 [Ec l,Am v] Hp (A3 (I4 v l)):=by
 refine Ac [.tmp 4] [0,1] Tryz.func70 Tryz.ntmps70 (fun d=>?_)
 refine af ?_
 refine Bz (α:=Nat) (fun x=>⟨19,A6 0 (Ec l) (A6 1 (Am v) (A6 7 (A3 l.length) (A6 8 (A3 (x:Nat)) (fun _=>.any)))),Hp,[],[],none⟩) (fun x=>x≤l.length∧∀(j:Nat) (y:Str),j<x→l[j]? = some y→¬(y=v)) (fun x=>l.length-x) (0) (by simp) (Bf (by simp)) rfl (fun x hx=>?_)
 refine ac ?_
 refine C5 (fun ht9=>?_) (fun ht9=>?_)
 ·have hlt:x<l.length:=by simpa using ht9
  refine aa ?_;refine Z8 ?_
  refine A2 (h:=Ab (x) (Am l[x]) (fun _=>As hlt)) (hr:=?_)
  refine Z1 ?_;refine aj ?_
  refine A1 (fun ht16=>?_) (fun ht16=>?_)
  ·refine Xp ?_;refine Z53 ?_;exact A5 (Aa A4) ⟨by rw [jo hlt (by simpa using (Eq.symm (by simpa using ht16):l[x]=v)) hx.2],rfl⟩
  refine Z50 ?_;refine A0 [0,1,7,8] ?_;exact B0 (x+1) ⟨hlt,Ce hlt hx.2 (fun e=>by rw [e] at ht16;simp at ht16)⟩ (by omega) (Dn rfl)
 refine Z29 ?_;refine Z54 ?_;exact A5 (Aa A4) ⟨by rw [bi (Ku (by simp at ht9;omega) hx.2)],rfl⟩

theorem c53 (l:List Str) (v:Str) (hl:l.length≤1048576) (Hp:List AObj):AFun Tryz.prog 53 [Ec l,Am v] Hp (Ag (l.contains v)):=by
 refine Ac [.tmp 4] [0,1] Tryz.func53 Tryz.ntmps53 (fun d=>?_)
 refine Z41 ?_;refine Z3 ?_;refine A7 Tryz.call70 (c70 l v hl _) ?_;refine Z1 ?_;refine Z17 ?_;exact A5 (Aa A4) ⟨by rw [We],rfl⟩

theorem Y5 {n k:Nat} {o:Bool} {l:List Col} {z:Col}:Low n (.slice o k (l.map Co++[Co z])):=by
 refine .slice _ _ _ (fun y hy=>?_)
 have key:∀c:Col,∀w∈(Co c).cells,Low n w:=by
  intro c w hw
  have hw':w∈[AV.v (sv c.name),AV.v (.int .i64 c.kind)]:=hw
  simp only [Cd,N1,or_false] at hw'
  rcases hw' with rfl|rfl
  ·exact .v _
  exact .v _
 rcases Em.1 hy with hy|hy
 ·obtain ⟨a,_,rfl⟩:=Ca.1 hy
  exact key a
 rw [Ay.1 hy]
 exact key z
def Je (c:List Col) (take:List Str) (j:Nat) (nm:Str):Bool := !(decide (B7 nm c<0) || (I4 nm take != (j:Int)))
def Ef (c:List Col) (take:List Str):Bool:=take.zipIdx.all fun x=>Je c take x.2 x.1
theorem takenM_true {c:List Col} {take:List Str}:Ef c take=true↔∀(j:Nat) (y:Str),take[j]? = some y→Je c take j y=true:=K1
def L4 (c:List Col) (x:Nat) (y:Col):Bool := !((!Mj y.name) || (B7 y.name c != (x:Int)))
def G4 (c:List Col):Bool:=c.zipIdx.all fun x=>L4 c x.2 x.1
theorem namedC_true {c:List Col}:G4 c=true↔∀(j:Nat) (y:Col),c[j]? = some y→L4 c j y=true:=K1
def Ci (c:List Col) (take:List Str):List Col:=c.filter fun y => !take.contains y.name
theorem fm {c:List Col} {take:List Str} {k:Nat} {y:Col} (h:c[k]? = some y) (hn:take.contains y.name=false):Ci (c.take (k+1)) take=Ci (c.take k) take++[y]:=by
 unfold Ci
 have e:c.take (k+1)=c.take k++[y]:=by rw [List.take_succ,h];rfl
 have hm:¬y.name∈take:=by simpa using hn
 rw [e,Qq]
 simp [Qr,hm]
theorem Y6 {c:List Col} {take:List Str} {k:Nat} {y:Col} (h:c[k]? = some y) (hn:take.contains y.name=true):Ci (c.take (k+1)) take=Ci (c.take k) take:=by
 unfold Ci
 have e:c.take (k+1)=c.take k++[y]:=by rw [List.take_succ,h];rfl
 have hm:y.name∈take:=by simpa using hn
 rw [e,Qq]
 simp [Qr,hm]
theorem Iv (c:List Col) (take:List Str):(Ci c take).length≤c.length:=Zi _ _
def Cg (c:List Col) (take:List Str) (give:List Col):List Col×Int:=
 if D3 c=false then ([],1) else if Ef c take=false then ([],9) else if G4 (Ci c take++give)=false then ([],9)
 else if Hz (Ci c take++give)=false then ([],10) else if 12<(Ci c take++give).length then ([],3) else (Ci c take++give,0)
theorem bj {c:List Col} {take:List Str} {give:List Col} (h:D3 c=false):Cg c take give=([],1):=by unfold Cg;rw [if_pos h]
theorem bm {c:List Col} {take:List Str} {give:List Col} (h:D3 c=true) (h2:Ef c take=false):Cg c take give=([],9):=by unfold Cg;rw [if_neg (by rw [h];simp),if_pos h2]
theorem bn {c:List Col} {take:List Str} {give out:List Col} (h:D3 c=true) (h2:Ef c take=true) (ho:Ci c take++give=out) (h3:G4 out=false):Cg c take give=([],9):=by
 unfold Cg;rw [ho,if_neg (by rw [h];simp),if_neg (by rw [h2];simp),if_pos h3]
theorem bo {c:List Col} {take:List Str} {give out:List Col} (h:D3 c=true) (h2:Ef c take=true) (ho:Ci c take++give=out) (h3:G4 out=true) (h4:Hz out=false):Cg c take give=([],10):=by
 unfold Cg;rw [ho,if_neg (by rw [h];simp),if_neg (by rw [h2];simp),if_neg (by rw [h3];simp),if_pos h4]
theorem bp {c:List Col} {take:List Str} {give out:List Col} (h:D3 c=true) (h2:Ef c take=true) (ho:Ci c take++give=out) (h3:G4 out=true) (h4:Hz out=true) (h5:12<out.length):Cg c take give=([],3):=by
 unfold Cg;rw [ho,if_neg (by rw [h];simp),if_neg (by rw [h2];simp),if_neg (by rw [h3];simp),if_neg (by rw [h4];simp),if_pos h5]
theorem bq {c:List Col} {take:List Str} {give out:List Col} (h:D3 c=true) (h2:Ef c take=true) (ho:Ci c take++give=out) (h3:G4 out=true) (h4:Hz out=true) (h5:¬12<out.length):Cg c take give=(out,0):=by
 unfold Cg;rw [ho,if_neg (by rw [h];simp),if_neg (by rw [h2];simp),if_neg (by rw [h3];simp),if_neg (by rw [h4];simp),if_neg h5]
theorem M6 {c:List Col} (h:D3 c=true):c.length≤12:=by
 unfold D3 at h
 simp at h
 omega
theorem br {c give:List Col} {take:List Str} {out:List Col} (hc:OkCols c) (h:D3 c=true) (hg:OkCols give) (hg2:give.length≤1000000) (ho:Ci c take++give=out):OkCols out:=by
 subst ho
 have h1:=Iv c take
 have h2:=M6 h
 refine ⟨by simp only [Ai];omega,fun y hy=>?_⟩
 rcases Em.1 hy with hy|hy
 ·exact hc.2 y ((Qw.1 hy).1)
 exact hg.2 y hy
theorem oo (c:List Col) (hc:OkCols c) (take:List Str) (ht:take.length≤1048576) (Hp:List AObj):AFun Tryz.prog 118 [Ad c,Ec take] Hp (Ag (Ef c take)):=by
 refine Ac [.tmp 4] [0,1] Tryz.func118 Tryz.ntmps118 (fun d=>?_)
 refine ae ?_;refine A0 [0,1,7,8,9] ?_
 refine Bz (α:=Nat) (fun x=>⟨26,A6 0 (Ad c) (A6 1 (Ec take) (A6 7 (Ec take) (A6 8 (A3 take.length) (A6 9 (A3 (x:Nat)) (fun _=>.any))))),Hp,[],[],none⟩) (fun x=>x≤take.length∧∀(j:Nat) (y:Str),j<x→take[j]? = some y→Je c take j y=true) (fun x=>take.length-x) (0) (by simp) (Bf (by simp)) rfl (fun x hx=>?_)
 refine Z0 ?_;refine A0 [0,1,7,8,9,10] ?_
 refine C5 (fun ht10=>?_) (fun ht10=>?_)
 ·have hlt:x<take.length:=by simpa using ht10
  refine Nu ?_
  refine A2 (h:=Ab (x) (Am take[x]) (fun _=>As hlt)) (hr:=?_)
  refine Z37 ?_;refine A0 [0,1,5,6,7,8,9] ?_;refine Z3 ?_;refine A7 Tryz.call71 (c71 c hc _ _) ?_;refine Nv ?_;refine Br Tryz.call70 (fun hB=>c70 take _ ht _) ?_;refine Uq ?_;refine A0 [0,1,7,8,9,24] ?_
  refine A1 (fun ht24=>?_) (fun ht24=>?_)
  ·refine Z54 ?_;refine Z53 ?_
   exact A5 (Aa A4) ⟨by rw [show Ef c take=false from I7.2 fun h=>by have:=takenM_true.1 h x take[x] (A9 hlt);unfold Je at this;rw [ht24] at this;cases this],rfl⟩
  refine Z50 ?_;refine A0 [0,1,7,8,9] ?_;exact B0 (x+1) ⟨hlt,Fw hlt hx.2 (by unfold Je;rw [ht24];rfl)⟩ (by omega) (Dn rfl)
 refine Z29 ?_;refine Z54 ?_;exact A5 (Aa A4) ⟨by rw [takenM_true.2 (Gz (by simp at ht10;omega) hx.2)],rfl⟩

theorem ot (c:List Col) (hc:OkCols c) (Hp:List AObj):AFun Tryz.prog 120 [Ad c] Hp (Ag (G4 c)):=by
 refine Ac [.tmp 2] [0] Tryz.func120 Tryz.ntmps120 (fun d=>?_)
 refine Ut ?_;refine A0 [0,5,6,7] ?_
 refine Bz (α:=Nat) (fun x=>⟨25,A6 0 (Ad c) (A6 5 (Ad c) (A6 6 (A3 c.length) (A6 7 (A3 (x:Nat)) (fun _=>.any)))),Hp,[],[],none⟩) (fun x=>x≤c.length∧∀(j:Nat) (y:Col),j<x→c[j]? = some y→L4 c j y=true) (fun x=>c.length-x) (0) (by simp) (Bf (by simp)) rfl (fun x hx=>?_)
 refine Z0 ?_;refine A0 [0,5,6,7,8] ?_
 refine C5 (fun ht8=>?_) (fun ht8=>?_)
 ·have hlt:x<c.length:=by simpa using ht8
  have hcl:=hc.len
  refine Nu ?_
  refine A2 (h:=Ab (x) (Co c[x]) (fun _=>As hlt)) (hr:=?_)
  refine Ur ?_;refine A0 [0,3,4,5,6,7] ?_;refine Z3 ?_;refine A7 Tryz.call111 (f7 _ (hc.names _ (Bc hlt)) _) ?_;refine Nv ?_;refine Bk ?_;refine Br Tryz.call71 (fun hB=>c71 c hc _ _) ?_;refine Uq ?_;refine A0 [0,5,6,7,23] ?_
  refine A1 (fun ht23=>?_) (fun ht23=>?_)
  ·rw [Hs] at ht23
   refine Xo ?_
   exact A5 (Aa A4) ⟨by rw [show G4 c=false from I7.2 fun h=>by have:=namedC_true.1 h x c[x] (A9 hlt);unfold L4 at this;rw [ht23] at this;cases this],rfl⟩
  rw [Hs] at ht23
  refine Z50 ?_;refine A0 [0,5,6,7] ?_
  refine B0 (x+1) ⟨hlt,Fw hlt hx.2 (by unfold L4;rw [ht23];rfl)⟩ (by omega) ?_
  exact Bs (own:=[]) (fun _=>.refl _) (by repeat (first|exact Ao|refine An (by simp [or_imp,forall_and]) ?_)) (by simp) (by simp)
 refine Z29 ?_;refine Z51 ?_;exact A5 (Aa A4) ⟨by rw [namedC_true.2 (Gz (by simp at ht8;omega) hx.2)],rfl⟩

theorem ou (c:List Col) (take:List Str) (Hp:List AObj):AFun Tryz.prog 119 [Ad c,Ec take] Hp (.fn (.func 141) [] [.ro [Ad c],.ro [Ec take]]):=by
 refine Ac [.tmp 4] [0,1] Tryz.func119 Tryz.ntmps119 (fun d=>?_)
 refine Z8 ?_;refine A0 [2,3] ?_;refine Ds ?_;refine Nr ?_;refine A2 ?_;exact ef

theorem ov (l:Nat) (c:List Col) (take:List Str) (hc:c.length≤1048576) (ht:take.length≤1048576) (U:Nat→List AObj) (hlen:∀k,(U k).length=(U 0).length) (hll:l<(U 0).length)
  (hlw:∀k,∀x∈U k,ObjLow (U 0).length x) (hn:∀k y,c[k]? = some y→take.contains y.name=true→U (k+1)=U k)
  (hy:∀k y X,c[k]? = some y→take.contains y.name=false→AYield Tryz.prog l [Co y] (U k++X) (fun b H'=>b=true∧H'=U (k+1)++X)):ACall Tryz.prog 141 [.yield l,.ro [Ad c],.ro [Ec take]] (U 0) (fun _ H'=>H'=U c.length):=by
 refine Ac [] [0,1,2] Tryz.func141 Tryz.ntmps141 (fun d=>?_)
 refine Z8 ?_;refine A0 [0,2,6,7,8] ?_
 refine Bz (α:=Nat) (fun x=>⟨24,A6 0 (.yield l) (A6 2 (.ro [Ec take]) (A6 6 (Ad c) (A6 7 (A3 c.length) (A6 8 (A3 (x:Nat)) (fun _=>.any))))),U x,[],[],none⟩) (fun x=>x≤c.length) (fun x=>c.length-x) (0) (Au _) (Bf (by simp)) rfl (fun x hx=>?_)
 refine Z0 ?_;refine A0 [0,2,6,7,8,9] ?_
 refine C5 (fun ht9=>?_) (fun ht9=>?_)
 ·have hlt:x<c.length:=by simpa using ht9
  refine Z65 ?_
  refine A2 (h:=Ab (x) (Co c[x]) (fun _=>As hlt)) (hr:=?_)
  refine Z57 ?_;refine A0 [0,2,5,6,7,8] ?_;refine Z8 ?_;refine A7 Tryz.call53 (c53 take _ ht _) ?_;refine Nv ?_
  refine G.yield (l:=l) (C:=((!take.contains c[x].name)==true)) (args:=[Co c[x]]) (fun hC=>hy x c[x] _ (A9 hlt) (by simpa using hC)) ?_
  intro b V O hV hb hb0
  have hVO:V=U (x+1)∧O=[AObj.cells 46 [Am c[x].name,A3 c[x].kind]]∧(take.contains c[x].name=false→b=true):=by
   cases hcn:take.contains c[x].name with
   | true =>
    obtain ⟨h1,h2⟩:=hb0 (by rw [hcn];rfl)
    exact ⟨h1.trans (hn x c[x] (A9 hlt) hcn).symm,h2,fun e=>by cases e⟩
   | false =>
    obtain ⟨h1,h2⟩:=hb (by rw [hcn];rfl)
    have h3:=Lc h2 (by rw [hV,hlen x,hlen (x+1)])
    exact ⟨h3.1,h3.2,fun _=>h1⟩
  obtain ⟨rfl,rfl,hbt⟩:=hVO
  refine ⟨fun _=>by rw [hlen (x+1)];exact hlw (x+1),fun o ho=>(by cases ho),?_⟩
  refine Z86 ?_;refine A0 [0,2,6,7,8,22] ?_
  refine A1 (fun ht22=>?_) (fun ht22=>?_)
  ·exfalso
   have hcf:take.contains c[x].name=false:=by simp at ht22 ⊢;exact ht22.1
   rw [hbt hcf] at ht22
   simp at ht22
  refine Z50 ?_;refine A0 [0,2,6,7,8] ?_;refine ak ?_
  exact Bs (own:=[]) (fun _=>.refl _) (by repeat (first|exact Ao|refine An (by first|(simp [or_imp,forall_and];done)|(have:=hlen (x+1);simp;omega)) ?_)) (by simp) (by simp)
 have hxe:x=c.length:=by simp at ht9;omega
 refine K.lpE ?_;exact K.finN .nores (hp:=by rw [hxe])

/-! What went and came, taken back: the same columns. -/
theorem find_mem {nm:Str} {c:List Col}:¬(B7 nm c<0)↔∃(j:Nat) (y:Col),c[j]? = some y∧y.name=nm∧B7 nm c=(j:Int):=by
 unfold B7
 cases h:c.findIdx? (fun y=>y.name==nm) with
 | none =>
  constructor
  ·intro h';exact absurd (by decide) h'
  rintro ⟨j,y,_,_,e⟩
  exact absurd (show (-1:Int)=(j:Int) from e) (by omega)
 | some i =>
  rw [Jr] at h
  obtain ⟨hi,e,_⟩:=h
  constructor
  ·intro _;exact ⟨i,c[i],A9 hi,by simpa using e,rfl⟩
  intro _ h'
  have:(i:Int)<0:=h'
  omega
theorem fp {c:List Col} {take:List Str} {give:List Col} (h:(Cg c take give).2=0):D3 c=true∧Ef c take=true∧Hz (Ci c take++give)=true∧(Ci c take++give).length≤12∧Cg c take give=(Ci c take++give,0):=by
 cases h1:D3 c with
 | false=>rw [bj h1] at h;exact absurd (show (1:Int)=0 from h) (by decide)
 | true =>
  cases h2:Ef c take with
  | false=>rw [bm h1 h2] at h;exact absurd (show (9:Int)=0 from h) (by decide)
  | true =>
   cases h3:G4 (Ci c take++give) with
   | false=>rw [bn h1 h2 rfl h3] at h;exact absurd (show (9:Int)=0 from h) (by decide)
   | true =>
    cases h4:Hz (Ci c take++give) with
    | false=>rw [bo h1 h2 rfl h3 h4] at h;exact absurd (show (10:Int)=0 from h) (by decide)
    | true =>
     by_cases h5:12<(Ci c take++give).length
     ·rw [bp h1 h2 rfl h3 h4 h5] at h;exact absurd (show (3:Int)=0 from h) (by decide)
     exact ⟨rfl,rfl,rfl,by omega,bq h1 h2 rfl h3 h4 h5⟩
set_option maxRecDepth 8000
/-- What a node asks of its kids, and what it is. -/
structure Sign where
 kids:List Int
 own:Int
def L5 (s:Str):Sign:=if (s==[111,114]) || (s==[97,110,100]) then ⟨[3,3],3⟩ else if (((((s==[61]) || (s==[33,61])) || (s==[60])) || (s==[60,61])) || (s==[62])) || (s==[62,61]) then ⟨[-1, -1],3⟩ else if s==[38] then ⟨[2,2],2⟩ else ⟨[1,1],1⟩
def Ht (s:Str):Sign:=if (s==[108,101,110]) || (s==[110,117,109]) then ⟨[2],1⟩ else if s==[115,116,114] then ⟨[1],2⟩ else if (s==[108,101,102,116]) || (s==[114,105,103,104,116]) then ⟨[2,1],2⟩ else if s==[105,115,110,117,108,108] then ⟨[-2],3⟩ else if s==[110,118,108] then ⟨[-1, -1], -1⟩ else ⟨[3, -1, -1], -1⟩
def Oh (o:Int) (t:Str):Sign:=if o==3 then ⟨[1],1⟩ else if o==4 then ⟨[3],3⟩ else if o==5 then L5 t else Ht t
def E7 (a b:Int):Int×Bool:=if a==0 then (b,true) else if (b==0) || (a==b) then (a,true) else (0,false)
def Oi:List Int→List Int→Int→Option Int
 | _,[],c=>some c
 | [],_::_,_=>none
 | w::ws,k::ks,c=>if w == -2 then Oi ws ks c else if w == -1 then (if (E7 c k).2 then Oi ws ks (E7 c k).1 else none) else if (E7 w k).2 then Oi ws ks c else none
def T3 (s:Sign) (ks:List Int):Int×Int:=match Oi s.kids ks 0 with|none=>(0,10)|some c=>if s.own == -1 then (c,0) else (s.own,0)
def T5 (c:List Col) (t:Str):Int×Int:=if B7 t c<0 then (0,9) else ((c.getD (B7 t c).toNat ⟨[],0⟩).kind,0)
def Q5 (c:List Col) (o:Int) (t:Str) (v:Val) (ks:List (Int×Int)):Int×Int:=
 if o==1 then (v.kind,0) else if o==2 then T5 c t else match ks.find? (fun q=>q.2 != 0) with|some q=>(0,q.2)|none=>T3 (Oh o t) (ks.map (·.1))
mutual
def Di (c:List Col):Expr→Int×Int
 | .mk o t v k=>Q5 c o t v (Wf c k)
def Wf (c:List Col):List Expr→List (Int×Int)
  | []=>[]
  | e::r=>Di c e::Wf c r
 end
theorem Q6 (c:List Col):∀l,Wf c l=l.map (Di c)
 | []=>rfl
 | e::r=>by rw [Wf,Q6 c r];rfl
theorem L6 (c:List Col) (e:Expr):Di c e=Q5 c e.op e.text e.val (e.kids.map (Di c)):=by cases e;rw [Di,Q6];rfl
/-- infer.Kind. -/
def Iw (e:Expr) (c:List Col):Int×Int:=if (!(B1 e)) || !(Ky c) then (0,1) else Di c e
/-! The signs have as many as the nodes have kids. -/
theorem Vh (s:Str):(L5 s).kids.length=2:=by
 unfold L5;repeat' split
 all_goals rfl
theorem Vi {t:Str} {n:Nat} (h:Be t=(n:Int)):(Ht t).kids.length=n:=by
 rw [show Be t=Be t from rfl] at h
 by_cases hm:t∈arityList.map (·.1)
 ·have:((arityList.map (·.1)).all fun s=>decide (((Ht s).kids.length:Int)=Be s))=true:=by kernel_rfl
  have:=of_decide_eq_true (Ax.1 this t hm)
  omega
 have h1:Be t = -1:=by
  unfold Be
  rw [U0.2 fun p hp=>by
   simp only [beq_iff_eq]
   rintro rfl
   exact hm (Ca.2 ⟨p,hp,rfl⟩)]
 omega
theorem bt {e:Expr} (h:D5 e=true) (h1:(e.op==1)=false) (h2:(e.op==2)=false):(Oh e.op e.text).kids.length=e.kids.length:=by
 unfold D5 at h
 rw [h1,h2] at h
 simp only [Cp,if_false] at h
 unfold Oh
 by_cases h3:(e.op==3)=true
 ·rw [h3] at h
  simp only [Fk,if_true,Ah,beq_iff_eq] at h
  rw [if_pos h3]
  show 1=_
  omega
 have h3':(e.op==3)=false:=by simpa using h3
 rw [if_neg h3]
 rw [h3'] at h
 by_cases h4:(e.op==4)=true
 ·rw [h4] at h
  simp only [Df,if_true,Ah,beq_iff_eq] at h
  rw [if_pos h4]
  show 1=_
  omega
 have h4':(e.op==4)=false:=by simpa using h4
 rw [if_neg h4]
 rw [h4'] at h
 simp only [Jp,Cp,if_false] at h
 by_cases h5:(e.op==5)=true
 ·rw [h5] at h
  simp only [if_true,Ah,beq_iff_eq] at h
  rw [if_pos h5,Vh]
  omega
 have h5':(e.op==5)=false:=by simpa using h5
 rw [if_neg h5]
 rw [h5'] at h
 simp only [Cp,if_false] at h
 by_cases h6:(e.op==6)=true
 ·rw [h6] at h
  simp only [if_true,Ah,beq_iff_eq] at h
  exact Vi h.2
 have h6':(e.op==6)=false:=by simpa using h6
 rw [h6'] at h
 cases h
/-! More columns. -/
/-! A tree in a column's place. -/
set_option maxRecDepth 4000
/-- Where a parser of expressions stands: its word, its nest, its fault. -/
structure PS where
 i:Nat
 nest:Nat
 code:Int
 at_:Int
def noV:Val:=⟨0,0,[]⟩
def Bb:Expr:=.mk 0 [] noV []
def Q7 (e a:Int) (S:PS):PS:=if S.code==0 then ⟨S.i,S.nest,e,a⟩ else S
def isM (l:List Tok) (of:Str) (S:PS):Bool:=(((Dp l S.i).kind==5) || ((Dp l S.i).kind==2))&&Jc (Dp l S.i).text of
def Eg (S:PS):PS:=⟨S.i+1,S.nest,S.code,S.at_⟩
def Wg (S:PS):PS:=⟨S.i,S.nest+1,S.code,S.at_⟩
def ip (S:PS):PS:=⟨S.i,S.nest-1,S.code,S.at_⟩
def Wh (l:List Tok) (s:Str) (S:PS):PS:=if S.code != 0 then S else if ((Dp l S.i).kind != 5) || !((Dp l S.i).text==s) then Q7 8 (Dp l S.i).at_ S else Eg S
/-- What stands one nest deeper. -/
structure Fam where
 ei:PS→Expr×PS
 no:PS→Expr×PS
 ne:PS→Expr×PS
def Jf (a:Int) (f:PS→Expr×PS) (S:PS):Expr×PS:=if (S.nest:Int)==30 then (Bb,Q7 18 a S) else ((f (Wg S)).1,ip (f (Wg S)).2)
def fq (t:Str) (x y:Expr):Expr:=.mk 5 t noV [x,y]
def bu (l:List Tok) (of:Str) (f:PS→Expr×PS):Nat→Expr×PS→Expr×PS
 | 0,r=>r
 | n+1,r=>if (r.2.code==0)&&isM l of r.2 then bu l of f n (fq (Dp l r.2.i).text r.1 (f (Eg r.2)).1,(f (Eg r.2)).2) else r
def Q8 (l:List Tok) (of:Str) (f:PS→Expr×PS) (S:PS):Expr×PS:=bu l of f l.length (f S)
def jp:Str:=[32,44,32]
def argsF (l:List Tok) (f:PS→Expr×PS):Nat→List Expr×PS→List Expr×PS
 | 0,r=>r
 | n+1,r=>if (r.2.code==0)&&isM l jp r.2 then argsF l f n (r.1++[(f (Eg r.2)).1],(f (Eg r.2)).2) else r
def iq (l:List Tok) (f:PS→Expr×PS) (S:PS):List Expr×PS:=argsF l f l.length ([(f S).1],(f S).2)
def mt (l:List Tok) (a:Int) (f:PS→Expr×PS) (S:PS):List Expr×PS:=if (S.nest:Int)==30 then ([],Q7 18 a S) else ((iq l f (Wg S)).1,ip (iq l f (Wg S)).2)
def Rm:Str:=[41]
def Oj (l:List Tok) (D:Fam) (S:PS):List Expr×PS:=mt l (Dp l S.i).at_ D.ei (Eg S)
def mu (l:List Tok) (D:Fam) (t:Tok) (S:PS):Expr×PS:=
 if Be t.text<0 then (Bb,Q7 9 t.at_ S)
 else if ((Wh l Rm (Oj l D S).2).code==0) && !(((Oj l D S).1.length:Int)==Be t.text) then (Bb,Q7 8 t.at_ (Wh l Rm (Oj l D S).2))
 else (.mk 6 t.text noV (Oj l D S).1,Wh l Rm (Oj l D S).2)
def orT:Str:=[32,111,114,32]
def mv:Str:=[32,97,110,100,32]
def ow:Str:=[32,110,111,116,32]
def mw:Str:=[32,61,32,33,61,32,60,32,60,61,32,62,32,62,61,32]
def mx:Str:=[32,43,32,45,32,38,32]
def ir:Str:=[32,42,32,47,32,37,32]
def ox:Str:=[32,45,32]
def opT:Str:=[32,40,32]
def oy:Str:=[32,116,114,117,101,32,102,97,108,115,101,32,110,117,108,108,32]
def bv (v:Val):Expr:=.mk 1 [] v []
def iu (l:List Tok) (D:Fam) (S:PS):Expr×PS:=
 if S.code != 0 then (Bb,S)
 else if ((Dp l S.i).kind==3) || isM l oy S then (bv (mr (Dp l S.i).text).1,Eg S)
 else if (Dp l S.i).kind==4 then (bv ⟨2,0,(Dp l S.i).text.take 200⟩,Eg S)
 else if (Dp l S.i).kind==1 then (if isM l opT (Eg S) then mu l D (Dp l S.i) (Eg S) else (Du (Dp l S.i).text,Eg S))
 else if isM l opT S then ((Jf (Dp l S.i).at_ D.ei (Eg S)).1,Wh l Rm (Jf (Dp l S.i).at_ D.ei (Eg S)).2)
 else (Bb,Q7 8 (Dp l S.i).at_ S)
def Y7 (op:Int) (x:Expr):Expr:=.mk op [] noV [x]
def jq (l:List Tok) (D:Fam) (S:PS):Expr×PS:=if !isM l ox S then iu l D S else (Y7 3 (Jf (Dp l S.i).at_ D.ne (Eg S)).1,(Jf (Dp l S.i).at_ D.ne (Eg S)).2)
def iv (l:List Tok) (D:Fam):PS→Expr×PS:=Q8 l ir (jq l D)
def Pk (l:List Tok) (D:Fam):PS→Expr×PS:=Q8 l mx (iv l D)
def T6 (l:List Tok) (D:Fam) (S:PS):Expr×PS:=
 if ((Pk l D S).2.code != 0) || !isM l mw (Pk l D S).2 then Pk l D S
 else (fq (Dp l (Pk l D S).2.i).text (Pk l D S).1 (Pk l D (Eg (Pk l D S).2)).1,(Pk l D (Eg (Pk l D S).2)).2)
def jr (l:List Tok) (D:Fam) (S:PS):Expr×PS:=if !isM l ow S then T6 l D S else (Y7 4 (Jf (Dp l S.i).at_ D.no (Eg S)).1,(Jf (Dp l S.i).at_ D.no (Eg S)).2)
def iw (l:List Tok) (D:Fam):PS→Expr×PS:=Q8 l mv (jr l D)
def Wi (l:List Tok) (D:Fam):PS→Expr×PS:=Q8 l orT (iw l D)
def fu (l:List Tok):Nat→Fam
 | 0=>⟨fun S=>(Bb,S),fun S=>(Bb,S),fun S=>(Bb,S)⟩
 | d+1=>⟨Wi l (fu l d),jr l (fu l d),jq l (fu l d)⟩

/-! What is so of them. -/
theorem low_agg {n:Nat} (e:Expr):Low n (.agg [.v (.int .i64 e.op),.v (sv e.text),.v (.int .i64 e.val.kind),.v (.int .i64 e.val.n),.v (sv e.val.s),.slice false 6 (e.kids.map Af)]):=by
 have:=C0 n e
 rwa [Fx] at this
set_option maxRecDepth 8000
/-! The document's kinds of trees are infer's. -/
set_option maxRecDepth 4000
set_option maxRecDepth 8000
abbrev TK:=Int×Str
/-- What stands from word i on. -/
def seg (l:List Tok) (i:Nat):List TK:=(l.drop i).map ktT
/-- The texts of levels of marks. -/
def ofL (k:Nat):Str:=if k=0 then orT else if k=1 then mv else if k=3 then mw else if k=4 then mx else ir
/-- A row of words behind which no mark of a level, or of a tighter one, stands. -/
def bw (k:Nat) (rest:List TK):Prop:=∀h r,rest=h::r→((h.1==5) || (h.1==2))=true→F7 h.2<(k:Int)∧h.2≠[40]
def oz:Str:=[110,111,116]
def bx (e:Expr):Nat:=if e.op==4 then 2 else if e.op==3 then 6 else if e.op==5 then (F7 e.text).toNat else 7
def fw (least:Nat) (x:Expr) (T:List TK):List TK:=if least≤bx x then T else (5,[40])::(T++[(5,[41])])
def fx (least:Nat) (x:Expr) (n:Nat):Nat:=if least≤bx x then n else n+1
def c6 (own:Nat):Nat:=if own=3 then 4 else own
def js (v:Val):TK:=if v.kind==1 then (3,V5 v) else if v.kind==2 then (4,v.s) else (2,V5 v)
def my (t:Str):TK:=(if Ho (t.headD 0) then 2 else 5,t)
def mz:List (List TK)→List TK
 | []=>[]
 | T::r=>(5,[44])::(T++mz r)
def n3 (o:Int) (t:Str) (v:Val) (k:List Expr) (ts:List (List TK)):List TK:=
 if o==1 then [js v] else if o==2 then [(1,t)]
 else if o==3 then (5,[45])::fw 6 (k.getD 0 Bb) (ts.getD 0 [])
 else if o==4 then (2,oz)::fw 2 (k.getD 0 Bb) (ts.getD 0 [])
 else if o==5 then fw (c6 (F7 t).toNat) (k.getD 0 Bb) (ts.getD 0 [])++my t::fw ((F7 t).toNat+1) (k.getD 1 Bb) (ts.getD 1 [])
 else (1,t)::(5,[40])::((mz ts).drop 1++[(5,[41])])
mutual
def Ok:Expr→List TK
 | .mk o t v k=>n3 o t v k (ix k)
def ix:List Expr→List (List TK)
  | []=>[]
  | e::r=>Ok e::ix r
 end
def n4:List Nat→Nat
 | []=>0
 | n::r=>max n (n4 r)
def n5 (o:Int) (t:Str) (k:List Expr) (ns:List Nat):Nat:=
 if o==1 then 0 else if o==2 then 0
 else if o==3 then 1+fx 6 (k.getD 0 Bb) (ns.getD 0 0)
 else if o==4 then 1+fx 2 (k.getD 0 Bb) (ns.getD 0 0)
 else if o==5 then max (fx (c6 (F7 t).toNat) (k.getD 0 Bb) (ns.getD 0 0)) (fx ((F7 t).toNat+1) (k.getD 1 Bb) (ns.getD 1 0))
 else 1+n4 ns
mutual
def Wj:Expr→Nat
 | .mk o t v k=>n5 o t k (iy k)
def iy:List Expr→List Nat
  | []=>[]
  | e::r=>Wj e::iy r
 end
theorem fy {v:Val} (h:I0 v=true):v=noV:=by
 unfold I0 at h
 simp only [Ah,beq_iff_eq] at h
 cases v
 simp_all [noV]
/-- What a right node is. -/
inductive NodeC:Expr→Prop
 | val (v:Val) (h:Cn v=true) (h0:0≤v.n):NodeC (bv v)
 | name (t:Str) (h:Mj t=true):NodeC (Du t)
 | neg (a:Expr):NodeC (Y7 3 a)
 | no (a:Expr):NodeC (Y7 4 a)
 | bin (t:Str) (a b:Expr) (h:0≤F7 t):NodeC (fq t a b)
 | call (t:Str) (k:List Expr) (h:Be t=(k.length:Int)):NodeC (.mk 6 t noV k)
theorem Ol (o:Int) (t:Str) (v:Val) (k:List Expr):Od (.mk o t v k) =
 if o==1 then ((Cn v&&decide (0≤v.n))&&(t==[]))&&((k.length:Int)==0)
 else if !(I0 v) then false
 else if o==2 then Mj t&&((k.length:Int)==0)
 else if o==3 || o==4 then (t==[])&&((k.length:Int)==1)
 else if o==5 then decide (0≤F7 t)&&((k.length:Int)==2)
 else if o==6 then Be t==(k.length:Int)
 else false:=rfl
theorem Om {e:Expr} (h:D5 e=true):NodeC e:=by
 rw [T0] at h
 cases e with
 | mk o t v k =>
 rw [Ol] at h
 by_cases h1:(o==1)=true
 ·rw [if_pos h1] at h
  simp only [Ah,beq_iff_eq,decide_eq_true_eq] at h h1
  obtain ⟨⟨⟨a1,a2⟩,a3⟩,a4⟩:=h
  subst h1
  subst a3
  have:k=[]:=by cases k with|nil=>rfl|cons x r=>simp at a4;omega
  subst this
  exact .val v a1 a2
 rw [if_neg h1] at h
 by_cases hb:(!(I0 v))=true
 ·rw [if_pos hb] at h;cases h
 rw [if_neg hb] at h
 have hv:v=noV:=fy (by simpa using hb)
 subst hv
 by_cases h2:(o==2)=true
 ·rw [if_pos h2] at h
  simp only [Ah,beq_iff_eq] at h h2
  subst h2
  have:k=[]:=by cases k with|nil=>rfl|cons x r=>have:=h.2;simp at this;omega
  subst this
  exact .name t h.1
 rw [if_neg h2] at h
 by_cases h3:(o==3 || o==4)=true
 ·rw [if_pos h3] at h
  simp only [Ah,Dl,beq_iff_eq] at h h3
  obtain ⟨rfl,h4⟩:=h
  match k,h4 with
  | [a],_ =>
   rcases h3 with rfl|rfl
   ·exact .neg a
   exact .no a
  | [],h4=>simp at h4
  | _::_::_,h4=>simp at h4;omega
 rw [if_neg h3] at h
 by_cases h5:(o==5)=true
 ·rw [if_pos h5] at h
  simp only [Ah,beq_iff_eq,decide_eq_true_eq] at h h5
  subst h5
  match k,h.2 with
  | [a,b],_=>exact .bin t a b h.1
  | [],h4=>simp at h4
  | [_],h4=>simp at h4
  | _::_::_::_,h4=>simp at h4;omega
 rw [if_neg h5] at h
 by_cases h6:(o==6)=true
 ·rw [if_pos h6] at h
  simp only [beq_iff_eq] at h h6
  subst h6
  exact .call t k h
 rw [if_neg h6] at h;cases h
/-- The functions of the levels. -/
def pf (l:List Tok) (D:Fam):Nat→PS→Expr×PS
 | 0=>Wi l D
 | 1=>iw l D
 | 2=>jr l D
 | 3=>T6 l D
 | 4=>Pk l D
 | 5=>iv l D
 | 6=>jq l D
 | _=>iu l D
abbrev fam (l:List Tok) (n:Nat):Fam:=fu l (30-n)
def adv (S:PS) (n:Nat):PS:=⟨S.i+n,S.nest,S.code,S.at_⟩
def T1 (l:List Tok) (x:Expr):Prop:=∀(k:Nat) (S:PS) (rest:List TK),k≤bx x→S.code=0→S.nest+Wj x≤30→seg l S.i=Ok x++rest→bw k rest→pf l (fam l S.nest) k S=(x,adv S (Ok x).length)
def T2 (l:List Tok) (x:Expr):Prop:=∀(k:Nat) (S:PS) (rest:List TK),(k=0∨k=1∨k=4∨k=5)→k≤bx x→S.code=0→S.nest+Wj x≤30→seg l S.i=Ok x++rest→bw (k+1) rest →
 ∃n,l.length≤S.i+(Ok x).length+n∧Q8 l (ofL k) (pf l (fam l S.nest) (k+1)) S=bu l (ofL k) (pf l (fam l S.nest) (k+1)) n (x,adv S (Ok x).length)
/-! The parser from a word on, and of a source. -/
set_option maxRecDepth 4000
theorem Pl {α:Type} {a b:List α} (hl:a.length=b.length) (h:∀(j:Nat) (y:α),j<a.length→a[j]? = some y→b[j]? = some y):a=b:=by
 apply List.ext_getElem hl
 intro j h1 h2
 have:=h j a[j] h1 (A9 h1)
 rw [A9 h2] at this
 injection this with this
 exact this.symm
theorem Jg {n k:Nat} {o:Bool} {l:List Expr}:Low n (.slice o k (l.map Af)):=low_slice.2 fun y hy=>by
 obtain ⟨a,_,rfl⟩:=Ca.1 hy
 exact C0 _ a
theorem Y8 {l:List Expr} {n f:Nat} (h0:l.isEmpty=false) (h:Jm l n=true):Dz f l n=true:=by
 cases f with
 | zero=>rw [Dz,h0];rfl
 | succ f=>rw [Dz,if_neg (by rw [h0];simp),if_pos h]
theorem g0 {l:List Expr} {n y:Nat} (hy:y<l.length) (h:500<n+y+1∨M5 l[y]=true):Jm l n=true:=by
 unfold Jm
 rcases h with h|h
 ·rw [decide_eq_true (by omega)];rfl
 rw [Gl.2 ⟨_,Bc hy,h⟩,F3]
theorem On {l:List Expr}:∀(y:Nat),y≤l.length→(∀(j:Nat) (e:Expr),j<y→l[j]? = some e→M5 e=false)→((l.take y).flatMap Expr.kids).length≤100*y
 | 0,_,_=>by simp
 | y+1,hy,h=>by
  rw [G7 hy,List.flatMap_append,Ai]
  have h1:=On y (by omega) (fun j e hj he=>h j e (by omega) he)
  have h2:=Rl (h y l[y] (by omega) (A9 _))
  simp only [U1,List.flatMap_nil,Hb]
  omega
structure WideAt (l0:List Expr) (x:List Expr×Nat×Nat):Prop where
 eq:Dz 61 l0 0=Dz x.2.2 x.1 x.2.1
 f:x.2.2≤61
 n:x.2.1≤500
theorem c30 (l0:List Expr) (Hp:List AObj):AFun Tryz.prog 30 [.slice false 6 (l0.map Af),A3 0] Hp (Ag (Dz 61 l0 0)):=by
 refine Ac [.tmp 4] [0,1] Tryz.func30 Tryz.ntmps30 (fun d=>?_)
 refine Z41 ?_;refine Z0 ?_;refine A0 [0,1,5] ?_;refine Gp ?_
 refine Bz (α:=List Expr×Nat×Nat) (fun x=>⟨67,A6 0 (.slice false 6 (x.1.map Af)) (A6 1 (A3 (61-(x.2.2:Int))) (A6 5 (A3 (x.2.1:Nat)) (fun _=>.any))),Hp,[],[],none⟩) (fun x=>WideAt l0 x) (fun x=>x.2.2) ((l0,0,61)) ⟨rfl,Al _,Au _⟩ (Bf (by simp)) rfl (fun x hx=>?_)
 refine Z25 ?_;refine A0 [0,1,5,10] ?_
 refine A1 (fun ht10=>?_) (fun ht10=>?_)
 ·have hpos:0<x.1.length:=by simpa using ht10
  have hne:x.1.isEmpty=false:=by cases hxx:x.1 with
   | nil=>rw [hxx] at hpos;simp at hpos
   | cons a r=>rfl
  have hxf:=hx.f
  refine Z9 ?_;refine G9 ?_;refine Ds ?_;refine Pf ?_;refine Gy ?_;refine A0 [0,1,5,6] ?_;refine Z40 ?_;refine A0 [0,1,5,6,7] ?_
  refine Bz (α:=Nat) (fun y=>⟨67,A6 0 (.slice false 6 (x.1.map Af)) (A6 1 (A3 (61-(x.2.2:Int))) (A6 5 (A3 ((x.2.1+y:Nat):Int)) (A6 6 (.slice true 6 (((x.1.take y).flatMap Expr.kids).map Af)) (A6 7 (A3 (y:Nat)) (fun _=>.any))))),Hp,[],[],none⟩) (fun y=>y≤x.1.length∧x.2.1+y≤500∧∀(j:Nat) (e:Expr),j<y→x.1[j]? = some e→M5 e=false) (fun y=>x.1.length-y) (0) ⟨Au _,hx.n,fun j e h=>by omega⟩ (Bf (by simp)) rfl (fun y hy=>?_)
  refine Z93 ?_;refine A0 [0,1,5,6,7,15] ?_
  refine A1 (fun ht15=>?_) (fun ht15=>?_)
  ·have hlt:y<x.1.length:=by simpa using ht15
   have hyn:=hy.2.1
   refine Z9 ?_;refine Z98 ?_;refine A0 [0,1,5,6,7] ?_;refine Z25 ?_;refine Z11 ?_
   refine Bk (h:=Ab (y) (Af x.1[y]) (fun _=>As hlt)) (hr:=?_)
   refine Z42 ?_;refine Nv ?_
   refine Bk (h:=Ab (y) (Af x.1[y]) (fun _=>As hlt)) (hr:=?_)
   refine Z42 ?_;refine Z45 ?_;refine Z11 ?_
   refine Bk (h:=Ab (y) (Af x.1[y]) (fun _=>As hlt)) (hr:=?_)
   refine Z42 ?_;refine A2 ?_;refine A0 [0,1,5,6,7,49] ?_
   refine A1 (fun ht49=>?_) (fun ht49=>?_)
   ·have hm:Jm x.1 x.2.1=true:=g0 hlt (by
     simp only [Dl,decide_eq_true_eq,Ap] at ht49
     unfold M5
     simp only [Dl,decide_eq_true_eq]
     omega)
    have hw:=Y8 (f:=x.2.2) hne hm
    refine Z54 ?_;refine Bn ?_;refine Z53 ?_;refine K.blR ?_;refine K.lpR ?_;exact lc
   have hfat:M5 x.1[y]=false∧x.2.1+y+1≤500:=by
    simp only [D0,decide_eq_false_iff_not,Ap] at ht49
    unfold M5
    simp only [D0,decide_eq_false_iff_not]
    omega
   have hkl:=(Rl hfat.1).2.2
   have hfm:(x.1.take (y+1)).flatMap Expr.kids=(x.1.take y).flatMap Expr.kids++x.1[y].kids:=by rw [G7 hlt,List.flatMap_append];simp
   refine Z9 ?_;refine Z90 ?_;refine Z1 ?_
   refine A2 (h:=Ab (y) (Af x.1[y]) (fun _=>As hlt)) (hr:=?_)
   refine Z1 ?_
   refine Dw jU Tryz.type53 ?_ ?_ ?_
   ·have h1:=On y hy.1 hy.2.2;have h2:=hkl;have h3:=hy.2.1;simp only [Ap,Tryz.t53];omega
   ·have h1:=On y hy.1 hy.2.2;have h2:=hkl;have h3:=hy.2.1;simp only [Ap,Tryz.t53];omega
   refine Gy ?_;refine A0 [0,1,5,6,7] ?_;refine Z78 ?_;refine A2 ?_;refine A0 [0,1,5,6,7] ?_
   refine B0 (y+1) ⟨hlt,by omega,Ce hlt hy.2.2 hfat.1⟩ (by omega) (Dn ?_)
   rw [hfm,Cu]
   rfl
  have hye:x.1.take y=x.1:=Ev (by simp at ht15;omega)
  have hyl:y=x.1.length:=by have:=hy.1;simp at ht15;omega
  have hmany:Jm x.1 x.2.1=false:=by
   unfold Jm
   rw [decide_eq_false (by have:=hy.2.1;omega),Df,Fl]
   intro e he
   obtain ⟨j,hj⟩:=C3 he
   rw [hy.2.2 j e (by have:=(A8.1 hj).1;omega) hj]
   simp
  refine Pb ?_;refine Z93 ?_;refine Uq ?_;refine A0 [1,5,6,63] ?_
  refine A1 (fun ht63=>?_) (fun ht63=>?_)
  ·have hw:Dz x.2.2 x.1 x.2.1=true:=by
    have h9:=ht63
    rw [hye] at h9
    simp only [Dl,decide_eq_true_eq,Ap] at h9
    cases hf:x.2.2 with
    | zero=>rw [Dz,hne];rfl
    | succ f =>
     rw [Dz,if_neg (by rw [hne];simp),if_neg (by rw [hmany];simp),if_pos (by rw [decide_eq_true_eq];omega)]
   refine Z54 ?_;refine Bn ?_;refine K.blR ?_;refine K.lpR ?_;exact lc
  have h9:=ht63
  rw [hye] at h9
  simp only [D0,decide_eq_false_iff_not,Ap] at h9
  obtain ⟨f,hf⟩:∃f,x.2.2=f+1:=⟨x.2.2-1,by omega⟩
  have hw:Dz x.2.2 x.1 x.2.1=Dz f (x.1.flatMap Expr.kids) (x.2.1+x.1.length):=by
   rw [hf,Dz,if_neg (by rw [hne];simp),if_neg (by rw [hmany];simp),if_neg (by rw [decide_eq_true_eq];omega)]
  refine Pd ?_;refine A0 [0,1,5] ?_;refine Z20 ?_;refine ek ?_;refine K.blN ?_
  refine B0 (x.1.flatMap Expr.kids,x.2.1+x.1.length,f) ⟨hx.eq.trans hw,by show f≤61;omega,by show x.2.1+x.1.length≤500;have:=hy.2.1;omega⟩ (by show f<x.2.2;omega) (Dn ?_)
  rw [hye,hyl]
  congr 4
  simp only [AV.v.injEq,Value.int.injEq,true_and]
  omega
 have hnil:x.1=[]:=by have:=ht10;simp at this;exact this
 refine Pb ?_;refine Z54 ?_;exact A5 (Aa A4) ⟨by rw [hx.eq,hnil];cases x.2.2<;>rfl,rfl⟩

theorem c18 (e:Expr) (Hp:List AObj):AFun Tryz.prog 18 [Af e] Hp (Ag (Og e)):=by
 refine Ac [.tmp 2] [0] Tryz.func18 Tryz.ntmps18 (fun d=>?_)
 refine Sf ?_;refine Z0 ?_;refine Pf ?_;refine A7 Tryz.call30 (c30 [e] _) ?_;refine A2 ?_;exact j7

theorem ca {a b:List Expr} (hl:a.length=b.length) (h:∀(j:Nat) (y z:Expr),j<a.length→a[j]? = some y→b[j]? = some z→eqE y z=true):eqL a b=true:=by
 rw [L3]
 refine Pl hl fun j y hj hy=>?_
 have hjb:j<b.length:=by omega
 have:=h j y b[j] hj hy (A9 hjb)
 rw [A9 hjb,(Rj _ _).1 this]
theorem jt {a b:List Expr} (h:eqL a b=true) {j:Nat} (hj:j<a.length) (hb:j<b.length):eqE a[j] b[j]=true:=by
 have e:=(L3 _ _).1 h
 subst e
 exact bg _
theorem ju {a b:List Expr} {j:Nat} (hj:j<a.length) (hb:j<b.length) (h:eqE a[j] b[j]=false):eqL a b=false:=by
 rw [I7]
 intro h2
 rw [jt h2 hj hb] at h
 cases h
theorem g5 {a b:List Expr} (h:a.length≠b.length):eqL a b=false:=by
 rw [I7]
 exact fun h2=>h (fk h2)
theorem n6 {a b:List Expr} {x:Nat} (hx:x<a.length) (hb:x<b.length) (h:∀(j:Nat) (y z:Expr),j<x→a[j]? = some y→b[j]? = some z→eqE y z=true) (he:eqE a[x] b[x]=true):∀(j:Nat) (y z:Expr),j<x+1→a[j]? = some y→b[j]? = some z→eqE y z=true:=by
 intro j y z hj h1 h2
 rcases B3 j x with h3|h3
 ·exact h j y z h3 h1 h2
 have:j=x:=by omega
 subst this
 rw [A9 hx] at h1
 rw [A9 hb] at h2
 injection h1 with h1
 injection h2 with h2
 rw [←h1,←h2]
 exact he
theorem p4 (n:Nat) (a b:List Expr) (ha:a.length≤1048576) (hok:∀y∈a,okE n y) (ih:∀(x:Expr),okE n x→∀(y:Expr) (Hp:List AObj),AFun Tryz.prog 116 [Af x,Af y] Hp (Ag (eqE x y))) (Hp:List AObj):AFun Tryz.prog 140 [.slice false 6 (a.map Af),.slice false 6 (b.map Af),.fn (.func 116) [] []] Hp (Ag (eqL a b)):=by
 refine Ac [.tmp 6] [0,1,2] Tryz.func140 Tryz.ntmps140 (fun d=>?_)
 refine Z0 ?_;refine A0 [0,1,2] ?_;refine Z25 ?_;refine Z1 ?_;refine A0 [0,1,2,14] ?_
 refine A1 (fun ht14=>?_) (fun ht14=>?_)
 ·have hf:eqL a b=false:=g5 (by have:=ht14;simp at this;omega)
  refine Z0 ?_;refine Rb ?_;exact A5 (Aa A4) ⟨by rw [hf],rfl⟩
 have hlen:a.length=b.length:=by have:=ht14;simp at this;omega
 refine Uu ?_;refine A0 [1,2,15,16,17] ?_
 refine Bz (α:=Nat) (fun i=>⟨32,A6 1 (.slice false 6 (b.map Af)) (A6 2 (.fn (.func 116) [] []) (A6 15 (.slice false 6 (a.map Af)) (A6 16 (A3 (a.length:Nat)) (A6 17 (A3 (i:Nat)) (fun _=>.any))))),Hp,[],[],none⟩) (fun i=>i≤a.length∧∀(j:Nat) (y z:Expr),j<i→a[j]? = some y→b[j]? = some z→eqE y z=true) (fun i=>a.length-i) (0) ⟨Au _,fun j y z h=>by omega⟩ (Bf (by simp)) rfl (fun i hi=>?_)
 refine Z0 ?_;refine A0 [1,2,15,16,17,18] ?_
 refine C5 (fun ht18=>?_) (fun ht18=>?_)
 ·have hlt:i<a.length:=by simpa using ht18
  have hlb:i<b.length:=by omega
  refine Nu ?_
  refine A2 (h:=Ab (i) (Af a[i]) (fun _=>As hlt)) (hr:=?_)
  refine Ur ?_;refine A0 [1,2,7,8,15,16,17] ?_;refine Z3 ?_
  refine A2 (h:=Ab (i) (Af b[i]) (fun _=>As hlb)) (hr:=?_)
  refine Z57 ?_;refine A0 [1,2,8,9,15,16,17] ?_;refine Z8 ?_;refine R.callV Tryz.call116 (ih a[i] (hok _ (Bc hlt)) b[i] _) ?_;refine A2 ?_;refine A0 [1,2,15,16,17,30] ?_
  refine A1 (fun ht30=>?_) (fun ht30=>?_)
  ·have hf:eqL a b=false:=ju hlt hlb (by simpa using ht30)
   refine Z0 ?_;refine Z47 ?_;refine Z53 ?_;exact A5 (Aa A4) ⟨by rw [hf],rfl⟩
  have he:eqE a[i] b[i]=true:=by simpa using ht30
  refine Z50 ?_;refine A0 [1,2,15,16,17] ?_;refine B0 (i+1) ⟨hlt,n6 hlt hlb hi.2 he⟩ (by omega) ?_
  exact Bs (own:=[]) (fun _=>.refl _) (by repeat (first|exact Ao|refine An (by first|exact Jg|(simp;done)) ?_)) (by simp) (by simp)
 have hxe:a.length≤i:=by simpa using ht18
 refine Z29 ?_;refine Z0 ?_;refine Z47 ?_;exact A5 (Aa A4) ⟨by rw [ca hlen (fun j y z hj=>hi.2 j y z (by omega))],rfl⟩

theorem n7:∀(n:Nat) (x:Expr),okE n x→∀(y:Expr) (Hp:List AObj),AFun Tryz.prog 116 [Af x,Af y] Hp (Ag (eqE x y)):=by
 intro n
 induction n with
 | zero=>exact fun x h=>h.elim
 | succ n ih =>
 intro x hok y Hp
 refine Ac [.tmp 4] [0,1] Tryz.func116 Tryz.ntmps116 (fun d=>?_)
 refine Z8 ?_;refine A0 [2,3] ?_;refine Z8 ?_;refine Z37 ?_;refine Z42 ?_;refine Z45 ?_;refine Z42 ?_
 refine Bk (h:=Nq Sj (fun w=>Gf x.val.kind x.val.n y.val.kind y.val.n x.val.s y.val.s w)) (hr:=?_)
 refine Sg ?_;refine Br Tryz.call140 (fun hB=>p4 n x.kids y.kids hok.2.1 hok.2.2 ih _) ?_;refine Z1 ?_;refine Z17 ?_;exact A5 (Aa A4) ⟨by rw [jn],rfl⟩

set_option maxRecDepth 8000
/-! Moves: what mig.Right, sound.* and the document's layers 18, 19 answer. -/
structure Mov where
 kind:Int
 take:List Str
 give:List Col
 ahead:List Expr
 back:List Expr
abbrev Gs (l:List Expr):AV:=.slice false 6 (l.map Af)
abbrev Mx (m:Mov):List AV:=[A3 m.kind,Ec m.take,Ad m.give,Gs m.ahead,Gs m.back]
abbrev Ff (m:Mov):AV:=.agg (Mx m)
abbrev Cx (l:List Mov):AV:=.slice false 5 (l.map Ff)
/-- Trees that may be walked. -/
structure OkEs (l:List Expr):Prop where
 len:l.length≤1048576
 ok:∀e∈l,okE 61 e
 size:∀e∈l,Kw e≤1048576
 rng:∀e∈l,D6 H2 e=true
structure OkMov (m:Mov):Prop where
 takes:m.take.length≤1048576
 names:∀s∈m.take,s.length≤1048576
 gives:OkCols m.give
 gives2:m.give.length≤1000000
 ahead:OkEs m.ahead
 back:OkEs m.back
structure OkMovs (l:List Mov):Prop where
 len:l.length≤1048576
 each:∀m∈l,OkMov m
def Dj (m:Mov):Bool:=
 if ((m.ahead.length:Int) != (m.give.length:Int)) || ((m.back.length:Int) != (m.take.length:Int)) then false
 else if m.kind==1 then ((m.take.length:Int)==0)&&((m.give.length:Int)==1)
 else if m.kind==2 then ((m.take.length:Int)==1)&&((m.give.length:Int)==0)
 else if (m.kind==3) || (m.kind==6) then ((m.take.length:Int)==1)&&((m.give.length:Int)==1)
 else if m.kind==4 then ((m.take.length:Int)==1)&&decide ((1:Int)<(m.give.length:Int))
 else if m.kind==5 then decide ((1:Int)<(m.take.length:Int))&&((m.give.length:Int)==1)
 else false
def Ix (m:Mov) (c:Col):Bool:=D4 c.name&&(((Dt c.kind==[])==(m.kind==3)) && !((m.kind==3)&&(c.kind != 0)))
def K5 (m:Mov):Bool:=
 if m.kind==3 then eqE (m.ahead.getD 0 Bb) (Du (m.take.getD 0 []))&&eqE (m.back.getD 0 Bb) (Du (m.give.getD 0 ⟨[],0⟩).name)
 else if m.kind==6 then m.take.getD 0 []==(m.give.getD 0 ⟨[],0⟩).name else true
def F9 (m:Mov):Bool:=(((((Dj m&&m.give.all (Ix m))&&m.take.all D4)&&m.ahead.all B1)&&m.back.all B1)&&K5 m)
def Y9 (l:List Mov):Bool:=decide ((l.length:Int)≤8)&&l.all F9
/-! Columns behind moves. -/
def cb (e:Expr) (c:List Col) (w:Int):Bool:=((Iw e c).2==0)&&(((Iw e c).1==w) || ((Iw e c).1==0))
def Ba (c:List Col) (m:Mov):List Col:=
 if m.kind==3 then (if B7 (m.take.getD 0 []) c<0 then m.give else match m.give with
  | []=>[]
  | y::r=>⟨y.name,(c.getD (B7 (m.take.getD 0 []) c).toNat ⟨[],0⟩).kind⟩::r)
 else m.give
def Rn (e:Expr) (c:List Col) (w:Int):Int:=if (Iw e c).2 != 0 then (Iw e c).2 else if !cb e c w then 10 else 0
def Cr (over:List Col):List Expr→List Col→Int
 | x::r,w::ws=>if Rn x over w.kind != 0 then Rn x over w.kind else Cr over r ws
 | _,_=>0
def Hu (c:List Col) (m:Mov):List Col:=m.take.map fun s=>c.getD (B7 s c).toNat ⟨[],0⟩
def Bh (c:List Col) (m:Mov):List Col×Int:=
 if (Cg c m.take (Ba c m)).2 != 0 then ([],(Cg c m.take (Ba c m)).2)
 else if Cr c m.ahead (Ba c m) != 0 then ([],Cr c m.ahead (Ba c m))
 else if Cr (Cg c m.take (Ba c m)).1 m.back (Hu c m) != 0 then ([],Cr (Cg c m.take (Ba c m)).1 m.back (Hu c m))
 else ((Cg c m.take (Ba c m)).1,0)
/-- The columns ahead of each move and behind the last one, till one is wrong; the error. -/
def C9 (c:List Col):List Mov→List (List Col)×Int
 | []=>([c],0)
 | m::r=>if (Bh c m).2 != 0 then ([c],(Bh c m).2) else (c::(C9 (Bh c m).1 r).1,(C9 (Bh c m).1 r).2)
def M7 (c:List Col) (l:List Mov):Bool:=D3 c&&Y9 l
/-- ref19.Steps. -/
def K6 (c:List Col) (l:List Mov):List (List Col)×Int:=if M7 c l then C9 c l else ([],1)
/-- sound.Steps. -/
def Cs (c:List Col) (l:List Mov):List (List Col)×Int:=if (K6 c l).2 != 0 then ([],(K6 c l).2) else K6 c l
theorem M8 {m:Mov} (h:F9 m=true):Dj m=true:=by
 unfold F9 at h
 simp only [Ah] at h
 exact h.1.1.1.1.1
theorem Ep {m:Mov} (h:Dj m=true):m.ahead.length=m.give.length∧m.back.length=m.take.length:=by
 unfold Dj at h
 split at h
 ·cases h
 rename_i h1
 simp only [Dl,bne_iff_ne,ne_eq,not_or,Classical.not_not] at h1
 omega
theorem Oo {m:Mov} (h:Dj m=true) (h3:((m.kind==3) || (m.kind==6))=true):m.take.length=1∧m.give.length=1:=by
 unfold Dj at h
 split at h
 ·cases h
 have h1:(m.kind==1)=false:=by simp at h3 ⊢;omega
 have h2:(m.kind==2)=false:=by simp at h3 ⊢;omega
 simp only [h1,h2,h3,if_true,if_false,Cp,Ah,beq_iff_eq] at h
 omega
theorem H3 (c:List Col) (m:Mov):(Ba c m).length=m.give.length:=by
 unfold Ba
 split
 ·split
  ·rfl
  split<;>simp_all
 rfl
set_option maxRecDepth 4000
abbrev Oq (s:Sign):AV:=.agg [.slice false 1 (s.kids.map A3),A3 s.own]
theorem jv {m:Sign} {a o:Int} (h:m=⟨[a],o⟩):AV.agg [.slice false 1 [A3 a],A3 o]=Oq m:=by rw [h];rfl
theorem cd {m:Sign} {a b o:Int} (h:m=⟨[a,b],o⟩):AV.agg [.slice false 1 [A3 a,A3 b],A3 o]=Oq m:=by rw [h];rfl
theorem jx {m:Sign} {a b c o:Int} (h:m=⟨[a,b,c],o⟩):AV.agg [.slice false 1 [A3 a,A3 b,A3 c],A3 o]=Oq m:=by rw [h];rfl
theorem p5 (s:Str) (Hp:List AObj):AFun Tryz.prog 170 [Am s] Hp (Oq (L5 s)):=by
 refine Ac [.cell 2 166] [0] Tryz.func170 Tryz.ntmps170 (fun d=>?_)
 refine Xh ?_;refine Z40 ?_;refine A0 [2,3] ?_;refine G9 ?_;refine Z28 ?_;refine A0 [2,3,4] ?_
 refine A1 (fun ht4=>?_) (fun ht4=>?_)
 ·refine Z9 ?_
  refine A1 (fun ht4=>?_) (fun ht4=>?_)
  ·exact Z48
  refine Z28 ?_;refine A0 [2,3,9] ?_
  refine A1 (fun ht9=>?_) (fun ht9=>?_)
  ·refine Z9 ?_
   refine A1 (fun ht9=>?_) (fun ht9=>?_)
   ·exact Z48
   refine Z66 ?_
   refine A1 (fun ht18=>?_) (fun ht18=>?_)
   ·exact Z48
   exact Z77
  refine Z72 ?_
  refine A1 (fun ht9=>?_) (fun ht9=>?_)
  ·refine Z9 ?_
   refine A1 (fun ht9=>?_) (fun ht9=>?_)
   ·exact Z48
   refine Z66 ?_
   refine A1 (fun ht18=>?_) (fun ht18=>?_)
   ·exact Z48
   exact Z77
  refine Z72 ?_
  refine A1 (fun ht9=>?_) (fun ht9=>?_)
  ·refine Z9 ?_
   refine A1 (fun ht9=>?_) (fun ht9=>?_)
   ·exact Z48
   refine Z66 ?_
   refine A1 (fun ht18=>?_) (fun ht18=>?_)
   ·exact Z48
   exact Z77
  refine Z72 ?_
  refine A1 (fun ht9=>?_) (fun ht9=>?_)
  ·refine Z9 ?_
   refine A1 (fun ht9=>?_) (fun ht9=>?_)
   ·exact Z48
   refine Z66 ?_
   refine A1 (fun ht18=>?_) (fun ht18=>?_)
   ·exact Z48
   exact Z77
  refine Z72 ?_
  refine A1 (fun ht9=>?_) (fun ht9=>?_)
  ·refine Z9 ?_
   refine A1 (fun ht9=>?_) (fun ht9=>?_)
   ·exact Z48
   refine Z66 ?_
   refine A1 (fun ht18=>?_) (fun ht18=>?_)
   ·exact Z48
   exact Z77
  refine Z20 ?_;refine A0 [2,3,9] ?_;refine E4 ?_
  refine A1 (fun ht9=>?_) (fun ht9=>?_)
  ·exact Z48
  refine Z66 ?_
  refine A1 (fun ht18=>?_) (fun ht18=>?_)
  ·exact Z48
  exact Z77
 refine Z20 ?_;refine A0 [2,3,4] ?_;refine E4 ?_
 refine A1 (fun ht4=>?_) (fun ht4=>?_)
 ·exact Z48
 refine Z28 ?_;refine A0 [2,3,9] ?_
 refine A1 (fun ht9=>?_) (fun ht9=>?_)
 ·refine Z9 ?_
  refine A1 (fun ht9=>?_) (fun ht9=>?_)
  ·exact Z48
  refine Z66 ?_
  refine A1 (fun ht18=>?_) (fun ht18=>?_)
  ·exact Z48
  exact Z77
 refine Z72 ?_
 refine A1 (fun ht9=>?_) (fun ht9=>?_)
 ·refine Z9 ?_
  refine A1 (fun ht9=>?_) (fun ht9=>?_)
  ·exact Z48
  refine Z66 ?_
  refine A1 (fun ht18=>?_) (fun ht18=>?_)
  ·exact Z48
  exact Z77
 refine Z72 ?_
 refine A1 (fun ht9=>?_) (fun ht9=>?_)
 ·refine Z9 ?_
  refine A1 (fun ht9=>?_) (fun ht9=>?_)
  ·exact Z48
  refine Z66 ?_
  refine A1 (fun ht18=>?_) (fun ht18=>?_)
  ·exact Z48
  exact Z77
 refine Z72 ?_
 refine A1 (fun ht9=>?_) (fun ht9=>?_)
 ·refine Z9 ?_
  refine A1 (fun ht9=>?_) (fun ht9=>?_)
  ·exact Z48
  refine Z66 ?_
  refine A1 (fun ht18=>?_) (fun ht18=>?_)
  ·exact Z48
  exact Z77
 refine Z72 ?_
 refine A1 (fun ht9=>?_) (fun ht9=>?_)
 ·refine Z9 ?_
  refine A1 (fun ht9=>?_) (fun ht9=>?_)
  ·exact Z48
  refine Z66 ?_
  refine A1 (fun ht18=>?_) (fun ht18=>?_)
  ·exact Z48
  exact Z77
 refine Z20 ?_;refine A0 [2,3,9] ?_;refine E4 ?_
 refine A1 (fun ht9=>?_) (fun ht9=>?_)
 ·exact Z48
 refine Z66 ?_
 refine A1 (fun ht18=>?_) (fun ht18=>?_)
 ·exact Z48
 exact Z77

theorem p6 (s:Str) (Hp:List AObj):AFun Tryz.prog 171 [Am s] Hp (Oq (Ht s)):=by
 refine Ac [.cell 2 166] [0] Tryz.func171 Tryz.ntmps171 (fun d=>?_)
 refine Xh ?_;refine Z40 ?_;refine A0 [2,3] ?_;refine G9 ?_;refine Z28 ?_;refine A0 [2,3,4] ?_
 refine A1 (fun ht4=>?_) (fun ht4=>?_)
 ·refine Z9 ?_
  refine A1 (fun ht4=>?_) (fun ht4=>?_)
  ·exact Z67
  refine Z72 ?_
  refine A1 (fun ht9=>?_) (fun ht9=>?_)
  ·exact Z67
  refine Z28 ?_;refine A0 [2,3,13] ?_
  refine A1 (fun ht13=>?_) (fun ht13=>?_)
  ·refine Z9 ?_
   refine A1 (fun ht13=>?_) (fun ht13=>?_)
   ·exact Z67
   refine el ?_
   refine A1 (fun ht18=>?_) (fun ht18=>?_)
   ·exact Z67
   refine Z3 ?_;refine A0 [2,22] ?_
   refine A1 (fun ht22=>?_) (fun ht22=>?_)
   ·exact Z67
   exact eo
  refine Z20 ?_;refine A0 [2,3,13] ?_;refine E4 ?_
  refine A1 (fun ht13=>?_) (fun ht13=>?_)
  ·exact Z67
  refine el ?_
  refine A1 (fun ht18=>?_) (fun ht18=>?_)
  ·exact Z67
  refine Z3 ?_;refine A0 [2,22] ?_
  refine A1 (fun ht22=>?_) (fun ht22=>?_)
  ·exact Z67
  exact eo
 refine Z20 ?_;refine A0 [2,3,4] ?_;refine E4 ?_
 refine A1 (fun ht4=>?_) (fun ht4=>?_)
 ·exact Z67
 refine Z72 ?_
 refine A1 (fun ht9=>?_) (fun ht9=>?_)
 ·exact Z67
 refine Z28 ?_;refine A0 [2,3,13] ?_
 refine A1 (fun ht13=>?_) (fun ht13=>?_)
 ·refine Z9 ?_
  refine A1 (fun ht13=>?_) (fun ht13=>?_)
  ·exact Z67
  refine el ?_
  refine A1 (fun ht18=>?_) (fun ht18=>?_)
  ·exact Z67
  refine Z3 ?_;refine A0 [2,22] ?_
  refine A1 (fun ht22=>?_) (fun ht22=>?_)
  ·exact Z67
  exact eo
 refine Z20 ?_;refine A0 [2,3,13] ?_;refine E4 ?_
 refine A1 (fun ht13=>?_) (fun ht13=>?_)
 ·exact Z67
 refine el ?_
 refine A1 (fun ht18=>?_) (fun ht18=>?_)
 ·exact Z67
 refine Z3 ?_;refine A0 [2,22] ?_
 refine A1 (fun ht22=>?_) (fun ht22=>?_)
 ·exact Z67
 exact eo

theorem p7 (e:Expr) (Hp:List AObj):AFun Tryz.prog 152 [Af e] Hp (Oq (Oh e.op e.text)):=by
 refine Ac [.cell 2 166] [0] Tryz.func152 Tryz.ntmps152 (fun d=>?_)
 refine Z0 ?_;refine Hj jZ ?_;refine A0 [1,2] ?_;refine Z28 ?_;refine A0 [1,2,4] ?_;refine Z96 ?_;refine A0 [1,2,4,5] ?_
 refine A1 (fun ht5=>?_) (fun ht5=>?_)
 ·refine Z27 ?_;exact Z75
 refine Z3 ?_;refine A0 [1,2,4,9] ?_
 refine A1 (fun ht9=>?_) (fun ht9=>?_)
 ·refine Z27 ?_;exact Z75
 refine Z3 ?_;refine A0 [1,2,13] ?_
 refine A1 (fun ht13=>?_) (fun ht13=>?_)
 ·refine Z3 ?_;refine A7 Tryz.call170 (p5 e.text _) ?_;refine Z13 ?_;exact Z75
 refine Z18 ?_;refine Z3 ?_;refine A7 Tryz.call171 (p6 e.text _) ?_;refine Z13 ?_;exact m5

theorem n8 (a b:Int) (Hp:List AObj):AFun Tryz.prog 172 [A3 a,A3 b] Hp (.tup [A3 (E7 a b).1,Ag (E7 a b).2]):=by
 refine Ac [.tmp 4,.tmp 5] [0,1] Tryz.func172 Tryz.ntmps172 (fun d=>?_)
 refine Un ?_;refine Z98 ?_;refine A0 [0,1,6] ?_
 refine A1 (fun ht6=>?_) (fun ht6=>?_)
 ·refine Z8 ?_;refine Z10 ?_;exact l8
 refine Z8 ?_;refine Z73 ?_;refine A0 [0,10] ?_
 refine A1 (fun ht10=>?_) (fun ht10=>?_)
 ·refine Z8 ?_;refine Z10 ?_;exact l8
 refine Z18 ?_;refine Z82 ?_;exact m6

structure FitAt (s:Sign) (ks:List Int) (x:Nat×Int):Prop where
 le:x.1≤ks.length
 eq:Oi s.kids ks 0=Oi (s.kids.drop x.1) (ks.drop x.1) x.2
theorem FitAt.step {s:Sign} {ks:List Int} {x:Nat×Int} (h:FitAt s ks x) (hk:x.1<ks.length) (hs:x.1<s.kids.length):Oi s.kids ks 0=(if s.kids[x.1] == -2 then Oi (s.kids.drop (x.1+1)) (ks.drop (x.1+1)) x.2 else if s.kids[x.1] == -1 then (if (E7 x.2 ks[x.1]).2 then Oi (s.kids.drop (x.1+1)) (ks.drop (x.1+1)) (E7 x.2 ks[x.1]).1 else none) else if (E7 s.kids[x.1] ks[x.1]).2 then Oi (s.kids.drop (x.1+1)) (ks.drop (x.1+1)) x.2 else none):=by
 rw [h.eq,Hc hk,Hc hs,Oi]
theorem FitAt.skip {s:Sign} {ks:List Int} {x:Nat×Int} (h:FitAt s ks x) (hk:x.1<ks.length) (hs:x.1<s.kids.length) (h2:(s.kids[x.1] == -2)=true):FitAt s ks (x.1+1,x.2):=⟨hk,by rw [h.step hk hs,if_pos h2]⟩
theorem FitAt.same {s:Sign} {ks:List Int} {x:Nat×Int} (h:FitAt s ks x) (hk:x.1<ks.length) (hs:x.1<s.kids.length) (h2:(s.kids[x.1] == -2)=false) (h1:(s.kids[x.1] == -1)=true) (hm:(E7 x.2 ks[x.1]).2=true):FitAt s ks (x.1+1,(E7 x.2 ks[x.1]).1):=⟨hk,by rw [h.step hk hs,if_neg (by rw [h2];simp),if_pos h1,if_pos hm]⟩
theorem FitAt.want {s:Sign} {ks:List Int} {x:Nat×Int} (h:FitAt s ks x) (hk:x.1<ks.length) (hs:x.1<s.kids.length) (h2:(s.kids[x.1] == -2)=false) (h1:(s.kids[x.1] == -1)=false) (hm:(E7 s.kids[x.1] ks[x.1]).2=true):FitAt s ks (x.1+1,x.2):=⟨hk,by rw [h.step hk hs,if_neg (by rw [h2];simp),if_neg (by rw [h1];simp),if_pos hm]⟩
theorem FitAt.bad {s:Sign} {ks:List Int} {x:Nat×Int} (h:FitAt s ks x) (hk:x.1<ks.length) (hs:x.1<s.kids.length) (h2:(s.kids[x.1] == -2)=false) (hm:(if s.kids[x.1] == -1 then (E7 x.2 ks[x.1]).2 else (E7 s.kids[x.1] ks[x.1]).2)=false):T3 s ks=(0,10):=by
 unfold T3
 rw [h.step hk hs,if_neg (by rw [h2];simp)]
 split at hm
 ·rename_i h1
  rw [if_pos h1,if_neg (by rw [hm];simp)]
 rename_i h1
 rw [if_neg h1,if_neg (by rw [hm];simp)]
theorem FitAt.out {s:Sign} {ks:List Int} {x:Nat×Int} (h:FitAt s ks x) (hk:ks.length≤x.1):T3 s ks=if s.own == -1 then (x.2,0) else (s.own,0):=by
 unfold T3
 rw [h.eq,Tz hk]
 cases s.kids.drop x.1<;>rfl
theorem p8 (s:Sign) (ks:List Int) (hks:ks.length≤s.kids.length) (hk2:ks.length≤1048576) (Hp:List AObj):AFun Tryz.prog 153 [Oq s,.slice false 1 (ks.map A3)] Hp (.tup [A3 (T3 s ks).1,A3 (T3 s ks).2]):=by
 refine Ac [.tmp 4,.tmp 5] [0,1] Tryz.func153 Tryz.ntmps153 (fun d=>?_)
 refine Z8 ?_;refine A0 [1,2] ?_;refine Z44 ?_;refine Gq ?_;refine A0 [1,2,6] ?_;refine Z25 ?_;refine Xr ?_
 refine Bz (α:=Nat×Int) (fun x=>⟨49,A6 2 (.ro [.slice false 1 (s.kids.map A3),A3 s.own]) (A6 6 (.ptr (oid Hp.length 0) 0) (A6 13 (.slice false 1 (ks.map A3)) (A6 14 (A3 (ks.length:Nat)) (A6 15 (A3 (x.1:Nat)) (fun _=>.any))))),Hp,[.cells 3 [A3 x.2]],[],none⟩) (fun x=>FitAt s ks x) (fun x=>ks.length-x.1) ((0,0)) ⟨Au _,rfl⟩ (Bf (by simp)) rfl (fun x hx=>?_)
 refine Z0 ?_;refine A0 [2,6,13,14,15,16] ?_
 refine C5 (fun ht16=>?_) (fun ht16=>?_)
 ·have hlt:x.1<ks.length:=by simpa using ht16
  have hls:x.1<s.kids.length:=by omega
  refine Nu ?_
  refine A2 (h:=Ab (x.1) (A3 ks[x.1]) (fun _=>As hlt)) (hr:=?_)
  refine Z37 ?_;refine A0 [2,6,7,8,13,14,15] ?_;refine Z8 ?_
  refine A2 (h:=Ab (x.1) (A3 s.kids[x.1]) (fun _=>As hls)) (hr:=?_)
  refine Z57 ?_;refine A0 [2,6,8,9,13,14,15] ?_;refine Z28 ?_;refine A0 [2,6,8,9,13,14,15,26] ?_
  refine A1 (fun ht26=>?_) (fun ht26=>?_)
  ·refine W.keep [2,6,13,14,15] ?_;refine Z64 ?_;refine K.blE ?_;refine E4 ?_;refine Z20 ?_;refine Xr ?_
   first|(refine B0 (x.1+1,x.2) (hx.skip hlt hls ht26) (by show ks.length-(x.1+1)<ks.length-x.1;omega) ?_;exact Bs (own:=[.cells 3 [A3 x.2]]) (fun _=>.refl _) (by repeat (first|exact Ao|refine An (by first|(simp [or_imp,forall_and];done)|(simp [oid]<;>omega)) ?_)) (by intro y hy;rw [Ay.1 hy];intro z hz;rw [Ay.1 hz];simp) (by simp))|(refine B0 (x.1+1,(E7 x.2 ks[x.1]).1) (hx.same hlt hls ht26 ht28 (by simpa using ht38)) (by show ks.length-(x.1+1)<ks.length-x.1;omega) ?_;exact Bs (own:=[.cells 3 [A3 (E7 x.2 ks[x.1]).1]]) (fun _=>.refl _) (by repeat (first|exact Ao|refine An (by first|(simp [or_imp,forall_and];done)|(simp [oid]<;>omega)) ?_)) (by intro y hy;rw [Ay.1 hy];intro z hz;rw [Ay.1 hz];simp) (by simp))|(refine B0 (x.1+1,x.2) (hx.want hlt hls ht26 ht28 (by simpa using ht38)) (by show ks.length-(x.1+1)<ks.length-x.1;omega) ?_;exact Bs (own:=[.cells 3 [A3 x.2]]) (fun _=>.refl _) (by repeat (first|exact Ao|refine An (by first|(simp [or_imp,forall_and];done)|(simp [oid]<;>omega)) ?_)) (by intro y hy;rw [Ay.1 hy];intro z hz;rw [Ay.1 hz];simp) (by simp))
  refine Pa ?_;refine A0 [2,6,8,9,10,13,14,15] ?_;refine Z28 ?_;refine A0 [2,6,8,10,13,14,15,28] ?_
  refine A1 (fun ht28=>?_) (fun ht28=>?_)
  ·refine Xk ?_;refine A0 [2,6,8,10,13,14,15] ?_;refine E4 ?_;refine Z31 ?_;refine A7 Tryz.call172 (n8 _ _ _) ?_;refine Z74 ?_;refine A0 [2,6,10,11,12,13,14,15] ?_;refine Z28 ?_;refine A0 [2,6,10,11,13,14,15,38] ?_
   refine A1 (fun ht38=>?_) (fun ht38=>?_)
   ·have hbad:=hx.bad hlt hls ht26 (by first|(rw [if_pos ht28];simpa using ht38)|(rw [if_neg (by rw [ht28];simp)];simpa using ht38))
    refine Z82 ?_;refine Bn ?_;exact ld
   refine Z9 ?_;refine Z20 ?_;refine Z70 ?_;refine Xr ?_;refine Z78 ?_;refine Xr ?_
   first|(refine B0 (x.1+1,x.2) (hx.skip hlt hls ht26) (by show ks.length-(x.1+1)<ks.length-x.1;omega) ?_;exact Bs (own:=[.cells 3 [A3 x.2]]) (fun _=>.refl _) (by repeat (first|exact Ao|refine An (by first|(simp [or_imp,forall_and];done)|(simp [oid]<;>omega)) ?_)) (by intro y hy;rw [Ay.1 hy];intro z hz;rw [Ay.1 hz];simp) (by simp))|(refine B0 (x.1+1,(E7 x.2 ks[x.1]).1) (hx.same hlt hls ht26 ht28 (by simpa using ht38)) (by show ks.length-(x.1+1)<ks.length-x.1;omega) ?_;exact Bs (own:=[.cells 3 [A3 (E7 x.2 ks[x.1]).1]]) (fun _=>.refl _) (by repeat (first|exact Ao|refine An (by first|(simp [or_imp,forall_and];done)|(simp [oid]<;>omega)) ?_)) (by intro y hy;rw [Ay.1 hy];intro z hz;rw [Ay.1 hz];simp) (by simp))|(refine B0 (x.1+1,x.2) (hx.want hlt hls ht26 ht28 (by simpa using ht38)) (by show ks.length-(x.1+1)<ks.length-x.1;omega) ?_;exact Bs (own:=[.cells 3 [A3 x.2]]) (fun _=>.refl _) (by repeat (first|exact Ao|refine An (by first|(simp [or_imp,forall_and];done)|(simp [oid]<;>omega)) ?_)) (by intro y hy;rw [Ay.1 hy];intro z hz;rw [Ay.1 hz];simp) (by simp))
  refine Z9 ?_;refine Z31 ?_;refine A7 Tryz.call172 (n8 _ _ _) ?_;refine Z74 ?_;refine A0 [2,6,10,11,12,13,14,15] ?_;refine Z28 ?_;refine A0 [2,6,10,11,13,14,15,38] ?_
  refine A1 (fun ht38=>?_) (fun ht38=>?_)
  ·have hbad:=hx.bad hlt hls ht26 (by first|(rw [if_pos ht28];simpa using ht38)|(rw [if_neg (by rw [ht28];simp)];simpa using ht38))
   refine Z82 ?_;refine Bn ?_;exact ld
  refine Z9 ?_;refine Z20 ?_;refine Z70 ?_;refine Xr ?_;refine Z78 ?_;refine Xr ?_
  first|(refine B0 (x.1+1,x.2) (hx.skip hlt hls ht26) (by show ks.length-(x.1+1)<ks.length-x.1;omega) ?_;exact Bs (own:=[.cells 3 [A3 x.2]]) (fun _=>.refl _) (by repeat (first|exact Ao|refine An (by first|(simp [or_imp,forall_and];done)|(simp [oid]<;>omega)) ?_)) (by intro y hy;rw [Ay.1 hy];intro z hz;rw [Ay.1 hz];simp) (by simp))|(refine B0 (x.1+1,(E7 x.2 ks[x.1]).1) (hx.same hlt hls ht26 ht28 (by simpa using ht38)) (by show ks.length-(x.1+1)<ks.length-x.1;omega) ?_;exact Bs (own:=[.cells 3 [A3 (E7 x.2 ks[x.1]).1]]) (fun _=>.refl _) (by repeat (first|exact Ao|refine An (by first|(simp [or_imp,forall_and];done)|(simp [oid]<;>omega)) ?_)) (by intro y hy;rw [Ay.1 hy];intro z hz;rw [Ay.1 hz];simp) (by simp))|(refine B0 (x.1+1,x.2) (hx.want hlt hls ht26 ht28 (by simpa using ht38)) (by show ks.length-(x.1+1)<ks.length-x.1;omega) ?_;exact Bs (own:=[.cells 3 [A3 x.2]]) (fun _=>.refl _) (by repeat (first|exact Ao|refine An (by first|(simp [or_imp,forall_and];done)|(simp [oid]<;>omega)) ?_)) (by intro y hy;rw [Ay.1 hy];intro z hz;rw [Ay.1 hz];simp) (by simp))
 have hxe:ks.length≤x.1:=by simpa using ht16
 have hout:=hx.out hxe
 refine Z29 ?_;refine Z25 ?_;refine A0 [2,6,45] ?_
 refine A1 (fun ht45=>?_) (fun ht45=>?_)
 ·refine Z8 ?_;refine Z10 ?_;refine Bn ?_;exact A5 (Az A4 A4) ⟨by rw [hout,if_pos ht45],rfl⟩
 refine Z9 ?_;refine eh ?_;exact A5 (Az A4 A4) ⟨by rw [hout,if_neg (by rw [ht45];simp)],rfl⟩

theorem ce {n k:Nat} {own:Bool} {l:List Int}:Low n (.slice own k (l.map A3)):=low_slice.2 fun y hy=>by
 obtain ⟨z,_,rfl⟩:=Ca.1 hy
 simp
theorem Wk {n:Nat} {e:Expr}:Low n (.ro (Sr e)):=by have:=C0 n e;rw [Fx] at this;simpa using this
theorem Iy {c:List Col} {t:Str} (h:¬(B7 t c<0)):∃(j:Nat),B7 t c=(j:Int)∧j<c.length:=by
 obtain ⟨j,y,h2,_,h3⟩:=find_mem.1 h
 exact ⟨j,h3,(A8.1 h2).1⟩
theorem cf {c:List Col} {e:Expr} (h:(e.op==1)=true):Di c e=(e.val.kind,0):=by rw [L6];unfold Q5;rw [if_pos h]
theorem Ya {c:List Col} {e:Expr} (h1:(e.op==1)=false) (h:(e.op==2)=true):Di c e=T5 c e.text:=by rw [L6];unfold Q5;rw [h1,if_pos h];rfl
theorem cg {c:List Col} {e:Expr} (h1:(e.op==1)=false) (h2:(e.op==2)=false) {x:Nat} (hx:x<e.kids.length) (h0:∀(j:Nat) (y:Expr),j<x→e.kids[j]? = some y→((Di c y).2 != 0)=false) (hb:((Di c e.kids[x]).2 != 0)=true):Di c e=(0,(Di c e.kids[x]).2):=by
 rw [L6]
 unfold Q5
 rw [h1,h2]
 have:(e.kids.map (Di c)).find? (fun q=>q.2 != 0)=some ((e.kids.map (Di c))[x]'(by simpa using hx)):=Rd (by simpa using hx) (by simpa using hb) (fun j y hj hy=>by
  rw [Cc,Cv] at hy
  obtain ⟨z,hz,rfl⟩:=hy
  exact h0 j z hj hz)
 rw [this]
 simp
theorem cj {c:List Col} {e:Expr} (h1:(e.op==1)=false) (h2:(e.op==2)=false) (h0:∀(j:Nat) (y:Expr),j<e.kids.length→e.kids[j]? = some y→((Di c y).2 != 0)=false):Di c e=T3 (Oh e.op e.text) (e.kids.map fun y=>(Di c y).1):=by
 rw [L6]
 unfold Q5
 rw [h1,h2]
 have:(e.kids.map (Di c)).find? (fun q=>q.2 != 0)=none:=Lt (fun j y hy=>by
  rw [Cc,Cv] at hy
  obtain ⟨z,hz,rfl⟩:=hy
  exact h0 j z (A8.1 hz).1 hz)
 rw [this]
 simp only [Lh]
 rfl
theorem Yb (f:Expr→Int) (l:List Expr) {x:Nat} (h:x<l.length):((l.take x).map f).map A3++[A3 (f l[x])]=((l.take (x+1)).map f).map A3:=by rw [G7 h,Cu,Cu];rfl
theorem p9 (c:List Col) (hc:OkCols c):∀(n:Nat) (e:Expr),okE n e→D6 D5 e=true→∀Hp:List AObj,AFun Tryz.prog 142 [Af e,Ad c] Hp (.tup [A3 (Di c e).1,A3 (Di c e).2]):=by
 intro n
 induction n with
 | zero=>exact fun e h=>h.elim
 | succ n ih =>
 intro e hok hnd Hp
 have hnd0:=hnd
 rw [L0,Ah] at hnd0
 refine Ac [.tmp 4,.tmp 5] [0,1] Tryz.func142 Tryz.ntmps142 (fun d=>?_)
 refine Z8 ?_;refine A0 [1,2] ?_;refine Z28 ?_;refine A0 [1,2,13] ?_;refine Z96 ?_;refine A0 [1,2,13,14] ?_
 refine A1 (fun ht14=>?_) (fun ht14=>?_)
 ·have hk:=cf (c:=c) ht14
  refine Z8 ?_;refine Z1 ?_;refine Z10 ?_;refine Z5 ?_;exact j9
 refine Z3 ?_;refine A0 [1,2,19] ?_
 refine A1 (fun ht19=>?_) (fun ht19=>?_)
 ·have hk:=Ya (c:=c) ht14 ht19
  refine Z8 ?_;refine A7 Tryz.call71 (c71 c hc e.text _) ?_;refine A2 ?_;refine A0 [1,6] ?_;refine Z28 ?_;refine A0 [1,6,26] ?_
  refine A1 (fun ht26=>?_) (fun ht26=>?_)
  ·have hk2:T5 c e.text=(0,9):=if_pos (by simpa using ht26)
   refine Z82 ?_;refine Bn ?_;exact lf
  have hneg:¬(B7 e.text c<0):=by simpa using ht26
  obtain ⟨j,hj,hjl⟩:=Iy hneg
  have hk2:T5 c e.text=(c[j].kind,0):=by
   unfold T5
   rw [if_neg hneg,hj,Int.toNat_natCast,D9,A9 hjl]
   rfl
  rw [hj]
  refine Pd ?_
  refine A2 (h:=Ab (j) (Co c[j]) (fun _=>As hjl)) (hr:=?_)
  refine Lp ?_;refine Z10 ?_;exact lf
 refine Z18 ?_;refine Z0 ?_;refine A0 [1,2,7] ?_;refine Z59 ?_;refine Jy 7 1 ?_;refine Lp ?_;refine A0 [1,2,7,33,34,35] ?_
 refine Bz (α:=Nat) (fun x=>⟨59,A6 1 (Ad c) (A6 2 (.ro (Sr e)) (A6 7 (.slice true 1 (((e.kids.take x).map fun y=>(Di c y).1).map A3)) (A6 33 (.slice false 6 (e.kids.map Af)) (A6 34 (A3 (e.kids.length:Nat)) (A6 35 (A3 (x:Nat)) (fun _=>.any)))))),Hp,[],[],none⟩) (fun x=>x≤e.kids.length∧∀(j:Nat) (y:Expr),j<x→e.kids[j]? = some y→((Di c y).2 != 0)=false) (fun x=>e.kids.length-x) (0) ⟨Au _,fun j y h=>by omega⟩ (Bf (by simp)) rfl (fun x hx=>?_)
 refine Z0 ?_;refine A0 [1,2,7,33,34,35,36] ?_
 refine C5 (fun ht36=>?_) (fun ht36=>?_)
 ·have hlt:x<e.kids.length:=by simpa using ht36
  have hkl:=hok.2.1
  refine Z65 ?_
  refine A2 (h:=Ab (x) (Af e.kids[x]) (fun _=>As hlt)) (hr:=?_)
  refine Z57 ?_;refine A0 [1,2,7,9,33,34,35] ?_;refine Z3 ?_;refine A7 Tryz.call142 (ih e.kids[x] (hok.2.2 _ (Bc hlt)) ((Ee _ _).1 hnd0.2 _ (Bc hlt)) _) ?_;refine Z74 ?_;refine A0 [1,2,7,10,11,33,34,35] ?_;refine Z28 ?_;refine A0 [1,2,7,10,11,33,34,35,46] ?_
  refine A1 (fun ht46=>?_) (fun ht46=>?_)
  ·have hkb:=cg (c:=c) ht14 ht19 hlt hx.2 ht46
   refine Z8 ?_;refine Z10 ?_;refine Bn ?_;refine Z53 ?_;exact A5 (Az A4 A4) ⟨by rw [hkb],rfl⟩
  refine Z9 ?_;refine Z90 ?_;refine Z62 ?_
  refine Dw jU Tryz.type3 ?_ ?_ ?_
  ·simp only [Ap,Cy,Bj,Ct,Tryz.t3];omega
  ·simp only [Ap,Cy,Bj,Ct,Tryz.t3];omega
  refine Gy ?_;refine A0 [1,2,7,33,34,35] ?_;refine Z78 ?_;refine A0 [1,2,7,33,34,35] ?_;refine B0 (x+1) ⟨hlt,Ce hlt hx.2 ht46⟩ (by omega) ?_
  simp only [show Tryz.t3.size=1 from rfl,Yb]
  exact Bs (own:=[]) (fun _=>.refl _) (by repeat (first|exact Ao|refine An (by first|exact ce|exact Wk|exact Jg|(simp [or_imp,forall_and];done)) ?_)) (by simp) (by simp)
 have hxe:e.kids.take x=e.kids:=Ev (by simp at ht36;omega)
 have hxl:e.kids.length≤x:=by simp at ht36;omega
 have hka:=cj (c:=c) ht14 ht19 (fun j y hj hy=>hx.2 j y (by omega) hy)
 rw [hxe]
 refine Z29 ?_;refine Z0 ?_;refine A7 Tryz.call152 (p7 e _) ?_;refine A2 ?_
 refine A7 Tryz.call153 (p8 (Oh e.op e.text) (e.kids.map fun y=>(Di c y).1) (by rw [bt hnd0.1 ht14 ht19];simp) (by simpa using hok.2.1) _) ?_
 refine Lp ?_;refine Z10 ?_;exact A5 (Az A4 A4) ⟨by rw [hka],rfl⟩

theorem Iz {e:Expr} (h:B1 e=true):D6 D5 e=true:=by
 rw [L2] at h
 unfold H1 at h
 rw [Ah] at h
 exact h.2
theorem n9 (n:Nat) (e:Expr) (hok:okE n e) (hn:n≤1048576) (c:List Col) (hc:OkCols c) (Hp:List AObj):AFun Tryz.prog 121 [Af e,Ad c] Hp (.tup [A3 (Iw e c).1,A3 (Iw e c).2]):=by
 refine Ac [.tmp 4,.tmp 5] [0,1] Tryz.func121 Tryz.ntmps121 (fun d=>?_)
 refine Z8 ?_;refine A0 [1,2] ?_;refine Z40 ?_;refine A7 Tryz.call76 (c76 n e hok hn _) ?_;refine Z1 ?_;refine Bk ?_;refine Br Tryz.call50 (fun hB=>c50 c hc _) ?_;refine Z86 ?_;refine A0 [1,2,13] ?_
 refine A1 (fun ht13=>?_) (fun ht13=>?_)
 ·have hk:Iw e c=(0,1):=if_pos ht13
  refine Z82 ?_;refine Bn ?_;exact j9
 have hk:Iw e c=Di c e:=if_neg (by rw [ht13];simp)
 have hr:B1 e=true:=by simp only [D0,Nd] at ht13;exact ht13.1
 refine Pd ?_;refine A7 Tryz.call142 (p9 c hc n e hok (Iz hr) _) ?_;refine Lp ?_;refine Z10 ?_;exact j9

theorem Cj {n k:Nat} {o:Bool} {l:List Col}:Low n (.slice o k (l.map Co)):=by simp [or_imp,forall_and]
theorem g6 {α β:Type} {f:α→β} {l:List α} {k:Nat} {y:α} (h:l[k]? = some y):(l.map f)[k]? = some (f y):=by rw [Cc,h];rfl
theorem c98 (c:List Col) (hc:OkCols c) (take:List Str) (ht:take.length≤1048576) (give:List Col) (hg:OkCols give) (hg2:give.length≤1000000) (Hp:List AObj):AFun Tryz.prog 98 [Ad c,Ec take,Ad give] Hp (.tup [Ad (Cg c take give).1,A3 (Cg c take give).2]):=by
 refine Ac [.tmp 6,.tmp 7] [0,1,2,9] Tryz.func98 Tryz.ntmps98 (fun d=>?_)
 refine Z3 ?_;refine A0 [0,1,2,9] ?_;refine Z40 ?_;refine A7 Tryz.call72 (c72 c hc _) ?_;refine A2 ?_;refine A0 [0,1,2,9,12] ?_
 refine A1 (fun ht12=>?_) (fun ht12=>?_)
 ·have hr:D3 c=false:=by rw [O4] at ht12;simpa using ht12
  refine Z0 ?_;refine ai ?_;refine Bn ?_;exact A5 (Az A4 A4) ⟨by rw [bj hr];try rfl,rfl⟩
 have hr:D3 c=true:=by rw [O4] at ht12;simpa using ht12
 refine Z9 ?_;refine Z28 ?_;refine A7 Tryz.call118 (oo c hc take ht _) ?_;refine A2 ?_;refine A0 [0,1,2,9,16] ?_
 refine A1 (fun ht16=>?_) (fun ht16=>?_)
 ·have hk:Ef c take=false:=by simpa using ht16
  refine Z0 ?_;refine ai ?_;refine Bn ?_;exact A5 (Az A4 A4) ⟨by rw [bm hr hk];try rfl,rfl⟩
 have hk:Ef c take=true:=by simpa using ht16
 refine Z9 ?_;refine Z44 ?_;refine A0 [0,1,2,8,9] ?_;refine Z59 ?_;refine R.nilOwn 0 2 ?_
 refine Lo (fun hlow=>?_)
 refine Z1 ?_;refine A7 Tryz.call119 (ou c take _) ?_;refine A0 [2,8,9,19] ?_;refine G9 ?_
 refine W.rangeV (m:=1) Tryz.call141 (fun FR as' bd' hFR has hbd=>?_)
 have hFRl:∀s,Low (Hp.length+3) (FR s):=by
  intro s
  rw [hFR]
  refine R1 ?_
  revert s
  repeat (first|exact Ao|refine An (by simp [oid,or_imp,forall_and]<;>try omega) ?_)
 have hOl:∀{k:Nat},∀x∈[AObj.cells 22 [.slice true 2 ((Ci (c.take k) take).map Co)],AObj.defs,AObj.loop LoopState.ready none FR 41 #[20] as' bd' (oid Hp.length 1)],ObjLow (Hp.length+3) x:=by
  intro k x hx
  simp only [Cd,E8,or_false] at hx
  rcases hx with rfl|rfl|rfl
  ·intro y hy
   rw [Ay.1 hy]
   exact Cj
  ·trivial
  exact ⟨hFRl,by simp [oid]⟩
 refine ⟨_,ov (oid Hp.length 2) c take hc.len ht (fun k=>Hp++[AObj.cells 22 [.slice true 2 ((Ci (c.take k) take).map Co)],AObj.defs,AObj.loop LoopState.ready none FR 41 #[20] as' bd' (oid Hp.length 1)]) (fun k=>by simp) (by simp [oid]) (fun k x hx=>?_) (fun k y hk hcn=>by simp only [Y6 hk hcn]) (fun k y X hk hcn=>?_),?_⟩
 ·have:=Hr (fun x hx=>K3 (by omega) (hlow x hx)) hOl x hx
  simpa using this
 ·generalize hV:Hp++[AObj.cells 22 [.slice true 2 ((Ci (c.take k) take).map Co)],AObj.defs,AObj.loop LoopState.ready none FR 41 #[20] as' bd' (oid Hp.length 1)]++X=V
  have hL:V[oid Hp.length 2]? = some (AObj.loop LoopState.ready none FR 41 #[20] as' bd' (oid Hp.length 1)):=by rw [←hV,B8,C2];rfl
  have hA0:V[oid Hp.length 0]? = some (AObj.cells 22 [.slice true 2 ((Ci (c.take k) take).map Co)]):=by rw [←hV,B8,C2];rfl
  refine R5 (pd:=none) (fr:=FR) (sz:=41) (ps:=#[20]) (df:=oid Hp.length 1) (asg:=as') (bd:=bd') hL rfl (by decide) (fun d=>?_)
  subst hFR has hbd
  refine W.keep [8,20] ?_;refine Ji ?_;refine Xf ?_;refine A0 [8,9] ?_
  refine ⟨rfl,none,hL,?_⟩
  generalize hbz:(AObj.loop LoopState.busy _ _ _ _ _ _ _)=bz
  have hA:(V.set (oid Hp.length 2) bz)[oid Hp.length 0]? = some (AObj.cells 22 [.slice true 2 ((Ci (c.take k) take).map Co)]):=by rw [Da (Bt (by decide))];exact hA0
  refine G9 ?_;refine Ji ?_;refine R.loadUpT jA hA ?_;refine Z62 ?_
  refine Dw jU Tryz.type46 ?_ ?_ ?_
  ·have h1:=Iv (c.take k) take;have h2:=hc.len;simp only [Cy] at h1;simp [Tryz.t46];omega
  ·have h1:=Iv (c.take k) take;have h2:=hc.len;simp only [Cy] at h1;simp [Tryz.t46];omega
  refine R.storeUpT jS (Nt hA) ?_ ?_
  ·exact Y5
  refine A0 [] ?_;refine K.blN ?_
  subst hbz
  refine ja ?_
  refine ⟨rfl,?_⟩
  subst hV
  simp only [B8,Ge,Dv,Dq,List.set_cons_succ,List.set_cons_zero]
  rw [fm hk hcn,Cu]
  rfl
 rintro r H' rfl
 simp only [dx]
 refine ⟨Hp,_,_,_,rfl,rfl,fun h=>h,?_,rfl,by simp,?_⟩
 ·intro o ho
  have:o=oid Hp.length 1:=by simpa using ho
  subst this
  rw [C2]
  rfl
 refine Z14 ?_;refine Ds ?_;refine R.loadOwnT jA ?_;refine A2 ?_
 refine Dw jU Tryz.type46 ?_ ?_ ?_
 ·have h1:=Iv c take;have h2:=M6 hr;simp [Tryz.t46];omega
 ·have h1:=Iv c take;have h2:=M6 hr;simp [Tryz.t46];omega
 refine R.storeOwnT jS ?_;refine A0 [8] ?_;refine Z65 ?_
 have e10:(Ci c take).map Co++give.map Co=(Ci c take++give).map Co:=(Cu ..).symm
 rw [e10]
 generalize hout:Ci c take++give=out
 have ho:OkCols out:=br hc hr hg hg2 hout
 refine A2 ?_;refine A7 Tryz.call120 (ot out ho _) ?_;refine Z1 ?_;refine A0 [8,28] ?_
 refine A1 (fun ht28=>?_) (fun ht28=>?_)
 ·have hn:G4 out=false:=by simpa using ht28
  refine Z0 ?_;refine ai ?_;refine Z5 ?_;exact A5 (Az A4 A4) ⟨by rw [bn hr hk hout hn];try rfl,rfl⟩
 have hn:G4 out=true:=by simpa using ht28
 refine Z0 ?_;refine A7 Tryz.call50 (c50 out ho _) ?_;refine Z1 ?_;refine A0 [8,32] ?_
 refine A1 (fun ht32=>?_) (fun ht32=>?_)
 ·have hq:Hz out=false:=by rw [Kz] at ht32;simpa using ht32
  refine Z0 ?_;refine ai ?_;refine Z5 ?_;exact A5 (Az A4 A4) ⟨by rw [bo hr hk hout hn hq];try rfl,rfl⟩
 have hq:Hz out=true:=by rw [Kz] at ht32;simpa using ht32
 refine Z31 ?_;refine A0 [8,36] ?_
 refine A1 (fun ht36=>?_) (fun ht36=>?_)
 ·have h12:12<out.length:=by simp at ht36;omega
  refine Z0 ?_;refine ai ?_;refine Z5 ?_;exact A5 (Az A4 A4) ⟨by rw [bp hr hk hout hn hq h12];try rfl,rfl⟩
 have h12:¬12<out.length:=by simp at ht36;omega
 refine Z18 ?_;refine Z8 ?_;refine Z26 ?_;exact A5 (Az A4 A4) ⟨by rw [bq hr hk hout hn hq h12];try rfl,rfl⟩

theorem c6u (c:List Col) (Hp:List AObj):AFun Tryz.prog 6 [Ad c] Hp (Ag (Ed c)):=by
 refine Ac [.tmp 2] [0] Tryz.func6 Tryz.ntmps6 (fun d=>?_)
 refine Ut ?_;refine A0 [0,6] ?_
 refine A1 (fun ht6=>?_) (fun ht6=>?_)
 ·rw [Ap] at ht6
  have hm:Ed c=true:=by unfold Ed;rw [ht6];rfl
  exact ep
 rw [Ap] at ht6
 have hl50:c.length≤50:=by simp at ht6;omega
 refine Pc ?_;refine Mw ?_
 refine Bz (α:=Nat) (fun x=>⟨20,A6 0 (Ad c) (A6 3 (A3 (x:Nat)) (fun _=>.any)),Hp,[],[],none⟩) (fun x=>x≤c.length∧∀(j:Nat) (v:Col),j<x→c[j]? = some v→decide ((100:Int)<(v.name.length:Int))=false) (fun x=>c.length-x) (0) ⟨Au _,fun j v h=>by omega⟩ (Bf (by simp)) rfl (fun x hx=>?_)
 refine Z93 ?_;refine A0 [0,3,10] ?_
 refine A1 (fun ht10=>?_) (fun ht10=>?_)
 ·have hlt:x<c.length:=by simpa using ht10
  refine Z9 ?_;refine Xg ?_
  refine A2 (h:=Ab (x) (Co c[x]) (fun _=>As hlt)) (hr:=?_)
  refine Lp ?_;refine A0 [0,3,19] ?_
  refine A1 (fun ht19=>?_) (fun ht19=>?_)
  ·have hm:Ed c=true:=by unfold Ed;rw [Dl];exact .inr (Gl.2 ⟨c[x],Bc hlt,ht19⟩)
   refine Z51 ?_;exact Z79
  refine Z18 ?_;refine Xk ?_
  refine A2 (h:=Q.add64 (h1:=fun _=>by omega) (h2:=fun _=>by omega)) (hr:=?_)
  refine ag ?_;exact kz
 have hxe:c.length≤x:=by simpa using ht10
 have hm:Ed c=false:=by
  unfold Ed
  rw [ht6,Df,Fl]
  intro v hv
  obtain ⟨j,hj⟩:=C3 hv
  have:=hx.2 j v (by have:=(A8.1 hj).1;omega) hj
  rw [this]
  simp
 refine Pb ?_;exact j6

/-- law18.Wide. -/
def G5 (m:Mov):Bool:=(((((Ed m.give || decide ((20:Int)<(m.take.length:Int))) || decide ((20:Int)<(m.ahead.length:Int))) || decide ((20:Int)<(m.back.length:Int))) || m.take.any fun s=>decide ((100:Int)<(s.length:Int))) || m.ahead.any Og) || m.back.any Og
def Er (l:List Mov):Bool:=decide ((12:Int)<(l.length:Int)) || l.any G5
theorem H4 {α:Type} {p:α→Bool} {l:List α} {x:Nat} (h:l.length≤x) (hp:∀(j:Nat) (v:α),j<x→l[j]? = some v→p v=false):l.any p=false:=by
 rw [Fl]
 intro v hv
 obtain ⟨j,hj⟩:=C3 hv
 rw [hp j v (by have:=(A8.1 hj).1;omega) hj]
 simp
theorem Gi {n:Nat} {m:Mov}:∀y∈Mx m,Low n y:=by
 intro y hy
 simp only [Mx,Cd,E8,or_false] at hy
 rcases hy with rfl|rfl|rfl|rfl|rfl<;>simp [or_imp,forall_and,C0]
theorem ck {n:Nat} {m:Mov}:Low n (Ff m):=Go.SX.low_agg.2 Gi
theorem Eh {n k:Nat} {o:Bool} {l:List Mov}:Low n (.slice o k (l.map Ff)):=low_slice.2 fun y hy=>by
 obtain ⟨m,_,rfl⟩:=Ca.1 hy
 exact ck
theorem Gj {α:Type} {p:α→Bool} (l:List α):(l.any fun s => !(p s)) = !(l.all p):=by
 induction l with
 | nil=>rfl
 | cons a r ih=>rw [List.any_cons,List.all_cons,ih];cases p a<;>simp
theorem c7 (l:List Mov) (Hp:List AObj):AFun Tryz.prog 7 [Cx l] Hp (Ag (Er l)):=by
 refine Ac [.tmp 2] [0] Tryz.func7 Tryz.ntmps7 (fun d=>?_)
 refine Ut ?_;refine A0 [0,10] ?_
 refine A1 (fun ht10=>?_) (fun ht10=>?_)
 ·rw [Ap] at ht10
  have hm:Er l=true:=by unfold Er;rw [ht10];rfl
  exact ep
 rw [Ap] at ht10
 have hl12:l.length≤12:=by simp at ht10;omega
 refine Pc ?_;refine Mw ?_
 refine Bz (α:=Nat) (fun x=>⟨82,A6 0 (Cx l) (A6 3 (A3 (x:Nat)) (fun _=>.any)),Hp,[],[],none⟩) (fun x=>x≤l.length∧∀(j:Nat) (v:Mov),j<x→l[j]? = some v→G5 v=false) (fun x=>l.length-x) (0) ⟨Au _,fun j v h=>by omega⟩ (Bf (by simp)) rfl (fun x hx=>?_)
 refine Z93 ?_;refine A0 [0,3,14] ?_
 refine A1 (fun ht14=>?_) (fun ht14=>?_)
 ·have hlt:x<l.length:=by simpa using ht14
  have hbad:G5 l[x]=true→Er l=true:=fun h=>by unfold Er;rw [Dl];exact .inr (Gl.2 ⟨l[x],Bc hlt,h⟩)
  refine Z9 ?_;refine Xg ?_
  refine A2 (h:=Ab (x) (Ff l[x]) (fun _=>As hlt)) (hr:=?_)
  refine Z57 ?_;refine A0 [0,3,4] ?_;refine Z28 ?_;refine A7 Tryz.call6 (c6u l[x].give _) ?_;refine A2 ?_;refine Z42 ?_;refine Sg ?_;refine Sg ?_;refine A2 ?_;refine A0 [0,3,4,41] ?_
  refine A1 (fun ht41=>?_) (fun ht41=>?_)
  ·simp only [Ap] at ht41
   have hm:Er l=true:=hbad (by unfold G5;rw [ht41];rfl)
   refine Z51 ?_;refine Bn ?_;exact Z79
  simp only [Ap] at ht41
  have hk:l[x].take.length≤20∧l[x].ahead.length≤20∧l[x].back.length≤20:=by simp only [D0,decide_eq_false_iff_not] at ht41;omega
  refine Pc ?_;refine A0 [0,3,4,5] ?_
  refine Bz (α:=Nat) (fun a=>⟨82,A6 0 (Cx l) (A6 3 (A3 (x:Nat)) (A6 4 (.ptr (oid Hp.length 0) 0) (A6 5 (A3 (a:Nat)) (fun _=>.any)))),Hp,[.cells 50 (Mx l[x])],[],none⟩) (fun a=>a≤l[x].take.length∧∀(j:Nat) v,j<a→l[x].take[j]? = some v→(fun s:Str=>decide ((100:Int)<(s.length:Int))) v=false) (fun a=>l[x].take.length-a) (0) ⟨Au _,fun j v h=>by omega⟩ (Bf (by simp)) rfl (fun a ha=>?_)
  refine Z25 ?_;refine Z1 ?_;refine A0 [0,3,4,5,46] ?_
  refine A1 (fun ht46=>?_) (fun ht46=>?_)
  ·have ha1:a<l[x].take.length:=by simpa using ht46
   refine Z9 ?_;refine Z98 ?_
   refine A2 (h:=Ab (a) (Am l[x].take[a]) (fun _=>As ha1)) (hr:=?_)
   refine Z37 ?_;refine A0 [0,3,4,5,55] ?_
   refine A1 (fun ht55=>?_) (fun ht55=>?_)
   ·have hm:Er l=true:=hbad (by unfold G5;rw [ht41,Gl.2 ⟨_,Bc ha1,ht55⟩];rfl)
    refine Xo ?_;exact Z79
   refine Z50 ?_;refine A2 ?_;refine A0 [0,3,4,5] ?_;exact B0 (a+1) ⟨ha1,Ce ha1 ha.2 ht55⟩ (by omega) (Dn rfl)
  have hae:l[x].take.length≤a:=by simpa using ht46
  have e1:=H4 hae ha.2
  refine Pb ?_;refine Z40 ?_;refine A0 [0,3,4,6] ?_
  refine Bz (α:=Nat) (fun b=>⟨82,A6 0 (Cx l) (A6 3 (A3 (x:Nat)) (A6 4 (.ptr (oid Hp.length 0) 0) (A6 6 (A3 (b:Nat)) (fun _=>.any)))),Hp,[.cells 50 (Mx l[x])],[],none⟩) (fun b=>b≤l[x].ahead.length∧∀(j:Nat) v,j<b→l[x].ahead[j]? = some v→Og v=false) (fun b=>l[x].ahead.length-b) (0) ⟨Au _,fun j v h=>by omega⟩ (Bf (by simp)) rfl (fun b hb=>?_)
  refine Z25 ?_;refine Z1 ?_;refine A0 [0,3,4,6,60] ?_
  refine A1 (fun ht60=>?_) (fun ht60=>?_)
  ·have hb1:b<l[x].ahead.length:=by simpa using ht60
   refine Z9 ?_;refine Z98 ?_
   refine A2 (h:=Ab (b) (Af l[x].ahead[b]) (fun _=>As hb1)) (hr:=?_)
   refine A2 ?_;refine A7 Tryz.call18 (c18 l[x].ahead[b] _) ?_;refine A0 [0,3,4,6,68] ?_
   refine A1 (fun ht68=>?_) (fun ht68=>?_)
   ·have hm:Er l=true:=hbad (by unfold G5;rw [Gl.2 ⟨_,Bc hb1,ht68⟩];simp)
    refine Xo ?_;exact Z79
   refine Z50 ?_;refine A2 ?_;refine A0 [0,3,4,6] ?_;exact B0 (b+1) ⟨hb1,Ce hb1 hb.2 ht68⟩ (by omega) (Dn rfl)
  have hbe:l[x].ahead.length≤b:=by simpa using ht60
  have e2:=H4 hbe hb.2
  refine Pb ?_;refine Z0 ?_;refine A0 [0,3,4,7] ?_
  refine Bz (α:=Nat) (fun e=>⟨82,A6 0 (Cx l) (A6 3 (A3 (x:Nat)) (A6 4 (.ptr (oid Hp.length 0) 0) (A6 7 (A3 (e:Nat)) (fun _=>.any)))),Hp,[.cells 50 (Mx l[x])],[],none⟩) (fun e=>e≤l[x].back.length∧∀(j:Nat) v,j<e→l[x].back[j]? = some v→Og v=false) (fun e=>l[x].back.length-e) (0) ⟨Au _,fun j v h=>by omega⟩ (Bf (by simp)) rfl (fun e he=>?_)
  refine Z25 ?_;refine Z1 ?_;refine A0 [0,3,4,7,73] ?_
  refine A1 (fun ht73=>?_) (fun ht73=>?_)
  ·have he1:e<l[x].back.length:=by simpa using ht73
   refine Z9 ?_;refine Z98 ?_
   refine A2 (h:=Ab (e) (Af l[x].back[e]) (fun _=>As he1)) (hr:=?_)
   refine A2 ?_;refine A7 Tryz.call18 (c18 l[x].back[e] _) ?_;refine A0 [0,3,4,7,81] ?_
   refine A1 (fun ht81=>?_) (fun ht81=>?_)
   ·have hm:Er l=true:=hbad (by unfold G5;rw [Gl.2 ⟨_,Bc he1,ht81⟩];simp)
    refine Z51 ?_;refine Z32 ?_;exact Z79
   refine Z50 ?_;refine A2 ?_;refine A0 [0,3,4,7] ?_;exact B0 (e+1) ⟨he1,Ce he1 he.2 ht81⟩ (by omega) (Dn rfl)
  have hee:l[x].back.length≤e:=by simpa using ht73
  have e3:=H4 hee he.2
  have e4:G5 l[x]=false:=by unfold G5;rw [ht41,e1,e2,e3];rfl
  refine Z64 ?_;refine K.lpE ?_;refine Z78 ?_;refine ag ?_;refine B0 (x+1) ⟨hlt,Ce hlt hx.2 e4⟩ (by omega) ?_
  exact Bs (own:=[]) (fun _=>.refl _) (by repeat (first|exact Ao|refine An (by first|(simp [or_imp,forall_and];done)|exact Eh|(simp [oid]<;>omega)) ?_)) (by simp) (by simp)
 have hxe:l.length≤x:=by simpa using ht14
 have hm:Er l=false:=by unfold Er;rw [ht10,H4 hxe hx.2];rfl
 refine Pb ?_;exact j6

theorem pa (n:Nat) (e:Expr) (hok:okE n e) (hn:n≤1048576) (c:List Col) (hc:OkCols c) (w:Int) (Hp:List AObj):AFun Tryz.prog 122 [Af e,Ad c,A3 w] Hp (Ag (cb e c w)):=by
 refine Ac [.tmp 6] [0,1,2] Tryz.func122 Tryz.ntmps122 (fun d=>?_)
 refine Z3 ?_;refine A0 [1,2,3] ?_;refine Z3 ?_;refine A7 Tryz.call121 (n9 n e hok hn c hc _) ?_;refine Z74 ?_;refine A0 [2,7,8] ?_;refine Z8 ?_;refine Z42 ?_;refine Z73 ?_;refine Z47 ?_;exact A5 (Aa A4) ⟨by unfold cb;rfl,rfl⟩

theorem g7 {c:List Col} {m:Mov} (h:(m.kind==3)=false):Ba c m=m.give:=by unfold Ba;rw [if_neg (by rw [h];simp)]
theorem g8 {c:List Col} {m:Mov} {s:Str} {y:Col} (h:(m.kind==3)=true) (ht:m.take=[s]) (hg:m.give=[y]) (hf:B7 s c<0):Ba c m=[y]:=by
 unfold Ba
 rw [if_pos h,ht,hg]
 exact if_pos hf
theorem cl {c:List Col} {m:Mov} {s:Str} {y:Col} (h:(m.kind==3)=true) (ht:m.take=[s]) (hg:m.give=[y]) (hf:¬B7 s c<0):Ba c m=[⟨y.name,(c.getD (B7 s c).toNat ⟨[],0⟩).kind⟩]:=by
 unfold Ba
 rw [if_pos h,ht,hg]
 exact if_neg hf
theorem T7 (l:List Col):∀x∈l.map Co,x.cells.length=2:=by
 intro x hx
 obtain ⟨c,_,rfl⟩:=Ca.1 hx
 rfl
theorem Wl {c:Col} {y:AV} (h:y∈(Co c).cells):y=Am c.name∨y=A3 c.kind:=by
 have h':y∈[Am c.name,A3 c.kind]:=h
 simpa using h'
theorem T8 (l:List Col):∀x∈l.map Co,∀y∈x.cells,y.one=true:=by
 intro x hx y hy
 obtain ⟨c,_,rfl⟩:=Ca.1 hx
 rcases Wl hy with rfl|rfl<;>rfl
theorem Ot (l:List Col):∀x∈l.map Co,∀y∈x.cells,y.strip=y:=by
 intro x hx y hy
 obtain ⟨c,_,rfl⟩:=Ca.1 hx
 rcases Wl hy with rfl|rfl<;>rfl
theorem cm {α:Type} {l:List α} (h:l.length=1):∃y,l=[y]:=by
 match l,h with
 | [y],_=>exact ⟨y,rfl⟩
theorem Wm {c:List Col} {s:Str} (hf:¬B7 s c<0):(c.map Co)[(B7 s c).toNat]? = some (Co (c.getD (B7 s c).toNat ⟨[],0⟩)):=by
 obtain ⟨j,hj,hjl⟩:=Iy hf
 rw [hj,Int.toNat_natCast,Cc,A9 hjl,D9,A9 hjl]
 rfl
end Go.SX.Nb
namespace Go.SX
variable [GI:GlobInv]
open Classical
variable {P:Program} {d:Nat} {ops:Array Oper} {rest:List Oper} {sz:Nat} {fr:Nat→AV} {up own:List AObj} {dfs:List Nat} {rnd:Option Nat} {Q:St→Prop} {s:Nat} {ty:TypeId} {pos:String} {aft:Array Edge}
/-- Whether a slice is nil is known only of one that has elements. -/
theorem R.eqlNil {t e u:TypeId} {x y:Operand} {o:Bool} {k:Nat} {xs:List AV} (ht:P.underlying t=some (.slice e)) (hg:P.eqGuardType P.depth t=false)
  (hr:∀b:Bool,(b=true→xs=[])→ARun P d ops rest ⟨sz,A6 s (.v (.bool b)) fr,up,own,dfs,rnd⟩ Q)
  (hx:B5 fr x=.slice o k xs:=by exact sL0) (hy:B5 fr y=.nil:=by exact sL0) (hs:Nat.blt s sz=true:=by rfl):
  ARun P d ops (⟨some s,.binOp .eql t x y u,ty,pos,aft,none⟩::rest) ⟨sz,fr,up,own,dfs,rnd⟩ Q:=by
 refine W3 rfl (Q1:=fun s'=>∃b:Bool,(b=true→xs=[])∧s'=⟨sz,A6 s (.v (.bool b)) fr,up,own,dfs,rnd⟩) ?_ (by rintro _ ⟨b,hb,rfl⟩;exact hr b hb)
 intro G a w hrel Q'
 have h1:=hrel.eval x
 rw [show St.ev ⟨sz,fr,up,own,dfs,rnd⟩ x=.slice o k xs from hx] at h1
 have h2:=hrel.eval y
 rw [show St.ev ⟨sz,fr,up,own,dfs,rnd⟩ y=.nil from hy] at h2
 have key:∀b:Bool,(b=true→xs=[])→(execOp a.eval ⟨some s,.binOp .eql t x y u,ty,pos,aft,none⟩).run P w=.ok (.value (.bool b)) w →
   Oper.wpIn (Fr ((St.mk sz fr up own dfs rnd).rnd.map G.blk)) 0 P ⟨some s,.binOp .eql t x y u,ty,pos,aft,none⟩ a w (Post d ⟨sz,fr,up,own,dfs,rnd⟩ G w (fun s'=>∃b:Bool,(b=true→xs=[])∧s'=⟨sz,A6 s (.v (.bool b)) fr,up,own,dfs,rnd⟩)) Q':=fun b hb hv =>
  Bx (by intro c h;cases h) hv ⟨G,_,hrel.put (y:=.v (.bool b)) (by simpa using hs) (.v _ _),Dm d G w,rfl,rfl,rfl,b,hb,rfl⟩
 generalize hya:a.eval y=vy at h2
 generalize hxa:a.eval x=vx at h1
 cases h2
 cases h1 with
 | slice0=>exact key true (fun _=>rfl) (by simp only [execOp,hxa,hya,eqGuard];simp [Lib.run_eql_slice_nil _ _ _ _ _ _ _ _ ht,hg])
 | sliceE=>exact key false (fun h=>by cases h) (by simp only [execOp,hxa,hya,eqGuard];simp [Lib.run_eql_slice_nil _ _ _ _ _ _ _ _ ht,hg])
 | slice=>exact key false (fun h=>by cases h) (by simp only [execOp,hxa,hya,eqGuard];simp [Lib.run_eql_slice_nil _ _ _ _ _ _ _ _ ht,hg])
/-! A guarded slice that may be appended to. -/
end Go.SX
namespace Go.SX
variable [GI:GlobInv]
open Classical
section
variable {P:Program} {d:Nat}
/-- A call that returns and may leave more objects than it found; they are the caller's. -/
def ACallO (P:Program) (g:FuncId) (args:List AV) (H:List AObj) (post:AV→List AObj→Prop):Prop:=
 ∀(d:Nat) (G:Gh) (w:World) (vs:Array Value),vs.size=args.length→(∀(i:Nat) (y:AV) (u:Value),args[i]? = some y→vs[i]? = some u→Rep G w (some (.slot (d+1) i)) y u)→HeapRel G H w→TagOK G w→GI.bd≤d →
  CallsIn Fence.wide 0 P g vs w (fun e w'=>∃(v:Value) (G':Gh) (r:AV) (H':List AObj),e=.returned v∧Rep G' w' none r v∧HeapRel G' H' w'∧TagOK G' w'∧Keep (d+1) G w G' w'∧post r H')
/-- What is asked at a body's end: the first j of its objects are handed back. -/
def FO (P:Program) (rs:List ResultVar) (n:Nat) (post:AV→List AObj→Prop) (e:Exit) (st':St):Prop:=
 (e=.normal∨e=.ret)∧st'.defs=[]∧∃(r:AV) (rv:ResultVar) (j:Nat),rs=[rv]∧ResV P st' rv r∧Low (n+j) r∧(∀x∈st'.up++st'.own.take j,ObjLow (n+j) x)∧j≤st'.own.length∧post r (st'.up++st'.own.take j)
theorem ACallO.ofBody {g:FuncId} {fn:Func} {c:Code} {args:List AV} {H:List AObj} {post:AV→List AObj→Prop} {rs:List ResultVar} {n:Nat} (hf:P.funcs[g]? = some fn) (hb:fn.body=some c) (hrs:fn.results=rs.toArray)
  (hn:fn.ntmps=n) (hargs:args.length≤n) (h:∀d,AW P (d+1) c ⟨n,argsF args,H,[],[],none⟩ (FO P rs H.length post)):ACallO P g args H post:=by
 intro d G w vs hvs hrep hH hT hTop
 refine callsIn_of_wp_marks hf hb trivial ?_
 have hst:StRel (d+1) G ⟨n,argsF args,H,[],[],none⟩ { tmps:=vs++Array.replicate (fn.ntmps-vs.size) undef,defers:=[] } w:=by
  refine ⟨?_,fun s=>?_,by simpa using hH,(by rw [Fo hTop];rfl),(fun o ho=>by simp at ho),Kj,(fun o ho=>by simp at ho),hT,(fun l hl=>by cases hl),fun x hx=>?_,N4 hTop⟩
  ·simp only [Jo,Z7,hvs,hn];omega
  ·show Rep G w _ (args.getD s (.v undef)) _
   rw [D9,Ke]
   rcases B3 s args.length with h'|h'
   ·rw [A9 h',I6 (by omega),D8 (by omega)]
    exact hrep s _ _ (A9 h') (D8 (by omega))
   rw [I9 h',Mf (by omega)]
   simp only [Option.getD_none]
   have:((Array.replicate (fn.ntmps-vs.size) undef)[s-vs.size]?).getD undef=undef:=by
    rw [Tr];split<;>rfl
   rw [this]
   exact .v _ _
  obtain ⟨i,hi⟩:=C3 hx
  have hob:=hH.obj i x hi
  show ObjLow H.length x
  rw [←hH.n]
  exact hob.low
 have hw:=h d G _ w hst
 refine wpIn_mono hw ?_
 rintro e a' w' ⟨G1,st',h1,k1,e1,e2,e3,hcase,hdefs,r,rv,j,rfl,hres,hlow,hobjs,hj,hpost⟩
 have fin:LeavesInM Fence.wide 0 P fn a'.tmps (fun e w'=>∃(v:Value) (G':Gh) (r:AV) (H':List AObj),e=.returned v∧Rep G' w' none r v∧HeapRel G' H' w'∧TagOK G' w'∧Keep (d+1) G w G' w'∧post r H') a'.defers .returning w':=by
  rw [h1.defs,hdefs,Fo hTop]
  obtain ⟨v,hv,hr⟩:=hres.run h1
  have hupl:st'.up.length=H.length:=e1
  have hgn:G1.n=st'.up.length+st'.own.length:=by rw [h1.heap.n,Ai]
  have hget:∀(i:Nat) (x:AObj),(st'.up++st'.own.take j)[i]? = some x→(st'.up++st'.own)[i]? = some x:=fun i x hx=>by
   rcases B3 i st'.up.length with h'|h'
   ·rw [C8 h'] at hx ⊢;exact hx
   rw [Cb h'] at hx ⊢
   rw [Fm] at hx
   split at hx
   ·exact hx
   cases hx
  refine ⟨v,by simp [Db,hrs,hv],v,{ G1 with n:=H.length+j },r,st'.up++st'.own.take j,rfl,hr.cut hlow,⟨fun i x hx=>(h1.heap.obj i x (hget i x hx)).cut (hobjs x (Ae hx)),?_,fun a b ha hb' e=>?_⟩,
   ⟨h1.tags.ex,h1.tags.obj,h1.tags.tail,h1.tags.globCut (by rw [hgn];omega)⟩,?_,hpost⟩
  ·show H.length+j=_
   rw [Ai,Cy,Nat.min_eq_left hj,hupl]
  ·exact h1.heap.inj a b (by rw [hgn];simp only at ha;omega) (by rw [hgn];simp only at hb';omega) e
  have hGn:G.n=H.length:=hH.n
  exact ⟨k1.fix,k1.slot,by rw [hGn];exact Nat.le_add_right _ _,k1.blk,k1.os,k1.tape,k1.output,k1.size,k1.old.cut (by rw [hgn];omega)⟩
 rcases hcase with rfl|rfl
 ·exact fin
 exact fin
end
section
variable {P:Program} {d:Nat} {ops:Array Oper} {rest:List Oper} {sz s:Nat} {fr:Nat→AV} {up own:List AObj} {dfs:List Nat} {rnd:Option Nat} {Q:St→Prop} {ty:TypeId} {pos:String} {aft:Array Edge}
theorem ACallO.body {g:FuncId} {fn:Func} {c:Code} {args:List AV} {H:List AObj} {post:AV→List AObj→Prop} {fr':Nat→AV} (rs:List ResultVar) (l:List Nat) {n:Nat} (hf:P.funcs[g]? = some fn) (hn:fn.ntmps=n)
  (h:∀d,AW P (d+1) c ⟨n,fr',H,[],[],none⟩ (FO P rs H.length post)) (hb:fn.body=some c:=by rfl) (hrs:fn.results=rs.toArray:=by rfl) (hargs:args.length≤n:=by exact sL1)
  (hk:Hy l (argsF args)=fr':=by exact sL0):ACallO P g args H post:=
 ACallO.ofBody hf hb hrs hn hargs (fun d=>AW.keep l hk (h d))
/-- The end of such a body. -/
theorem K.finO {rs:List ResultVar} {n:Nat} {post:AV→List AObj→Prop} {r:AV} {rv:ResultVar} {st:St} (j:Nat) (hres:ResV P st rv r) (hp:post r (st.up++st.own.take j)) (hlow:Low (n+j) r) (hobj:∀x∈st.up++st.own.take j,ObjLow (n+j) x)
  (hd:st.defs=[]:=by rfl) (hr:rs=[rv]:=by rfl) (hj:j≤st.own.length:=by simp):FO P rs n post .ret st:=⟨.inr rfl,hd,r,rv,j,hr,hres,hlow,hobj,hj,hp⟩
/-- A call of such a function. -/
theorem R.callO {g:FuncId} {xs:List Operand} {ats:Array TypeId} {args:List AV} {post:AV→List AObj→Prop} (hcall:∀args w,(callFunc g args).run P w=.ok (.enter g args) w)
  (h:ACallO P g args (up++own) post) (hp:∀r H',post r H'→∃O,H'=up++(own++O)∧ARun P d ops rest ⟨sz,A6 s r fr,up,own++O,dfs,rnd⟩ Q)
  (ha:xs.map (B5 fr)=args:=by exact sL0) (hs:Nat.blt s sz=true:=by rfl):
  ARun P d ops (⟨some s,.call ⟨.value (.func g),xs.toArray,ats⟩,ty,pos,aft,none⟩::rest) ⟨sz,fr,up,own,dfs,rnd⟩ Q:=by
 refine W3 rfl (Q1:=fun s'=>ARun P d ops rest s' Q) ?_ (fun s' e=>e)
 intro G a w hr Q'
 have hs:s<sz:=by simpa using hs
 have hxr:=J8 hr xs
 have ha':xs.map (St.ev ⟨sz,fr,up,own,dfs,rnd⟩)=args:=ha
 rw [ha'] at hxr
 have hrun:(execOp a.eval (⟨some s,.call ⟨.value (.func g),xs.toArray,ats⟩,ty,pos,aft,none⟩:Oper)).run P w=.ok (.enter g (xs.map a.eval).toArray) w:=by
  have:=Hi (P:=P) (dst:=some s) (ty:=ty) (pos:=pos) (aft:=aft) (gd:=none) (ats:=ats) (f:=.func g) (xs:=xs) (g:=g) (va:=#[]) (vc:=#[]) (a:=a) (w:=w) hcall rfl
  simpa using this
 refine Hh (by intro c h;cases h) hrun (h d G w _ (by rw [←ha'];simp) (fun i y u hy hu=>(hxr i y u hy hu).lift) hr.heap hr.tags hr.top) ?_
 rintro e w' ⟨v,G',r,H',rfl,hrep,hH,hT,hk,hpo⟩
 obtain ⟨O,rfl,hrn⟩:=hp r H' hpo
 have h3:=hr.called (U:=up) (O:=own++O) hH hT hk rfl rfl (fun o ho=>by
  have:=hr.defsAt o ho
  rw [←B8,C8 (A8.1 this).1]
  exact this) hr.low
 obtain ⟨h4,k4⟩:=h3.took hrep.lift (s:=s) hs
 exact ⟨v,rfl,_,_,h4,(hk.less (G8 d)).trans k4,rfl,rfl,rfl,hrn⟩
end
end Go.SX
